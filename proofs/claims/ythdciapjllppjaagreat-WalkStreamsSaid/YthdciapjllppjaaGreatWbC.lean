/-
  A part of the proof: XmMany2, XmCode, XmCall, XmFast, XmFast2, XmFast3, XmFast4, XmFast5, XmBridge, XwBase.
-/
import Derived.Test.YthdciapjllppjaaGreatWbB
import Derived.Below
import Derived.RowKit
set_option maxRecDepth 10000
set_option maxHeartbeats 8000000
set_option linter.unusedVariables false
set_option linter.unusedSectionVars false
set_option linter.unusedSimpArgs false
namespace Go.Xm
variable [aq]
section
variable {O:dm} {P:Program} {ops:Array Oper} {nt:Nat} {bs:List Nat} {n0:Nat} {rs:Nat->T XV} {ms:Nat->Mem} {xs:Nat->XV}
structure nB(O:dm)(P:Program)(ops:Array Oper)(nt:Nat)(n0:Nat)(rs:Nat->T XV)(ms:Nat->Mem)(xs:Nat->XV):Prop where
 z:n0=(ms 0).n
 le:∀k,k<ops.size->(ms k).n<=(ms (k+1)).n
 bnd:(ms ops.size).n<=Mem.bound
 cov:∀i,i<(ms ops.size).n->i<n0\/∃j,j<ops.size/\Mk ms j i
 at_:∀k o,ops[k]? = some o->∃m0 d,Qp O P ops nt (iQ ops.toList) n0 rs ms xs k o m0 d
theorem nB.Fy(h:nB O P ops nt n0 rs ms xs):∀a b,a<=b->b<=ops.size->(ms a).n<=(ms b).n:=by
 intro a b hab
 induction b with
 | zero=>intro _;rw[show a=0 by omega];exact Nat.le_refl _
 | succ b ih=>
   intro hk
   by_cases h':a=b+1
   ·rw[h'];exact Nat.le_refl _
   ·have h1:=ih (by omega) (by omega);have h2:=h.le b (by omega);omega
theorem nB.get(h:nB O P ops nt n0 rs ms xs):∀k,k<ops.size->∃o m0 d,ops[k]? = some o/\Qp O P ops nt (iQ ops.toList) n0 rs ms xs k o m0 d:=fun k hk=>by
 have ho:ops[k]? = some ops[k]:=by simp[hk]
 obtain⟨m0,d,h1⟩:=h.at_ k _ ho;exact⟨_,m0,d,ho,h1⟩
theorem nB.same(h:nB O P ops nt n0 rs ms xs)(j:Nat):∀b a,a<=b->b<=ops.size->j<(ms a).n->(ms b).get j=(ms a).get j:=by
 intro b
 induction b with
 | zero=>intro a hab _ _;rw[show a=0 by omega]
 | succ b ih=>
   intro a hab hb hj
   by_cases h':a=b+1
   ·rw[h']
   ·rw[<-ih a (by omega) (by omega) hj];obtain⟨o,m0,d,_,hA⟩:=h.get b (by omega)
    rcases hA.nx with h1|⟨h1,_⟩
    ·rw[h1]
    ·have:=h.Fy a b (by omega) (by omega);unfold Mem.get;rw[(Mem.bu h1).2.2.2 j (by omega)]
theorem nB.L0(h:nB O P ops nt n0 rs ms xs){a b i:Nat}(ha:a<ops.size)(hb:b<ops.size)(h1:Mk ms a i)(h2:Mk ms b i):a=b:=by
 obtain⟨h3,h4⟩:=h1;obtain⟨h5,h6⟩:=h2
 rcases Nat.lt_trichotomy a b with hh|hh|hh
 ·have:=h.Fy (a+1) b (by omega) (by omega);omega
 ·exact hh
 ·have:=h.Fy (b+1) a (by omega) (by omega);omega
theorem nB.mk_one(h:nB O P ops nt n0 rs ms xs){a i:Nat}(ha:a<ops.size)(h1:Mk ms a i):i=(ms a).n/\∃m0 d o,ops[a]? = some o/\Qp O P ops nt (iQ ops.toList) n0 rs ms xs a o m0 d/\(ms ops.size).get i=d.m.get i/\(d.m.get i).own=true/\(d.m.get i).jK (KY (iQ ops.toList) ms n0 a):=by
 obtain⟨o,m0,d,ho,hA⟩:=h.get a ha
 rcases hA.nx with h2|⟨h2,h3,h4⟩
 ·obtain⟨h5,h6⟩:=h1;rw[h2]at h6;omega
 ·have h7:=Mem.bu h2;have hi:i=(ms a).n:=by obtain⟨h5,h6⟩:=h1;omega
  refine⟨hi,m0,d,o,ho,hA,?_,by rw[hi];exact h3,by rw[hi];exact h4⟩;rw[h.same i ops.size (a+1) (by omega) (Nat.le_refl _) h1.2,hi];show((ms (a+1)).f4 (ms a).n).obj=_;rw[h7.2.2.1]
theorem nB.ir(hs:d_ ops nt)(hnt:nt<1000000)(hT:nB O P ops nt n0 rs ms xs):∀k,k<=ops.size ->
 (∀(j:Nat) (o:Oper) (t:Nat),j<k->ops[j]? = some o->o.dst=some t->(rs k).get .undef t=xs j) /\
 (∀t:Nat,(∀(j:Nat) (o:Oper),j<k->ops[j]? = some o->o.dst≠some t)->(rs k).get .undef t=(rs 0).get .undef t)
 | 0,_=>⟨fun j o t hj=>by omega,fun t _=>rfl⟩
 | k + 1,hk=>by
   obtain⟨o,m0,d,ho,hA⟩:=hT.get k (by omega);obtain⟨ih1,ih2⟩:=nB.ir hs hnt hT k (by omega);have h3:=hA.rs
   have other:∀t,o.dst≠some t->(rs (k+1)).get .undef t=(rs k).get .undef t:=fun t ht=>by
    rw[h3];unfold nE;split
    ·rename_i d hd;split
     ·exact T.fg _ _ _ _ _ _ (fun e=>ht (by rw[hd,e]))
     ·rfl
    ·rfl
   refine⟨fun j o' t hj ho' ht=>?_,fun t ht=>?_⟩
   ·rcases Nat.lt_or_ge j k with hjk|hjk
    ·rw[other t (fun e=>by have:=hs.uniq k j o o' t ho ho' e ht;omega)];exact ih1 j o' t hjk ho' ht
    ·have:j=k:=by omega
     subst this;rw[ho]at ho';cases ho';have hd:=hs.dst j o t ho ht;rw[h3,ht,hA.xs];simp only[nE,hd,if_true];exact T.f5 _ _ _ _ _ (by omega)
   ·rw[other t (ht k o (by omega) ho)];exact ih2 t (fun j o' hj=>ht j o' (by omega))
def BD(ops:Array Oper)(ms:Nat->Mem)(n0:Nat)(listed:Array Bool)(j:Nat):Prop:=j<n0\/∃e,e<ops.size/\listed.getD e false=true/\Mk ms e j
structure BL(ops:Array Oper)(nt n0:Nat)(rs:Nat->T XV)(ms:Nat->Mem)(xs:Nat->XV)(β0:Env)(w0:World)(dfs:List Deferred)(listed:Array Bool)(a:Act)(w:World)(β : Env)(g:Nat->XV):Prop where
 size:listed.size=ops.size
 cl:∀i j,lg ops i j->listed.getD i false=true->listed.getD j false=true
 dfs:a.defers=dfs
 ext:Ext n0 β0 β
 obj:∀j,BD ops ms n0 listed j->fb β (ms ops.size).n (β.base j) (β.size j) ((ms ops.size).get j) w.heap[β.bG j]?
 inj:∀i j,BD ops ms n0 listed i->BD ops ms n0 listed j->((ms ops.size).get i).own=true->((ms ops.size).get j).live=true -> β.bG i = β.bG j->i=j
 ir:gB β (ms ops.size).n nt g a.tmps
 gok:∀t,(g t).jK (BD ops ms n0 listed)
 g1:∀(i:Nat) (o:Oper) (t:Nat),listed.getD i false=true->ops[i]? = some o->o.dst=some t->g t=xs i
 g2:∀t:Nat,(∀(i:Nat) (o:Oper),listed.getD i false=true->ops[i]? = some o->o.dst≠some t)->g t=(rs 0).get .undef t
 os:w.os=w0.os
 tape:w.tape=w0.tape
 output:w.output=w0.output
 heap:w0.heap.size<=w.heap.size
 frame:∀k,k<w0.heap.size->¬kY β0 (ms 0) k->w.heap[k]? = w0.heap[k]?
 new:∀e j,e<ops.size->listed.getD e false=true->Mk ms e j->w0.heap.size <= β.bG j
theorem BL.step(hO:aS P O)(hs:d_ ops nt)(hnt:nt<1000000)(hT:nB O P ops nt n0 rs ms xs){β0:Env}{w0:World}(hR0:Rel β0 (ms 0) w0){dfs:List Deferred}{listed:Array Bool}{a:Act}{w:World}(hr0:∀t,((rs 0).get .undef t).jK (· < n0)){β : Env}{g:Nat->XV}
 (h:BL ops nt n0 rs ms xs β0 w0 dfs listed a w β g) {i:Nat}(hi:i∈Region.ready .any ops listed) {K:Act->World->Prop} {Q:Exit->Act->World->Prop}
 (hK:∀a' w' β' g',BL ops nt n0 rs ms xs β0 w0 dfs (listed.setIfInBounds i true) a' w' β' g'->K a' w'):wpOp P ops Q i K a w:=by
 obtain⟨hun,oi,hoi,hedges⟩:=mem_ready.1 hi;have hilt:i<ops.size:=(Array.getElem?_eq_some_iff.1 hoi).1;have hil:i<listed.size:=by rw[h.size];exact hilt
 have hun':listed.getD i false=false:=by rw[<-dQ hil];exact hun
 have hanc:∀i' j,lg ops i' j->i'=i->listed.getD j false=true:=by
  intro i' j ha
  induction ha with
  | edge ho he hb=>
    intro e;subst e;rw[hoi]at ho;cases ho;exact hedges _ he hb
  | trans h1 h2 ih1 _=>intro e;exact h.cl _ _ h2 (ih1 e)
 have hanc':∀j,lg ops i j->listed.getD j false=true:=fun j ha=>hanc i j ha rfl
 have hno:∀j,lg ops j i->listed.getD j false=false:=fun j ha=>by
  cases hx:listed.getD j false
  ·rfl
  ·have:=h.cl j i ha hx;rw[hun']at this;cases this
 obtain⟨m0,d,hA⟩:=hT.at_ i oi hoi;obtain⟨hr1,hr2⟩:=nB.ir hs hnt hT i (by omega);have hz:=hT.z;have hmi:n0<=(ms i).n:=by rw[hz];exact hT.Fy 0 i (by omega) (by omega)
 have hmf:(ms (i+1)).n<=(ms ops.size).n:=hT.Fy (i+1) ops.size (by omega) (Nat.le_refl _);have hmii:=hT.le i hilt
 have okx:∀j,j<ops.size->(xs j).jK (KY (iQ ops.toList) ms n0 j):=fun j hj=>by
  obtain⟨o,m0,d,_,hA⟩:=hT.get j hj;rw[hA.xs];exact hA.ok
 have al_lt:∀j k,j<ops.size->KY (iQ ops.toList) ms n0 j k->k<(ms (j+1)).n:=by
  rintro j k hj ((h1|⟨j',h1,_,h2⟩)|h1)
  ·have:=hT.Fy 0 (j+1) (by omega) (by omega);omega
  ·have:=hT.Fy (j'+1) (j+1) (by omega) (by omega);have:=h2.2;omega
  ·exact h1.2
 have al_liv:∀j k,j<ops.size->listed.getD j false=true->KY (iQ ops.toList) ms n0 j k->BD ops ms n0 listed k:=by
  rintro j k hj hl ((h1|⟨j',h1,hb,h2⟩)|h1)
  ·exact .inl h1
  ·exact .inr ⟨j',by omega,h.cl j j' (fx ops j j' hb) hl,h2⟩
  ·exact .inr ⟨j,hj,hl,h1⟩
 have al_i:∀k,Al (iQ ops.toList) ms n0 i k->BD ops ms n0 listed k:=by
  rintro k (h1|⟨j',h1,hb,h2⟩)
  ·exact .inl h1
  ·exact .inr ⟨j',by omega,hanc' j' (fx ops i j' hb),h2⟩
 have al_ilt:∀k,Al (iQ ops.toList) ms n0 i k->k<(ms i).n:=by
  rintro k (h1|⟨j',h1,hb,h2⟩)
  ·omega
  ·have:=hT.Fy (j'+1) i (by omega) (by omega);have:=h2.2;omega
 have liv_lt:∀k,BD ops ms n0 listed k->k<(ms ops.size).n:=by
  rintro k (h1|⟨e,h1,_,h2⟩)
  ·omega
  ·have:=hT.Fy (e+1) ops.size (by omega) (Nat.le_refl _);have:=h2.2;omega
 have okObj:∀k,BD ops ms n0 listed k->((ms ops.size).get k).jK (BD ops ms n0 listed):=by
  rintro k (h1|⟨e,h1,hl,h2⟩)
  ·rw[hT.same k ops.size 0 (by omega) (Nat.le_refl _) (by omega)];refine ak.bP (fun j hj => .inl (by rw[hz];exact hj)) (hR0.obj k (by omega)).jK
  ·obtain⟨_,_,_,_,_,_,e1,_,e3⟩:=hT.mk_one h1 h2;rw[e1];exact ak.bP (fun j hj=>al_liv e j h1 hl hj) e3
 have okObjLt:∀k,Al (iQ ops.toList) ms n0 i k->((ms ops.size).get k).jK (· < (ms i).n):=by
  rintro k (h1|⟨e,h1,hb,h2⟩)
  ·rw[hT.same k ops.size 0 (by omega) (Nat.le_refl _) (by omega)];refine ak.bP (fun j hj=>?_) (hR0.obj k (by omega)).jK;rw[<-hz]at hj;exact Nat.lt_of_lt_of_le hj hmi
  ·obtain⟨_,_,_,_,_,_,e1,_,e3⟩:=hT.mk_one (by omega) h2;rw[e1];refine ak.bP (fun j hj=>?_) e3;have:=al_lt e j (by omega) hj;have:=hT.Fy (e+1) i (by omega) (by omega);omega
 have hlook:∀t∈oi.looksAt ops,g t=(rs i).get .undef t/\(g t).jK (· < (ms i).n):=by
  intro t ht
  have ok0:g t=(rs 0).get .undef t->(g t).jK (· < (ms i).n):=fun e=>by
   rw[e];exact XV.bP (fun j hj=>Nat.lt_of_lt_of_le hj hmi) (hr0 t)
  by_cases hw:∃(j:Nat) (oj:Oper),ops[j]? = some oj/\oj.dst=some t
  ·obtain⟨j,oj,hj,hdj⟩:=hw;have hjl:j<ops.size:=(Array.getElem?_eq_some_iff.1 hj).1
   have nolisted:listed.getD j false=false->g t=(rs 0).get .undef t:=fun hlj=>h.g2 t (fun k ok hk hok e=>by
    have:=hs.uniq k j ok oj t hok hj e hdj;subst this
    rw[hlj]at hk;cases hk)
   have nobefore:¬j<i->(rs i).get .undef t=(rs 0).get .undef t:=fun hji=>hr2 t (fun k ok hk hok e=>by
    have:=hs.uniq k j ok oj t hok hj e hdj
    omega)
   rcases Nat.lt_trichotomy j i with hji|hji|hji
   ·have:=(hs.look i j oi oj t hoi hj hdj ht (by omega)).1 hji;have e1:=h.g1 j oj t (hanc' j this) hj hdj;refine⟨by rw[e1,hr1 j oj t hji hj hdj],?_⟩;rw[e1];refine XV.bP (fun k hk=>?_) (okx j hjl);have:=al_lt j k hjl hk;have:=hT.Fy (j+1) i (by omega) (by omega);omega
   ·subst hji;have e1:=nolisted hun';exact⟨by rw[e1,nobefore (by omega)],ok0 e1⟩
   ·have:=(hs.look i j oi oj t hoi hj hdj ht (by omega)).2 hji;have e1:=nolisted (hno j this);exact⟨by rw[e1,nobefore (by omega)],ok0 e1⟩
  ·have hnone:∀(k:Nat) (ok:Oper),ops[k]? = some ok->ok.dst≠some t:=fun k ok hok e=>hw ⟨k,ok,hok,e⟩
   have e1:=h.g2 t (fun k ok _ hok=>hnone k ok hok);exact⟨by rw[e1,hr2 t (fun k ok _ hok=>hnone k ok hok)],ok0 e1⟩
 classical
 let g':Nat->XV:=fun t=>if t∈oi.looksAt ops then(rs i).get .undef t else .undef
 have hago:=jj hA.run (g':=g') (fun t ht=>by simp only[g'];rw[if_pos ht])
 have hfr:∀k,k<=ops.size->(ms k).cg:=by
  intro k
  induction k with
  | zero=>intro _;exact hR0.fresh
  | succ k ih=>
    intro hk;obtain⟨o,m0,d,_,hA⟩:=hT.get k (by omega)
    rcases hA.nx with h1|⟨h1,_⟩
    ·rw[h1];exact ih (by omega)
    ·exact cg.push (ih (by omega)) h1
 have hm0n:=hA.n;have hf0:=hA.fresh (hfr i (by omega))
 have alive0:∀j,j<(ms i).n->(m0.get j).live=true->Al (iQ ops.toList) ms n0 i j:=fun j hj hl=>by
  rcases Classical.em (Al (iQ ops.toList) ms n0 i j)with h1|h1
  ·exact h1
  ·rw[hA.no j hj h1]at hl;cases hl
 have get0:∀j,j<(ms i).n->Al (iQ ops.toList) ms n0 i j->m0.get j=(ms ops.size).get j:=fun j hj hl=>by
  rw[hA.yes j hj hl,hT.same j ops.size i (by omega) (Nat.le_refl _) hj]
 have hm:Rel β m0 w:=by
  have hb:=hT.bnd
  have own0:∀j,j<n0->m0.get j ≠ .dead->(ms 0).get j=m0.get j:=fun j hj hne=>by
   have h1:Al (iQ ops.toList) ms n0 i j:=Classical.byContradiction fun hn=>hne (hA.no j (by omega) hn)
   rw[get0 j (by omega) h1,hT.same j ops.size 0 (by omega) (Nat.le_refl _) (by omega)]
  have mk0:∀j,j<(ms i).n->¬j<n0->m0.get j ≠ .dead->∃e,e<ops.size/\listed.getD e false=true/\Mk ms e j/\(m0.get j).own=true:=fun j hj hjn hne=>by
   have h1:Al (iQ ops.toList) ms n0 i j:=Classical.byContradiction fun hn=>hne (hA.no j (by omega) hn)
   rw[get0 j hj h1]
   rcases h1 with h1|⟨e,h1,hb,h2⟩
   ·exact absurd h1 hjn
   ·obtain⟨_,_,_,_,_,_,e1,e2,_⟩:=hT.mk_one (by omega) h2;exact⟨e,by omega,hanc' e (fx ops i e hb),h2,by rw[e1];exact e2⟩
  refine⟨by omega,hf0,fun j hj=>?_,fun j k hj hk lj lk hbb=>?_,l7 hR0 (by omega) (by rw[<-hz];exact h.ext) h.frame (fun k hk ⟨j,hj,lj,hbj⟩=>?_) fun j hj L hL=>?_⟩
  ·rw[hm0n]at hj ⊢
   rcases Classical.em (Al (iQ ops.toList) ms n0 i j)with h1|h1
   ·rw[get0 j hj h1];exact(h.obj j (al_i j h1)).KU (okObjLt j h1) (fun _ _=>⟨rfl,rfl,rfl⟩) (fun k hk=>hk)
   ·rw[hA.no j hj h1];trivial
  ·rw[hm0n]at hj hk;have a1:=alive0 j hj (ak.bO lj);have a2:=alive0 k hk lk;rw[get0 j hj a1]at lj;rw[get0 k hk a2]at lk;exact h.inj j k (al_i j a1) (al_i k a2) lj lk hbb
  ·have hne:m0.get j ≠ .dead:=fun e=>by rw[e]at lj;cases lj
   by_cases hjn:j<n0
   ·exact⟨j,by omega,by rw[own0 j hjn hne];exact lj,by rw[<-hbj,(h.ext j hjn).1]⟩
   ·obtain⟨e,k1,k2,k3,_⟩:=mk0 j (by omega) hjn hne;have:=h.new e j k1 k2 k3;omega
  ·have hne:m0.get j ≠ .dead:=fun e=>by rw[e]at hL;cases hL
   by_cases hjn:j<n0
   ·exact⟨by omega,by rw[own0 j hjn hne];exact hL⟩
   ·obtain⟨e,_,_,_,k4⟩:=mk0 j (by omega) hjn hne;rw[hL]at k4;cases k4
 have hr:gB β m0.n nt g' a.tmps:=by
  refine⟨h.ir.size,h.ir.small,fun t ht=>?_,fun t ht=>?_⟩
  ·simp only[g'];split
   ·rename_i hl;obtain⟨e1,e2⟩:=hlook t hl;rw[<-e1,hm0n];exact(h.ir.rel t ht).KU e2 (fun _ _=>⟨rfl,rfl,rfl⟩) (fun k hk=>hk)
   ·trivial
  ·simp only[g'];split
   ·rename_i hl;rw[<-(hlook t hl).1];exact h.ir.out t ht
   ·rfl
 refine vL hO hoi hago hm hr fun u β' w' hu hst=>?_
 have hdn:=hA.dn
 have dget:∀j,j<(ms i).n->d.m.get j=m0.get j:=fun j hj=>by
  have:=((lD hO hA.run).mono hf0).1.2 j;unfold Mem.get;rw[this.2 (hA.ver j hj)]
 let β2:Env:=⟨fun k=>if Mk ms i k then β'.bG k else β.bG k,fun k=>if Mk ms i k then β'.base k else β.base k,fun k=>if Mk ms i k then β'.size k else β.size k⟩
 have b2new:∀k,Mk ms i k -> β2.bG k = β'.bG k /\ β2.size k = β'.size k /\ β2.base k = β'.base k:=fun k hk=>⟨if_pos hk,if_pos hk,if_pos hk⟩
 have b2old:∀k,¬Mk ms i k -> β2.bG k = β.bG k /\ β2.size k = β.size k /\ β2.base k = β.base k:=fun k hk=>⟨if_neg hk,if_neg hk,if_neg hk⟩
 have notmk:∀k,BD ops ms n0 listed k->¬Mk ms i k:=by
  rintro k (h1|⟨e,h1,hl,h2⟩) hk
  ·have:=hk.1;omega
  ·have:=hT.L0 h1 hilt h2 hk;subst this;rw[hun']at hl;cases hl
 have extL:EU (BD ops ms n0 listed) β β2:=fun k hk=>b2old k (notmk k hk)
 have extN:Ext d.m.n β' β2:=fun k hk=>by
  rw[hdn]at hk
  by_cases hmk:Mk ms i k
  ·exact b2new k hmk
  ·have hki:k<(ms i).n:=Nat.lt_of_not_le fun hge=>hmk ⟨hge,hk⟩
   have h1:=hst.ext k (by rw[hm0n];exact hki);have h2:=b2old k hmk;exact⟨h2.1.trans h1.1.symm,h2.2.1.trans h1.2.1.symm,h2.2.2.trans h1.2.2.symm⟩
 have liv':∀k,BD ops ms n0 (listed.setIfInBounds i true) k↔(BD ops ms n0 listed k\/Mk ms i k):=by
  intro k;constructor
  ·rintro (h1|⟨e,h1,hl,h2⟩)
   ·exact .inl (.inl h1)
   ·rw[aW hil]at hl
    by_cases hie:i=e
    ·subst hie;exact .inr h2
    ·simp only[hie,if_false]at hl;exact .inl (.inr ⟨e,h1,hl,h2⟩)
  ·rintro ((h1|⟨e,h1,hl,h2⟩)|h1)
   ·exact .inl h1
   ·refine .inr ⟨e,h1,?_,h2⟩;rw[aW hil];split
    ·rfl
    ·exact hl
   ·refine .inr ⟨i,hilt,?_,h1⟩;rw[aW hil];simp
 have newBlk:∀k,Mk ms i k->w.heap.size <= β'.bG k:=by
  intro k hk;obtain⟨_,m0',d',o',ho',hA',e1,e2,_⟩:=hT.mk_one hilt hk
  have hown:(d.m.get k).own=true:=by
   obtain⟨hkn,_⟩:=hT.mk_one hilt hk
   rcases hA.nx with h2|⟨h2,h3,h4⟩
   ·obtain⟨h5,h6⟩:=hk;rw[h2]at h6;omega
   ·rw[hkn];exact h3
  rcases Nat.lt_or_ge (β'.bG k) w.heap.size with hlt|hge
  ·exfalso;have hkd:k<d.m.n:=by rw[hdn];exact hk.2
   obtain⟨j,hj,lj,hbj⟩:=hst.qj (β'.bG k) hlt ⟨k,hkd,hown,rfl⟩;rw[hm0n]at hj;have hj':j<d.m.n:=by rw[hdn];omega
   have hbe : β'.bG k = β'.bG j:=by rw[(hst.ext j (by rw[hm0n];exact hj)).1,hbj]
   have:=hst.rel.inj k j hkd hj' hown (by rw[dget j hj];exact ak.bO lj) hbe;have:=hk.1;omega
  ·exact hge
 have newGet:∀k,Mk ms i k->d.m.get k=(ms ops.size).get k/\(d.m.get k).own=true:=by
  intro k hk
  rcases hA.nx with h2|⟨h2,h3,h4⟩
  ·obtain⟨h5,h6⟩:=hk;rw[h2]at h6;omega
  ·have h7:=Mem.bu h2;have hki:k=(ms i).n:=by obtain⟨h5,h6⟩:=hk;omega
   refine⟨?_,by rw[hki];exact h3⟩;rw[hT.same k ops.size (i+1) (by omega) (Nat.le_refl _) hk.2,hki];show _=((ms (i+1)).f4 (ms i).n).obj;rw[h7.2.2.1]
 have liveBlk:∀k,BD ops ms n0 listed k->((ms ops.size).get k).live=true -> β.bG k<w.heap.size:=fun k hk hl=>(h.obj k hk).lt hl
 refine hK _ _ β2 (fun t=>if oi.dst=some t then d.x else g t) ?_;refine {size:=by simp[h.size],cl:=?_,dfs:=by rw[dM,h.dfs],ext:=fun k hk=>?_,obj:=fun k hk=>?_,inj:=fun j k hj hk lj lk hbb=>?_,ir:=?_,gok:=fun t=>?_,g1:=fun k ok t hk hok ht=>?_,g2:=fun t ht=>?_,os:=hst.os.trans h.os,tape:=hst.tape.trans h.tape,output:=hst.output.trans h.output,heap:=by have:=hst.size;have:=h.heap;omega,frame:=fun k hk hi=>?_,new:=fun e k he hl hk=>?_}
 ·intro k j ha hk;rw[aW hil]at hk ⊢
  by_cases hij:i=j
  ·simp[hij]
  ·simp only[hij,if_false]
   by_cases hik:i=k
   ·subst hik;exact hanc' j ha
   ·simp only[hik,if_false]at hk;exact h.cl k j ha hk
 ·have h1:=h.ext k hk;have h2:=extL k (.inl hk);exact⟨h2.1.trans h1.1,h2.2.1.trans h1.2.1,h2.2.2.trans h1.2.2⟩
 ·rcases(liv' k).1 hk with hk|hk
  ·have e2:=extL k hk;rw[e2.1,e2.2.1,e2.2.2]
   rcases Classical.em (Al (iQ ops.toList) ms n0 i k)with h1|h1
   ·have hki:=al_ilt k h1;have h2:=hst.rel.obj k (by rw[hdn];omega);have h3:=hst.ext k (by rw[hm0n];exact hki);rw[dget k hki,get0 k hki h1,h3.1,h3.2.1,h3.2.2]at h2;exact h2.ext extN (by rw[hdn];exact hmf)
   ·have hold:=(h.obj k hk).KU (okObj k hk) extL liv_lt
    cases hlv:((ms ops.size).get k).live with
    | false=>
      cases hg:(ms ops.size).get k with
      | dead=>trivial
      | late L=>trivial
      | cells vs elem opn ro=>rw[hg]at hlv;simp[ak.live]at hlv
      | map es=>rw[hg]at hlv;simp[ak.live]at hlv
    | true=>
      rw[hst.frame (β.bG k) (liveBlk k hk hlv) ?_]
      ·exact hold
      ·rintro ⟨j,hj,lj,hbj⟩
       rw[hm0n]at hj;have a1:=alive0 j hj (ak.bO lj);rw[get0 j hj a1]at lj;have:=h.inj j k (al_i j a1) hk lj hlv hbj;rw[this]at a1;exact h1 a1
  ·have e2:=b2new k hk;rw[e2.1,e2.2.1,e2.2.2,<-(newGet k hk).1];exact(hst.rel.obj k (by rw[hdn];exact hk.2)).ext extN (by rw[hdn];exact hmf)
 ·rcases(liv' j).1 hj with hj|hj<;>rcases(liv' k).1 hk with hk|hk
  ·rw[(extL j hj).1,(extL k hk).1]at hbb;exact h.inj j k hj hk lj lk hbb
  ·rw[(extL j hj).1,(b2new k hk).1]at hbb;have:=liveBlk j hj (ak.bO lj);have:=newBlk k hk;omega
  ·rw[(b2new j hj).1,(extL k hk).1]at hbb;have:=liveBlk k hk lk;have:=newBlk j hj;omega
  ·rw[(hT.mk_one hilt hj).1,(hT.mk_one hilt hk).1]
 ·refine gB.put ⟨h.ir.size,h.ir.small,fun t ht=>(h.ir.rel t ht).KU (h.gok t) extL liv_lt,h.ir.out⟩ oi.dst (hu.ext extN (by rw[hdn];exact hmf)) (fun t ht=>hs.dst i oi t hoi ht)
 ·by_cases hd:oi.dst=some t
  ·simp only[hd,if_true];refine XV.bP (fun k hk=>(liv' k).2 ?_) hA.ok
   rcases hk with hk|hk
   ·exact .inl (al_i k hk)
   ·exact .inr hk
  ·simp only[hd,if_false];exact XV.bP (fun k hk=>(liv' k).2 (.inl hk)) (h.gok t)
 ·rw[aW hil]at hk
  by_cases hik:i=k
  ·subst hik;rw[hoi]at hok;cases hok;rw[if_pos ht,hA.xs]
  ·simp only[hik,if_false]at hk;have:oi.dst≠some t:=fun e=>hik (hs.uniq i k oi ok t hoi hok e ht)
   rw[if_neg this];exact h.g1 k ok t hk hok ht
 ·have hi':(listed.setIfInBounds i true).getD i false=true:=by rw[aW hil];simp
  rw[if_neg (ht i oi hi' hoi)];refine h.g2 t (fun k ok hk hok=>ht k ok ?_ hok);rw[aW hil];split
  ·rfl
  ·exact hk
 ·rw [hst.frame k (by have:=h.heap;omega) ?_]
  ·exact h.frame k hk hi
  ·rintro ⟨j,hj,lj,hbj⟩
   rw[hm0n]at hj;have a1:=alive0 j hj (ak.bO lj);rw[get0 j hj a1]at lj
   rcases al_i j a1 with h1|⟨e,h1,hl,h2⟩
   ·refine hi ⟨j,by omega,?_,?_⟩
    ·rw[<-hT.same j ops.size 0 (by omega) (Nat.le_refl _) (by omega)];exact lj
    ·rw[<-hbj,(h.ext j h1).1]
   ·have:=h.new e j h1 hl h2;omega
 ·rw[aW hil]at hl
  by_cases hie:i=e
  ·subst hie;rw[(b2new k hk).1];have:=newBlk k hk;have:=h.heap;omega
  ·simp only[hie,if_false]at hl;rw[(extL k (.inr ⟨e,he,hl,hk⟩)).1];exact h.new e k he hl hk
theorem BL.any(hO:aS P O)(hs:d_ ops nt)(hnt:nt<1000000)(hT:nB O P ops nt n0 rs ms xs){β0:Env}{w0:World}(hR0:Rel β0 (ms 0) w0)(hr0:∀t,((rs 0).get .undef t).jK (· < n0)){dfs:List Deferred}{Q:Exit->Act->World->Prop}
 (hQ:zr β0 (ms 0) w0 nt dfs (rs ops.size) (ms ops.size) (Q .normal)):∀(fuel:Nat) (listed:Array Bool) (a:Act) (w:World) (β : Env) (g:Nat->XV),BL ops nt n0 rs ms xs β0 w0 dfs listed a w β g ->
 (List.range ops.size).countP (fun i=>listed.getD i false==false)<=fuel->wpAny P .any ops Q fuel listed a w:=by
 have fin:∀(listed:Array Bool) (a:Act) (w:World) (β : Env) (g:Nat->XV),BL ops nt n0 rs ms xs β0 w0 dfs listed a w β g->(∀i,i<ops.size->listed.getD i false=true)->Q .normal a w:=by
  intro listed a w β g h hall;have hz:=hT.z;have hle:=hT.Fy 0 ops.size (by omega) (Nat.le_refl _)
  have liv:∀j,j<(ms ops.size).n->BD ops ms n0 listed j:=fun j hj=>by
   rcases hT.cov j hj with h1|⟨e,h1,h2⟩
   ·exact .inl h1
   ·exact .inr ⟨e,h1,hall e h1,h2⟩
  obtain⟨hr1,hr2⟩:=nB.ir hs hnt hT ops.size (Nat.le_refl _)
  have hge:g=(rs ops.size).get .undef:=by
   funext t
   by_cases hw:∃(j:Nat) (oj:Oper),ops[j]? = some oj/\oj.dst=some t
   ·obtain⟨j,oj,hj,hdj⟩:=hw;have hjl:j<ops.size:=(Array.getElem?_eq_some_iff.1 hj).1;rw[h.g1 j oj t (hall j hjl) hj hdj,hr1 j oj t hjl hj hdj]
   ·have hnone:∀(k:Nat) (ok:Oper),ops[k]? = some ok->ok.dst≠some t:=fun k ok hok e=>hw ⟨k,ok,hok,e⟩
    rw[h.g2 t (fun k ok _ hok=>hnone k ok hok),hr2 t (fun k ok _ hok=>hnone k ok hok)]
  have hfr:∀k,k<=ops.size->(ms k).cg:=by
   intro k
   induction k with
   | zero=>intro _;exact hR0.fresh
   | succ k ih=>
     intro hk;obtain⟨o,m0,d,_,hA⟩:=hT.get k (by omega)
     rcases hA.nx with h1|⟨h1,_⟩
     ·rw[h1];exact ih (by omega)
     ·exact cg.push (ih (by omega)) h1
  have himg:∀k,k<w0.heap.size->kY β (ms ops.size) k->kY β0 (ms 0) k:=by
   intro k hk ⟨j,hj,lj,hbj⟩
   rcases hT.cov j hj with h1|⟨e,h1,h2⟩
   ·refine⟨j,by omega,?_,?_⟩
    ·rw[<-hT.same j ops.size 0 (by omega) (Nat.le_refl _) (by omega)];exact lj
    ·rw[<-hbj,(h.ext j h1).1]
   ·have:=h.new e j h1 (hall e h1) h2;omega
  have hsame:∀j,j<(ms ops.size).n->∀L,(ms ops.size).get j = .late L->j<(ms 0).n/\(ms 0).get j = .late L:=fun j hj L hL=>by
   rcases hT.cov j hj with h1|⟨e,h1,h2⟩
   ·refine⟨by omega,?_⟩;rw[<-hT.same j ops.size 0 (by omega) (Nat.le_refl _) (by omega)];exact hL
   ·obtain⟨_,_,_,_,_,_,e1,e2,_⟩:=hT.mk_one h1 h2;rw[<-e1,hL]at e2;cases e2
  refine hQ a β w ?_ h.dfs ⟨hle,fun j hj=>h.ext j (by omega),⟨hT.bnd,hfr _ (Nat.le_refl _),fun j hj=>h.obj j (liv j hj),fun i j hi hj=>h.inj i j (liv i hi) (liv j hj),l7 hR0 hle (by rw[<-hz];exact h.ext) h.frame himg hsame⟩,h.os,h.tape,h.output,h.heap,h.frame,himg,fun k _ hk => .inr (hk.yB (by rw[<-hz];exact h.ext) hsame)⟩;have:=h.ir;rw[hge]at this;exact this
 intro fuel
 induction fuel with
 | zero=>
   intro listed a w β g h hc
   have hall:∀i,i<ops.size->listed.getD i false=true:=fun i hi=>by
    cases hx:listed.getD i false
    ·have:0<(List.range ops.size).countP (fun i=>listed.getD i false==false):=List.countP_pos_iff.2 ⟨i,List.mem_range.2 hi,by simp[hx]⟩;omega
    ·rfl
   refine⟨?_,fin listed a w β g h hall⟩;apply List.eq_nil_iff_forall_not_mem.2;intro i hi;obtain⟨hun,oi,hoi,_⟩:=mem_ready.1 hi;have hilt:i<ops.size:=(Array.getElem?_eq_some_iff.1 hoi).1;rw[dQ (by rw[h.size];exact hilt),hall i hilt]at hun;cases hun
 | succ fuel ih=>
   intro listed a w β g h hc;refine⟨fun hnil=>fin listed a w β g h (fun i hi=>?_),fun i hi=>?_⟩
   ·induction i using Nat.strongRecOn with
    | _ i ihi=>
      cases hx:listed.getD i false
      ·exfalso;have ho:ops[i]? = some ops[i]:=by simp[hi]
       have:i∈Region.ready .any ops listed:=mem_ready.2 ⟨by rw[dQ (by rw[h.size];exact hi)];exact hx,ops[i],ho,fun e he hb=>by
        have hlt:=hs.back i ops[i] ho e he hb
        exact ihi e.on hlt (by omega)⟩
       rw[hnil]at this;cases this
      ·rfl
   ·obtain⟨hun,oi,hoi,_⟩:=mem_ready.1 hi;have hilt:i<ops.size:=(Array.getElem?_eq_some_iff.1 hoi).1;have hil:i<listed.size:=by rw[h.size];exact hilt
    have hcnt:=kp (p:=fun j=>(listed.setIfInBounds i true).getD j false==false) (q:=fun j=>listed.getD j false==false) (i:=i) (fun j hj=>by
     rw[aW hil]at hj;split at hj
     ·simp at hj
     ·exact hj) (by rw[<-dQ hil,hun];rfl) (by rw[aW hil];simp) (List.range ops.size) (List.mem_range.2 hilt)
    exact h.step hO hs hnt hT hR0 hr0 hi fun a' w' β' g' h'=>ih _ a' w' β' g' h' (by omega)
end
theorem Da{O:dm}{P:Program}(hO:aS P O)(hP:P.follows .mixedOrders=true){ops:Array Oper}{nt id:Nat}{r r':T XV}{m m':Mem}(h:rl O P ops nt r m=some (r',m')){β : Env}{w:World}{a:Act}(hr:lV β m.n nt r a.tmps)(hm:Rel β m w)
 {Q:Exit->Act->World->Prop}(hq:zr β m w nt a.defers r' m' (Q .normal)):(Code.region id ops true).wp P Q a w:=by
 unfold rl at h;split at h
 ·rename_i hst;have hs:=ku hst;obtain⟨rs,ms,xs,h1,_,h3,h4,h5,h6,h7,h8⟩:=rp (fun _=>r) (fun _=>m) (fun _ => .undef) h rfl rfl hm.bnd (fun k hk=>by omega) (Nat.le_refl _) (fun j i=>by simp) (fun k hk=>by omega) (fun i hi => .inl hi);have e1:rs 0=r:=(h1 0 (Nat.le_refl _)).1;have e2:ms 0=m:=(h1 0 (Nat.le_refl _)).2;have hsz:ops.toList.length=ops.size:=by simp
  rw[hsz,Nat.zero_add]at h3 h4 h6 h7
  have hT:nB O P ops nt m.n rs ms xs:=⟨by rw[e2],h6,by rw[h4];exact h5,by rw[h4];exact h7,fun k o ho=>by
   have:=h8 k o (by simpa using ho);rw[Nat.zero_add]at this
   exact this⟩
  have hr0:∀t,((rs 0).get .undef t).jK (· < m.n):=fun t=>by
   rw[e1]
   by_cases ht:t<nt
   ·exact(hr.rel t ht).jK
   ·rw[hr.out t (by omega)];trivial
  have liv0:∀k,BD ops ms m.n (Array.replicate ops.size false) k->k<m.n:=by
   rintro k (h1|⟨e,h1,hl,_⟩)
   ·exact h1
   ·exfalso
    by_cases hlt:e<ops.size<;>simp[Array.getD_eq_getD_getElem?,hlt]at hl
  have hle:=hT.Fy 0 ops.size (by omega) (Nat.le_refl _);rw[e2]at hle
  have hg0:∀k,k<m.n->(ms ops.size).get k=m.get k:=fun k hk=>by
   rw[hT.same k ops.size 0 (by omega) (Nat.le_refl _) (by rw[e2];exact hk),e2]
  refine wp_region_any hP ?_;refine BL.any hO hs hr.small hT (by rw[e2];exact hm) hr0 (β0 := β) (w0:=w) (dfs:=a.defers) (Q:=Q) (by rw[h3,h4,e2];exact hq) _ _ a _ β ((rs 0).get .undef) ?_ ?_
  ·refine {size:=by simp,cl:=fun i j ha hi=>?_,dfs:=rfl,ext:=Ext.refl _ _,obj:=fun k hk=>?_,inj:=fun i j hi hj li lj hb=>?_,ir:=?_,gok:=fun t=>XV.bP (fun k hk => .inl hk) (hr0 t),g1:=fun i o t hi=>?_,g2:=fun _ _=>rfl,os:=rfl,tape:=rfl,output:=rfl,heap:=Nat.le_refl _,frame:=fun _ _ _=>rfl,new:=fun e j he hl _=>?_}
   ·exfalso
    by_cases hlt:i<ops.size<;>simp[Array.getD_eq_getD_getElem?,hlt]at hi
   ·have hk':=liv0 k hk;rw[hg0 k hk'];exact(hm.obj k hk').ext (Ext.refl _ _) hle
   ·have hi':=liv0 i hi;have hj':=liv0 j hj;rw[hg0 i hi']at li;rw[hg0 j hj']at lj;exact hm.inj i j hi' hj' li lj hb
   ·rw[e1];exact gB.ext hr (Ext.refl _ _) hle
   ·exfalso
    by_cases hlt:i<ops.size<;>simp[Array.getD_eq_getD_getElem?,hlt]at hi
   ·exfalso
    by_cases hlt:e<ops.size<;>simp[Array.getD_eq_getD_getElem?,hlt]at hl
  ·exact Nat.le_trans List.countP_le_length (by simp)
 ·cases h
def kQ(O:dm)(P:Program)(ops:Array Oper)(nt:Nat)(r:T XV)(m:Mem):Option (T XV×Mem):=
 match iN O P ops nt r m with
 | some x=>some x
 | .none=>rl O P ops nt r m
theorem xN{O:dm}{P:Program}(hO:aS P O)(hP:P.follows .mixedOrders=true){ops:Array Oper}{nt id:Nat}{r r':T XV}{m m':Mem}(h:kQ O P ops nt r m=some (r',m')){β : Env}{w:World}{a:Act}(hr:lV β m.n nt r a.tmps)(hm:Rel β m w)
 {Q:Exit->Act->World->Prop}(hq:zr β m w nt a.defers r' m' (Q .normal)):(Code.region id ops true).wp P Q a w:=by
 unfold kQ at h;split at h
 ·rename_i x hx;cases h;exact C_ hO hP hx hr hm hq
 ·exact Da hO hP h hr hm hq
theorem Db{O:dm}{P:Program}(hO:aS P O){ops:Array Oper}{nt:Nat}{r r':T XV}{m m':Mem}(h:kQ O P ops nt r m=some (r',m')):rC m m':=by
 unfold kQ at h;split at h
 ·rename_i x hx;cases h;exact Bn hO hx
 ·unfold rl at h;split at h
  ·exact sP h
  ·cases h
theorem vM{O:dm}{P:Program}{ops:Array Oper}{nt:Nat}{r:T XV}{m:Mem}{x:T XV×Mem}(h:iN O P ops nt r m=some x):kQ O P ops nt r m=some x:=by unfold kQ;rw[h]
end Go.Xm
namespace Go.Xm
variable [aq]
inductive XR where
 | norm (r:T XV) (m:Mem)
 | exit (id:Nat) (r:T XV) (m:Mem)
 | goto (l:Nat) (r:T XV) (m:Mem)
 | ret (r:T XV) (m:Mem)
inductive sn where
 | code (c:Code)
 | jump (c rest:Code)
 | round (c:Code)
def jS(O:dm)(P:Program)(nt:Nat)(self:sn->T XV->Mem->Option XR):sn->T XV->Mem->Option XR
 | .jump c rest,r,m=>match self (.code rest) r m with
   | some (.goto l r m)=>match findLabel c l with
     | some rest'=>self (.jump c rest') r m
     | .none=>some (.goto l r m)
   | x=>x
 | .code .skip,r,m=>some (.norm r m)
 | .code (.label _),r,m=>some (.norm r m)
 | .code (.region _ ops false),r,m=>match pG O P ops nt ops.toList r m with
   | some (r,m)=>some (.norm r m)
   | .none => .none
 | .code (.region _ ops true),r,m=>match kQ O P ops nt r m with
   | some (r,m)=>some (.norm r m)
   | .none => .none
 | .code (.seq a b),r,m=>match self (.code a) r m with
   | some (.norm r m)=>self (.code b) r m
   | x=>x
 | .code (.cond c a b),r,m=>match af (r.get .undef) c with
   | .one (.bool true)=>self (.code a) r m
   | .one (.bool false)=>self (.code b) r m
   | _ => .none
 | .code (.block id c),r,m=>match self (.code c) r m with
   | some (.exit id' r m)=>if id'=id then some (.norm r m)else some (.exit id' r m)
   | x=>x
 | .code (.loop c),r,m=>self (.round c) r m
 | .round c,r,m=>match self (.code c) r m with
   | some (.norm r m)=>self (.round c) r m
   | x=>x
 | .code (.exit id),r,m=>some (.exit id r m)
 | .code (.goto l),r,m=>some (.goto l r m)
 | .code (.scope c),r,m=>self (.jump c c) r m
 | .code .ret,r,m=>some (.ret r m)
 | .code _,_,_ => .none
def KD(O:dm)(P:Program)(nt:Nat):Nat->sn->T XV->Mem->Option XR
 | 0=>fun _ _ _ => .none
 | n+1=>jS O P nt (KD O P nt n)
def XR.mem:XR->Mem
 | .norm _ m=>m
 | .exit _ _ m=>m
 | .goto _ _ m=>m
 | .ret _ m=>m
def XR.ir:XR->T XV
 | .norm r _=>r
 | .exit _ r _=>r
 | .goto _ r _=>r
 | .ret r _=>r
def XR.ex:XR->Exit
 | .norm _ _ => .normal
 | .exit id _ _ => .exit id
 | .goto l _ _ => .goto l
 | .ret _ _ => .ret
def Dr(β : Env)(m:Mem)(w:World)(nt:Nat)(dfs:List Deferred)(x:XR)(Q:Exit->Act->World->Prop):Prop:=
 ∀a' β' w',lV β' x.mem.n nt x.ir a'.tmps->a'.defers=dfs->Step β m w β' x.mem w'->Q x.ex a' w'
theorem Dr.after{β β':Env}{m m':Mem}{w w':World}{nt:Nat}{dfs:List Deferred}{x:XR}{Q:Exit->Act->World->Prop}(h:Dr β m w nt dfs x Q)(hs:Step β m w β' m' w'):Dr β' m' w' nt dfs x Q:=
 fun a' β'' w'' h1 h2 h3=>h a' β'' w'' h1 h2 (hs.trans h3)
def wO(P:Program)(c:sn)(Q:Exit->Act->World->Prop)(a:Act)(w:World):Prop:=
 match c with
 | .code c=>c.wp P Q a w
 | .jump c rest=>∀(b:Frame) (k:List Item) (cs:List Frame),∃e a' w',Q e a' w'/\Arrives P (lone (b.at a (.code rest :: .inScope c::k)) cs w) b k cs e a' w'
 | .round c=>∀(b:Frame) (k:List Item) (cs:List Frame),∃e a' w',Q e a' w'/\Arrives P (lone (b.at a (.code c :: .inLoop c::k)) cs w) b k cs e a' w'
def BO(P:Program)(nt:Nat)(self:sn->T XV->Mem->Option XR):Prop:=
 ∀(c:sn) (r:T XV) (m:Mem) (x:XR),self c r m=some x->rC m x.mem/\∀(β : Env) (w:World) (a:Act) (Q:Exit->Act->World->Prop),lV β m.n nt r a.tmps->Rel β m w->Dr β m w nt a.defers x Q->wO P c Q a w
theorem KE{O:dm}{P:Program}(hO:aS P O)(hP:P.follows .mixedOrders=true){nt:Nat}{self:sn->T XV->Mem->Option XR}(hself:BO P nt self):BO P nt (jS O P nt self):=by
 intro c r m x h;unfold jS at h;split at h
 ·-- jump
  rename_i c rest;split at h
  ·rename_i l r1 m1 h1;obtain⟨hc1,hw1⟩:=hself _ _ _ _ h1;split at h
   ·rename_i rest' hf;obtain⟨hc2,hw2⟩:=hself _ _ _ _ h;refine⟨hc1.trans hc2,fun β w a Q hr hm hq=>?_⟩;intro b k cs;have:=hw1 β w a (fun e a' w'=>e = .goto l/\wO P (.jump c rest') Q a' w') hr hm (fun a' β' w' h1 h2 h3=>⟨rfl,hw2 β' w' a' Q h1 h3.rel (by rw[h2];exact hq.after h3)⟩) b (.inScope c::k) cs;obtain⟨e,a₁,w₁,⟨rfl,hmn⟩,harr⟩:=this;obtain⟨e₂,a₂,w₂,hq₂,harr₂⟩:=hmn b k cs;have hg:gotoIn l (.inScope c::k)=some (.code rest' :: .inScope c::k):=by simp[gotoIn,hf]
    exact⟨e₂,a₂,w₂,hq₂,.of_steps (harr _ hg) harr₂⟩
   ·rename_i hf;cases h;refine⟨hc1,fun β w a Q hr hm hq=>?_⟩;intro b k cs;obtain⟨e,a₁,w₁,⟨rfl,hq1⟩,harr⟩:=hw1 β w a (fun e a' w'=>e = .goto l/\Q (.goto l) a' w') hr hm (fun a' β' w' h1 h2 h3=>⟨rfl,hq a' β' w' h1 h2 h3⟩) b (.inScope c::k) cs;exact⟨.goto l,a₁,w₁,hq1,fun k' hk=>harr k' (by simp[gotoIn,hf,hk])⟩
  ·rename_i hno;obtain⟨hc1,hw1⟩:=hself _ _ _ _ h;refine⟨hc1,fun β w a Q hr hm hq=>?_⟩;intro b k cs
   have hng:∀l,x.ex ≠ .goto l:=fun l he=>by
    cases x with
    | goto l' r' m'=>exact hno l' r' m' h
    | _=>cases he
   obtain⟨e,a₁,w₁,⟨rfl,hq1⟩,harr⟩:=hw1 β w a (fun e a' w'=>e=x.ex/\Q e a' w') hr hm (fun a' β' w' h1 h2 h3=>⟨rfl,hq a' β' w' h1 h2 h3⟩) b (.inScope c::k) cs
   cases x with
   | norm r' m'=>exact⟨.normal,a₁,w₁,hq1,Steps.trans harr (.one step_inScope)⟩
   | exit id r' m'=>exact⟨.exit id,a₁,w₁,hq1,fun k' hk=>harr k' (by simp[exitTo,hk])⟩
   | goto l r' m'=>exact absurd rfl (hng l)
   | ret r' m'=>exact⟨.ret,a₁,w₁,hq1,harr⟩
 ·cases h;exact⟨.same _,fun β w a Q hr hm hq=>wp_skip (hq a β w hr rfl (Step.refl hm))⟩
 ·cases h;exact⟨.same _,fun β w a Q hr hm hq=>wp_label (hq a β w hr rfl (Step.refl hm))⟩
 ·rename_i id ops;split at h
  ·rename_i r1 m1 h1;cases h;exact⟨xO hO h1,fun β w a Q hr hm hq=>wp_region_list (vP hO h1 hr hm hq)⟩
  ·cases h
 ·rename_i id ops;split at h
  ·rename_i r1 m1 h1;cases h;exact⟨Db hO h1,fun β w a Q hr hm hq=>xN hO hP h1 hr hm hq⟩
  ·cases h
 ·rename_i c1 c2;split at h
  ·rename_i r1 m1 h1;obtain⟨hc1,hw1⟩:=hself _ _ _ _ h1;obtain⟨hc2,hw2⟩:=hself _ _ _ _ h;refine⟨hc1.trans hc2,fun β w a Q hr hm hq=>wp_seq ?_⟩;exact hw1 β w a _ hr hm (fun a' β' w' k1 k2 k3=>hw2 β' w' a' Q k1 k3.rel (by rw[k2];exact hq.after k3))
  ·rename_i hno;obtain⟨hc1,hw1⟩:=hself _ _ _ _ h;refine⟨hc1,fun β w a Q hr hm hq=>wp_seq ?_⟩;refine hw1 β w a _ hr hm (fun a' β' w' k1 k2 k3=>?_)
   cases x with
   | norm r' m'=>exact(hno r' m' h).elim
   | exit id r' m'=>exact hq a' β' w' k1 k2 k3
   | goto l r' m'=>exact hq a' β' w' k1 k2 k3
   | ret r' m'=>exact hq a' β' w' k1 k2 k3
 ·rename_i cd c1 c2;split at h
  ·rename_i hcd;obtain⟨hc1,hw1⟩:=hself _ _ _ _ h;refine⟨hc1,fun β w a Q hr hm hq=>?_⟩;have he:=hr.eval cd;rw[hcd]at he;exact wp_cond_true he.2 (hw1 β w a Q hr hm hq)
  ·rename_i hcd;obtain⟨hc1,hw1⟩:=hself _ _ _ _ h;refine⟨hc1,fun β w a Q hr hm hq=>?_⟩;have he:=hr.eval cd;rw[hcd]at he;exact wp_cond_false he.2 (hw1 β w a Q hr hm hq)
  ·cases h
 ·rename_i id c;split at h
  ·rename_i id' r1 m1 h1;obtain⟨hc1,hw1⟩:=hself _ _ _ _ h1;split at h
   ·rename_i hid;cases h;refine⟨hc1,fun β w a Q hr hm hq=>wp_block ?_⟩
    exact hw1 β w a _ hr hm (fun a' β' w' k1 k2 k3=>by
     show(if id'=id then Q .normal a' w' else Q (.exit id') a' w');rw[if_pos hid]
     exact hq a' β' w' k1 k2 k3)
   ·rename_i hid;cases h;refine⟨hc1,fun β w a Q hr hm hq=>wp_block ?_⟩
    exact hw1 β w a _ hr hm (fun a' β' w' k1 k2 k3=>by
     show(if id'=id then Q .normal a' w' else Q (.exit id') a' w');rw[if_neg hid]
     exact hq a' β' w' k1 k2 k3)
  ·rename_i hno;obtain⟨hc1,hw1⟩:=hself _ _ _ _ h;refine⟨hc1,fun β w a Q hr hm hq=>wp_block ?_⟩;refine hw1 β w a _ hr hm (fun a' β' w' k1 k2 k3=>?_)
   cases x with
   | norm r' m'=>exact hq a' β' w' k1 k2 k3
   | exit id r' m'=>exact(hno id r' m' h).elim
   | goto l r' m'=>exact hq a' β' w' k1 k2 k3
   | ret r' m'=>exact hq a' β' w' k1 k2 k3
 ·rename_i c;obtain⟨hc1,hw1⟩:=hself _ _ _ _ h;refine⟨hc1,fun β w a Q hr hm hq=>?_⟩;intro b k cs;obtain⟨e,a₁,w₁,hq1,harr⟩:=hw1 β w a Q hr hm hq b k cs;exact⟨e,a₁,w₁,hq1,.of_steps (.one step_loop) harr⟩
 ·rename_i c;split at h
  ·rename_i r1 m1 h1;obtain⟨hc1,hw1⟩:=hself _ _ _ _ h1;obtain⟨hc2,hw2⟩:=hself _ _ _ _ h;refine⟨hc1.trans hc2,fun β w a Q hr hm hq=>?_⟩;intro b k cs;have:=hw1 β w a (fun e a' w'=>e = .normal/\wO P (.round c) Q a' w') hr hm (fun a' β' w' k1 k2 k3=>⟨rfl,hw2 β' w' a' Q k1 k3.rel (by rw[k2];exact hq.after k3)⟩);obtain⟨e,a₁,w₁,⟨rfl,hlp⟩,harr⟩:=this b (.inLoop c::k) cs;obtain⟨e₂,a₂,w₂,hq₂,harr₂⟩:=hlp b k cs;exact⟨e₂,a₂,w₂,hq₂,.of_steps (Steps.trans harr (.one step_inLoop)) harr₂⟩
  ·rename_i hno;obtain⟨hc1,hw1⟩:=hself _ _ _ _ h;refine⟨hc1,fun β w a Q hr hm hq=>?_⟩;intro b k cs;have:=hw1 β w a (fun e a' w'=>e=x.ex/\Q e a' w') hr hm (fun a' β' w' h1 h2 h3=>⟨rfl,hq a' β' w' h1 h2 h3⟩);obtain⟨e,a₁,w₁,⟨rfl,hq1⟩,harr⟩:=this b (.inLoop c::k) cs
   cases x with
   | norm r' m'=>exact(hno r' m' h).elim
   | exit id r' m'=>exact⟨_,a₁,w₁,hq1,.pass (x := .inLoop c) rfl (fun _ _ => .inl (by simp[XR.ex])) harr⟩
   | goto l r' m'=>exact⟨_,a₁,w₁,hq1,.pass (x := .inLoop c) rfl (fun _ _ => .inl (by simp[XR.ex])) harr⟩
   | ret r' m'=>exact⟨_,a₁,w₁,hq1,.pass (x := .inLoop c) rfl (fun _ _ => .inl (by simp[XR.ex])) harr⟩
 ·cases h;exact⟨.same _,fun β w a Q hr hm hq=>wp_exit (hq a β w hr rfl (Step.refl hm))⟩
 ·cases h;exact⟨.same _,fun β w a Q hr hm hq=>wp_goto (hq a β w hr rfl (Step.refl hm))⟩
 ·rename_i c;obtain⟨hc1,hw1⟩:=hself _ _ _ _ h;refine⟨hc1,fun β w a Q hr hm hq=>?_⟩;intro b k cs;obtain⟨e,a₁,w₁,hq1,harr⟩:=hw1 β w a Q hr hm hq b k cs;exact⟨e,a₁,w₁,hq1,.of_steps (.one step_scope) harr⟩
 ·cases h;exact⟨.same _,fun β w a Q hr hm hq=>wp_ret (hq a β w hr rfl (Step.refl hm))⟩
 ·cases h
end Go.Xm
namespace Go.Xm
variable [aq]
def vT(P:Program)(g:Nat->XV)(m:Mem):ResultVar->Option X1
 | .tmp t=>p9 (g t)
 | .cell a t=>match g a with
   | .one (.ptr i off)=>match m.get i with
     | .cells vs _ _ _=>dC P t vs off
     | _ => .none
   | _ => .none
def gk(P:Program)(g:Nat->XV)(m:Mem):List ResultVar->Option (List X1)
 | []=>some []
 | v :: l=>match vT P g m v with
   | some x=>match gk P g m l with
     | some xs=>some (x::xs)
     | .none => .none
   | .none => .none
def dA(P:Program)(fn:Func)(g:Nat->XV)(m:Mem):Option XV:=
 match gk P g m fn.results.toList with
 | some [x]=>some x.p6
 | some xs=>some (.tup xs)
 | .none => .none
def Mp(tmps:Array Value):ResultVar->Sem Value
 | .tmp t=>pure (tmps.getD t undef)
 | .cell a t=>do loadVar t (<-asAddr (tmps.getD a undef))
theorem Bs{P:Program}{g:Nat->XV}{m:Mem}{v:ResultVar}{x:X1}(h:vT P g m v=some x){β : Env}{w:World}{nt:Nat}{tmps:Array Value}(hm:Rel β m w)(hr:gB β m.n nt g tmps) :
 (Mp tmps v).run P w = .ok (x.den β) w/\x.ok m.n:=by
 have hget:∀t,g t ≠ .undef->aL β m.n (g t) (tmps.getD t undef):=fun t hne=>by
  rcases Nat.lt_or_ge t nt with h'|h'
  ·exact hr.rel t h'
  ·exact absurd (hr.out t h') hne
 unfold vT at h;split at h
 ·rename_i t;obtain⟨h1,h2⟩:=qZ h (hget t (fun e=>by rw[e]at h;cases h));refine⟨?_,h1⟩;simp only[Mp,h2,Sem.run_pure]
 ·rename_i a t;split at h
  ·rename_i i off ha
   obtain⟨h1,h2⟩:=(by rw[<-ha];exact hget a (fun e=>by rw[e]at ha;cases ha):aL β m.n (.one (.ptr i off)) (tmps.getD a undef))
   split at h
   ·rename_i vs e opn ro hg;have hob:=hm.obj i h1;rw[hg]at hob;obtain⟨h3,h4⟩:=lR (P:=P) h hob;refine⟨?_,h4⟩;simp only[Mp,h2,XC.den,asAddr,Sem.run_bind,Sem.run_pure,Result.andThen_ok,h3]
   ·cases h
  ·cases h
theorem iP{P:Program}{g:Nat->XV}{m:Mem}{β : Env}{w:World}{nt:Nat}{tmps:Array Value}(hm:Rel β m w)(hr:gB β m.n nt g tmps):∀{l:List ResultVar} {xs:List X1},gk P g m l=some xs ->
 (l.mapM (Mp tmps)).run P w = .ok (xs.map (·.den β)) w/\∀x∈xs,x.ok m.n
 | [],xs,h=>by simp only[gk,Option.some.injEq]at h;subst h;exact⟨rfl,by simp⟩
 | v :: l,xs,h=>by
   unfold gk at h;split at h
   ·rename_i x hx;split at h
    ·rename_i xs' hxs;cases h;obtain⟨h1,h2⟩:=Bs hx hm hr;obtain⟨h3,h4⟩:=iP hm hr hxs;refine⟨by simp only[List.mapM_cons,Sem.run_bind,h1,Result.andThen_ok,h3,Sem.run_pure,List.map_cons],fun y hy=>?_⟩
     rcases List.mem_cons.1 hy with rfl|hy
     ·exact h2
     ·exact h4 y hy
    ·cases h
   ·cases h
theorem oI{P:Program}{fn:Func}{g:Nat->XV}{m:Mem}{x:XV}(h:dA P fn g m=some x){β : Env}{w:World}{nt:Nat}{tmps:Array Value}(hm:Rel β m w)(hr:gB β m.n nt g tmps) :
 ∃v,(results fn tmps).run P w = .ok v w/\aL β m.n x v:=by
 have hrun:∀xs,gk P g m fn.results.toList=some xs->(results fn tmps).run P w = .ok (if h:(xs.map (·.den β)).toArray.size=1 then(xs.map (·.den β)).toArray[0]else .tuple (xs.map (·.den β)).toArray) w:=by
  intro xs hxs;obtain⟨h1,_⟩:=iP hm hr hxs;unfold results;simp only[Sem.run_bind];rw[Array.mapM_eq_mapM_toList];simp only[Sem.run_map];exact congrArg (fun(q:Result (List Value))=>(q.andThen fun a w'=>Result.ok a.toArray w').andThen fun a w'=>Sem.run P (pure (if h:a.size=1 then a[0]else Value.tuple a)) w') h1
 unfold dA at h;split at h
 ·rename_i y hy;cases h;obtain⟨_,h2⟩:=iP hm hr hy;exact⟨_,hrun _ hy,aL.p6.2 ⟨h2 y (by simp),rfl⟩⟩
 ·rename_i xs hne hxs;cases h;obtain⟨_,h2⟩:=iP hm hr hxs;refine⟨_,hrun _ hxs,h2,?_⟩;rw[dif_neg];intro hl;have hl':xs.length=1:=by simpa using hl
  match xs,hl' with
  | [y],_=>exact hne y rfl
 ·cases h
def f7:List XV->Nat->T XV->T XV
 | [],_,t=>t
 | x::l,i,t=>f7 l (i+1) (t.set .undef 31 i x)
theorem mP:∀(l:List XV) (i:Nat) (t:T XV),i+l.length<1000000->∀j,(f7 l i t).get .undef j=if i<=j/\j<i+l.length then l.getD (j-i) .undef else t.get .undef j
 | [],i,t,_,j=>by simp[f7];omega
 | x :: l,i,t,h,j=>by
   simp only[List.length_cons]at h;rw[f7,mP l (i+1) _ (by omega) j]
   by_cases h1:i+1<=j/\j<i+1+l.length
   ·rw[if_pos h1,if_pos (by simp only[List.length_cons];omega)]
    obtain⟨k,hk⟩:∃k,j-i=k+1:=⟨j-i-1,by omega⟩
    rw[hk,show j-(i+1)=k by omega];rfl
   ·rw[if_neg h1]
    by_cases h2:j=i
    ·subst h2;rw[T.f5 _ _ _ _ _ (by omega),if_pos (by simp only[List.length_cons];omega)];simp
    ·rw[T.fg _ _ _ _ _ _ h2,if_neg (by simp only[List.length_cons];omega)]
theorem dj.get{α γ : Type}{R : α -> γ->Prop}:∀{l:List α} {k:List γ},dj R l k->∀(i:Nat) (a : α) (b : γ),l[i]? = some a->k[i]? = some b->R a b
 | _,_,.nil,i,a,b,h,_=>by simp at h
 | _,_,.cons h t,0,a,b,h1,h2=>by simp at h1 h2;subst h1;subst h2;exact h
 | _,_,.cons h t,i+1,a,b,h1,h2=>by simp at h1 h2;exact t.get i a b h1 h2
theorem qE{β : Env}{n nt:Nat}{args:List XV}{vs:List Value}(h:dj (aL β n) args vs)(hnt:nt<1000000)(hl:args.length<=nt) :
 lV β n nt (f7 args 0 .leaf) (vs.toArray++Array.replicate (nt-vs.toArray.size) undef):=by
 have hlen:=h.length;have hg:=mP args 0 .leaf (by omega);refine⟨by simp;omega,hnt,fun t ht=>?_,fun t ht=>?_⟩
 ·rw [hg t]
  by_cases htl:t<args.length
  ·rw[if_pos (by omega)];have htv:t<vs.length:=by omega
   have e1:(vs.toArray++Array.replicate (nt-vs.toArray.size) undef).getD t undef=vs[t]:=by
    simp[Array.getD_eq_getD_getElem?,Array.getElem?_append,htv]
   have e2:args.getD (t-0) .undef=args[t]:=by simp[List.getD_eq_getElem?_getD,htl]
   rw[e1,e2];exact h.get t _ _ (by simp[htl]) (by simp[htv])
  ·rw[if_neg (by omega),T.eO];trivial
 ·rw[hg t,if_neg (by omega),T.eO]
def xJ(O : dm)(P:Program)(F:Nat)(f:FuncId)(args:List XV)(m:Mem):Option (XV×Mem):=
 match P.funcs[f]? with
 | some fn=>match fn.body with
   | some c=>
     if fn.ntmps<1000000/\args.length<=fn.ntmps then
      match KD O P fn.ntmps F (.code c) (f7 args 0 .leaf) m with
      | some (.norm r m')=>match dA P fn (r.get .undef) m' with
        | some x=>some (x,m')
        | .none => .none
      | some (.ret r m')=>match dA P fn (r.get .undef) m' with
        | some x=>some (x,m')
        | .none => .none
      | _ => .none
     else .none
   | .none => .none
 | .none => .none
theorem EI{O:dm}{P:Program}(hO:aS P O)(hP:P.follows .mixedOrders=true)(nt:Nat):∀F,BO P nt (KD O P nt F)
 | 0=>fun c r m x h=>by cases h
 | F+1=>KE hO hP (EI hO hP nt F)
theorem Bj{O : dm}{P:Program}(hO:aS P O)(hP:P.follows .mixedOrders=true)(F:Nat):∀f args m v m',xJ O P F f args m=some (v,m')->d8 P f args m v m'/\rC m m':=by
 have main : ∀f args m v m',xJ O P F f args m=some (v,m')->d8 P f args m v m'/\rC m m':=by
  intro f args m v m' h;unfold xJ at h;split at h
  ·rename_i fn hf;split at h
   ·rename_i c hb;split at h
    ·rename_i hc
     have fin:∀(r:T XV) (x:XR),KD O P fn.ntmps F (.code c) (f7 args 0 .leaf) m=some x->x.ir=r->x.mem=m'->(x.ex = .normal\/x.ex = .ret)->dA P fn (r.get .undef) m'=some v->d8 P f args m v m'/\rC m m':=by
      intro r x hrun hxr hxm hxe hres;subst hxr;subst hxm;obtain⟨hchg,hw⟩:=EI hO hP fn.ntmps F _ _ _ _ hrun;refine⟨fun β w vs hall hm=>?_,hchg⟩;refine calls_of_wp hf hb ?_;refine hw β w _ _ (qE hall hc.1 hc.2) hm (fun a' β' w' h1 h2 h3=>?_);obtain⟨u,hu1,hu2⟩:=oI hres h3.rel h1
      rcases hxe with hxe|hxe<;>rw[hxe]<;>exact⟨h2,u,hu1,u,β',rfl,hu2,h3⟩
     split at h
     ·rename_i r m1 hrun;split at h
      ·rename_i x hres;cases h;exact fin r (.norm r m') hrun rfl rfl (.inl rfl) hres
      ·cases h
     ·rename_i r m1 hrun;split at h
      ·rename_i x hres;cases h;exact fin r (.ret r m') hrun rfl rfl (.inr rfl) hres
      ·cases h
     ·cases h
    ·cases h
   ·cases h
  ·cases h
 exact main
def xK(O:dm)(P:Program)(F:Nat):Nat->dm
 | 0=>O
 | k+1=>⟨fun f args m=>match O.call f args m with
   | some r=>some r
   | .none=>xJ (xK O P F k) P F f args m,O.op⟩
theorem sM{O:dm}{P:Program}(hO:aS P O)(hP:P.follows .mixedOrders=true)(F:Nat):∀k,aS P (xK O P F k)
 | 0=>hO
 | k + 1=>by
   have ih:=Bj (sM hO hP F k) hP F
   have main:∀f args m v m',(xK O P F (k+1)).call f args m=some (v,m')->d8 P f args m v m'/\rC m m':=by
    intro f args m v m' h;unfold xK at h;simp only[]at h;split at h
    ·rename_i r hr;cases h;exact⟨hO.call _ _ _ _ _ hr,hO.KU _ _ _ _ _ hr⟩
    ·exact ih _ _ _ _ _ h
   exact⟨fun f args m v m' h=>(main f args m v m' h).1,fun f args m v m' h=>(main f args m v m' h).2,hO.op⟩
def xl:dm:=⟨fun _ _ _ => .none,fun _ _ => .none⟩
theorem jy(P:Program):aS P xl:=⟨fun _ _ _ _ _ h=>(by cases h),fun _ _ _ _ _ h=>(by cases h),fun _ _ _ h=>(by cases h)⟩
end Go.Xm
namespace Go.Xm
noncomputable section
section
variable {α : Type}
def Bv(l:List α)(n:Nat):Option α:=
 @List.rec α (fun _=>Nat->Option α) (fun _ => .none) (fun a _ ih n => @Nat.rec (fun _=>Option α) (some a) (fun k _=>ih k) n) l n
theorem rr:∀(l:List α) (n:Nat),Bv l n=l[n]?
 | [],n=>rfl
 | a::l,0=>rfl
 | a::l,n+1=>by
   show Bv l n=(a::l)[n+1]?;rw[rr l n];rfl
def Bu(n:Nat)(l:List α):List α:=
 @List.rec α (fun _=>Nat->List α) (fun _=>[]) (fun a t ih n => @Nat.rec (fun _=>List α) (a::t) (fun k _=>ih k) n) l n
theorem vV:∀(n:Nat) (l:List α),Bu n l=l.drop n
 | n,[]=>by show([]:List α) = [].drop n;simp
 | 0,a::l=>rfl
 | n+1,a::l=>by show Bu n l=l.drop n;exact vV n l
def BA(n:Nat)(l:List α):List α:=
 @List.rec α (fun _=>Nat->List α) (fun _=>[]) (fun a _ ih n => @Nat.rec (fun _=>List α) [] (fun k _=>a::ih k) n) l n
theorem vZ:∀(n:Nat) (l:List α),BA n l=l.take n
 | n,[]=>by show([]:List α) = [].take n;simp
 | 0,a::l=>rfl
 | n+1,a::l=>by show a::BA n l=a::l.take n;rw[vZ n l]
def GX(l k:List α):List α := @List.rec α (fun _=>List α) k (fun a _ ih=>a::ih) l
theorem zf:∀(l k:List α),GX l k=l++k
 | [],k=>rfl
 | a::l,k=>by show a::GX l k=a::(l++k);rw[zf l k]
def s9(l:List α):Nat := @List.rec α (fun _=>Nat) 0 (fun _ _ ih=>Nat.add ih 1) l
theorem pf:∀(l:List α),s9 l=l.length
 | []=>rfl
 | a::l=>by show Nat.add (s9 l) 1=l.length+1;rw[pf l]
def EN(l:List α)(n:Nat)(x : α):List α:=
 @List.rec α (fun _=>Nat->List α) (fun _=>[]) (fun a t ih n => @Nat.rec (fun _=>List α) (x::t) (fun k _=>a::ih k) n) l n
theorem Bx:∀(l:List α) (n:Nat) (x : α),EN l n x=l.set n x
 | [],n,x=>by show([]:List α) = [].set n x;simp
 | a::l,0,x=>rfl
 | a::l,n+1,x=>by show a::EN l n x=a::l.set n x;rw[Bx l n x]
def sR(d : α)(t:T α)(n:Nat) : α:=
 @T.rec α (fun _=>Nat -> α) (fun _=>d) (fun v _ _ ihl ihr n => @Nat.rec (fun _ => α) v (fun k _ => @Nat.rec (fun _ => α) (ihl (Nat.div k 2)) (fun _ _=>ihr (Nat.div k 2)) (Nat.mod k 2)) n) t n
theorem mr(d : α):∀(t:T α) (n:Nat),sR d t n=t.get d n
 | .leaf,n=>by rw[T.eO];rfl
 | .node v l r,0=>rfl
 | .node v l r,n+1=>by
   rw[T.ef];show @Nat.rec (fun _ => α) (sR d l (n/2)) (fun _ _=>sR d r (n/2)) (n%2)=_;rw[mr d l,mr d r]
   rcases Nat.mod_two_eq_zero_or_one n with h|h<;>rw[h]<;>rfl
def pI(d : α)(f:Nat)(t:T α)(n:Nat)(x : α):T α:=
 @Nat.rec (fun _=>T α->Nat->T α) (fun t _=>t) (fun _ ih t n=>
  @T.rec α (fun _=>T α)
   (@Nat.rec (fun _=>T α) (.node x .leaf .leaf) (fun k _ => @Nat.rec (fun _=>T α) (.node d (ih .leaf (Nat.div k 2)) .leaf) (fun _ _ => .node d .leaf (ih .leaf (Nat.div k 2))) (Nat.mod k 2)) n)
   (fun v l r _ _ => @Nat.rec (fun _=>T α) (.node x l r) (fun k _ => @Nat.rec (fun _=>T α) (.node v (ih l (Nat.div k 2)) r) (fun _ _ => .node v l (ih r (Nat.div k 2))) (Nat.mod k 2)) n) t) f t n
theorem mu(d : α)(x : α):∀(f:Nat) (t:T α) (n:Nat),pI d f t n x=T.set d f t n x
 | 0,t,n=>by cases t<;>rfl
 | f+1,.leaf,0=>rfl
 | f+1,.leaf,n+1=>by
   rw[T.lM];show @Nat.rec (fun _=>T α) (T.node d (pI d f .leaf (n/2) x) .leaf) (fun _ _=>T.node d .leaf (pI d f .leaf (n/2) x)) (n%2)=_;rw[mu d x f]
   rcases Nat.mod_two_eq_zero_or_one n with h|h<;>rw[h]<;>rfl
 | f+1,.node v l r,0=>rfl
 | f+1,.node v l r,n+1=>by
   rw[T.lN];show @Nat.rec (fun _=>T α) (T.node v (pI d f l (n/2) x) r) (fun _ _=>T.node v l (pI d f r (n/2) x)) (n%2)=_;rw[mu d x f,mu d x f]
   rcases Nat.mod_two_eq_zero_or_one n with h|h<;>rw[h]<;>rfl
end
def iv{α : Type}(b:Bool)(x y : α) : α := @Bool.rec (fun _ => α) y x b
theorem eD{α : Type}(b:Bool)(x y : α):iv b x y=if b=true then x else y:=by cases b<;>rfl
def P1(v:Value):XV:=match n_ v with
 | some c => .one c
 | .none => .undef
def P4(t:Nat)(r:T XV):XV:=sR .undef r t
def KJ(v:Value)(_:T XV):XV:=P1 v
def GZ(_:Nat)(_:T XV):XV := .undef
def M8(f:FuncId)(_:T XV):XV := .one (.fn f)
def lT(x:Operand):T XV->XV := @Operand.rec (fun _=>T XV->XV) P4 KJ GZ M8 x
theorem gm(x:Operand)(r:T XV):lT x r=af (r.get .undef) x:=by
 cases x with
 | tmp t=>exact mr _ _ _
 | const v=>rfl
 | global g=>rfl
 | func f=>rfl
def KN(d:Nat)(nt:Nat)(r:T XV)(v:XV):T XV:=iv (Nat.blt d nt) (pI .undef 31 r d v) r
def KM(_:Nat)(r:T XV)(_:XV):T XV:=r
def Dl(d:Option Nat):Nat->T XV->XV->T XV := @Option.rec Nat (fun _=>Nat->T XV->XV->T XV) KM KN d
theorem zi(nt:Nat)(r:T XV)(d:Option Nat)(v:XV):Dl d nt r v=nE nt r d v:=by
 cases d with
 | none=>rfl
 | some d=>
   show iv (Nat.blt d nt) (pI .undef 31 r d v) r=if d<nt then T.set .undef 31 r d v else r;rw[eD,mu];simp[Nat.blt_eq]
def P7(n:Nat):Int := @Nat.rec (fun _=>Int) (Int.ofNat 0) (fun k _=>Int.negSucc k) n
theorem EO(n:Nat):P7 n = -(n:Int):=by cases n<;>rfl
def pg(m n:Nat):Int:=iv (Nat.ble n m) (Int.ofNat (Nat.sub m n)) (P7 (Nat.sub n m))
theorem vY(m n:Nat):pg m n=(m:Int)-n:=by
 unfold pg;rw[eD];split
 ·rename_i h;have:n<=m:=Nat.le_of_ble_eq_true h;show((m-n:Nat):Int)=_;omega
 ·rename_i h;have:¬n<=m:=fun h'=>h (Nat.ble_eq_true_of_le h')
  rw[EO];show -((n-m:Nat):Int)=_;omega
def PZ(a b:Int):Int:=
 @Int.rec (fun _=>Int) (fun m => @Int.rec (fun _=>Int) (fun n=>Int.ofNat (Nat.add m n)) (fun n=>pg m (Nat.succ n)) b) (fun m => @Int.rec (fun _=>Int) (fun n=>pg n (Nat.succ m)) (fun n=>Int.negSucc (Nat.succ (Nat.add m n))) b) a
theorem EJ(a b:Int):PZ a b=a+b:=by
 cases a with
 | ofNat m=>cases b with
   | ofNat n=>rfl
   | negSucc n=>
     show pg m (n+1)=_;rw[vY,Int.negSucc_eq];show(m:Int)-((n+1:Nat):Int)=(m:Int)+_;omega
 | negSucc m=>cases b with
   | ofNat n=>
     show pg n (m+1)=_;rw[vY,Int.negSucc_eq];show(n:Int)-((m+1:Nat):Int)=_+(n:Int);omega
   | negSucc n=>rfl
def NT(a:Int):Int := @Int.rec (fun _=>Int) (fun m=>P7 m) (fun m=>Int.ofNat (Nat.succ m)) a
theorem KL(a:Int):NT a = -a:=by cases a with
 | ofNat m=>exact EO m
 | negSucc m=>rfl
def P9(a b:Int):Int:=PZ a (NT b)
theorem Nb(a b:Int):P9 a b=a-b:=by unfold P9;rw[EJ,KL];omega
def RY(a b:Int):Bool:=
 @Int.rec (fun _=>Bool) (fun m => @Int.rec (fun _=>Bool) (fun n=>Nat.blt m n) (fun _=>false) b) (fun m => @Int.rec (fun _=>Bool) (fun _=>true) (fun n=>Nat.blt n m) b) a
theorem P6(a b:Int):RY a b=decide (a<b):=by
 cases a with
 | ofNat m=>cases b with
   | ofNat n=>
     show Nat.blt m n=_;rw[Bool.eq_iff_iff];simp[Nat.blt_eq]
   | negSucc n=>
     show false=_
     symm
     rw[decide_eq_false_iff_not];have:(0:Int)<=Int.ofNat m:=Int.natCast_nonneg m;omega
 | negSucc m=>cases b with
   | ofNat n=>
     show true=_
     symm
     rw[decide_eq_true_iff];have:(0:Int)<=Int.ofNat n:=Int.natCast_nonneg n;omega
   | negSucc n=>
     show Nat.blt n m=_;rw[Bool.eq_iff_iff];simp[Nat.blt_eq];omega
def P5(a b:Int):Bool:=
 @Int.rec (fun _=>Bool) (fun m => @Int.rec (fun _=>Bool) (fun n=>Nat.beq m n) (fun _=>false) b) (fun m => @Int.rec (fun _=>Bool) (fun _=>false) (fun n=>Nat.beq m n) b) a
theorem M9(a b:Int):P5 a b=(a==b):=by
 rw[Bool.eq_iff_iff,beq_iff_eq]
 cases a with
 | ofNat m=>cases b with
   | ofNat n=>show Nat.beq m n=true↔_;rw[Nat.beq_eq];exact⟨fun h=>by rw[h],fun h=>Int.ofNat.inj h⟩
   | negSucc n=>show false=true↔_;simp
 | negSucc m=>cases b with
   | ofNat n=>show false=true↔_;simp
   | negSucc n=>show Nat.beq m n=true↔_;simp
end
end Go.Xm
namespace Go.Xm
variable [aq]
noncomputable section
variable {α : Type}
def Np(c:XC)(f:Bool -> α)(d : α) : α := @XC.rec (fun _ => α) f (fun _ _=>d) (fun _ _=>d) (fun _ _ _=>d) (fun _=>d) d (fun _ _=>d) d (fun _ _ _ _=>d) d (fun _=>d) (fun _=>d) (fun _ _ _ _=>d) d d (fun _=>d) (fun _ _ _ _ _ _=>d) (fun _ _ _=>d) (fun _=>d) c
def SC(c:XC)(f:IntKind->Int -> α)(d : α) : α := @XC.rec (fun _ => α) (fun _=>d) f (fun _ _=>d) (fun _ _ _=>d) (fun _=>d) d (fun _ _=>d) d (fun _ _ _ _=>d) d (fun _=>d) (fun _=>d) (fun _ _ _ _=>d) d d (fun _=>d) (fun _ _ _ _ _ _=>d) (fun _ _ _=>d) (fun _=>d) c
def QN(c:XC)(f:Nat->Nat -> α)(d : α) : α := @XC.rec (fun _ => α) (fun _=>d) (fun _ _=>d) (fun _ _=>d) (fun _ _ _=>d) (fun _=>d) d f d (fun _ _ _ _=>d) d (fun _=>d) (fun _=>d) (fun _ _ _ _=>d) d d (fun _=>d) (fun _ _ _ _ _ _=>d) (fun _ _ _=>d) (fun _=>d) c
def TK(c:XC)(f:Nat->Nat->Nat->pr -> α)(d : α) : α := @XC.rec (fun _ => α) (fun _=>d) (fun _ _=>d) (fun _ _=>d) (fun _ _ _=>d) (fun _=>d) d (fun _ _=>d) d f d (fun _=>d) (fun _=>d) (fun _ _ _ _=>d) d d (fun _=>d) (fun _ _ _ _ _ _=>d) (fun _ _ _=>d) (fun _=>d) c
def GJ(v:XV)(f:XC -> α)(d : α) : α := @XV.rec (fun _ => α) d f (fun _=>d) (fun _=>d) v
def Bd(v:XV)(f:Bool -> α)(d : α) : α:=GJ v (fun c=>Np c f d) d
def GI(v:XV)(f:IntKind->Int -> α)(d : α) : α:=GJ v (fun c=>SC c f d) d
def GK(v:XV)(f:Nat->Nat -> α)(d : α) : α:=GJ v (fun c=>QN c f d) d
theorem vC(v:XV)(f:Bool -> α)(d : α):(∃b,v = .one (.bool b)/\Bd v f d=f b)\/((∀b,v ≠ .one (.bool b))/\Bd v f d=d):=by
 cases v with
 | one c=>cases c<;>first
   | exact .inl ⟨_,rfl,rfl⟩
   | exact .inr ⟨by simp,rfl⟩
 | _=>exact .inr ⟨by simp,rfl⟩
theorem xI(v:XV)(f:IntKind->Int -> α)(d : α):(∃k n,v = .one (.int k n)/\GI v f d=f k n)\/((∀k n,v ≠ .one (.int k n))/\GI v f d=d):=by
 cases v with
 | one c=>cases c<;>first
   | exact .inl ⟨_,_,rfl,rfl⟩
   | exact .inr ⟨by simp,rfl⟩
 | _=>exact .inr ⟨by simp,rfl⟩
theorem o5(v:XV)(f:Nat->Nat -> α)(d : α):(∃i o,v = .one (.ptr i o)/\GK v f d=f i o)\/((∀i o,v ≠ .one (.ptr i o))/\GK v f d=d):=by
 cases v with
 | one c=>cases c<;>first
   | exact .inl ⟨_,_,rfl,rfl⟩
   | exact .inr ⟨by simp,rfl⟩
 | _=>exact .inr ⟨by simp,rfl⟩
def yA(o:ak)(f:List XC->TypeId->Bool->Bool -> α)(d : α) : α := @ak.rec (fun _ => α) d f (fun _=>d) (fun _=>d) o
def cB{γ : Type}(x:Option γ)(f : γ->Option α):Option α := @Option.rec γ (fun _=>Option α) .none f x
theorem cI{γ : Type}(x:Option γ)(f : γ->Option α):cB x f=x.bind f:=by cases x<;>rfl
def P3(m:Mem)(i:Nat):G9:=sR G9.none m.t i
theorem EL(m:Mem)(i:Nat):P3 m i=m.f4 i:=mr _ _ _
def G0(m:Mem)(i:Nat):ak:=(P3 m i).obj
theorem EP(m:Mem)(i:Nat):G0 m i=m.get i:=by unfold G0 Mem.get;rw[EL]
def M_(m:Mem)(i:Nat)(o:ak):Mem:=iv (Nat.blt i m.n) (iv (Nat.blt i Mem.bound) ⟨m.n,pI G9.none 31 m.t i ⟨Nat.add (P3 m i).ver 1,o⟩⟩ m) m
theorem Na(m:Mem)(i:Nat)(o:ak):M_ m i o=m.put i o:=by
 unfold M_ Mem.put;rw[eD,eD,mu,EL];cases Nat.blt i m.n<;>cases Nat.blt i Mem.bound<;>rfl
def SQ(k:IntKind):Nat := @IntKind.rec (fun _=>Nat) 0 1 2 3 4 5 6 7 k
def ux(k k':IntKind):Bool:=Nat.beq (SQ k) (SQ k')
theorem LG(k k':IntKind):(ux k k'=true)=(k=k'):=by cases k<;>cases k'<;>simp[ux,SQ]
def S9(n:Int):Int := @Int.rec (fun _=>Int) (fun m=>iv (Nat.blt m 9223372036854775808) (Int.ofNat m) (IntKind.wrap .i64 (Int.ofNat m))) (fun m=>iv (Nat.blt m 9223372036854775808) (Int.negSucc m) (IntKind.wrap .i64 (Int.negSucc m))) n
def Uv(n:Int):Int := @Int.rec (fun _=>Int) (fun m=>Int.ofNat (Nat.mod m 256)) (fun m=>IntKind.wrap .u8 (Int.negSucc m)) n
def Uw(n:Int):Int := @Int.rec (fun _=>Int) (fun m=>Int.ofNat (Nat.mod m 18446744073709551616)) (fun m=>IntKind.wrap .u64 (Int.negSucc m)) n
def KO(k:IntKind):Int->Int := @IntKind.rec (fun _=>Int->Int) (IntKind.wrap .i8) (IntKind.wrap .i16) (IntKind.wrap .i32) S9 Uv (iW .u16) (iW .u32) Uw k
theorem KP(k:IntKind)(n:Int):KO k n=iW k n:=by
 cases k
 ·exact(cj .i8 n).symm
 ·exact(cj .i16 n).symm
 ·exact(cj .i32 n).symm
 ·cases n with
  | ofNat m=>show iv _ _ _=_;rw[eD];rfl
  | negSucc m=>show iv _ _ _=_;rw[eD];rfl
 ·cases n<;>rfl
 ·rfl
 ·rfl
 ·cases n<;>rfl
abbrev Ar:Type:=IntKind->IntKind->Int->Int->Option XC
def mD(op:BinOp):Ar:=fun k k' a b=>bE op k k' a b
def QC:Ar:=fun k k' a b=>iv (ux k k') (some (.int k (KO k (PZ a b)))) .none
def QJ:Ar:=fun k k' a b=>iv (ux k k') (some (.int k (KO k (P9 a b)))) .none
def QH:Ar:=fun k k' a b=>iv (ux k k') (some (.bool (RY a b))) .none
def QF:Ar:=fun k k' a b=>iv (ux k k') (some (.bool (RY b a))) .none
def QG:Ar:=fun k k' a b=>iv (ux k k') (some (.bool (Bool.not (RY b a)))) .none
def QE:Ar:=fun k k' a b=>iv (ux k k') (some (.bool (Bool.not (RY a b)))) .none
def QD:Ar:=fun k k' a b=>iv (ux k k') (some (.bool (P5 a b))) .none
def QI:Ar:=fun k k' a b=>iv (ux k k') (some (.bool (Bool.not (P5 a b)))) .none
def ar(op:BinOp):Ar := @BinOp.rec (fun _=>Ar) QC QJ (mD .mul) (mD .quo) (mD .rem) (mD .and) (mD .or) (mD .xor) (mD .shl) (mD .shr) (mD .andNot) QD QI QH QG QF QE op
theorem QK(op:BinOp)(k k':IntKind)(a b:Int):ar op k k' a b=bE op k k' a b:=by
 have h:∀x:XC,iv (ux k k') (some x) .none=dW k k' (some x):=fun x=>by
  rw[eD,dW];simp only[LG]
 cases op<;>first
  | rfl
  | (show iv _ _ _=_
     rw[h]
     simp only[bE,KP,EJ,Nb,P6,M9])
 all_goals first
  | rfl
  | (congr 3;rw[<-decide_not];congr 1;simp)
abbrev nG:Type:=dm->Program->T XV->Mem->Option Out
def dI(op:Op):nG:=fun O P r m=>dG O P (af (r.get .undef)) op m
def Dv(x:Operand):nG:=fun _ _ r m=>some ⟨lT x r,m,false,.none⟩
def Hm(c a b:Operand):nG:=fun O P r m=>Bd (lT c r) (fun t=>some ⟨@Bool.rec (fun _=>XV) (lT b r) (lT a r) t,m,false,.none⟩) (dI (.pick c a b) O P r m)
def N5(op:BinOp)(t:TypeId)(x y:Operand)(t':TypeId):nG:=fun O P r m=>
 GI (lT x r) (fun k a=>GI (lT y r) (fun k' b => @Option.rec XC (fun _=>Option Out) (dI (.binOp op t x y t') O P r m) (fun c=>some ⟨.one c,m,false,.none⟩) (ar op k k' a b)) (dI (.binOp op t x y t') O P r m)) (dI (.binOp op t x y t') O P r m)
theorem ic{O:dm}{P:Program}{ρ : Operand->XV}{op:Op}{m:Mem}{x:XV}(h:aZ P ρ op=some x):dG O P ρ op m=some ⟨x,m,false,.none⟩:=by
 unfold dG dJ;rw[h]
theorem Hl(x:Operand)(O:dm)(P:Program)(r:T XV)(m:Mem):Dv x O P r m=dG O P (af (r.get .undef)) (.move x) m:=by
 rw[ic (x:=af (r.get .undef) x) rfl];show some _=some _;rw[gm]
theorem BP(x:Operand)(O:dm)(P:Program)(r:T XV)(m:Mem):Dv x O P r m=dG O P (af (r.get .undef)) (.assign x) m:=by
 rw[ic (x:=af (r.get .undef) x) rfl];show some _=some _;rw[gm]
theorem Hn(c a b:Operand)(O:dm)(P:Program)(r:T XV)(m:Mem):Hm c a b O P r m=dG O P (af (r.get .undef)) (.pick c a b) m:=by
 unfold Hm
 rcases vC (lT c r) (fun t=>some (⟨@Bool.rec (fun _=>XV) (lT b r) (lT a r) t,m,false,.none⟩:Out)) (dI (.pick c a b) O P r m)with⟨t,h1,h2⟩|⟨h1,h2⟩
 ·rw[h2];rw[gm]at h1;rw[ic (x:=if t then af (r.get .undef) a else af (r.get .undef) b) (by simp only[aZ,h1])];rw[gm,gm];cases t<;>rfl
 ·rw[h2];rfl
theorem K7(op:BinOp)(t:TypeId)(x y:Operand)(t':TypeId)(O:dm)(P:Program)(r:T XV)(m:Mem):N5 op t x y t' O P r m=dG O P (af (r.get .undef)) (.binOp op t x y t') m:=by
 unfold N5
 rcases xI (lT x r) (fun k a=>GI (lT y r) (fun k' b => @Option.rec XC (fun _=>Option Out) (dI (.binOp op t x y t') O P r m) (fun c=>some (⟨.one c,m,false,.none⟩:Out)) (ar op k k' a b)) (dI (.binOp op t x y t') O P r m)) (dI (.binOp op t x y t') O P r m)with⟨k,a,h1,h2⟩|⟨h1,h2⟩
 ·rw[h2]
  rcases xI (lT y r) (fun k' b => @Option.rec XC (fun _=>Option Out) (dI (.binOp op t x y t') O P r m) (fun c=>some (⟨.one c,m,false,.none⟩:Out)) (ar op k k' a b)) (dI (.binOp op t x y t') O P r m)with⟨k',b,h3,h4⟩|⟨h3,h4⟩
  ·rw[h4,QK];rw[gm]at h1 h3
   cases hb:bE op k k' a b with
   | some c=>rw[ic (x := .one c) (by simp only[aZ,s5,h1,h3,hb,Option.map_some])]
   | none=>rfl
  ·rw[h4];rfl
 ·rw[h2];rfl
end
end Go.Xm
namespace Go.Xm
variable [aq]
noncomputable section
def tK(P:Program)(t:TypeId)(vs:List XC)(off:Nat):Option X1:=
 cB (fM P t) fun b => @Bool.rec (fun _=>Option X1)
  (cB (Bv vs off) fun c=>some (.one c))
  (cB (bT P t) fun s=>iv (Nat.ble (Nat.add off s) (s9 vs)) (some (.agg (BA s (Bu off vs)))) .none) b
theorem Dj(P:Program)(t:TypeId)(vs:List XC)(off:Nat):tK P t vs off=dC P t vs off:=by
 unfold tK dC
 cases h:fM P t with
 | none=>rfl
 | some b=>
   cases b
   ·show cB (Bv vs off) _=_;rw[rr,cI];cases vs[off]?<;>rfl
   ·show cB (bT P t) _=_
    cases bT P t with
    | none=>rfl
    | some s=>
      show iv _ _ _=_;rw[eD,pf,vZ,vV];simp only[Nat.ble_eq];rfl
def MR(x:X1):XV := @X1.rec (fun _=>XV) .one .agg x
theorem Ew(x:X1):MR x=x.p6:=by cases x<;>rfl
def Hj(t:TypeId)(a:Operand):nG:=fun O P r m=>
 GK (lT a r) (fun i off=>yA (G0 m i) (fun vs _ _ _=>cB (tK P t vs off) fun x=>some ⟨MR x,m,false,some i⟩) .none) (dG O P (af (r.get .undef)) (.load t a) m)
theorem Hk(t:TypeId)(a:Operand)(O:dm)(P:Program)(r:T XV)(m:Mem):Hj t a O P r m=dG O P (af (r.get .undef)) (.load t a) m:=by
 unfold Hj
 rcases o5 (lT a r) (fun i off=>yA (G0 m i) (fun vs _ _ _=>cB (tK P t vs off) fun x=>some (⟨MR x,m,false,some i⟩:Out)) .none) (dG O P (af (r.get .undef)) (.load t a) m)with⟨i,off,h1,h2⟩|⟨h1,h2⟩
 ·rw[h2];rw[gm]at h1;simp only[dG,dJ,qf,aZ,eX,h1];rw[EP]
  cases hg:m.get i with
  | dead=>rfl
  | map es=>rfl
  | late L=>rfl
  | cells vs e opn ro=>
    show cB _ _=_;rw[Dj,cI]
    cases hq:dC P t vs off with
    | none=>simp only[hq,Option.map_none,Option.bind_none]
    | some x=>simp only[hq,Option.map_some,Option.bind_some,Ew]
 ·rw[h2]
def CZ(v:XV)(f:List XC->Option Out):Option Out := @XV.rec (fun _=>Option Out) .none (fun c=>f [c]) f (fun _ => .none) v
theorem GH(v:XV)(f:List XC->Option Out):CZ v f=cB (cQ v) f:=by cases v<;>rfl
def zj(vs:List XC)(off:Nat)(cs:List XC):List XC:=
 @List.rec XC (fun _=>List XC) vs (fun c t _ => @List.rec XC (fun _=>List XC) (EN vs off c) (fun _ _ _=>GX (BA off vs) (GX cs (Bu (Nat.add off (s9 cs)) vs))) t) cs
theorem Dm(vs:List XC)(off:Nat)(cs:List XC)(h:off+cs.length<=vs.length):zj vs off cs=vs.take off++cs++vs.drop (off+cs.length):=by
 cases cs with
 | nil=>show vs=_;simp
 | cons c t=>
   cases t with
   | nil=>
     show EN vs off c=_;rw[Bx];simp only[List.length_cons,List.length_nil]at h ⊢;rw[List.set_eq_take_append_cons_drop,if_pos (by omega)];simp
   | cons c' t=>
     show GX (BA off vs) (GX (c::c'::t) (Bu (Nat.add off (s9 (c::c'::t))) vs))=_;rw[zf,zf,vZ,vV,pf,List.append_assoc];rfl
def BR(t:TypeId)(a x:Operand):nG:=fun _ P r m=>
 GK (lT a r) (fun i off=>CZ (lT x r) fun cs=>cB (bT P t) fun s=>iv (Nat.beq (s9 cs) s)
  (yA (G0 m i) (fun vs e opn ro => @Bool.rec (fun _=>Option Out)
    (iv (Nat.ble (Nat.add off (s9 cs)) (s9 vs)) (some ⟨.tup [],M_ m i (.cells (zj vs off cs) e opn false),true,.none⟩) .none) .none ro) .none) .none) .none
theorem E0(t : TypeId)(a x:Operand)(O:dm)(P:Program)(r:T XV)(m:Mem):BR t a x O P r m=dG O P (af (r.get .undef)) (.store t a x) m:=by
 have hx:dG O P (af (r.get .undef)) (.store t a x) m=(kX P t (af (r.get .undef) a) (af (r.get .undef) x) m).bind fun p=>some ⟨p.1,p.2,true,.none⟩:=by
  simp only[dG,dJ,qf,aZ,eX,cf,c6]
  cases kX P t (af (r.get .undef) a) (af (r.get .undef) x) m with
  | none=>rfl
  | some p=>rfl
 rw[hx];unfold BR;rw[<-gm a,<-gm x]
 rcases o5 (lT a r) (fun i off=>CZ (lT x r) fun cs=>cB (bT P t) fun s=>iv (Nat.beq (s9 cs) s)
  (yA (G0 m i) (fun vs e opn ro => @Bool.rec (fun _=>Option Out)
    (iv (Nat.ble (Nat.add off (s9 cs)) (s9 vs)) (some ⟨.tup [],M_ m i (.cells (zj vs off cs) e opn false),true,.none⟩) .none) .none ro) .none) .none) .none with⟨i,off,h1,h2⟩|⟨h1,h2⟩
 ·rw [h2, h1, GH,cI];unfold kX
  cases hc:cQ (lT x r)with
  | none=>rfl
  | some cs =>
    show cB (bT P t) _=_
    cases hs:bT P t with
    | none=>rfl
    | some s =>
      show iv _ _ _=_;rw[eD,pf];simp only[Nat.beq_eq]
      by_cases hl:cs.length=s
      ·rw [if_pos hl,if_pos hl,EP]
       cases hg:m.get i with
       | dead=>rfl
       | map es=>rfl
       | late L=>rfl
       | cells vs e opn ro=>
         cases ro
         ·show iv _ _ _=_;rw[eD,pf];simp only[Nat.ble_eq]
          by_cases hf:off+cs.length<=vs.length
          ·rw[if_pos hf,if_pos (show Nat.add off cs.length<=vs.length from hf)];rw[Dm vs off cs hf,Na];rfl
          ·rw[if_neg hf,if_neg (show¬Nat.add off cs.length<=vs.length from hf)];rfl
         ·rfl
      ·rw[if_neg hl,if_neg hl];rfl
 ·rw[h2]
  have:kX P t (lT a r) (lT x r) m = .none:=by
   unfold kX;split
   ·rename_i i off cs s h _ _;exact absurd h (h1 i off)
   ·rfl
  rw[this];rfl
def PB(P:Program)(t:TypeId):Option (Nat×Nat):=match P.underlying t with
 | some (.array len e)=>match bT P e with
   | some s=>some (len,s)
   | .none => .none
 | _ => .none
def S7(P:Program)(t:TypeId):Option Nat:=match P.underlying t with
 | some (.slice e)=>bT P e
 | _ => .none
def CW(P:Program)(s:TypeId)(f:Nat):Option Nat:=match iO P s f with
 | some fd=>match bT P fd.type with
   | some (_+1)=>some fd.offset
   | _ => .none
 | .none => .none
def SS(j:Int)(n:Nat)(f:Nat->Option Out):Option Out := @Int.rec (fun _=>Option Out) (fun k=>iv (Nat.blt k n) (f k) .none) (fun _ => .none) j
theorem Ih(j:Int)(n:Nat)(f:Nat->Option Out):SS j n f=if 0<=j/\j<n then f j.toNat else .none:=by
 cases j with
 | ofNat k=>
   show iv (Nat.blt k n) (f k) .none=_;rw[eD];simp only[Nat.blt_eq]
   by_cases h:k<n
   ·rw[if_pos h,if_pos ⟨Int.natCast_nonneg k,by exact Int.ofNat_lt.2 h⟩];rfl
   ·rw[if_neg h,if_neg (fun h'=>h (Int.ofNat_lt.1 h'.2))]
 | negSucc k=>
   show Option.none=_;rw[if_neg (by omega)]
def pM(t:TypeId)(x ix:Operand):nG:=fun _ P r m=>
 GI (lT ix r) (fun _ j=>GJ (lT x r) (fun c=>
  QN c (fun i o=>cB (PB P t) fun p=>SS j p.1 fun k=>some ⟨.one (.ptr i (Nat.add o (Nat.mul k p.2))),m,false,.none⟩)
   (TK c (fun i o len _=>cB (S7 P t) fun s=>SS j len fun k=>some ⟨.one (.ptr i (Nat.add o (Nat.mul k s))),m,false,.none⟩) ((b_ P t (.one c) (lT ix r)).bind fun v=>some ⟨v,m,false,.none⟩))) .none) .none
theorem GQ{O:dm}{P:Program}{ρ : Operand->XV}{t:TypeId}{x i:Operand}{m:Mem}(h:b_ P t (ρ x) (ρ i) = .none):dG O P ρ (.indexAddr t x i) m = .none:=by
 simp only[dG,dJ,qf,aZ,h,eX,cf,c6]
theorem we(t : TypeId)(x ix:Operand)(O:dm)(P:Program)(r:T XV)(m:Mem):pM t x ix O P r m=dG O P (af (r.get .undef)) (.indexAddr t x ix) m:=by
 have hx:dG O P (af (r.get .undef)) (.indexAddr t x ix) m=(b_ P t (af (r.get .undef) x) (af (r.get .undef) ix)).bind fun v=>some ⟨v,m,false,.none⟩:=by
  cases h:b_ P t (af (r.get .undef) x) (af (r.get .undef) ix)with
  | none=>exact GQ h
  | some v=>exact ic h
 rw[hx];unfold pM;rw[<-gm x,<-gm ix];generalize lT x r=vx;generalize lT ix r=vi
 cases vi with
 | one ci =>
   cases ci with
   | int k j =>
     show GJ vx _ _=_
     cases vx with
     | one c =>
       cases c with
       | ptr i o =>
         show cB (PB P t) _=_;rw[cI];unfold PB b_
         cases hu:P.underlying t with
         | none=>rfl
         | some d =>
           cases d<;>first
            | rfl
            | (rename_i len e
               cases hs:bT P e with
               | none=>
                 simp only[hs];split<;>rfl
               | some s=>
                 simp only[hs,Option.bind_some,Ih]
                 split<;>rfl)
       | slice i o len cap=>
         show cB (S7 P t) _=_;rw[cI];unfold S7 b_
         cases hu:P.underlying t with
         | none=>rfl
         | some d =>
           cases d<;>first
            | rfl
            | (rename_i e
               cases hs:bT P e with
               | none=>
                 simp only[hs];split<;>rfl
               | some s=>
                 simp only[hs,Option.bind_some,Ih]
                 split<;>rfl)
       | _=>rfl
     | _=>
       show Option.none=_;unfold b_
       cases hu:P.underlying t with
       | none=>rfl
       | some d=>cases d<;>rfl
   | _=>
     show Option.none=_;unfold b_
     cases hu:P.underlying t with
     | none=>rfl
     | some d=>cases d<;>(cases vx<;>first|rfl|(rename_i c;cases c<;>rfl))
 | _=>
   show Option.none=_;unfold b_
   cases hu:P.underlying t with
   | none=>rfl
   | some d=>cases d<;>(cases vx<;>first|rfl|(rename_i c;cases c<;>rfl))
def pL(s:TypeId)(x:Operand)(f:Nat):nG:=fun _ P r m=>
 GK (lT x r) (fun i o=>cB (CW P s f) fun k=>some ⟨.one (.ptr i (Nat.add o k)),m,false,.none⟩) ((fw P s (lT x r) f).bind fun v=>some ⟨v,m,false,.none⟩)
theorem wb(s:TypeId)(x:Operand)(f:Nat)(O:dm)(P:Program)(r:T XV)(m:Mem):pL s x f O P r m=dG O P (af (r.get .undef)) (.fieldAddr s x f) m:=by
 have hx:dG O P (af (r.get .undef)) (.fieldAddr s x f) m=(fw P s (af (r.get .undef) x) f).bind fun v=>some ⟨v,m,false,.none⟩:=by
  cases h:fw P s (af (r.get .undef) x) f with
  | none=>simp only[dG,dJ,qf,aZ,h,eX,cf,c6];rfl
  | some v=>exact ic h
 rw[hx];unfold pL;rw[<-gm x]
 rcases o5 (lT x r) (fun i o=>cB (CW P s f) fun k=>some (⟨.one (.ptr i (Nat.add o k)),m,false,.none⟩:Out)) ((fw P s (lT x r) f).bind fun v=>some ⟨v,m,false,.none⟩)with⟨i,o,h1,h2⟩|⟨h1,h2⟩
 ·rw [h2,h1,cI];unfold CW fw
  cases iO P s f with
  | none=>rfl
  | some fd=>
    simp only[];split
    ·rename_i k hk;rw[hk];rfl
    ·rename_i hk;split
     ·rename_i k hk';exact(hk _ hk').elim
     ·rfl
 ·rw[h2]
def tQ(x:Operand)(i:Nat):nG:=fun _ _ r m=>
 @XV.rec (fun _=>Option Out) .none (fun _ => .none) (fun _ => .none) (fun vs=>cB (Bv vs i) fun y=>some ⟨MR y,m,false,.none⟩) (lT x r)
theorem zu(x:Operand)(i:Nat)(O:dm)(P:Program)(r:T XV)(m:Mem):tQ x i O P r m=dG O P (af (r.get .undef)) (.extract x i) m:=by
 have hx:dG O P (af (r.get .undef)) (.extract x i) m=(jE (af (r.get .undef) x) i).bind fun v=>some ⟨v,m,false,.none⟩:=by
  cases h:jE (af (r.get .undef) x) i with
  | none=>simp only[dG,dJ,qf,aZ,h,eX,cf,c6];rfl
  | some v=>exact ic h
 rw[hx];unfold tQ;rw[<-gm x]
 cases lT x r with
 | tup vs=>
   show cB (Bv vs i) _=_;rw[cI,rr];unfold jE
   cases hq:vs[i]? with
   | none=>simp only[hq,Option.map_none,Option.bind_none]
   | some y=>simp only[hq,Option.map_some,Option.bind_some,Ew]
 | _=>rfl
def Dk(l:List Operand)(r:T XV)(tl:List XV):List XV := @List.rec Operand (fun _=>List XV) tl (fun x _ ih=>lT x r::ih) l
theorem xT(r:T XV)(tl:List XV):∀l:List Operand,Dk l r tl=l.map (af (r.get .undef))++tl
 | []=>rfl
 | x::l=>by show lT x r::Dk l r tl=_;rw[xT r tl l,gm];rfl
def Hh(g:Operand)(args:Array Operand)(_:Array TypeId):nG:=fun O P r m=>
 GJ (lT g r) (fun c=>cB (zo c) fun p=>iv (eV P p.1) (cB (O.call p.1 (Dk args.toList r (p.2.map .one)) m) fun q=>some ⟨q.1,q.2,true,.none⟩) .none) .none
theorem Hi(g:Operand)(args:Array Operand)(ts:Array TypeId)(O:dm)(P:Program)(r:T XV)(m:Mem):Hh g args ts O P r m=dG O P (af (r.get .undef)) (.call ⟨.value g,args,ts⟩) m:=by
 have hx:dG O P (af (r.get .undef)) (.call ⟨.value g,args,ts⟩) m=(c6 O P (af (r.get .undef)) (.call ⟨.value g,args,ts⟩) m).bind fun p=>some ⟨p.1,p.2,true,.none⟩:=by
  simp only[dG,dJ,qf,aZ,eX,cf];cases c6 O P (af (r.get .undef)) (.call ⟨.value g,args,ts⟩) m<;>rfl
 rw[hx];unfold Hh;simp only[c6];rw[<-gm g]
 cases lT g r with
 | one c=>
   show cB (zo c) _=_;rw[cI];simp only[]
   cases zo c with
   | none=>rfl
   | some p=>
     obtain⟨f,caps⟩:=p;show iv _ _ _=_;rw[eD,cI,xT];simp only[]
     by_cases hc:eV P f=true
     ·rw[if_pos hc,if_pos hc]
     ·rw[if_neg hc,if_neg hc];rfl
 | _=>rfl
end
end Go.Xm
namespace Go.Xm
variable [aq]
noncomputable section
def rD(x:Operand):nG:=fun O P r m=>GK (lT x r) (fun i o=>some ⟨.one (.ptr i o),m,false,.none⟩) (dI (.nilCheck x) O P r m)
theorem x5(x:Operand)(O:dm)(P:Program)(r:T XV)(m:Mem):rD x O P r m=dG O P (af (r.get .undef)) (.nilCheck x) m:=by
 unfold rD
 rcases o5 (lT x r) (fun i o=>some (⟨.one (.ptr i o),m,false,.none⟩:Out)) (dI (.nilCheck x) O P r m)with⟨i,o,h1,h2⟩|⟨h1,h2⟩
 ·rw[h2];rw[gm]at h1;rw[ic (x := .one (.ptr i o)) (by simp only[aZ,mo,h1])]
 ·rw[h2];rfl
def K8(c:Callee):Array Operand->Array TypeId->nG:=
 @Callee.rec (fun _=>Array Operand->Array TypeId->nG) Hh (fun rv nm args ts=>dI (.call ⟨.invoke rv nm,args,ts⟩)) (fun b args ts=>dI (.call ⟨.builtin b,args,ts⟩)) c
def Du(c:Call):nG := @Call.rec (fun _=>nG) K8 c
theorem BQ(c:Call)(O:dm)(P:Program)(r:T XV)(m:Mem):Du c O P r m=dG O P (af (r.get .undef)) (.call c) m:=by
 obtain⟨f,args,ts⟩:=c
 cases f with
 | value g=>exact Hi g args ts O P r m
 | invoke rv nm=>rfl
 | builtin b=>rfl
def PY(op:Op):nG:=
 @Op.rec (fun _=>nG) Dv Dv Hm (fun a=>dI (.alloc a)) (fun a b=>dI (.box a b)) (fun a b=>dI (.build a b)) (fun a b c=>dI (.buildSlice a b c)) (fun a b c d=>dI (.insert a b c d)) Hj BR
  (fun a=>dI (.ready a)) (fun a=>dI (.waits a)) rD N5 (fun a b c=>dI (.unOp a b c)) (fun a b c=>dI (.convert a b c)) (fun a b=>dI (.sliceToArrayPointer a b)) (fun a b=>dI (.makeInterface a b))
  (fun a b c=>dI (.makeFunc a b c)) (fun a b=>dI (.makeMap a b)) (fun a b=>dI (.makeChan a b)) (fun a b c=>dI (.makeSlice a b c)) (fun a b c d e=>dI (.slice a b c d e)) pL (fun a b c=>dI (.field a b c)) pM
  (fun a b c=>dI (.index a b c)) (fun a b c d=>dI (.lookup a b c d)) (fun a b c d=>dI (.mapUpdate a b c d)) (fun a b c=>dI (.mapEntry a b c)) (fun a b c d=>dI (.entryStore a b c d)) (fun a b=>dI (.range a b)) (fun a b=>dI (.next a b))
  (fun a=>dI (.entry a)) (fun a b c d=>dI (.typeAssert a b c d)) tQ Du (fun a=>dI (.go a)) (fun a=>dI (.defer a)) (fun a=>dI (.panic a)) (fun a b=>dI (.send a b)) (fun a b c=>dI (.recv a b c)) (fun a b=>dI (.select a b)) op
theorem M7(op:Op)(O:dm)(P:Program)(r:T XV)(m:Mem):PY op O P r m=dG O P (af (r.get .undef)) op m:=by
 cases op with
 | move x=>exact Hl x O P r m
 | assign x=>exact BP x O P r m
 | pick c a b=>exact Hn c a b O P r m
 | load t a=>exact Hk t a O P r m
 | store t a x=>exact E0 t a x O P r m
 | nilCheck x=>exact x5 x O P r m
 | binOp op t x y t'=>exact K7 op t x y t' O P r m
 | fieldAddr s x f=>exact wb s x f O P r m
 | indexAddr t x i=>exact we t x i O P r m
 | extract x i=>exact zu x i O P r m
 | call c=>exact BQ c O P r m
 | _=>rfl
def xU(ops:List Oper)(g:Nat×Bool)(r:T XV):Option Bool:=
 cB (Bv ops g.1) fun o => @Option.rec Nat (fun _=>Option Bool) (some false) (fun t => @XV.rec (fun _=>Option Bool) .none (fun c=>Np c (fun b=>some (b==g.2)) .none) (fun _=>some false) (fun _=>some false) (sR .undef r t)) o.dst
def tL(ops:List Oper)(r:T XV)(o:Oper):Option Bool := @Option.rec (Nat×Bool) (fun _=>Option Bool) (some true) (fun g=>xU ops g r) o.guard
theorem BB{ops:Array Oper}{r:T XV}{o:Oper}{b:Bool}(h:tL ops.toList r o=some b):aw ops (r.get .undef) o=some b:=by
 unfold tL at h;unfold aw
 cases hg:o.guard with
 | none=>rw[hg]at h;exact h
 | some g =>
   obtain⟨j,want⟩:=g;rw[hg]at h;simp only[xU,rr,cI,Array.getElem?_toList]at h;simp only[]
   cases ho:ops[j]? with
   | none=>rw[ho]at h;cases h
   | some oj=>
     rw[ho]at h;simp only[Option.bind_some]at h ⊢
     cases hd:oj.dst with
     | none=>rw[hd]at h;exact h
     | some t=>
       rw[hd]at h;simp only[mr]at h ⊢
       cases hx:r.get .undef t with
       | undef=>rw[hx]at h;cases h
       | agg cs=>rw[hx]at h;exact h
       | tup vs=>rw[hx]at h;exact h
       | one c=>
         rw[hx]at h
         cases c<;>first
          | (cases h;done)
          | exact h
def KH(O:dm)(P:Program)(ops:List Oper)(r:T XV)(o:Oper)(m:Mem):Option Out:=
 cB (tL ops r o) fun b => @Bool.rec (fun _=>Option Out) (some ⟨.tup [],m,false,.none⟩) (PY o.op O P r m) b
structure nN(O O':dm):Prop where
 call:∀f args m x,O.call f args m=some x->O'.call f args m=some x
 op:O.op=O'.op
theorem M5{O O':dm}(h:nN O O'){P:Program}{ρ : Operand->XV}{op:Op}{m:Mem}{d:Out}(hx:dG O P ρ op m=some d):dG O' P ρ op m=some d:=by
 have hpo:dJ O P ρ op=dJ O' P ρ op:=by
  unfold dJ qf;rw[h.op]
 unfold dG at hx ⊢;rw[hpo]at hx;split at hx
 ·exact hx
 ·split at hx
  ·exact hx
  ·split at hx
   ·exact hx
   ·have hc:∀x m',c6 O P ρ op m=some (x,m')->c6 O' P ρ op m=some (x,m'):=by
     intro x m' hh;unfold c6 at hh ⊢
     (repeat' split at hh)<;>first
       | (cases hh;done)
       | (simp only[*]at *;first|exact h.call _ _ _ _ hh|(simp_all [h.call _ _ _ _ hh];done))
    split at hx
    ·rename_i x m' hh;rw[hc x m' hh];exact hx
    ·cases hx
theorem zg{O O':dm}(hO:nN O O'){P:Program}{ops:Array Oper}{r:T XV}{o:Oper}{m:Mem}{d:Out}(h:KH O P ops.toList r o m=some d):ji O' P ops (r.get .undef) o m=some d:=by
 unfold KH at h;unfold ji;rw[cI]at h
 cases hw:tL ops.toList r o with
 | none=>rw[hw]at h;cases h
 | some b=>
   rw[hw]at h;rw[BB hw];cases b
   ·exact h
   ·simp only[Option.bind_some]at h;have h':PY o.op O P r m=some d:=h;rw[M7]at h';exact M5 hO h'
def FJ(d:Out):Mem := @Out.rec (fun _=>Mem) (fun _ m _ _=>m) d
def At(d:Out):XV := @Out.rec (fun _=>XV) (fun x _ _ _=>x) d
def EM(O:dm)(P:Program)(ops:List Oper)(nt:Nat)(l:List Oper):T XV->Mem->(T XV->Mem->Option XR)->Option XR:=
 @List.rec Oper (fun _=>T XV->Mem->(T XV->Mem->Option XR)->Option XR) (fun r m k=>k r m) (fun o _ ih r m k=>cB (KH O P ops r o m) fun d=>ih (Dl o.dst nt r (At d)) (FJ d) k) l
theorem xS{O O':dm}(hO:nN O O'){P:Program}{ops:Array Oper}{nt:Nat}{k:T XV->Mem->Option XR}{x:XR}:∀{l:List Oper} {r:T XV} {m:Mem},EM O P ops.toList nt l r m k=some x->∃r' m',pG O' P ops nt l r m=some (r',m')/\k r' m'=some x
 | [],r,m,h=>⟨r,m,rfl,h⟩
 | o :: l,r,m,h=>by
   have h':cB (KH O P ops.toList r o m) (fun d=>EM O P ops.toList nt l (Dl o.dst nt r (At d)) (FJ d) k)=some x:=h;rw[cI]at h'
   cases hd:KH O P ops.toList r o m with
   | none=>rw[hd]at h';cases h'
   | some d=>
     rw[hd]at h';simp only[Option.bind_some,zi]at h';obtain⟨r',m',h1,h2⟩:=xS hO h';refine⟨r',m',?_,h2⟩;unfold pG;rw[zg hO hd];exact h1
def v5(O:dm)(P:Program)(ops:List Oper)(nt:Nat)(l:List Oper):T XV->Mem->Option (List (Mem×Out)×T XV×Mem):=
 @List.rec Oper (fun _=>T XV->Mem->Option (List (Mem×Out)×T XV×Mem)) (fun r m=>some ([],r,m)) (fun o _ ih r m=>cB (KH O P ops r o m) fun d=>cB (ih (Dl o.dst nt r (At d)) (FJ d)) fun q=>some ((m,d)::q.1,q.2)) l
theorem v7{O O':dm}(hO:nN O O'){P:Program}{ops:Array Oper}{nt:Nat}:∀{l:List Oper} {r:T XV} {m:Mem} {q:List (Mem×Out)×T XV×Mem},v5 O P ops.toList nt l r m=some q->jc O' P ops nt l r m=some q
 | [],r,m,q,h=>h
 | o :: l,r,m,q,h=>by
   have h':cB (KH O P ops.toList r o m) (fun d=>cB (v5 O P ops.toList nt l (Dl o.dst nt r (At d)) (FJ d)) fun q=>some ((m,d)::q.1,q.2))=some q:=h;rw[cI]at h'
   cases hd:KH O P ops.toList r o m with
   | none=>rw[hd]at h';cases h'
   | some d=>
     rw[hd]at h';simp only[Option.bind_some,zi,cI]at h'
     cases ht:v5 O P ops.toList nt l (nE nt r o.dst (At d)) (FJ d)with
     | none=>rw[ht]at h';cases h'
     | some q'=>
       rw[ht]at h';obtain⟨a,b,c⟩:=q';simp only[Option.bind_some,Option.some.injEq]at h';subst h';unfold jc;rw[zg hO hd];have e:At d=d.x:=rfl;have e2:FJ d=d.m:=rfl;rw[e,e2]at ht;simp only[v7 hO ht]
def vW(tr:List (Mem×Out)):Nat->List (Nat×Mem×Out):=
 @List.rec (Mem×Out) (fun _=>Nat->List (Nat×Mem×Out)) (fun _=>[]) (fun p _ ih i=>iv p.2.eff ((i,p)::ih (Nat.add i 1)) (ih (Nat.add i 1))) tr
theorem xR:∀(tr:List (Mem×Out)) (k e:Nat) (p:Mem×Out),tr[e]? = some p->p.2.eff=true->(k+e,p)∈vW tr k
 | [],k,e,p,h,_=>by simp at h
 | q::tr,k,0,p,h,hp=>by
   simp only[List.getElem?_cons_zero,Option.some.injEq]at h;subst h;show(k+0,q)∈iv q.2.eff ((k,q)::vW tr (Nat.add k 1)) (vW tr (Nat.add k 1));rw[hp];exact List.mem_cons_self ..
 | q::tr,k,e+1,p,h,hp=>by
   simp only[List.getElem?_cons_succ]at h;have:=xR tr (k+1) e p h hp;rw[show k+1+e=k+(e+1) by omega]at this;show(k+(e+1),p)∈iv q.2.eff ((k,q)::vW tr (Nat.add k 1)) (vW tr (Nat.add k 1));cases q.2.eff
   ·exact this
   ·exact List.mem_cons_of_mem _ this
def ze{γ : Type}(l:List γ)(f : γ->Bool):Bool := @List.rec γ (fun _=>Bool) true (fun a _ ih=>iv (f a) ih false) l
theorem Bt{γ : Type}:∀(l:List γ) (f : γ->Bool),ze l f=true->∀a∈l,f a=true
 | [],f,_,a,ha=>by cases ha
 | b :: l,f,h,a,ha=>by
   have h':iv (f b) (ze l f) false=true:=h;rw[eD]at h';split at h'
   ·rename_i hb
    rcases List.mem_cons.1 ha with rfl|ha
    ·exact hb
    ·exact Bt l f h' a ha
   ·cases h'
def P2(bs:List Nat)(tr:List (Mem×Out)):Bool:=
 @List.rec (Nat×Mem×Out) (fun _=>Bool) true (fun e0 es _=>
  @List.rec (Mem×Out) (fun _=>Nat->Bool) (fun _=>true) (fun p _ ih i=>iv (iv p.2.eff true (@Option.rec Nat (fun _=>Bool) false (fun _=>true) p.2.fp)) (iv (ze (e0::es) fun e=>iE bs i p.2 e.1 e.2.1 e.2.2) (ih (Nat.add i 1)) false) (ih (Nat.add i 1))) tr 0) (vW tr 0)
theorem KI{bs : List Nat}{tr:List (Mem×Out)}(h:P2 bs tr=true):jq bs tr=true:=by
 have main : ∀ i di e me de,tr[i]? = some di->tr[e]? = some (me,de)->de.eff=true->(di.2.eff=true\/di.2.fp.isSome=true)->iE bs i di.2 e me de=true:=by
  intro i di e me de hi he hee hd;have hmem:=xR tr 0 e (me,de) he hee;rw[Nat.zero_add]at hmem;unfold P2 at h
  cases hes:vW tr 0 with
  | nil=>rw[hes]at hmem;cases hmem
  | cons e0 es =>
    rw[hes]at h hmem
    have key : ∀(l:List (Mem×Out)) (k i:Nat) (p:Mem×Out),(@List.rec (Mem×Out) (fun _=>Nat->Bool) (fun _=>true) (fun p _ ih i=>iv (iv p.2.eff true (@Option.rec Nat (fun _=>Bool) false (fun _=>true) p.2.fp)) (iv (ze (e0::es) fun e=>iE bs i p.2 e.1 e.2.1 e.2.2) (ih (Nat.add i 1)) false) (ih (Nat.add i 1))) l k)=true ->
     l[i]? = some p->(p.2.eff=true\/p.2.fp.isSome=true)->(ze (e0::es) fun e=>iE bs (k+i) p.2 e.1 e.2.1 e.2.2)=true:=by
     intro l
     induction l with
     | nil=>intro k i p _ hi;simp at hi
     | cons q l ih=>
       intro k i p hh hi hp;have hh':iv (iv q.2.eff true (@Option.rec Nat (fun _=>Bool) false (fun _=>true) q.2.fp)) (iv (ze (e0::es) fun e=>iE bs k q.2 e.1 e.2.1 e.2.2) (@List.rec (Mem×Out) (fun _=>Nat->Bool) (fun _=>true) (fun p _ ih i=>iv (iv p.2.eff true (@Option.rec Nat (fun _=>Bool) false (fun _=>true) p.2.fp)) (iv (ze (e0::es) fun e=>iE bs i p.2 e.1 e.2.1 e.2.2) (ih (Nat.add i 1)) false) (ih (Nat.add i 1))) l (Nat.add k 1)) false) (@List.rec (Mem×Out) (fun _=>Nat->Bool) (fun _=>true) (fun p _ ih i=>iv (iv p.2.eff true (@Option.rec Nat (fun _=>Bool) false (fun _=>true) p.2.fp)) (iv (ze (e0::es) fun e=>iE bs i p.2 e.1 e.2.1 e.2.2) (ih (Nat.add i 1)) false) (ih (Nat.add i 1))) l (Nat.add k 1))=true:=hh
       cases i with
       | zero =>
         simp only[List.getElem?_cons_zero,Option.some.injEq]at hi;subst hi
         have hc:iv q.2.eff true (@Option.rec Nat (fun _=>Bool) false (fun _=>true) q.2.fp)=true:=by
          rw[eD]
          rcases hp with hp|hp
          ·simp[hp]
          ·split
           ·rfl
           ·cases hf:q.2.fp with
            | none=>rw[hf]at hp;cases hp
            | some fp=>rfl
         rw[hc]at hh';have hh2:iv (ze (e0::es) fun e=>iE bs k q.2 e.1 e.2.1 e.2.2) _ false=true:=hh';rw[eD]at hh2;split at hh2
         ·rename_i ha;exact ha
         ·cases hh2
       | succ i=>
         simp only[List.getElem?_cons_succ]at hi
         have:=ih (k+1) i p (by
          rw[eD]at hh';split at hh'
          ·rw[eD]at hh';split at hh'
           ·exact hh'
           ·cases hh'
          ·exact hh') hi hp
         rw[show k+1+i=k+(i+1) by omega]at this;exact this
    have:=Bt _ _ (key tr 0 i di h hi hd) _ hmem;rw[Nat.zero_add]at this;exact this
 unfold jq;rw[List.all_eq_true];intro i hi;split
 ·rfl
 ·rename_i mi di hdi
  by_cases hq:((!di.eff&&di.fp.isNone)=true)
  ·rw[hq];rfl
  ·simp only [Bool.or_eq_true];refine .inr (List.all_eq_true.2 fun e he=>?_);split
   ·rfl
   ·rename_i me de hde;cases hee:de.eff
    ·simp[iE,hee]
    ·refine main i (mi,di) e me de hdi hde hee ?_;simp only[Bool.and_eq_true,Bool.not_eq_true',Option.isNone_iff_eq_none,not_and]at hq;cases h1:di.eff
     ·right
      cases h2:di.fp with
      | none=>exact absurd h2 (hq h1)
      | some fp=>rfl
     ·exact .inl rfl
end
end Go.Xm
namespace Go.Xm
variable [aq]
noncomputable section
def zk(O:dm)(P:Program)(ops:List Oper)(nt:Nat)(bs:List Nat)(n0:Nat)(l:List Oper):Nat->List (Nat×Nat)->T XV->Mem->(T XV->Mem->Option XR)->Option XR:=
 @List.rec Oper (fun _=>Nat->List (Nat×Nat)->T XV->Mem->(T XV->Mem->Option XR)->Option XR) (fun _ _ r m k=>k r m) (fun o _ ih e made r m k=>cB (KH O P ops r o (eo bs made e m)) fun d=>cB (sm bs n0 e m (eo bs made e m) made d) fun q=>ih (Nat.add e 1) q.2 (Dl o.dst nt r (At d)) q.1 k) l
theorem sS{O O':dm}(hO:nN O O'){P:Program}{ops:Array Oper}{nt:Nat}{bs:List Nat}{n0:Nat}{k:T XV->Mem->Option XR}{x:XR}:∀{l:List Oper} {e:Nat} {made:List (Nat×Nat)} {r:T XV} {m:Mem},zk O P ops.toList nt bs n0 l e made r m k=some x->∃r' m',jk O' P ops nt bs n0 l e made r m=some (r',m')/\k r' m'=some x
 | [],e,made,r,m,h=>⟨r,m,rfl,h⟩
 | o :: l,e,made,r,m,h=>by
   have h':cB (KH O P ops.toList r o (eo bs made e m)) (fun d=>cB (sm bs n0 e m (eo bs made e m) made d) fun q=>zk O P ops.toList nt bs n0 l (Nat.add e 1) q.2 (Dl o.dst nt r (At d)) q.1 k)=some x:=h;rw[cI]at h'
   cases hd:KH O P ops.toList r o (eo bs made e m)with
   | none=>rw[hd]at h';cases h'
   | some d=>
     rw[hd]at h';simp only[Option.bind_some,zi,cI]at h'
     cases hs:sm bs n0 e m (eo bs made e m) made d with
     | none=>rw[hs]at h';cases h'
     | some q=>
       rw[hs]at h';obtain⟨m1,made1⟩:=q;simp only[Option.bind_some]at h';obtain⟨r',m',h1,h2⟩:=sS hO h';refine⟨r',m',?_,h2⟩;unfold jk;rw[zg hO hd];simp only[];rw[hs];exact h1
def zh(O:dm)(P:Program)(ops:Array Oper)(nt:Nat)(r:T XV)(m:Mem)(k:T XV->Mem->Option XR):Option XR:=
 iv (da ops nt (iQ ops.toList)) (cB (v5 O P ops.toList nt ops.toList r m) fun q=>iv (P2 (iQ ops.toList) q.1) (k q.2.1 q.2.2) (iv (jq (iQ ops.toList) q.1) .none (zk O P ops.toList nt (iQ ops.toList) m.n ops.toList 0 [] r m k))) .none
theorem Di{O O':dm}(hO:nN O O'){P:Program}{ops:Array Oper}{nt:Nat}{r:T XV}{m:Mem}{k:T XV->Mem->Option XR}{x:XR}(h:zh O P ops nt r m k=some x):∃r' m',kQ O' P ops nt r m=some (r',m')/\k r' m'=some x:=by
 unfold zh at h;rw[eD]at h;split at h
 ·rename_i hs;rw[cI]at h
  cases ht:v5 O P ops.toList nt ops.toList r m with
  | none=>rw[ht]at h;cases h
  | some q=>
    rw[ht]at h;obtain⟨tr,r',m'⟩:=q;simp only[Option.bind_some,eD]at h;have hx:jc O' P ops nt ops.toList r m=some (tr,r',m'):=v7 hO ht
    by_cases h1:jq (iQ ops.toList) tr=true
    ·have h2:iN O' P ops nt r m=some (r',m'):=by
      unfold iN;rw[if_pos hs,hx];simp only[];rw[if_pos h1]
     have h3:kQ O' P ops nt r m=some (r',m'):=vM h2;split at h
     ·exact⟨r',m',h3,h⟩
     ·first|cases h|(rw[if_pos h1]at h;cases h)
    ·have h2:iN O' P ops nt r m = .none:=by
      unfold iN;rw[if_pos hs,hx];simp only[];rw[if_neg h1]
     split at h
     ·rename_i hd;exact absurd (KI hd) h1
     ·obtain⟨r1,m1,h3,h4⟩:=sS hO h;refine⟨r1,m1,?_,h4⟩;unfold kQ;rw[h2];simp only[rl];rw[if_pos hs];exact h3
 ·cases h
abbrev Qd:Type:=sn->T XV->Mem->Option XR
abbrev St:Type:=dm->Program->Nat->Qd->T XV->Mem->Option XR
def sH(r:T XV)(m:Mem):Option XR:=some (.norm r m)
def Ea(id:Nat)(r:T XV)(m:Mem):Option XR:=some (.exit id r m)
def Eb(l:Nat)(r:T XV)(m:Mem):Option XR:=some (.goto l r m)
def Mm(r:T XV)(m:Mem):Option XR:=some (.ret r m)
def uQ(x:Option XR)(f:T XV->Mem->Option XR):Option XR:=cB x fun y => @XR.rec (fun _=>Option XR) f Ea Eb Mm y
def Ct(x:Option XR)(f:Nat->T XV->Mem->Option XR):Option XR:=cB x fun y => @XR.rec (fun _=>Option XR) sH f Eb Mm y
def Cu(x:Option XR)(f:Nat->T XV->Mem->Option XR):Option XR:=cB x fun y => @XR.rec (fun _=>Option XR) sH Ea f Mm y
def NN:St:=fun _ _ _ _ r m=>sH r m
def Mt(_:Nat)(ops:Array Oper)(draw:Bool):St:=fun O P nt _ r m => @Bool.rec (fun _=>Option XR) (EM O P ops.toList nt ops.toList r m sH) (zh O P ops nt r m sH) draw
def S2(a b:Code):St:=fun _ _ _ self r m=>uQ (self (.code a) r m) (self (.code b))
def Rx(c:Operand)(a b:Code):St:=fun _ _ _ self r m=>Bd (lT c r) (fun t => @Bool.rec (fun _=>Option XR) (self (.code b) r m) (self (.code a) r m) t) .none
def O8(id:Nat)(c:Code):St:=fun _ _ _ self r m=>Ct (self (.code c) r m) fun id' r m=>iv (Nat.beq id' id) (sH r m) (Ea id' r m)
def RB(c:Code):St:=fun _ _ _ self r m=>self (.round c) r m
def NM:St:=fun _ _ _ _ _ _ => .none
def Ry(id:Nat):St:=fun _ _ _ _ r m=>Ea id r m
def Pb(c:Code):St:=fun _ _ _ self r m=>self (.jump c c) r m
def Rz(l:Nat):St:=fun _ _ _ _ r m=>Eb l r m
def SZ:St:=fun _ _ _ _ r m=>Mm r m
def Pa(c:Code):St:=fun _ _ _ self r m=>uQ (self (.code c) r m) (self (.round c))
def RA(c rest:Code):St:=fun _ _ _ self r m=>Cu (self (.code rest) r m) fun l r m => @Option.rec Code (fun _=>Option XR) (Eb l r m) (fun rest'=>self (.jump c rest') r m) (findLabel c l)
def RX(c:Code):St:=
 @Code.rec (fun _=>St) NN Mt (fun a b _ _=>S2 a b) (fun c a b _ _=>Rx c a b) (fun id c _=>O8 id c) (fun c _=>RB c) (fun _ _ _ _ _ _=>NM) Ry (fun c _=>Pb c) (fun _=>NN) Rz SZ (fun _=>NM) c
def RW(c:sn):St := @sn.rec (fun _=>St) RX RA Pa c
def P8(O:dm)(P:Program)(nt:Nat)(n:Nat):Qd := @Nat.rec (fun _=>Qd) (fun _ _ _ => .none) (fun _ ih c r m=>RW c O P nt ih r m) n
def Nl(s s':Qd):Prop:=∀c r m x,s c r m=some x->s' c r m=some x
theorem sD{x:Option XR}{f:T XV->Mem->Option XR}{y:XR}(h:uQ x f=some y):(∃r m,x=some (.norm r m)/\f r m=some y)\/(x=some y/\∀r m,y ≠ .norm r m):=by
 cases x with
 | none=>cases h
 | some z=>
   cases z with
   | norm r m=>exact .inl ⟨r,m,rfl,h⟩
   | exit id r m=>cases h;exact .inr ⟨rfl,by simp⟩
   | goto l r m=>cases h;exact .inr ⟨rfl,by simp⟩
   | ret r m=>cases h;exact .inr ⟨rfl,by simp⟩
theorem Am{x:Option XR}{f:Nat->T XV->Mem->Option XR}{y:XR}(h:Ct x f=some y):(∃l r m,x=some (.exit l r m)/\f l r m=some y)\/(x=some y/\∀l r m,y ≠ .exit l r m):=by
 cases x with
 | none=>cases h
 | some z=>
   cases z with
   | norm r m=>cases h;exact .inr ⟨rfl,by simp⟩
   | exit id r m=>exact .inl ⟨id,r,m,rfl,h⟩
   | goto l r m=>cases h;exact .inr ⟨rfl,by simp⟩
   | ret r m=>cases h;exact .inr ⟨rfl,by simp⟩
theorem An{x:Option XR}{f:Nat->T XV->Mem->Option XR}{y:XR}(h:Cu x f=some y):(∃l r m,x=some (.goto l r m)/\f l r m=some y)\/(x=some y/\∀l r m,y ≠ .goto l r m):=by
 cases x with
 | none=>cases h
 | some z=>
   cases z with
   | norm r m=>cases h;exact .inr ⟨rfl,by simp⟩
   | exit id r m=>cases h;exact .inr ⟨rfl,by simp⟩
   | goto l r m=>exact .inl ⟨l,r,m,rfl,h⟩
   | ret r m=>cases h;exact .inr ⟨rfl,by simp⟩
theorem KG{O O':dm}(hO:nN O O'){P:Program}{nt:Nat}{s s':Qd}(hs:Nl s s')(c:sn)(r:T XV)(m:Mem)(x:XR)(h:RW c O P nt s r m=some x):jS O' P nt s' c r m=some x:=by
 cases c with
 | jump c rest=>
   rcases An (show Cu (s (.code rest) r m) _=some x from h)with⟨l,r1,m1,h1,h2⟩|⟨h1,h2⟩
   ·simp only[jS,hs _ _ _ _ h1]
    cases hf:findLabel c l with
    | none=>rw[hf]at h2;exact h2
    | some rest'=>rw[hf]at h2;exact hs _ _ _ _ h2
   ·simp only[jS,hs _ _ _ _ h1]
    cases x with
    | goto l r m=>exact absurd rfl (h2 l r m)
    | _=>rfl
 | round c=>
   rcases sD (show uQ (s (.code c) r m) _=some x from h)with⟨r1,m1,h1,h2⟩|⟨h1,h2⟩
   ·simp only[jS,hs _ _ _ _ h1];exact hs _ _ _ _ h2
   ·simp only[jS,hs _ _ _ _ h1]
    cases x with
    | norm r m=>exact absurd rfl (h2 r m)
    | _=>rfl
 | code c=>
   cases c with
   | skip=>exact h
   | label l=>exact h
   | region id ops draw=>
     cases draw
     ·obtain⟨r',m',h1,h2⟩:=xS hO (show EM O P ops.toList nt ops.toList r m sH=some x from h);simp only[jS,h1];exact h2
     ·obtain⟨r',m',h1,h2⟩:=Di hO (show zh O P ops nt r m sH=some x from h);simp only[jS,h1];exact h2
   | seq a b=>
     rcases sD (show uQ (s (.code a) r m) _=some x from h)with⟨r1,m1,h1,h2⟩|⟨h1,h2⟩
     ·simp only[jS,hs _ _ _ _ h1];exact hs _ _ _ _ h2
     ·simp only[jS,hs _ _ _ _ h1]
      cases x with
      | norm r m=>exact absurd rfl (h2 r m)
      | _=>rfl
   | cond cd a b=>
     have h':Bd (lT cd r) (fun t => @Bool.rec (fun _=>Option XR) (s (.code b) r m) (s (.code a) r m) t) .none=some x:=h
     rcases vC (lT cd r) (fun t => @Bool.rec (fun _=>Option XR) (s (.code b) r m) (s (.code a) r m) t) .none with⟨t,h1,h2⟩|⟨h1,h2⟩
     ·rw[h2]at h';rw[gm]at h1;cases t
      ·simp only[jS,h1];exact hs _ _ _ _ h'
      ·simp only[jS,h1];exact hs _ _ _ _ h'
     ·rw[h2]at h';cases h'
   | block id c=>
     rcases Am (show Ct (s (.code c) r m) _=some x from h)with⟨l,r1,m1,h1,h2⟩|⟨h1,h2⟩
     ·simp only[jS,hs _ _ _ _ h1];rw[eD]at h2
      by_cases hl:l=id
      ·subst hl;rw[if_pos rfl];rw[if_pos (Nat.beq_refl l)]at h2;exact h2
      ·rw[if_neg hl];rw[if_neg (fun h=>hl (Nat.eq_of_beq_eq_true h))]at h2;exact h2
     ·simp only[jS,hs _ _ _ _ h1]
      cases x with
      | exit l r m=>exact absurd rfl (h2 l r m)
      | _=>rfl
   | loop c=>exact hs _ _ _ _ h
   | rangeFunc f ps a b=>cases h
   | exit id=>exact h
   | scope c=>exact hs _ _ _ _ h
   | goto l=>exact h
   | ret=>exact h
   | refuse w=>cases h
theorem Bz{O O':dm}(hO:nN O O'){P:Program}{nt:Nat}:∀n,Nl (P8 O P nt n) (KD O' P nt n)
 | 0=>fun c r m x h=>by cases h
 | n+1=>fun c r m x h=>KG hO (Bz hO n) c r m x h
def v1{α : Type}(x:XV)(f:XV->Option α):Option α := @XV.rec (fun _=>Option α) .none (fun c=>f (.one c)) (fun cs=>f (.agg cs)) (fun _ => .none) x
def NU(v:ResultVar)(P:Program)(fn:Func)(r:T XV)(m:Mem):Option (XV×Mem):=
 @ResultVar.rec (fun _=>Option (XV×Mem)) (fun t=>v1 (sR .undef r t) fun x=>some (x,m)) (fun _ _=>(dA P fn (r.get .undef) m).map fun x=>(x,m)) v
def vX(P:Program)(fn:Func)(r:T XV)(m:Mem):Option (XV×Mem):=(dA P fn (r.get .undef) m).map fun x=>(x,m)
def G3(P:Program)(fn:Func)(r:T XV)(m:Mem):Option (XV×Mem):=
 @List.rec ResultVar (fun _=>Option (XV×Mem)) (some (.tup [],m)) (fun v l _ => @List.rec ResultVar (fun _=>Option (XV×Mem)) (NU v P fn r m) (fun _ _ _=>vX P fn r m) l) fn.results.toList
theorem By{P:Program}{fn:Func}{r:T XV}{m:Mem}{y:XV×Mem}(h:G3 P fn r m=some y):dA P fn (r.get .undef) m=some y.1/\m=y.2:=by
 have dI:vX P fn r m=some y->dA P fn (r.get .undef) m=some y.1/\m=y.2:=fun h=>by
  unfold vX at h
  cases hx:dA P fn (r.get .undef) m with
  | none=>rw[hx]at h;cases h
  | some x=>rw[hx]at h;cases h;exact⟨rfl,rfl⟩
 unfold G3 at h
 cases hl:fn.results.toList with
 | nil=>
   rw[hl]at h;cases h;refine⟨?_,rfl⟩;unfold dA;rw[hl];rfl
 | cons v l=>
   rw[hl]at h
   cases l with
   | cons v' l=>exact dI h
   | nil=>
     have h':NU v P fn r m=some y:=h
     cases v with
     | cell a t=>exact dI h'
     | tmp t=>
       have h2:v1 (sR .undef r t) (fun x=>some (x,m))=some y:=h';rw[mr]at h2;unfold dA;rw[hl];simp only[gk,vT]
       cases hx:r.get .undef t with
       | undef=>rw[hx]at h2;cases h2
       | one c=>rw[hx]at h2;cases h2;exact⟨rfl,rfl⟩
       | agg cs=>rw[hx]at h2;cases h2;exact⟨rfl,rfl⟩
       | tup cs=>rw[hx]at h2;cases h2
def KK(l:List XV):Nat->T XV->T XV := @List.rec XV (fun _=>Nat->T XV->T XV) (fun _ t=>t) (fun x _ ih i t=>ih (Nat.add i 1) (pI .undef 31 t i x)) l
theorem Bw:∀(l:List XV) (i:Nat) (t:T XV),KK l i t=f7 l i t
 | [],i,t=>rfl
 | x::l,i,t=>by
   show KK l (i+1) (pI .undef 31 t i x)=f7 l (i+1) (t.set .undef 31 i x);rw[Bw,mu]
def KF(run:Qd)(P:Program)(fn:Func)(c:Code)(args:List XV)(m:Mem):Option (XV×Mem):=
 cB (run (.code c) (KK args 0 .leaf) m) fun y => @XR.rec (fun _=>Option (XV×Mem)) (G3 P fn) (fun _ _ _ => .none) (fun _ _ _ => .none) (G3 P fn) y
def EK(O:dm)(P:Program)(F:Nat)(f:FuncId)(args:List XV)(m:Mem):Option (XV×Mem):=
 cB (Bv P.funcs.toList f) fun fn=>cB fn.body fun c=>
  iv (Nat.blt fn.ntmps 1000000) (iv (Nat.ble (s9 args) fn.ntmps) (KF (P8 O P fn.ntmps F) P fn c args m) .none) .none
theorem GY{O O':dm}(hO:nN O O'){P:Program}{F:Nat}:∀f args m x,EK O P F f args m=some x->xJ O' P F f args m=some x:=by
 intro f args m y h;unfold EK at h;unfold xJ;rw[rr,Array.getElem?_toList,cI]at h
 cases hf:P.funcs[f]? with
 | none=>rw[hf]at h;cases h
 | some fn =>
   rw[hf]at h;simp only[Option.bind_some,cI]at h
   cases hb:fn.body with
   | none=>rw[hb]at h;cases h
   | some c =>
     rw[hb]at h;simp only[Option.bind_some,eD]at h;simp only[hb];split at h
     ·rename_i h1;split at h
      ·rename_i h2;rw[Nat.blt_eq]at h1;rw[Nat.ble_eq,pf]at h2;rw[if_pos ⟨h1,h2⟩];unfold KF at h;rw[Bw,cI]at h
       cases hr:P8 O P fn.ntmps F (.code c) (f7 args 0 .leaf) m with
       | none=>rw[hr]at h;cases h
       | some x=>
         rw[hr]at h;rw[Bz hO F _ _ _ _ hr]
         cases x with
         | norm r m'=>
           have h3:G3 P fn r m'=some y:=h;obtain⟨h4,h5⟩:=By h3;simp only[h4];subst h5;rfl
         | ret r m'=>
           have h3:G3 P fn r m'=some y:=h;obtain⟨h4,h5⟩:=By h3;simp only[h4];subst h5;rfl
         | exit id r m'=>cases h
         | goto l r m'=>cases h
      ·cases h
     ·cases h
def P0(O ih:dm)(P:Program)(F:Nat):dm:=⟨fun f args m => @Option.rec (XV×Mem) (fun _=>Option (XV×Mem)) (EK ih P F f args m) some (O.call f args m),O.op⟩
def pH(O:dm)(P:Program)(F:Nat)(k:Nat):dm := @Nat.rec (fun _=>dm) O (fun _ ih=>P0 O ih P F) k
theorem xQ{O:dm}{P:Program}{F:Nat}:∀k,nN (pH O P F k) (xK O P F k)
 | 0=>⟨fun _ _ _ _ h=>h,rfl⟩
 | k + 1=>⟨fun f args m x h=>by
   have h' : @Option.rec (XV×Mem) (fun _=>Option (XV×Mem)) (EK (pH O P F k) P F f args m) some (O.call f args m)=some x:=h;unfold xK;simp only[]
   cases ho:O.call f args m with
   | none=>
     rw[ho]at h';exact GY (xQ k) f args m x h'
   | some y=>
     rw[ho]at h'
     exact h',rfl⟩
theorem aS.le{P:Program}{O O':dm}(h:aS P O')(hO:nN O O'):aS P O:=
 ⟨fun f args m v m' hh=>h.call f args m v m' (hO.call _ _ _ _ hh),fun f args m v m' hh=>h.KU f args m v m' (hO.call _ _ _ _ hh),fun o l x hh=>h.op o l x (by rw[<-hO.op];exact hh)⟩
theorem sQ{O:dm}{P:Program}(hO:aS P O)(hP:P.follows .mixedOrders=true)(F k:Nat):aS P (pH O P F k):=
 (sM hO hP F k).le (xQ k)
end
end Go.Xm
namespace Go.Xm
open Go.RowKit (Below)
variable [aq]
theorem sA:Mem.empty.cg:=fun _ _=>rfl
theorem F8(β : Env)(w:World):Rel β Mem.empty w:=
 ⟨Nat.zero_le _,sA,fun i hi=>absurd hi (Nat.not_lt_zero i),fun i _ hi=>absurd hi (Nat.not_lt_zero i),fun i hi=>absurd hi (Nat.not_lt_zero i)⟩
def XC.shut:XC->Bool
 | .ptr _ _=>false
 | .slice _ _ _ _=>false
 | .map _=>false
 | .lsl _ _ _ _ _ _=>false
 | .lpt _ _ _=>false
 | .bind g c=>g.shut&&c.shut
 | _=>true
def X1.shut:X1->Bool
 | .one c=>c.shut
 | .agg cs=>cs.all XC.shut
def XV.shut:XV->Bool
 | .undef=>true
 | .one c=>c.shut
 | .agg cs=>cs.all XC.shut
 | .tup xs=>xs.all X1.shut
theorem XC.aY{c:XC}(h:c.shut=true)(n:Nat):c.ok n:=by
 induction c with
 | bind g c ih1 ih2=>
   simp only[XC.shut,Bool.and_eq_true]at h;exact⟨ih1 h.1,ih2 h.2⟩
 | ptr i off=>cases h
 | slice i off len cap=>cases h
 | map i=>cases h
 | lsl g k off len fl cut=>cases h
 | lpt g k off=>cases h
 | _=>trivial
theorem XC.jo{c:XC}(h:c.shut=true)(β β':Env):c.den β = c.den β':=
 XC.jV (n:=0) (fun i hi=>absurd hi (Nat.not_lt_zero i)) (XC.aY h 0)
theorem X1.aY{x:X1}(h:x.shut=true)(n:Nat):x.ok n:=by
 cases x with
 | one c=>exact XC.aY h n
 | agg cs=>exact fun c hc=>XC.aY (List.all_eq_true.1 h c hc) n
theorem X1.jo{x:X1}(h:x.shut=true)(β β':Env):x.den β = x.den β':=
 X1.jV (n:=0) (fun i hi=>absurd hi (Nat.not_lt_zero i)) (X1.aY h 0)
theorem aL.D2{x:XV}(h:x.shut=true){β β':Env}{n n':Nat}{v:Value}(hr:aL β n x v):aL β' n' x v:=by
 cases x with
 | undef=>trivial
 | one c=>exact⟨XC.aY h n',hr.2.trans (XC.jo h _ _)⟩
 | agg cs=>
   have h':=List.all_eq_true.1 h;refine⟨fun c hc=>XC.aY (h' c hc) n',hr.2.trans ?_⟩;rw[List.map_congr_left fun c hc=>XC.jo (h' c hc) β β']
 | tup xs=>
   have h':=List.all_eq_true.1 h;refine⟨fun c hc=>X1.aY (h' c hc) n',hr.2.trans ?_⟩;rw[List.map_congr_left fun c hc=>X1.jo (h' c hc) β β']
theorem x6{l:List XV}(h:∀x∈l,x.shut=true){β β':Env}{n n':Nat}:∀{vs:List Value},dj (aL β n) l vs->dj (aL β' n') l vs:=by
 induction l with
 | nil=>intro vs hr;cases hr;exact .nil
 | cons x l ih=>
   intro vs hr
   cases hr with
   | cons h1 h2=>exact .cons (h1.D2 (h x (List.mem_cons_self ..))) (ih (fun y hy=>h y (List.mem_cons_of_mem _ hy)) h2)
def Env.zero:Env:=⟨fun _=>0,fun _=>0,fun _=>0⟩
theorem Gb{P:Program}{f:FuncId}{args:List XV}{v:XV}{m':Mem}(h:d8 P f args Mem.empty v m'){vs:List Value}(ha:dj (aL Env.zero 0) args vs)(w:World) :
 Calls P f vs.toArray w fun e w'=>(∃u β',e = .returned u/\aL β' m'.n v u)/\Below w.heap.size w w':=by
 refine(h Env.zero w vs ha (F8 _ w)).mono fun e w' ⟨u,β',he,hu,hs⟩=>?_
 exact⟨⟨u,β',he,hu⟩,hs.os,hs.tape,hs.output,hs.size,fun k hk=>hs.frame k hk fun⟨i,hi,_⟩=>absurd hi (Nat.not_lt_zero i)⟩
theorem forget{P:Program}{f:FuncId}{args:List XV}{v:XV}{m':Mem}(h:d8 P f args Mem.empty v m')(ha:∀x∈args,x.shut=true)(hv:v.shut=true)(m:Mem):d8 P f args m v m:=by
 intro β w vs hr hm;refine(Gb h (x6 ha hr) w).mono fun e w' ⟨⟨u,β',he,hu⟩,hb⟩=>?_
 refine⟨u,β,he,hu.D2 hv,Nat.le_refl _,Ext.refl _ _,⟨hm.bnd,hm.fresh,fun i hi=>?_,hm.inj,fun i hi L hL=>(hm.late i hi L hL).iq hi (Nat.le_refl _) (Ext.refl _ _) (fun k hk _=>hb.block k hk) fun k _ hk=>hk⟩,hb.os,hb.tape,hb.output,hb.size,fun k hk _=>hb.block k hk,fun k _ hk=>hk,fun k _ hk => .inr hk⟩;have ho:=hm.obj i hi
 cases hg:m.get i with
 | dead=>trivial
 | late L=>trivial
 | cells a b c d=>
   have hl:=hm.lt hi (by rw[hg];rfl);rw[hb.block _ hl,<-hg];exact ho
 | map es=>
   have hl:=hm.lt hi (by rw[hg];rfl);rw[hb.block _ hl,<-hg];exact ho
structure x4 where
 f:FuncId
 args:List XV
 v:XV
def x4.JE(r:x4):Bool:=r.args.all XV.shut&&r.v.shut
def x4.Te(P:Program)(r:x4):Prop:=r.JE=true/\∃m',d8 P r.f r.args Mem.empty r.v m'
theorem R_{P:Program}{O:dm}(hO:aS P O)(hP:P.follows .mixedOrders=true){F k:Nat}{r:x4}(h:((pH O P F k).call r.f r.args Mem.empty).map (·.1)=some r.v)(hs:r.JE=true):r.Te P:=by
 obtain⟨⟨v,m'⟩,h1,h2⟩:=Option.map_eq_some_iff.1 h;refine⟨hs,m',?_⟩;have:=(sQ hO hP F k).call _ _ _ _ _ h1;rw[<-h2];exact this
end Go.Xm
namespace Go.Xm
variable [aq]
abbrev aO:Type:=List (Nat×XV)
def rg:aO->Nat->XV
 | [],_ => .undef
 | (d,v)::al,t=>if t=d then v else rg al t
abbrev aj:Type:=List ak
structure a_(m:Mem)(hs:aj):Prop where
 n:m.n=hs.length
 bnd:m.n<=Mem.bound
 fresh:m.cg
 get:∀i,i<m.n->m.get i=hs.getD i .dead
def zt(m m':Mem):Prop:=m.n=m'.n/\m'.cg/\∀i,i<m.n->m.get i=m'.get i
theorem a_.same{m m':Mem}{hs:aj}(h:a_ m hs)(h':a_ m' hs):zt m m':=
 ⟨by rw[h.n,h'.n],h'.fresh,fun i hi=>by rw[h.get i hi,h'.get i (by rw[h'.n,<-h.n];exact hi)]⟩
theorem zt.qj{m m':Mem}(h:zt m m'){β : Env}{k:Nat}:kY β m k↔kY β m' k:=by
 obtain⟨h1,_,h3⟩:=h;constructor
 ·rintro ⟨i,hi,hl,hk⟩
  exact⟨i,h1▸hi,by rw[<-h3 i hi];exact hl,hk⟩
 ·rintro ⟨i,hi,hl,hk⟩
  rw[<-h1]at hi;exact⟨i,hi,by rw[h3 i hi];exact hl,hk⟩
theorem zt.wa{m m':Mem}(h:zt m m'){β : Env}{k:Nat}(hl:Dp β m' k):Dp β m k:=by
 obtain⟨h1,_,h3⟩:=h;obtain⟨i,hi,L,q,cs,e1,e2⟩:=hl;rw[<-h1]at hi;exact⟨i,hi,L,q,cs,by rw[h3 i hi];exact e1,e2⟩
theorem zt.rel{m m':Mem}(h:zt m m'){β : Env}{w:World}(hr:Rel β m w):Rel β m' w:=by
 have hi0:∀k,kY β m' k->kY β m k:=fun k=>(h.qj (β := β) (k:=k)).2
 obtain⟨h1,h2,h3⟩:=h;refine⟨by rw[<-h1];exact hr.bnd,h2,fun i hi=>?_,fun i j hi hj=>?_,fun i hi L hL=>?_⟩
 ·rw[<-h1]at hi;rw[<-h1,<-h3 i hi];exact hr.obj i hi
 ·rw[<-h1]at hi hj;rw[<-h3 i hi,<-h3 j hj];exact hr.inj i j hi hj
 ·rw[<-h1]at hi;exact(hr.late i hi L (by rw[h3 i hi];exact hL)).iq hi (by omega) (Ext.refl _ _) (fun _ _ _=>rfl) fun k _=>hi0 k
theorem Step.same{m m' m'':Mem}{β β':Env}{w w':World}(h:Step β m w β' m' w')(hs:zt m' m''):Step β m w β' m'' w':=
 ⟨by rw[<-hs.1];exact h.le,h.ext,hs.rel h.rel,h.os,h.tape,h.output,h.size,h.frame,fun k hk hi=>h.qj k hk (hs.qj.2 hi),fun k hk hl=>h.wa k hk (hs.wa hl)⟩
inductive XE where
 | normal
 | exit (id:Nat)
 | goto (l:Nat)
 | ret
def XE.ex:XE->Exit
 | .normal => .normal
 | .exit id => .exit id
 | .goto l => .goto l
 | .ret => .ret
abbrev cu:Type:=XE->aO->aj->Prop
def WX(P:Program)(nt nI:Nat)(c:sn)(al:aO)(hs:aj)(K:cu):Prop:=
 ∀ (βI:Env) (mI:Mem) (wI:World),mI.n=nI->∀m,a_ m hs->∀(β : Env) (w:World) (a:Act) (Q:Exit->Act->World->Prop),gB β m.n nt (rg al) a.tmps->Step βI mI wI β m w ->
   (∀e al' hs' m',K e al' hs'->a_ m' hs'->∀a' β' w',gB β' m'.n nt (rg al') a'.tmps->a'.defers=a.defers->Step βI mI wI β' m' w'->Q e.ex a' w')->wO P c Q a w
section
variable {P:Program} {nt nI:Nat} {al:aO} {hs:aj} {K:cu}
theorem WX.mono{c:sn}{K':cu}(h:WX P nt nI c al hs K)(hk:∀e al' hs',K e al' hs'->K' e al' hs'):WX P nt nI c al hs K':=
 fun βI mI wI hn m hm β w a Q hr hw hq=>h βI mI wI hn m hm β w a Q hr hw fun e al' hs' m' k=>hq e al' hs' m' (hk _ _ _ k)
def zp(al' al:aO):Prop:=∀t,rg al' t = .undef\/rg al' t=rg al t
theorem zp.rel{al' al:aO}(h:zp al' al){β : Env}{n:Nat}{a:Array Value}(hr:gB β n nt (rg al) a):gB β n nt (rg al') a:=by
 refine⟨hr.size,hr.small,fun t ht=>?_,fun t ht=>?_⟩
 ·rcases h t with h|h
  ·rw[h];trivial
  ·rw[h];exact hr.rel t ht
 ·rcases h t with h|h
  ·exact h
  ·rw[h];exact hr.out t ht
theorem WX.less{c:sn}{al':aO}(hl:zp al' al)(h:WX P nt nI c al' hs K):WX P nt nI c al hs K:=
 fun βI mI wI hn m hm β w a Q hr hw hq=>h βI mI wI hn m hm β w a Q (hl.rel hr) hw hq
theorem qL(al:aO):zp [] al:=fun _ => .inl rfl
theorem bZ{al' al:aO}{t:Nat}{v:XV}(h:rg al t=v)(hl:zp al' al):zp ((t,v)::al') al:=by
 intro s
 by_cases hs:s=t
 ·subst hs;exact .inr (by rw[h];simp[rg])
 ·have:rg ((t,v)::al') s=rg al' s:=by simp[rg,hs]
  rw[this];exact hl s
theorem WX.skip(h:K .normal al hs):WX P nt nI (.code .skip) al hs K:=
 fun βI mI wI hn m hm β w a _ hr hw hq=>wp_skip (hq _ _ _ m h hm a β w hr rfl hw)
theorem WX.label{l:Nat}(h:K .normal al hs):WX P nt nI (.code (.label l)) al hs K:=
 fun βI mI wI hn m hm β w a _ hr hw hq=>wp_label (hq _ _ _ m h hm a β w hr rfl hw)
theorem WX.exit{id:Nat}(h:K (.exit id) al hs):WX P nt nI (.code (.exit id)) al hs K:=
 fun βI mI wI hn m hm β w a _ hr hw hq=>wp_exit (hq _ _ _ m h hm a β w hr rfl hw)
theorem WX.goto{l:Nat}(h:K (.goto l) al hs):WX P nt nI (.code (.goto l)) al hs K:=
 fun βI mI wI hn m hm β w a _ hr hw hq=>wp_goto (hq _ _ _ m h hm a β w hr rfl hw)
theorem WX.ret(h:K .ret al hs):WX P nt nI (.code .ret) al hs K:=
 fun βI mI wI hn m hm β w a _ hr hw hq=>wp_ret (hq _ _ _ m h hm a β w hr rfl hw)
def Qo(P:Program)(nt nI:Nat)(b:Code)(K:cu):cu
 | .normal,al,hs=>WX P nt nI (.code b) al hs K
 | e,al,hs=>K e al hs
theorem WX.seq{a b:Code}(h:WX P nt nI (.code a) al hs (Qo P nt nI b K)):WX P nt nI (.code (.seq a b)) al hs K:=by
 intro βI mI wI hn m hm β w act Q hr hw hq;refine wp_seq ?_;refine h βI mI wI hn m hm β w act _ hr hw fun e al' hs' m' k hm' a' β' w' h1 h2 h3=>?_
 cases e with
 | normal=>
   refine k βI mI wI hn m' hm' β' w' a' Q h1 h3 fun e al'' hs'' m'' k' hm'' a'' β'' w'' k1 k2 k3=>?_
   exact hq e al'' hs'' m'' k' hm'' a'' β'' w'' k1 (k2.trans h2) k3
 | exit id=>exact hq _ al' hs' m' k hm' a' β' w' h1 h2 h3
 | goto l=>exact hq _ al' hs' m' k hm' a' β' w' h1 h2 h3
 | ret=>exact hq _ al' hs' m' k hm' a' β' w' h1 h2 h3
theorem WX.cond{c:Operand}{x y:Code}{b:Bool}(hc:af (rg al) c = .one (.bool b))(h1:b=true->WX P nt nI (.code x) al hs K)(h2:b=false->WX P nt nI (.code y) al hs K):WX P nt nI (.code (.cond c x y)) al hs K:=by
 intro βI mI wI hn m hm β w a Q hr hw hq;have he:=hr.eval c;rw[hc]at he
 cases b with
 | true=>exact wp_cond_true he.2 (h1 rfl βI mI wI hn m hm β w a Q hr hw hq)
 | false=>exact wp_cond_false he.2 (h2 rfl βI mI wI hn m hm β w a Q hr hw hq)
def xY(id:Nat)(K:cu):cu
 | .exit id',al,hs=>if id'=id then K .normal al hs else K (.exit id') al hs
 | e,al,hs=>K e al hs
theorem WX.block{id:Nat}{c:Code}(h:WX P nt nI (.code c) al hs (xY id K)):WX P nt nI (.code (.block id c)) al hs K:=by
 intro βI mI wI hn m hm β w a Q hr hw hq;refine wp_block ?_;refine h βI mI wI hn m hm β w a _ hr hw fun e al' hs' m' k hm' a' β' w' h1 h2 h3=>?_
 cases e with
 | exit id'=>
   show(if id'=id then Q .normal a' w' else Q (.exit id') a' w')
   by_cases hid:id'=id
   ·simp only[xY,hid,if_true]at k;rw[if_pos hid];exact hq _ al' hs' m' k hm' a' β' w' h1 h2 h3
   ·simp only[xY,hid,if_false]at k;rw[if_neg hid];exact hq _ al' hs' m' k hm' a' β' w' h1 h2 h3
 | normal=>exact hq _ al' hs' m' k hm' a' β' w' h1 h2 h3
 | goto l=>exact hq _ al' hs' m' k hm' a' β' w' h1 h2 h3
 | ret=>exact hq _ al' hs' m' k hm' a' β' w' h1 h2 h3
theorem WX.loop{c:Code}(h:WX P nt nI (.round c) al hs K):WX P nt nI (.code (.loop c)) al hs K:=by
 intro βI mI wI hn m hm β w a Q hr hw hq;intro b k cs;obtain⟨e,a₁,w₁,hq1,harr⟩:=h βI mI wI hn m hm β w a Q hr hw hq b k cs;exact⟨e,a₁,w₁,hq1,.of_steps (.one step_loop) harr⟩
def Hb(P:Program)(nt nI:Nat)(c:Code)(K:cu):cu
 | .normal,al,hs=>WX P nt nI (.round c) al hs K
 | e,al,hs=>K e al hs
theorem WX.round{c:Code}(h:WX P nt nI (.code c) al hs (Hb P nt nI c K)):WX P nt nI (.round c) al hs K:=by
 intro βI mI wI hn m hm β w a Q hr hw hq;intro b k cs
 have:=h βI mI wI hn m hm β w a (fun e a' w'=>(e = .normal/\wO P (.round c) Q a' w')\/(e ≠ .normal/\Q e a' w')) hr hw (fun e al' hs' m' kk hm' a' β' w' h1 h2 h3=>by
  cases e with
  | normal=>
    refine .inl ⟨rfl,kk βI mI wI hn m' hm' β' w' a' Q h1 h3 fun e al'' hs'' m'' k' hm'' a'' β'' w'' k1 k2 k3=>?_⟩;exact hq e al'' hs'' m'' k' hm'' a'' β'' w'' k1 (k2.trans h2) k3
  | exit id=>exact .inr ⟨by simp[XE.ex],hq _ al' hs' m' kk hm' a' β' w' h1 h2 h3⟩
  | goto l=>exact .inr ⟨by simp[XE.ex],hq _ al' hs' m' kk hm' a' β' w' h1 h2 h3⟩
  | ret=>exact .inr ⟨by simp[XE.ex],hq _ al' hs' m' kk hm' a' β' w' h1 h2 h3⟩)
 obtain⟨e,a₁,w₁,hcase,harr⟩:=this b (.inLoop c::k) cs
 rcases hcase with⟨rfl,hlp⟩|⟨hne,hq1⟩
 ·obtain⟨e₂,a₂,w₂,hq₂,harr₂⟩:=hlp b k cs;exact⟨e₂,a₂,w₂,hq₂,.of_steps (Steps.trans harr (.one step_inLoop)) harr₂⟩
 ·exact⟨e,a₁,w₁,hq1,.pass (x := .inLoop c) rfl (fun _ _ => .inl hne) harr⟩
def Ha(P:Program)(nt nI:Nat)(c:Code)(K:cu):cu
 | .goto l,al,hs=>match findLabel c l with
   | some rest=>WX P nt nI (.jump c rest) al hs K
   | .none=>K (.goto l) al hs
 | e,al,hs=>K e al hs
theorem WX.scope{c:Code}(h:WX P nt nI (.jump c c) al hs K):WX P nt nI (.code (.scope c)) al hs K:=by
 intro βI mI wI hn m hm β w a Q hr hw hq;intro b k cs;obtain⟨e,a₁,w₁,hq1,harr⟩:=h βI mI wI hn m hm β w a Q hr hw hq b k cs;exact⟨e,a₁,w₁,hq1,.of_steps (.one step_scope) harr⟩
theorem WX.jump{c rest:Code}(h:WX P nt nI (.code rest) al hs (Ha P nt nI c K)):WX P nt nI (.jump c rest) al hs K:=by
 intro βI mI wI hn m hm β w a Q hr hw hq;intro b k cs
 have := h βI mI wI hn m hm β w a (fun e a' w'=>(∃l rest',e = .goto l/\findLabel c l=some rest'/\wO P (.jump c rest') Q a' w')\/(∃x:XE,e=x.ex/\(∀l,x = .goto l->findLabel c l = .none)/\Q e a' w')) hr hw (fun e al' hs' m' kk hm' a' β' w' h1 h2 h3=>by
  cases e with
  | goto l=>
    cases hf:findLabel c l with
    | some rest'=>
      simp only[Ha,hf]at kk;refine .inl ⟨l,rest',rfl,hf,kk βI mI wI hn m' hm' β' w' a' Q h1 h3 fun e al'' hs'' m'' k' hm'' a'' β'' w'' k1 k2 k3=>?_⟩;exact hq e al'' hs'' m'' k' hm'' a'' β'' w'' k1 (k2.trans h2) k3
    | none=>
      simp only[Ha,hf]at kk;exact .inr ⟨.goto l,rfl,fun l' hl'=>(by cases hl';exact hf),hq _ al' hs' m' kk hm' a' β' w' h1 h2 h3⟩
  | normal=>exact .inr ⟨.normal,rfl,fun l' hl'=>(by cases hl'),hq _ al' hs' m' kk hm' a' β' w' h1 h2 h3⟩
  | exit id=>exact .inr ⟨.exit id,rfl,fun l' hl'=>(by cases hl'),hq _ al' hs' m' kk hm' a' β' w' h1 h2 h3⟩
  | ret=>exact .inr ⟨.ret,rfl,fun l' hl'=>(by cases hl'),hq _ al' hs' m' kk hm' a' β' w' h1 h2 h3⟩)
 obtain⟨e,a₁,w₁,hcase,harr⟩:=this b (.inScope c::k) cs
 rcases hcase with⟨l,rest',rfl,hf,hmn⟩|⟨x,rfl,hng,hq1⟩
 ·obtain⟨e₂,a₂,w₂,hq₂,harr₂⟩:=hmn b k cs;have hg:gotoIn l (.inScope c::k)=some (.code rest' :: .inScope c::k):=by simp[gotoIn,hf]
  exact⟨e₂,a₂,w₂,hq₂,.of_steps (harr _ hg) harr₂⟩
 ·cases x with
  | normal=>exact⟨.normal,a₁,w₁,hq1,Steps.trans harr (.one step_inScope)⟩
  | exit id=>exact⟨.exit id,a₁,w₁,hq1,fun k' hk=>harr k' (by simp[exitTo,hk])⟩
  | goto l=>exact⟨.goto l,a₁,w₁,hq1,fun k' hk=>harr k' (by simp[gotoIn,hng l rfl,hk])⟩
  | ret=>exact⟨.ret,a₁,w₁,hq1,harr⟩
end
end Go.Xm
