/-
  A part of the proof: XmBase, XmPure, XmOpA, XmOpB, XmOpC, XmOpD, XmOpE, XmOpF, XmRead.
-/
import Derived.Laws.BytesString
import Derived.WalkKit
set_option maxRecDepth 10000
set_option maxHeartbeats 8000000
set_option linter.unusedVariables false
set_option linter.unusedSectionVars false
set_option linter.unusedSimpArgs false
namespace Go.Xm
inductive T(α : Type) where
 | leaf
 | node (v : α) (l r:T α)
namespace T
variable {α : Type}
def get(d : α):T α->Nat -> α
 | leaf,_=>d
 | node v _ _,0=>v
 | node _ l r,n+1=>match n%2 with
   | 0=>l.get d (n/2)
   | _=>r.get d (n/2)
def set(d : α):Nat->T α->Nat -> α->T α
 | 0,t,_,_=>t
 | _+1,leaf,0,x=>node x leaf leaf
 | f+1,leaf,n+1,x=>match n%2 with
   | 0=>node d (set d f leaf (n/2) x) leaf
   | _=>node d leaf (set d f leaf (n/2) x)
 | _+1,node _ l r,0,x=>node x l r
 | f+1,node v l r,n+1,x=>match n%2 with
   | 0=>node v (set d f l (n/2) x) r
   | _=>node v l (set d f r (n/2) x)
theorem eO(d : α)(n:Nat):(leaf:T α).get d n=d:=by cases n<;>rfl
theorem ef(d : α)(v : α)(l r:T α)(n:Nat):(node v l r).get d (n+1)=if n%2=0 then l.get d (n/2)else r.get d (n/2):=by
 simp only[get];split
 ·rename_i h;simp[h]
 ·rename_i h;rw[if_neg];intro e;exact h e
theorem lM(d : α)(f:Nat)(n:Nat)(x : α):set d (f+1) leaf (n+1) x=if n%2=0 then node d (set d f leaf (n/2) x) leaf else node d leaf (set d f leaf (n/2) x):=by
 simp only[set];split
 ·rename_i h;simp[h]
 ·rename_i h;rw[if_neg];intro e;exact h e
theorem lN(d : α)(f:Nat)(v : α)(l r:T α)(n:Nat)(x : α):set d (f+1) (node v l r) (n+1) x=if n%2=0 then node v (set d f l (n/2) x) r else node v l (set d f r (n/2) x):=by
 simp only[set];split
 ·rename_i h;simp[h]
 ·rename_i h;rw[if_neg];intro e;exact h e
theorem fg(d : α)(f:Nat):∀(t:T α) (n j:Nat) (x : α),j≠n->(set d f t n x).get d j=t.get d j:=by
 induction f with
 | zero=>intro t n j x _;rfl
 | succ f ih=>
   intro t n j x hne
   cases t with
   | leaf =>
     cases n with
     | zero=>
       cases j with
       | zero=>exact absurd rfl hne
       | succ j=>simp only[set];rw[ef];simp[eO]
     | succ n=>
       rw[lM]
       cases j with
       | zero=>split<;>simp[get]
       | succ j=>
         split
         ·rw[ef,eO,eO];split
          ·rw[ih _ _ _ _ (by omega),eO]
          ·rfl
         ·rw[ef,eO,eO];split
          ·rfl
          ·rw[ih _ _ _ _ (by omega),eO]
   | node v l r=>
     cases n with
     | zero=>
       cases j with
       | zero=>exact absurd rfl hne
       | succ j=>simp only[set];rw[ef,ef]
     | succ n=>
       rw[lN]
       cases j with
       | zero=>split<;>simp[get]
       | succ j=>
         split
         ·rw[ef,ef];split
          ·rw[ih _ _ _ _ (by omega)]
          ·rfl
         ·rw[ef,ef];split
          ·rfl
          ·rw[ih _ _ _ _ (by omega)]
theorem f5(d : α)(f:Nat):∀(t:T α) (n:Nat) (x : α),n+1<2^f->(set d f t n x).get d n=x:=by
 induction f with
 | zero=>intro t n x h;simp at h
 | succ f ih=>
   intro t n x h;have hp:2^(f+1)=2*2^f:=by rw[Nat.pow_succ];omega
   cases t with
   | leaf=>
     cases n with
     | zero=>simp[set,get]
     | succ n=>
       rw[lM];split
       ·rename_i hh;rw[ef,if_pos hh];exact ih _ _ _ (by omega)
       ·rename_i hh;rw[ef,if_neg hh];exact ih _ _ _ (by omega)
   | node v l r=>
     cases n with
     | zero=>simp[set,get]
     | succ n=>
       rw[lN];split
       ·rename_i hh;rw[ef,if_pos hh];exact ih _ _ _ (by omega)
       ·rename_i hh;rw[ef,if_neg hh];exact ih _ _ _ (by omega)
end T
def MT:Nat->Nat->Nat×Nat
 | 0,n=>(0,n)
 | f+1,n=>if n%2=0 then(0,n/2)else((MT f (n/2)).1+1,(MT f (n/2)).2)
theorem PJ(a b:Nat):∃n,∀f,a<f->MT f n=(a,b):=by
 induction a with
 | zero=>exact⟨2*b,fun f hf=>by
    obtain⟨f,rfl⟩:∃g,f=g+1:=⟨f-1,by omega⟩
    rw[MT,if_pos (by omega),show 2*b/2=b by omega]⟩
 | succ a ih=>
   obtain⟨n,hn⟩:=ih;refine⟨2*n+1,fun f hf=>?_⟩
   obtain⟨f,rfl⟩:∃g,f=g+1:=⟨f-1,by omega⟩
   rw[MT,if_neg (by omega),show(2*n+1)/2=n by omega,hn f (by omega)]
theorem PK(a b n:Nat)(h:∀f,a<f->MT f n=(a,b)):a<=n:=by
 induction a generalizing n with
 | zero=>exact Nat.zero_le _
 | succ a ih=>
   have h1:=h (a+2) (by omega);rw[MT]at h1;split at h1
   ·cases h1
   ·rename_i hp
    have:=ih (n/2) (fun f hf=>by
     have h2:=h (f+1) (by omega);rw[MT,if_neg hp]at h2;have e1:=congrArg Prod.fst h2;have e2:=congrArg Prod.snd h2;simp only at e1 e2
     exact Prod.ext (by simp only;omega) e2)
    omega
def q7(n:Nat):Nat×Nat:=MT (n+1) n
theorem q8(a b:Nat):∃n,q7 n=(a,b):=by
 obtain⟨n,hn⟩:=PJ a b;exact⟨n,hn (n+1) (by have:=PK a b n hn;omega)⟩
def kJ(n:Nat):Nat->Nat×Nat
 | 0=>q7 (q7 n).1
 | k+1=>kJ (q7 n).2 k
theorem xF(p:Nat×Nat):∀(m n:Nat),∃n',kJ n' m=p/\∀k,k≠m->kJ n' k=kJ n k
 | 0,n=>by
   obtain⟨h,hh⟩:=q8 p.1 p.2;obtain⟨n',hn⟩:=q8 h (q7 n).2;refine⟨n',by rw[kJ,hn,hh],fun k hk=>?_⟩
   cases k with
   | zero=>exact absurd rfl hk
   | succ k=>rw[kJ,kJ,hn]
 | m+1,n=>by
   obtain⟨t,h1,h2⟩:=xF p m (q7 n).2;obtain⟨n',hn⟩:=q8 (q7 n).1 t;refine⟨n',by rw[kJ,hn];exact h1,fun k hk=>?_⟩
   cases k with
   | zero=>rw[kJ,kJ,hn]
   | succ k=>rw[kJ,kJ,hn];exact h2 k (by omega)
def lQ(n k:Nat):Nat:=(kJ n k).1
def iV(n k:Nat):Nat:=(q7 (kJ n k).2).1
def s3(n k:Nat):Nat:=(q7 (kJ n k).2).2
theorem MQ(b o c m n:Nat):∃n',(lQ n' m=b/\iV n' m=o/\s3 n' m=c)/\∀k,k≠m->lQ n' k=lQ n k/\iV n' k=iV n k/\s3 n' k=s3 n k:=by
 obtain⟨q,hq⟩:=q8 o c;obtain⟨n',h1,h2⟩:=xF (b,q) m n;refine⟨n',?_,fun k hk=>?_⟩
 ·unfold lQ iV s3;rw[h1,hq];exact⟨rfl,rfl,rfl⟩
 ·unfold lQ iV s3;rw[h2 k hk];exact⟨rfl,rfl,rfl⟩
inductive pr where
 | exact(n:Nat)
 | toEnd (sz:Nat)
 deriving DecidableEq
inductive XC where
 | bool (b:Bool)
 | int (k:IntKind) (n:Int)
 | flt (k:FloatKind) (b:Nat)
 | cplx (k:FloatKind) (re im:Nat)
 | str (s:List UInt8)
 | nilp
 | ptr (i off:Nat)
 | nils
 | slice (i off len:Nat) (cap:pr)
 | nilm
 | map (i:Nat)
 | fn (f:FuncId)
 | bind (g c:XC)
 | nilf
 | nili
 | atom (i:Nat)
 | lsl (g k off len fl cut:Nat)
 | lpt (g k off:Nat)
 | lem (i:Nat)
 deriving DecidableEq
def XC.self(g:Nat):XC->XC
 | .lsl _ k off len fl cut => .lsl g k off len fl cut
 | .lpt _ k off => .lpt g k off
 | c=>c
inductive X1 where
 | one (c:XC)
 | agg (cs:List XC)
 deriving DecidableEq
inductive XV where
 | undef
 | one (c:XC)
 | agg (cs:List XC)
 | tup (vs:List X1)
 deriving DecidableEq
def X1.p6:X1->XV
 | .one c => .one c
 | .agg cs => .agg cs
inductive ak where
 | dead
 | cells (vs:List XC) (elem:TypeId) (opn ro:Bool)
 | map (es:List (X1×X1))
 | late (L:List (List XC))
def ak.live:ak->Bool
 | .dead=>false
 | .late _=>false
 | _=>true
def ak.own:ak->Bool
 | .dead=>false
 | .cells _ _ _ ro => !ro
 | .map _=>true
 | .late _=>false
theorem ak.bO{o:ak}(h:o.own=true):o.live=true:=by cases o<;>first|rfl|(cases h)
structure G9 where
 ver:Nat
 obj:ak
def G9.none:G9:=⟨0,.dead⟩
structure Mem where
 n:Nat
 t:T G9
namespace Mem
def empty:Mem:=⟨0,.leaf⟩
def f4(m:Mem)(i:Nat):G9:=m.t.get G9.none i
def get(m:Mem)(i:Nat):ak:=(m.f4 i).obj
def bound:Nat:=2147483646
def put(m:Mem)(i:Nat)(o:ak):Mem:=
 match Nat.blt i m.n,Nat.blt i bound with
 | true,true=>⟨m.n,m.t.set G9.none 31 i ⟨(m.f4 i).ver+1,o⟩⟩
 | _,_=>m
def push(m:Mem)(o:ak):Option Mem:=if m.n<bound then some ⟨m.n+1,m.t.set G9.none 31 m.n ⟨1,o⟩⟩else none
theorem gY(m:Mem){i j:Nat}(o:ak)(h:j≠i):(m.put i o).f4 j=m.f4 j:=by
 unfold put;split
 ·exact T.fg _ _ _ _ _ _ h
 ·rfl
theorem ek(m:Mem){i j:Nat}(o:ak)(h:j≠i):(m.put i o).get j=m.get j:=by unfold get;rw[gY m o h]
theorem pN(m:Mem){i:Nat}(o:ak)(hn:i<m.n)(h:i<bound):(m.put i o).f4 i=⟨(m.f4 i).ver+1,o⟩:=by
 unfold put;have h1:Nat.blt i m.n=true:=by simpa [Nat.blt_eq]using hn
 have h2:Nat.blt i bound=true:=by simpa [Nat.blt_eq]using h
 rw[h1,h2];exact T.f5 _ _ _ _ _ (by unfold bound at h;omega)
theorem ff(m:Mem){i:Nat}(o:ak)(hn:i<m.n)(h:i<bound):(m.put i o).get i=o:=by unfold get;rw[pN m o hn h]
theorem dZ(m:Mem)(i:Nat)(o:ak):(m.put i o).n=m.n:=by unfold put;split<;>rfl
theorem bu{m m':Mem}{o:ak}(h:m.push o=some m'):m.n<bound/\m'.n=m.n+1/\m'.f4 m.n=⟨1,o⟩/\∀j,j≠m.n->m'.f4 j=m.f4 j:=by
 unfold push at h;split at h
 ·rename_i hb;cases h;refine⟨hb,rfl,T.f5 _ _ _ _ _ (by unfold bound at hb;omega),fun j hj=>T.fg _ _ _ _ _ _ hj⟩
 ·cases h
end Mem
def qn(m m':Mem):Prop:=m.n<=m'.n/\∀i,(m.f4 i).ver<=(m'.f4 i).ver/\((m'.f4 i).ver=(m.f4 i).ver->m'.f4 i=m.f4 i)
theorem qn.refl(m:Mem):qn m m:=⟨Nat.le_refl _,fun _=>⟨Nat.le_refl _,fun _=>rfl⟩⟩
theorem qn.trans{a b c:Mem}(h:qn a b)(k:qn b c):qn a c:=
 ⟨Nat.le_trans h.1 k.1,fun i=>⟨Nat.le_trans (h.2 i).1 (k.2 i).1,fun e=>by
  have h1:=(h.2 i).1;have h2:=(k.2 i).1
  rw[(k.2 i).2 (by omega),(h.2 i).2 (by omega)]⟩⟩
theorem qn.put(m:Mem)(i:Nat)(o:ak):qn m (m.put i o):=by
 refine⟨by rw[Mem.dZ];exact Nat.le_refl _,fun j=>?_⟩
 by_cases hj:j=i
 ·subst hj
  by_cases h:j<m.n/\j<Mem.bound
  ·rw[Mem.pN m o h.1 h.2];exact⟨by simp,fun e=>by simp at e⟩
  ·have:m.put j o=m:=by
    unfold Mem.put;split
    ·rename_i h1 h2;exact(h ⟨by simpa [Nat.blt_eq]using h1,by simpa [Nat.blt_eq]using h2⟩).elim
    ·rfl
   rw[this];exact⟨Nat.le_refl _,fun _=>rfl⟩
 ·rw[Mem.gY m o hj];exact⟨Nat.le_refl _,fun _=>rfl⟩
def Mem.cg(m:Mem):Prop:=∀i,m.n<=i->(m.f4 i).ver=0
theorem qn.push{m m':Mem}{o:ak}(hf:m.cg)(h:m.push o=some m'):qn m m':=by
 obtain⟨_,h2,h3,h4⟩:=Mem.bu h;refine⟨by omega,fun j=>?_⟩
 by_cases hj:j=m.n
 ·subst hj;rw[h3,hf _ (Nat.le_refl _)];exact⟨by simp,fun e=>by simp at e⟩
 ·rw[h4 j hj];exact⟨Nat.le_refl _,fun _=>rfl⟩
theorem cg.put{m:Mem}(hf:m.cg){i:Nat}(o:ak):(m.put i o).cg:=fun j hj=>by
 rw[Mem.dZ]at hj
 by_cases hji:j=i
 ·subst hji
  have:m.put j o=m:=by
   unfold Mem.put;split
   ·rename_i h1 h2;have:j<m.n:=by simpa [Nat.blt_eq]using h1
    omega
   ·rfl
  rw[this];exact hf j hj
 ·rw[Mem.gY m o hji];exact hf j hj
theorem cg.push{m m':Mem}(hf:m.cg){o:ak}(h:m.push o=some m'):m'.cg:=fun j hj=>by
 obtain⟨_,h2,h3,h4⟩:=Mem.bu h;rw[h4 j (by omega)];exact hf j (by omega)
structure Env where
 bG:Nat->Nat
 base:Nat->Nat
 size:Nat->Nat
class aq where
 val:Nat->Value
 one:∀i,(val i).cells = #[val i]/\(val i).oneCell'=true
variable [aq]
def Qk:Value->Value
 | .slice (some a) 0 cap => .slice (some a) 0 cap
 | _ => .slice .none 0 0
theorem yK(v:Value):Qk v = .slice .none 0 0\/∃a cap,Qk v = .slice (some a) 0 cap:=by
 unfold Qk;split
 ·exact .inr ⟨_,_,rfl⟩
 ·exact .inl rfl
def XC.den(β : Env):XC->Value
 | .bool b => .bool b
 | .int k n => .int k n
 | .flt k b => .float k b
 | .cplx k re im => .complex k re im
 | .str s => .string ⟨s.toArray⟩
 | .nilp => .pointer .none
 | .ptr i off => .pointer (some ⟨β.bG i,β.base i+off,.none⟩)
 | .nils => .slice .none 0 0
 | .slice i off len (.exact c) => .slice (some ⟨β.bG i,β.base i+off,.none⟩) len c
 | .slice i off len (.toEnd sz) => .slice (some ⟨β.bG i,β.base i+off,.none⟩) len ((β.size i-off)/sz)
 | .nilm => .map .none
 | .map i => .map (some (β.bG i))
 | .fn f => .func (.func f) #[] #[]
 | .bind g c=>match g.den β with
   | .func f a cs => .func f a (cs.push (c.den β))
   | v=>v
 | .nilf => .nilFunc
 | .nili => .nilIface
 | .atom i=>aq.val i
 | .lsl g k off len fl cut => .slice (some ⟨(lQ (β.bG g) k),(iV (β.bG g) k)+off,.none⟩) len (max fl (s3 (β.bG g) k-cut))
 | .lpt g k off => .pointer (some ⟨(lQ (β.bG g) k),(iV (β.bG g) k)+off,.none⟩)
 | .lem i=>Qk (aq.val i)
def XC.ok(n:Nat):XC->Prop
 | .ptr i _=>i<n
 | .slice i _ _ _=>i<n
 | .map i=>i<n
 | .bind g c=>g.ok n/\c.ok n
 | .lsl g _ _ _ _ _=>g<n
 | .lpt g _ _=>g<n
 | _=>True
def X1.den(β : Env):X1->Value
 | .one c=>c.den β
 | .agg cs => .agg (cs.map (·.den β)).toArray
def X1.ok(n:Nat):X1->Prop
 | .one c=>c.ok n
 | .agg cs=>∀c∈cs,c.ok n
def aL(β : Env)(n:Nat):XV->Value->Prop
 | .undef,_=>True
 | .one c,v=>c.ok n/\v=c.den β
 | .agg cs,v=>(∀c∈cs,c.ok n)/\v = .agg (cs.map (·.den β)).toArray
 | .tup xs,v=>(∀x∈xs,x.ok n)/\v = .tuple (xs.map (·.den β)).toArray
def Ext(n:Nat)(β β':Env):Prop:=∀i,i<n -> β'.bG i = β.bG i /\ β'.size i = β.size i /\ β'.base i = β.base i
theorem Ext.refl(n:Nat)(β : Env):Ext n β β:=fun _ _=>⟨rfl,rfl,rfl⟩
theorem Ext.trans{n n':Nat}{β β' β'':Env}(h:Ext n β β')(h':Ext n' β' β'')(hn:n<=n'):Ext n β β'':=fun i hi=>
 ⟨(h' i (by omega)).1.trans (h i hi).1,(h' i (by omega)).2.1.trans (h i hi).2.1,(h' i (by omega)).2.2.trans (h i hi).2.2⟩
theorem XC.dg{n n':Nat}(h:n<=n'):∀{c:XC},c.ok n->c.ok n':=by
 intro c
 induction c with
 | ptr i off=>intro h';exact Nat.lt_of_lt_of_le h' h
 | slice i off len cap=>intro h';exact Nat.lt_of_lt_of_le h' h
 | map i=>intro h';exact Nat.lt_of_lt_of_le h' h
 | lsl g k off len fl cut=>intro h';exact Nat.lt_of_lt_of_le h' h
 | lpt g k off=>intro h';exact Nat.lt_of_lt_of_le h' h
 | bind g c ih1 ih2=>intro h';exact⟨ih1 h'.1,ih2 h'.2⟩
 | _=>intro _;trivial
theorem XC.jV{n:Nat}{β β':Env}(h:Ext n β β'):∀{c:XC},c.ok n->c.den β'=c.den β:=by
 intro c
 induction c with
 | ptr i off=>intro h';simp only[den,(h i h').1,(h i h').2.2]
 | slice i off len cap=>intro h';cases cap<;>simp only[den,(h i h').1,(h i h').2.1,(h i h').2.2]
 | map i=>intro h';simp only[den,(h i h').1]
 | lsl g k off len fl cut=>intro h';simp only[den,(h g h').1]
 | lpt g k off=>intro h';simp only[den,(h g h').1]
 | bind g c ih1 ih2=>intro h';simp only[den,ih1 h'.1,ih2 h'.2]
 | _=>intro _;rfl
theorem dL{n:Nat}{β β':Env}(h:Ext n β β'){cs:List XC}(hc:∀c∈cs,c.ok n):cs.map (·.den β')=cs.map (·.den β):=
 List.map_congr_left fun c hm=>XC.jV h (hc c hm)
theorem X1.dg{n n':Nat}(h:n<=n'):∀{x:X1},x.ok n->x.ok n'
 | .one _,h'=>XC.dg h h'
 | .agg _,h'=>fun c hc=>XC.dg h (h' c hc)
theorem X1.jV{n:Nat}{β β':Env}(h:Ext n β β'):∀{x:X1},x.ok n->x.den β'=x.den β
 | .one _,h'=>XC.jV h h'
 | .agg cs,h'=>by simp only[den,dL h h']
theorem aL.ext{β β':Env}{n n':Nat}{x:XV}{v:Value}(h:aL β n x v)(he:Ext n β β')(hn:n<=n'):aL β' n' x v:=by
 cases x with
 | undef=>trivial
 | one c=>exact⟨XC.dg hn h.1,h.2.trans (XC.jV he h.1).symm⟩
 | agg cs=>exact⟨fun c hc=>XC.dg hn (h.1 c hc),h.2.trans (by rw[dL he h.1])⟩
 | tup xs=>
   refine⟨fun c hc=>X1.dg hn (h.1 c hc),h.2.trans ?_⟩;have:xs.map (·.den β')=xs.map (·.den β):=List.map_congr_left fun c hm=>X1.jV he (h.1 c hm)
   rw[this]
theorem aL.p6{β : Env}{n:Nat}{x:X1}{v:Value}:aL β n x.p6 v↔x.ok n/\v=x.den β:=by
 cases x<;>exact Iff.rfl
def fb(β : Env)(n lo sz:Nat):ak->Option Obj->Prop
 | .dead,_=>True
 | .late _,_=>True
 | .cells vs elem opn ro,o=>∃cs fr,o=some (.cells cs elem fr)/\cs.size=lo+sz/\(if opn then vs.length<=sz else vs.length=sz) /\
    (ro=false->fr=(0,0)/\lo=0)/\(∀c∈vs,c.ok n)/\(cs.toList.drop lo).take vs.length=vs.map (·.den β)
 | .map es,o=>∃(en:Array MapEntry) (clock:Nat),o=some (.map en clock)/\(∀p∈es,p.1.ok n/\p.2.ok n)/\en.toList.map (fun e=>(e.key,e.val))=es.map fun p=>(p.1.den β,p.2.den β)
theorem fb.ext{β β':Env}{n n' lo sz:Nat}{x:ak}{o:Option Obj}(h:fb β n lo sz x o)(he:Ext n β β')(hn:n<=n'):fb β' n' lo sz x o:=by
 cases x with
 | dead=>trivial
 | late L=>trivial
 | cells vs elem opn ro=>
   obtain⟨cs,fr,h1,h2,h3,h4,h5,h6⟩:=h;exact⟨cs,fr,h1,h2,h3,h4,fun c hc=>XC.dg hn (h5 c hc),by rw[h6,dL he h5]⟩
 | map es=>
   obtain⟨en,clock,h1,h2,h3⟩:=h;refine⟨en,clock,h1,fun p hp=>⟨X1.dg hn (h2 p hp).1,X1.dg hn (h2 p hp).2⟩,h3.trans ?_⟩;exact List.map_congr_left fun p hp=>by rw[X1.jV he (h2 p hp).1,X1.jV he (h2 p hp).2]
def kY(β : Env)(m:Mem)(k:Nat):Prop:=∃i,i<m.n/\(m.get i).own=true /\ β.bG i=k
def XC.lL(n:Nat):XC->Bool
 | .ptr _ _=>false
 | .slice _ _ _ _=>false
 | .map _=>false
 | .bind _ _=>false
 | .lsl _ k _ _ _ _=>Nat.blt k n
 | .lpt _ k _=>Nat.blt k n
 | _=>true
theorem XC.Ei{c:XC}{l:Nat}(h:c.lL l=true){i n:Nat}(hi:i<n):(c.self i).ok n:=by
 cases c with
 | ptr i off=>cases h
 | slice i off len cap=>cases h
 | map i=>cases h
 | bind g c=>cases h
 | lsl g k off len fl cut=>exact hi
 | lpt g k off=>exact hi
 | _=>trivial
theorem XC.oq{c:XC}{l:Nat}(h:c.lL l=true){i j:Nat}{β β':Env}(hb : β'.bG j = β.bG i):(c.self j).den β'=(c.self i).den β:=by
 cases c with
 | ptr i off=>cases h
 | slice i off len cap=>cases h
 | map i=>cases h
 | bind g c=>cases h
 | lsl g k off len fl cut=>simp only[XC.self,XC.den,hb]
 | lpt g k off=>simp only[XC.self,XC.den,hb]
 | _=>rfl
def pJ(β : Env)(m:Mem)(w:World)(i:Nat)(L:List (List XC)):Prop:=
 ∀ (k:Nat) (cs:List XC),L[k]? = some cs->(∀c∈cs,c.lL L.length=true)/\(cs≠[]->¬kY β m (lQ (β.bG i) k) /\
   ∃all e fr,w.heap[(lQ (β.bG i) k)]? = some (.cells all e fr)/\(all.toList.drop (iV (β.bG i) k)).take cs.length=cs.map fun c=>(c.self i).den β)
structure Rel(β : Env)(m:Mem)(w:World):Prop where
 bnd:m.n<=Mem.bound
 fresh:m.cg
 obj:∀i,i<m.n->fb β m.n (β.base i) (β.size i) (m.get i) w.heap[β.bG i]?
 inj:∀i j,i<m.n->j<m.n->(m.get i).own=true->(m.get j).live=true -> β.bG i = β.bG j->i=j
 late:∀i,i<m.n->∀L,m.get i = .late L->pJ β m w i L
theorem pJ.iq{β β':Env}{m m':Mem}{w w':World}{i:Nat}{L:List (List XC)}(h:pJ β m w i L)(hi:i<m.n)(hle:m.n<=m'.n)(he:Ext m.n β β')
 (frame:∀k,k<w.heap.size->¬kY β m k->w'.heap[k]? = w.heap[k]?) (qj:∀k,k<w.heap.size->kY β' m' k->kY β m k):pJ β' m' w' i L:=by
 intro k cs hk;obtain⟨h1,h0⟩:=h k cs hk;refine⟨h1,fun hne=>?_⟩;obtain⟨h2,all,e,fr,h3,h4⟩:=h0 hne;have hlt:=(Array.getElem?_eq_some_iff.1 h3).1;rw[(he i hi).1];refine⟨fun hb=>h2 (qj _ hlt hb),all,e,fr,by rw[frame _ hlt h2,h3],?_⟩;rw[h4];exact List.map_congr_left fun c hc=>(XC.oq (h1 c hc) (he i hi).1).symm
theorem pJ.Ju{β : Env}{m:Mem}{w:World}{i:Nat}{L:List (List XC)}(h:pJ β m w i L)(hi:i<m.n){k:Nat}{cs:List XC}(hk:L[k]? = some cs)(hne:cs≠[]) :
 ∃e sz,fb β m.n (iV (β.bG i) k) sz (.cells (cs.map (·.self i)) e true true) w.heap[(lQ (β.bG i) k)]?:=by
 obtain⟨h1,h0⟩:=h k cs hk;obtain⟨h2,all,e,fr,h3,h4⟩:=h0 hne;have hl:=congrArg List.length h4;simp only[List.length_take,List.length_drop,Array.length_toList,List.length_map]at hl;have hp:0<cs.length:=List.length_pos_iff.2 hne;refine⟨e,all.size-(iV (β.bG i) k),all,fr,h3,by omega,?_,fun h=>(by cases h),fun c hc=>?_,?_⟩
 ·rw[if_pos rfl,List.length_map];omega
 ·obtain⟨d,hd,rfl⟩:=List.mem_map.1 hc;exact XC.Ei (h1 d hd) hi
 ·rw[List.length_map,h4,List.map_map];rfl
theorem l7{β0 β : Env}{m0 m:Mem}{w0 w:World}(h0:Rel β0 m0 w0)(hle:m0.n<=m.n)(he:Ext m0.n β0 β)
 (frame:∀k,k<w0.heap.size->¬kY β0 m0 k->w.heap[k]? = w0.heap[k]?) (qj:∀k,k<w0.heap.size->kY β m k->kY β0 m0 k)
 (same:∀j,j<m.n->∀L,m.get j = .late L->j<m0.n/\m0.get j = .late L):∀j,j<m.n->∀L,m.get j = .late L->pJ β m w j L:=fun j hj L hL=>by
 obtain⟨h1,h2⟩:=same j hj L hL;exact(h0.late j h1 L h2).iq h1 hle he frame qj
theorem Rel.lt{β : Env}{m:Mem}{w:World}(h:Rel β m w){i:Nat}(hi:i<m.n)(hl:(m.get i).live=true) : β.bG i<w.heap.size:=by
 have h1:=h.obj i hi
 cases hg:m.get i with
 | dead=>rw[hg]at hl;cases hl
 | late L=>rw[hg]at hl;cases hl
 | cells vs elem opn ro=>
   rw[hg]at h1;obtain⟨cs,fr,h2,_⟩:=h1;exact(Array.getElem?_eq_some_iff.1 h2).1
 | map es=>
   rw[hg]at h1;obtain⟨en,clock,h2,_⟩:=h1;exact(Array.getElem?_eq_some_iff.1 h2).1
def Dp(β : Env)(m:Mem)(k:Nat):Prop:=∃i,i<m.n/\∃L q cs,m.get i = .late L/\L[q]? = some cs/\cs≠[]/\(lQ (β.bG i) q)=k
theorem Dp.yB{β β':Env}{m m':Mem}{k:Nat}(h:Dp β' m' k)(he:Ext m.n β β')(same:∀j,j<m'.n->∀L,m'.get j = .late L->j<m.n/\m.get j = .late L):Dp β m k:=by
 obtain⟨i,hi,L,q,cs,h1,h2,h3,h4⟩:=h;obtain⟨k1,k2⟩:=same i hi L h1;exact⟨i,k1,L,q,cs,k2,h2,h3,by rw[<-h4,(he i k1).1]⟩
structure Step(β : Env)(m:Mem)(w:World)(β':Env)(m':Mem)(w':World):Prop where
 le:m.n<=m'.n
 ext:Ext m.n β β'
 rel:Rel β' m' w'
 os:w'.os=w.os
 tape:w'.tape=w.tape
 output:w'.output=w.output
 size:w.heap.size<=w'.heap.size
 frame:∀k,k<w.heap.size->¬kY β m k->w'.heap[k]? = w.heap[k]?
 qj:∀k,k<w.heap.size->kY β' m' k->kY β m k
 wa:∀k,k<w.heap.size->Dp β' m' k->kY β m k\/Dp β m k
theorem Step.refl{β : Env}{m:Mem}{w:World}(h:Rel β m w):Step β m w β m w:=
 ⟨Nat.le_refl _,Ext.refl _ _,h,rfl,rfl,rfl,Nat.le_refl _,fun _ _ _=>rfl,fun _ _ h=>h,fun _ _ h => .inr h⟩
theorem Step.trans{β β' β'':Env}{m m' m'':Mem}{w w' w'':World}(h:Step β m w β' m' w')(g:Step β' m' w' β'' m'' w''):Step β m w β'' m'' w'':=
 ⟨Nat.le_trans h.le g.le,h.ext.trans g.ext h.le,g.rel,g.os.trans h.os,g.tape.trans h.tape,g.output.trans h.output,Nat.le_trans h.size g.size,
  fun k hk hn=>(g.frame k (Nat.lt_of_lt_of_le hk h.size) (fun hi=>hn (h.qj k hk hi))).trans (h.frame k hk hn),
  fun k hk hi=>h.qj k hk (g.qj k (Nat.lt_of_lt_of_le hk h.size) hi),
  fun k hk hi=>(g.wa k (Nat.lt_of_lt_of_le hk h.size) hi).elim (fun h1 => .inl (h.qj k hk h1)) (fun h1=>h.wa k hk h1)⟩
theorem Step.drew{β : Env}{m:Mem}{w:World}(h:Rel β m w):Step β m w β m {w with drawn:=w.drawn+1}:=
 ⟨Nat.le_refl _,Ext.refl _ _,⟨h.bnd,h.fresh,h.obj,h.inj,h.late⟩,rfl,rfl,rfl,Nat.le_refl _,fun _ _ _=>rfl,fun _ _ h=>h,fun _ _ h => .inr h⟩
theorem Step.push{β : Env}{m m':Mem}{w:World}(h:Rel β m w){o:ak}(hp:m.push o=some m'){ob:Obj}{sz:Nat}
 (ho:∀β',Ext m.n β β'->fb β' m'.n 0 sz o (some ob)) (hnl:∀L,o ≠ .late L:=by intro L hL;cases hL) :
 ∃β',Step β m w β' m' (w.alloc ob) /\ β'.bG m.n=w.heap.size /\ β'.size m.n=sz /\ β'.base m.n=0:=by
 obtain⟨h1,h2,h3,h4⟩:=Mem.bu hp
 let β':Env:=⟨fun i=>if i=m.n then w.heap.size else β.bG i,fun i=>if i=m.n then 0 else β.base i,fun i=>if i=m.n then sz else β.size i⟩
 have hext:Ext m.n β β':=fun i hi=>⟨by simp only[β'];rw[if_neg (by omega)],by simp only[β'];rw[if_neg (by omega)],by simp only[β'];rw[if_neg (by omega)]⟩
 have hblk : β'.bG m.n=w.heap.size:=by simp[β']
 have hsz : β'.size m.n=sz:=by simp[β']
 have hba : β'.base m.n=0:=by simp[β']
 have hget:∀j,j≠m.n->m'.get j=m.get j:=fun j hj=>by unfold Mem.get;rw[h4 j hj]
 have hgn:m'.get m.n=o:=by unfold Mem.get;rw[h3]
 have hheap:(w.alloc ob).heap=w.heap.push ob:=rfl
 have hframe:∀k,k<w.heap.size->¬kY β m k->(w.alloc ob).heap[k]? = w.heap[k]?:=by
  intro k hk _;rw[hheap,Array.getElem?_push,if_neg (by omega)]
 have himg:∀k,k<w.heap.size->kY β' m' k->kY β m k:=by
  intro k hk ⟨i,hi,hli,hbi⟩
  by_cases hin:i=m.n
  ·rw[hin,hblk]at hbi;omega
  ·rw[hget i hin]at hli;rw[(hext i (by omega)).1]at hbi;exact⟨i,by omega,hli,hbi⟩
 have hsame:∀j,j<m'.n->∀L,m'.get j = .late L->j<m.n/\m.get j = .late L:=fun i hi L hL=>by
  by_cases hin:i=m.n
  ·rw[hin,hgn]at hL;exact absurd hL (hnl L)
  ·rw[hget i hin]at hL;exact⟨by omega,hL⟩
 refine⟨β',⟨by omega,hext,⟨by omega,cg.push h.fresh hp,?_,?_,l7 h (by omega) hext hframe himg hsame⟩,rfl,rfl,rfl,by simp[hheap],hframe,himg,fun k _ hk => .inr (hk.yB hext hsame)⟩,hblk,hsz,hba⟩
 ·intro i hi
  by_cases hin:i=m.n
  ·subst hin;rw[hgn,hblk,hsz,hba,hheap,Array.getElem?_push,if_pos rfl];exact ho β' hext
  ·rw[hget i hin,(hext i (by omega)).1,(hext i (by omega)).2.1,(hext i (by omega)).2.2]
   by_cases hlv:(m.get i).live=true
   ·have hlt:=h.lt (i:=i) (by omega) hlv;rw[hheap,Array.getElem?_push,if_neg (by omega)];exact(h.obj i (by omega)).ext hext (by omega)
   ·cases hg:m.get i with
    | dead=>trivial
    | late L=>trivial
    | cells vs elem opn ro=>rw[hg]at hlv;simp[ak.live]at hlv
    | map es=>rw[hg]at hlv;simp[ak.live]at hlv
 ·intro i j hi hj hli hlj he
  by_cases hin:i=m.n
  ·by_cases hjn:j=m.n
   ·omega
   ·rw[hget j hjn]at hlj;have hlt:=h.lt (i:=j) (by omega) hlj;rw[hin,hblk,(hext j (by omega)).1]at he;omega
  ·by_cases hjn:j=m.n
   ·rw[hget i hin]at hli;have hlt:=h.lt (i:=i) (by omega) (ak.bO hli);rw[hjn,hblk,(hext i (by omega)).1]at he;omega
   ·rw[hget i hin]at hli;rw[hget j hjn]at hlj;rw[(hext i (by omega)).1,(hext j (by omega)).1]at he;exact h.inj i j (by omega) (by omega) hli hlj he
theorem Step.put{β : Env}{m:Mem}{w w':World}(h:Rel β m w){i:Nat}(hi:i<m.n)(hl:(m.get i).own=true){o:ak}
 (hos:w'.os=w.os) (htape:w'.tape=w.tape) (hout:w'.output=w.output) (hsz:w'.heap.size=w.heap.size)
 (hother:∀k,k ≠ β.bG i->w'.heap[k]? = w.heap[k]?) (ho:fb β m.n (β.base i) (β.size i) o w'.heap[β.bG i]?) (hnl:∀L,o ≠ .late L:=by intro L hL;cases hL):Step β m w β (m.put i o) w':=by
 have hib:i<Mem.bound:=Nat.lt_of_lt_of_le hi h.bnd
 have hlive:∀j,((m.put i o).get j).live=true->(m.get j).live=true:=fun j hj=>by
  by_cases hji:j=i
  ·subst hji;exact ak.bO hl
  ·rwa [Mem.ek m o hji]at hj
 have hown:∀j,((m.put i o).get j).own=true->(m.get j).own=true:=fun j hj=>by
  by_cases hji:j=i
  ·subst hji;exact hl
  ·rwa [Mem.ek m o hji]at hj
 have hframe:∀k,k<w.heap.size->¬kY β m k->w'.heap[k]? = w.heap[k]?:=by
  intro k hk hn;exact hother k (fun e=>hn ⟨i,hi,hl,e.symm⟩)
 have himg:∀k,k<w.heap.size->kY β (m.put i o) k->kY β m k:=by
  intro k _ ⟨j,hj,hlj,hb⟩;rw[Mem.dZ]at hj;exact⟨j,hj,hown j hlj,hb⟩
 have hsame:∀j,j<(m.put i o).n->∀L,(m.put i o).get j = .late L->j<m.n/\m.get j = .late L:=fun j hj L hL=>by
  rw[Mem.dZ]at hj
  by_cases hji:j=i
  ·rw[hji,Mem.ff m o hi hib]at hL;exact absurd hL (hnl L)
  ·rw[Mem.ek m o hji]at hL;exact⟨hj,hL⟩
 refine⟨by rw[Mem.dZ];exact Nat.le_refl _,Ext.refl _ _,⟨by rw[Mem.dZ];exact h.bnd,cg.put h.fresh _,?_,?_,l7 h (by rw[Mem.dZ];exact Nat.le_refl _) (Ext.refl _ _) hframe himg hsame⟩,hos,htape,hout,by omega,hframe,himg,fun k _ hk => .inr (hk.yB (Ext.refl _ _) hsame)⟩
 ·intro j hj;rw[Mem.dZ]at hj ⊢
  by_cases hji:j=i
  ·subst hji;rw[Mem.ff m o hi hib];exact ho
  ·rw[Mem.ek m o hji]
   by_cases hlv:(m.get j).live=true
   ·rw[hother _ (fun e=>hji (h.inj i j hi hj hl hlv e.symm).symm)];exact h.obj j hj
   ·cases hg:m.get j with
    | dead=>trivial
    | late L=>trivial
    | cells vs elem opn ro=>rw[hg]at hlv;simp[ak.live]at hlv
    | map es=>rw[hg]at hlv;simp[ak.live]at hlv
 ·intro a b ha hb hla hlb he;rw[Mem.dZ]at ha hb;exact h.inj a b ha hb (hown a hla) (hlive b hlb) he
theorem Step.kill{β : Env}{m:Mem}{w:World}(h:Rel β m w){i:Nat}(hi:i<m.n):Step β m w β (m.put i .dead) w:=by
 have hib:i<Mem.bound:=Nat.lt_of_lt_of_le hi h.bnd
 have hlive:∀j,((m.put i .dead).get j).live=true->(m.get j).live=true/\j≠i:=fun j hj=>by
  by_cases hji:j=i
  ·subst hji;rw[Mem.ff m _ hi hib]at hj;cases hj
  ·rw[Mem.ek m _ hji]at hj;exact⟨hj,hji⟩
 have hown:∀j,((m.put i .dead).get j).own=true->(m.get j).own=true:=fun j hj=>by
  by_cases hji:j=i
  ·subst hji;rw[Mem.ff m _ hi hib]at hj;cases hj
  ·rwa [Mem.ek m _ hji]at hj
 have himg:∀k,k<w.heap.size->kY β (m.put i .dead) k->kY β m k:=by
  intro k _ ⟨j,hj,hlj,hb⟩;rw[Mem.dZ]at hj;exact⟨j,hj,hown j hlj,hb⟩
 have hsame:∀j,j<(m.put i .dead).n->∀L,(m.put i .dead).get j = .late L->j<m.n/\m.get j = .late L:=fun j hj L hL=>by
  rw[Mem.dZ]at hj
  by_cases hji:j=i
  ·rw[hji,Mem.ff m _ hi hib]at hL;cases hL
  ·rw[Mem.ek m _ hji]at hL;exact⟨hj,hL⟩
 refine⟨by rw[Mem.dZ];exact Nat.le_refl _,Ext.refl _ _,⟨by rw[Mem.dZ];exact h.bnd,cg.put h.fresh _,?_,?_,l7 h (by rw[Mem.dZ];exact Nat.le_refl _) (Ext.refl _ _) (fun _ _ _=>rfl) himg hsame⟩,rfl,rfl,rfl,Nat.le_refl _,fun _ _ _=>rfl,himg,fun k _ hk => .inr (hk.yB (Ext.refl _ _) hsame)⟩
 ·intro j hj;rw[Mem.dZ]at hj ⊢
  by_cases hji:j=i
  ·subst hji;rw[Mem.ff m _ hi hib];trivial
  ·rw[Mem.ek m _ hji];exact h.obj j hj
 ·intro a b ha hb hla hlb he;rw[Mem.dZ]at ha hb;exact h.inj a b ha hb (hown a hla) (hlive b hlb).1 he
end Go.Xm
namespace Go.Xm
variable [aq]
inductive dj{α γ : Type}(R : α -> γ->Prop):List α->List γ->Prop where
 | nil:dj R [] []
 | cons {a : α} {b : γ} {l:List α} {k:List γ}:R a b->dj R l k->dj R (a::l) (b::k)
theorem dj.mono{α γ : Type}{R S : α -> γ->Prop}(hRS:∀a b,R a b->S a b):∀{l:List α} {k:List γ},dj R l k->dj S l k
 | _,_,.nil => .nil
 | _,_,.cons h t => .cons (hRS _ _ h) (t.mono hRS)
theorem dj.length{α γ : Type}{R : α -> γ->Prop}:∀{l:List α} {k:List γ},dj R l k->l.length=k.length
 | _,_,.nil=>rfl
 | _,_,.cons _ t=>by simp[t.length]
theorem dj.append{α γ : Type}{R : α -> γ->Prop}:∀{l l':List α} {k k':List γ},dj R l k->dj R l' k'->dj R (l++l') (k++k')
 | _,_,_,_,.nil,h'=>h'
 | _,_,_,_,.cons h t,h' => .cons h (t.append h')
theorem dj.n9{α γ δ : Type}{R : α -> γ->Prop}(f : δ -> α)(g : δ -> γ):∀(l:List δ),(∀x∈l,R (f x) (g x))->dj R (l.map f) (l.map g)
 | [],_ => .nil
 | x::l,h => .cons (h x (List.mem_cons_self ..)) (dj.n9 f g l fun y hy=>h y (List.mem_cons_of_mem _ hy))
def n_:Value->Option XC
 | .bool b=>some (.bool b)
 | .int k n=>some (.int k n)
 | .float k b=>some (.flt k b)
 | .complex k a b=>some (.cplx k a b)
 | .string s=>some (.str s.data.toList)
 | .pointer .none=>some .nilp
 | .slice .none 0 0=>some .nils
 | .map .none=>some .nilm
 | .nilFunc=>some .nilf
 | .nilIface=>some .nili
 | _ => .none
theorem pT{v:Value}{c:XC}(h:n_ v=some c)(β : Env)(n:Nat):c.ok n/\v=c.den β:=by
 unfold n_ at h
 split at h<;>first
  | (cases h;exact⟨trivial,rfl⟩)
  | (cases h)
theorem oc:∀{vs:List Value} {cs:List XC},vs.mapM n_=some cs->∀(β : Env) (n:Nat),(∀c∈cs,c.ok n)/\vs=cs.map (·.den β)
 | [],cs,h,β,n=>by simp at h;subst h;simp
 | v::vs,cs,h,β,n=>by
   simp only[List.mapM_cons,Option.bind_eq_bind,Option.pure_def,Option.bind_eq_some_iff,Option.some.injEq]at h;obtain⟨c,h1,cs',h2,rfl⟩:=h;obtain⟨h3,h4⟩:=oc h2 β n;obtain⟨h5,h6⟩:=pT h1 β n;refine⟨fun x hx=>?_,by simp[h6.symm,h4.symm]⟩
   rcases List.mem_cons.1 hx with rfl|hx
   ·exact h5
   ·exact h3 x hx
def rq(P:Program)(t:TypeId):Option (List XC):=
 match P.info? t with
 | some i=>match i.zero with
   | some v=>v.cells.toList.mapM n_
   | .none => .none
 | .none => .none
def bT(P:Program)(t:TypeId):Option Nat:=(P.info? t).map (·.size)
def fM(P:Program)(t:TypeId):Option Bool:=
 match P.underlying t with
 | some (.struct _)=>some true
 | some (.array _ _)=>some true
 | some _=>some false
 | .none => .none
def cQ:XV->Option (List XC)
 | .one c=>some [c]
 | .agg cs=>some cs
 | _ => .none
theorem XC.wX(β : Env)(c:XC):(c.den β).cells = #[c.den β]/\(c.den β).oneCell'=true:=by
 induction c with
 | slice i off len cap=>cases cap<;>exact⟨rfl,rfl⟩
 | bind g c ih1 _=>
   unfold XC.den
   cases hg:g.den β<;>simp only<;>first
    | exact⟨rfl,rfl⟩
    | (rw[hg]at ih1;exact ih1)
 | atom i=>exact aq.one i
 | lem i=>
   unfold XC.den
   rcases yK (aq.val i)with e|⟨a,cap,e⟩<;>rw[e]<;>exact⟨rfl,rfl⟩
 | _=>exact⟨rfl,rfl⟩
theorem qc{β : Env}{n:Nat}{x:XV}{v:Value}{cs:List XC}(h:cQ x=some cs)(hr:aL β n x v) :
 v.cells=(cs.map (·.den β)).toArray/\∀c∈cs,c.ok n:=by
 cases x with
 | one c=>
   simp only[cQ,Option.some.injEq]at h;subst h;obtain⟨h1,rfl⟩:=hr;exact⟨by simp[(XC.wX β c).1],by simpa using h1⟩
 | agg cs'=>
   simp only[cQ,Option.some.injEq]at h;subst h;obtain⟨h1,rfl⟩:=hr;exact⟨rfl,h1⟩
 | undef=>cases h
 | tup vs=>cases h
def af(g:Nat->XV):Operand->XV
 | .tmp t=>g t
 | .const v=>match n_ v with
   | some c => .one c
   | .none => .undef
 | .func f => .one (.fn f)
 | .global _ => .undef
structure gB(β : Env)(n nt:Nat)(g:Nat->XV)(a:Array Value):Prop where
 size:a.size=nt
 small:nt<1000000
 rel:∀t,t<nt->aL β n (g t) (a.getD t undef)
 out:∀t,nt<=t->g t = .undef
abbrev lV(β : Env)(n nt:Nat)(r:T XV)(a:Array Value):Prop:=gB β n nt (r.get .undef) a
theorem gB.eval{β : Env}{n nt:Nat}{g:Nat->XV}{a:Act}(h:gB β n nt g a.tmps)(x:Operand):aL β n (af g x) (a.eval x):=by
 cases x with
 | tmp t=>
   by_cases ht:t<nt
   ·exact h.rel t ht
   ·simp only[af,h.out t (Nat.le_of_not_lt ht)];trivial
 | const v=>
   simp only[af,Act.eval];split
   ·rename_i c hc;exact pT hc β n
   ·trivial
 | func f=>exact⟨trivial,rfl⟩
 | global g=>trivial
theorem gB.ext{β β':Env}{n n' nt:Nat}{g:Nat->XV}{a:Array Value}(h:gB β n nt g a)(he:Ext n β β')(hn:n<=n'):gB β' n' nt g a:=
 ⟨h.size,h.small,fun t ht=>(h.rel t ht).ext he hn,h.out⟩
def nE(nt:Nat)(r:T XV)(d:Option Nat)(v:XV):T XV:=
 match d with
 | some d=>if d<nt then r.set .undef 31 d v else r
 | .none=>r
theorem lV.set{β : Env}{n nt:Nat}{r:T XV}{a:Act}(h:lV β n nt r a.tmps)(d:Option Nat){x:XV}{v:Value}(hv:aL β n x v) :
 lV β n nt (nE nt r d x) (a.put d v).tmps:=by
 cases d with
 | none=>exact h
 | some d =>
   simp only[nE,Act.put];split
   ·rename_i hd;have hs:=h.small;refine⟨by simpa using h.size,h.small,fun t ht=>?_,fun t ht=>?_⟩
    ·by_cases htd:t=d
     ·subst htd;rw[T.f5 _ _ _ _ _ (by omega)];have:(a.tmps.setIfInBounds t v).getD t undef=v:=by simp[Array.getD_eq_getD_getElem?,h.size,hd]
      rw[this];exact hv
     ·rw[T.fg _ _ _ _ _ _ htd]
      have:(a.tmps.setIfInBounds d v).getD t undef=a.tmps.getD t undef:=by
       simp[Array.getD_eq_getD_getElem?,Array.getElem?_setIfInBounds_ne (Ne.symm htd)]
      rw[this];exact h.rel t ht
    ·rw[T.fg _ _ _ _ _ _ (by omega)];exact h.out t ht
   ·rename_i hd;refine⟨by simpa using h.size,h.small,fun t ht=>?_,h.out⟩
    have:(a.tmps.setIfInBounds d v).getD t undef=a.tmps.getD t undef:=by
     simp[Array.getD_eq_getD_getElem?,Array.getElem?_setIfInBounds_ne (show d≠t by omega)]
    rw[this];exact h.rel t ht
def iW(k:IntKind)(n:Int):Int:=
 match k,n with
 | .i64,.ofNat m=>if Nat.blt m 9223372036854775808 then .ofNat m else IntKind.wrap .i64 n
 | .i64,.negSucc m=>if Nat.blt m 9223372036854775808 then .negSucc m else IntKind.wrap .i64 n
 | .u8,.ofNat m => .ofNat (m%256)
 | .u64,.ofNat m => .ofNat (m%18446744073709551616)
 | .u16,.ofNat m => .ofNat (m%65536)
 | .u32,.ofNat m => .ofNat (m%4294967296)
 | k,n=>k.wrap n
theorem cj(k:IntKind)(n:Int):iW k n=k.wrap n:=by
 unfold iW;split
 ·rename_i m;split
  ·rename_i h;have h':m<9223372036854775808:=by simpa [Nat.blt_eq]using h
   exact(IntWalk.i64_in (Int.ofNat m) ⟨by have:(0:Int)<=Int.ofNat m:=Int.natCast_nonneg m;omega,by have:Int.ofNat m=(m:Int):=rfl;omega⟩).symm
  ·rfl
 ·rename_i m;split
  ·rename_i h;have h':m<9223372036854775808:=by simpa [Nat.blt_eq]using h
   exact(IntWalk.i64_in (Int.negSucc m) ⟨by omega,by omega⟩).symm
  ·rfl
 ·rw[IntKind.wrap_u8];rfl
 ·rw[IntKind.wrap_u64];rfl
 ·rw[IntKind.wrap_u16];rfl
 ·rw[IntKind.wrap_u32];rfl
 ·rfl
end Go.Xm
namespace Go.Xm
variable [aq]
def dW(k k':IntKind)(x:Option XC):Option XC:=if k=k' then x else .none
def bE(op:BinOp)(k k':IntKind)(a b:Int):Option XC:=
 match op with
 | .shl=>if b<0 then .none else some (.int k (iW k (a*Int.ofNat (2^(min b.toNat k.bits)))))
 | .shr=>if b<0 then .none else some (.int k (a.fdiv (Int.ofNat (2^(min b.toNat k.bits)))))
 | .add=>dW k k' (some (.int k (iW k (a+b))))
 | .sub=>dW k k' (some (.int k (iW k (a-b))))
 | .mul=>dW k k' (some (.int k (iW k (a*b))))
 | .quo=>dW k k' (if b=0 then .none else some (.int k (iW k (a.tdiv b))))
 | .rem=>dW k k' (if b=0 then .none else some (.int k (a.tmod b)))
 | .and=>dW k k' (some (.int k (iW k ((BitVec.ofInt k.bits a &&& BitVec.ofInt k.bits b).toNat))))
 | .or=>dW k k' (some (.int k (iW k ((BitVec.ofInt k.bits a ||| BitVec.ofInt k.bits b).toNat))))
 | .xor=>dW k k' (some (.int k (iW k ((BitVec.ofInt k.bits a ^^^ BitVec.ofInt k.bits b).toNat))))
 | .andNot=>dW k k' (some (.int k (iW k ((BitVec.ofInt k.bits a &&& ~~~(BitVec.ofInt k.bits b)).toNat))))
 | .eql=>dW k k' (some (.bool (a==b)))
 | .neq=>dW k k' (some (.bool (a != b)))
 | .lss=>dW k k' (some (.bool (decide (a<b))))
 | .leq=>dW k k' (some (.bool (decide (a<=b))))
 | .gtr=>dW k k' (some (.bool (decide (b<a))))
 | .geq=>dW k k' (some (.bool (decide (b<=a))))
theorem uZ(n:Nat):Int.ofNat (2^n)=(2:Int)^n:=by simp
theorem wG{P:Program}{op:BinOp}{t:TypeId}{k k':IntKind}{a b:Int}{c:XC}(h:bE op k k' a b=some c)(β : Env)(n:Nat)(w:World) :
 (binOp op t (.int k a) (.int k' b)).run P w = .ok (c.den β) w/\c.ok n:=by
 cases op<;>simp only[bE,dW]at h
 case shl=>
  split at h
  ·cases h
  ·rename_i hb;cases h;simp[binOp,Op.shift,hb,XC.den,XC.ok,cj]
 case shr=>
  split at h
  ·cases h
  ·rename_i hb;cases h;simp[binOp,Op.shift,hb,XC.den,XC.ok]
 case quo=>
  split at h
  ·rename_i hk;subst hk;split at h
   ·cases h
   ·rename_i hb;cases h;simp[binOp,Op.intDiv,hb,XC.den,XC.ok,cj]
  ·cases h
 case rem=>
  split at h
  ·rename_i hk;subst hk;split at h
   ·cases h
   ·rename_i hb;cases h;simp[binOp,Op.intDiv,hb,XC.den,XC.ok]
  ·cases h
 all_goals
  split at h
  ·rename_i hk;subst hk;cases h;simp[binOp,Op.intArith,Op.intBits,Op.intCmp,XC.den,XC.ok,cj]
  ·cases h
def wJ(d:TypeDesc)(x y:XC):Option Bool:=
 match x,y with
 | .bool a,.bool b=>(match d with | .bool=>some (a==b)|_ => .none)
 | .int k a,.int k' b=>(match d with | .int _=>if k=k' then some (a==b)else .none|_ => .none)
 | .flt k a,.flt k' b=>(match d with | .float _=>if k=k' then some (Op.floatEq k a b)else .none|_ => .none)
 | .cplx k a b,.cplx k' a' b'=>(match d with | .complex _=>if k=k' then some (Op.floatEq k a a'&&Op.floatEq k b b')else .none|_ => .none)
 | .str a,.str b=>(match d with | .string=>some (a==b)|_ => .none)
 | .nilp,.nilp=>(match d with | .pointer _=>some true|_ => .none)
 | .nilp,.ptr _ _=>(match d with | .pointer _=>some false|_ => .none)
 | .ptr _ _,.nilp=>(match d with | .pointer _=>some false|_ => .none)
 | .nils,.nils=>(match d with | .slice _=>some true|_ => .none)
 | .nils,.slice _ _ _ _=>(match d with | .slice _=>some false|_ => .none)
 | .slice _ _ _ _,.nils=>(match d with | .slice _=>some false|_ => .none)
 | .nilm,.nilm=>(match d with | .map _ _=>some true|_ => .none)
 | .nilm,.map _=>(match d with | .map _ _=>some false|_ => .none)
 | .map _,.nilm=>(match d with | .map _ _=>some false|_ => .none)
 | .nilf,.nilf=>(match d with | .func _ _ _=>some true|_ => .none)
 | .nils,.lsl _ _ _ _ _ _=>(match d with | .slice _=>some false|_ => .none)
 | .lsl _ _ _ _ _ _,.nils=>(match d with | .slice _=>some false|_ => .none)
 | _,_ => .none
theorem wQ(a b:List UInt8):((⟨a.toArray⟩:ByteArray)==⟨b.toArray⟩)=(a==b):=by
 rw[beq_toListBytes,ByteArray.toList_eq,ByteArray.toList_eq]
theorem Dc{P:Program}{d:TypeDesc}{t:TypeId}{x y:XC}{r:Bool}(hd:P.underlying t=some d)(h:wJ d x y=some r)(β : Env)(w:World)(f:Nat) :
 (Op.equalIn (f+1) t (x.den β) (y.den β)).run P w = .ok r w:=by
 rw[Op.equalIn];simp only[Sem.run_bind,run_underlying hd,Result.andThen_ok];unfold wJ at h;split at h
 all_goals try (cases h;done)
 case h_1=>split at h<;>cases h;rfl
 case h_2=>
  split at h
  ·split at h<;>cases h
   rename_i hk;subst hk;simp only[XC.den,if_true,Sem.run_pure]
  ·cases h
 case h_3=>
  split at h
  ·split at h<;>cases h
   rename_i hk;subst hk;simp only[XC.den,if_true,Sem.run_pure]
  ·cases h
 case h_4=>
  split at h
  ·split at h<;>cases h
   rename_i hk;subst hk;simp only[XC.den,if_true,Sem.run_pure]
  ·cases h
 case h_5=>split at h<;>cases h;simp only[XC.den,Sem.run_pure,wQ]
 case h_6=>split at h<;>cases h;rfl
 case h_7=>split at h<;>cases h;rfl
 case h_8=>split at h<;>cases h;rfl
 case h_9=>split at h<;>cases h;rfl
 case h_10 i o l cap=>split at h<;>cases h;cases cap<;>rfl
 case h_11 i o l cap=>split at h<;>cases h;cases cap<;>rfl
 case h_12=>split at h<;>cases h;rfl
 case h_13=>split at h<;>cases h;rfl
 case h_14=>split at h<;>cases h;rfl
 case h_16=>split at h<;>cases h;rfl
 case h_17=>split at h<;>cases h;rfl
 case h_15=>split at h<;>cases h;rfl
def gz(P:Program)(t:TypeId)(cs:List XC)(off:Nat):Option X1:=
 match fM P t with
 | some true=>match bT P t with
   | some s=>some (.agg ((cs.drop off).take s))
   | .none => .none
 | some false=>match cs[off]? with
   | some c=>some (.one c)
   | .none => .none
 | .none => .none
theorem nc{P:Program}{t:TypeId}{b:Bool}(h:fM P t=some b)(w:World):(isAgg t).run P w = .ok b w:=by
 unfold fM at h;split at h
 ·rename_i hu;cases h;simp[isAgg,run_underlying hu]
 ·rename_i hu;cases h;simp[isAgg,run_underlying hu]
 ·rename_i d h1 h2 hu;cases h;simp only[isAgg,Sem.run_bind,run_underlying hu,Result.andThen_ok];cases d<;>first|rfl|(exact(h1 _ rfl).elim)|(exact(h2 _ _ rfl).elim)
 ·cases h
theorem br{P:Program}{t:TypeId}{s:Nat}(h:bT P t=some s)(w:World):(sizeOf t).run P w = .ok s w:=by
 unfold bT at h
 cases hi:P.info? t with
 | none=>rw[hi]at h;cases h
 | some i=>
   rw[hi]at h;simp only[Option.map_some,Option.some.injEq]at h;simp[sizeOf,typeInfo,hi,h]
theorem wz{α γ : Type}(f : α -> γ)(cs:List α)(off s:Nat):(cs.map f).toArray.extract off (off+s)=(((cs.drop off).take s).map f).toArray:=by
 simp[List.map_take,List.map_drop]
theorem gj{P:Program}{t:TypeId}{cs:List XC}{off:Nat}{x:X1}(h:gz P t cs off=some x){n:Nat}(hc:∀c∈cs,c.ok n)(β : Env)(w:World) :
 (part t (cs.map (·.den β)).toArray off).run P w = .ok (x.den β) w/\x.ok n:=by
 unfold gz at h;split at h
 ·rename_i ha;split at h
  ·rename_i s hs;cases h;refine⟨?_,fun c hm=>hc c (List.mem_of_mem_drop (List.mem_of_mem_take hm))⟩;simp only[part,Sem.run_bind,nc ha,Result.andThen_ok,if_true,br hs,Sem.run_pure,X1.den,wz]
  ·cases h
 ·rename_i ha;split at h
  ·rename_i c hg;cases h;refine⟨?_,hc c (List.mem_of_getElem? hg)⟩;have hg':(cs.map (·.den β)).toArray[off]? = some (c.den β):=by simp[hg]
   simp only[part,Sem.run_bind,nc ha,Result.andThen_ok,Bool.false_eq_true,if_false,hg',Sem.run_pure,X1.den]
  ·cases h
 ·cases h
def ig(P:Program)(eq:TypeId->X1->X1->Option Bool)(xs ys:List XC):List Field->Option Bool
 | []=>some true
 | f :: fs=>
   if f.name ≠ "_" then
    match gz P f.type xs f.offset,gz P f.type ys f.offset with
    | some a,some b=>match eq f.type a b with
      | some true=>ig P eq xs ys fs
      | some false=>some false
      | .none => .none
    | _,_ => .none
   else ig P eq xs ys fs
def kR(P:Program)(eq:TypeId->X1->X1->Option Bool)(elem:TypeId)(n:Nat)(xs ys:List XC):Nat->Nat->Option Bool
 | _,0=>some true
 | i,k+1=>
   match gz P elem xs (i*n),gz P elem ys (i*n)with
   | some a,some b=>match eq elem a b with
     | some true=>kR P eq elem n xs ys (i+1) k
     | some false=>some false
     | .none => .none
   | _,_ => .none
def bY(P:Program):Nat->TypeId->X1->X1->Option Bool
 | 0,_,_,_ => .none
 | d + 1,t,x,y=>
   match P.underlying t with
   | some (.struct fs)=>match x,y with
     | .agg xs,.agg ys=>if P.stoodInHeld t then .none else ig P (bY P d) xs ys fs.toList
     | _,_ => .none
   | some (.array len elem)=>match x,y,bT P elem with
     | .agg xs,.agg ys,some n=>kR P (bY P d) elem n xs ys 0 len
     | _,_,_ => .none
   | some ds=>match x,y with
     | .one a,.one b=>wJ ds a b
     | _,_ => .none
   | .none => .none
def xV(P:Program)(d:Nat):Prop:=∀t x y r,bY P d t x y=some r->∀(β : Env) (n:Nat),x.ok n->y.ok n->∀(w:World) (f:Nat),d<=f->(Op.equalIn f t (x.den β) (y.den β)).run P w = .ok r w
theorem jP{P:Program}{d:Nat}(he:xV P d){xs ys:List XC}{n:Nat}(hx:∀c∈xs,c.ok n)(hy:∀c∈ys,c.ok n)(β : Env)(w:World)(f:Nat)(hf:d<=f) :
 ∀(fs:List Field) (r:Bool),ig P (bY P d) xs ys fs=some r->(Op.eqFields f (xs.map (·.den β)).toArray (ys.map (·.den β)).toArray fs).run P w = .ok r w
 | [],r,h=>by simp only[ig,Option.some.injEq]at h;subst h;rfl
 | fd :: fs,r,h=>by
   unfold ig at h;unfold Op.eqFields
   by_cases hn:fd.name ≠ "_"
   ·rw [if_pos hn]at h ⊢;split at h
    ·rename_i a b ha hb;obtain⟨ha1,ha2⟩:=gj ha hx β w;obtain⟨hb1,hb2⟩:=gj hb hy β w;split at h
     ·rename_i hr;simp only[Sem.run_bind,ha1,hb1,Result.andThen_ok,he _ _ _ _ hr β n ha2 hb2 w f hf,Sem.run_ite,Bool.not_true,Bool.false_eq_true,if_false];exact jP he hx hy β w f hf fs r h
     ·rename_i hr;cases h;simp only[Sem.run_bind,ha1,hb1,Result.andThen_ok,he _ _ _ _ hr β n ha2 hb2 w f hf,Sem.run_ite,Bool.not_false,if_true,Sem.run_pure]
     ·cases h
    ·cases h
   ·rw[if_neg hn]at h ⊢;exact jP he hx hy β w f hf fs r h
def mK(elem:TypeId)(n d:Nat)(xs ys:Array Value):Nat->Nat->Sem Bool
 | _,0=>pure true
 | i,k+1=>do
   let a <-part elem xs (i*n)
   let b <-part elem ys (i*n)
   let r <-Op.equalIn d elem a b
   if(!r)=true then pure false else mK elem n d xs ys (i+1) k
theorem run_equalIn_array{P:Program}(w:World)(d:Nat)(t:TypeId)(len:Nat)(elem:TypeId)(n:Nat)(xs ys:Array Value)(ht:P.underlying t=some (.array len elem))(hs:bT P elem=some n) :
 (Op.equalIn (d+1) t (.agg xs) (.agg ys)).run P w=(mK elem n d xs ys 0 len).run P w:=by
 simp only[Op.equalIn,Sem.run_bind,run_underlying ht,Result.andThen_ok,br hs];rw[Std.Legacy.Range.forIn_eq_forIn_range'];simp only[Std.Legacy.Range.size,Nat.sub_zero,Nat.add_sub_cancel,Nat.div_one]
 have key : ∀(K:Option Bool×PUnit->World->Result Bool) (_:∀b w,K (some b,()) w = .ok b w) (_:∀w,K (.none,()) w = .ok true w) (k i:Nat) (w:World),
  ((forIn (List.range' i k) ((.none,()):Option Bool×PUnit) fun i (_:Option Bool×PUnit)=>do
     let a <-part elem xs (i*n)
     let b <-part elem ys (i*n)
     let r <-Op.equalIn d elem a b
     if(!r)=true then pure (ForInStep.done (some false,()))else pure (ForInStep.yield (.none,())):Sem _).run P w).andThen K =
  (mK elem n d xs ys i k).run P w:=by
  intro K hK1 hK2 k
  induction k with
  | zero=>intro i w;simp[mK,hK2]
  | succ k ih=>
    intro i w;simp only[List.range'_succ,List.forIn_cons,mK,Sem.run_bind];generalize (part elem xs (i*n)).run P w=r1
    cases r1 with
    | halt x w1=>simp[Result.andThen]
    | ok a w1=>
      simp only[Result.andThen_ok];generalize (part elem ys (i*n)).run P w1=r2
      cases r2 with
      | halt x w1=>simp[Result.andThen]
      | ok b w2=>
        simp only[Result.andThen_ok];generalize (Op.equalIn d elem a b).run P w2=r3
        cases r3 with
        | halt x w1=>simp[Result.andThen]
        | ok r w3=>
          cases r
          ·simp[hK1]
          ·simp only[Result.andThen_ok,Bool.not_true,Bool.false_eq_true,if_false,Sem.run_pure];exact ih (i+1) w3
 exact key _ (fun _ _=>rfl) (fun _=>rfl) len 0 w
theorem oH{P:Program}{d:Nat}(he:xV P d){elem:TypeId}{s:Nat}{xs ys:List XC}{n:Nat}(hx:∀c∈xs,c.ok n)(hy:∀c∈ys,c.ok n)(β : Env)(w:World)(f:Nat)(hf:d<=f) :
 ∀(k i:Nat) (r:Bool),kR P (bY P d) elem s xs ys i k=some r->(mK elem s f (xs.map (·.den β)).toArray (ys.map (·.den β)).toArray i k).run P w = .ok r w
 | 0,i,r,h=>by simp only[kR,Option.some.injEq]at h;subst h;rfl
 | k + 1,i,r,h=>by
   unfold kR at h;unfold mK;split at h
   ·rename_i a b ha hb;obtain⟨ha1,ha2⟩:=gj ha hx β w;obtain⟨hb1,hb2⟩:=gj hb hy β w;split at h
    ·rename_i hr;simp only[Sem.run_bind,ha1,hb1,Result.andThen_ok,he _ _ _ _ hr β n ha2 hb2 w f hf,Sem.run_ite,Bool.not_true,Bool.false_eq_true,if_false];exact oH he hx hy β w f hf k (i+1) r h
    ·rename_i hr;cases h;simp only[Sem.run_bind,ha1,hb1,Result.andThen_ok,he _ _ _ _ hr β n ha2 hb2 w f hf,Sem.run_ite,Bool.not_false,if_true,Sem.run_pure]
    ·cases h
   ·cases h
theorem fv(P:Program):∀d,xV P d
 | 0=>fun t x y r h=>by simp[bY]at h
 | d + 1 => fun t x y r h β n hx hy w f hf=>by
   obtain⟨g,rfl⟩:∃g,f=g+1:=⟨f-1,by omega⟩
   have ih:=fv P d;unfold bY at h;split at h
   ·rename_i fs hu;split at h
    ·rename_i xs ys;split at h
     ·cases h
     ·rename_i hp;have hfo:P.fieldsOf t=fs:=by simp only[Program.fieldsOf,hu]
      have:=run_equalIn_struct w g t (xs.map (·.den β)).toArray (ys.map (·.den β)).toArray (by rw[hfo];exact hu) (by simpa using hp);simp only[X1.den];rw[this,hfo];exact jP ih hx hy β w g (by omega) _ _ h
    ·cases h
   ·rename_i len elem hu;split at h
    ·rename_i xs ys s hs;simp only[X1.den];rw[run_equalIn_array w g t len elem s _ _ hu hs];exact oH ih hx hy β w g (by omega) _ _ _ h
    ·cases h
   ·rename_i ds _ _ hu;split at h
    ·exact Dc hu h β w g
    ·cases h
   ·cases h
end Go.Xm
namespace Go.Xm
variable [aq]
def gQ(place:Nat->Option (Nat×Nat))(cells:List XC):List (Nat×XV)->Option (List XC)
 | []=>some cells
 | (i,v)::rest=>
   match place i,cQ v with
   | some (off,size),some cs=>
     if cs.length=size/\off+cs.length<=cells.length then gQ place (cells.take off++cs++cells.drop (off+cs.length)) rest else .none
   | _,_ => .none
theorem zO(off:Nat):∀(cs:List Value) (k:Nat) (cells:Array Value),off+k+cs.length<=cells.size ->
 ((cs.zipIdx k).foldl (fun acc (p:Value×Nat)=>acc.setIfInBounds (off+p.2) p.1) cells).toList=cells.toList.take (off+k)++cs++cells.toList.drop (off+k+cs.length)
 | [],k,cells,_=>by simp
 | c :: cs,k,cells,h=>by
   simp only[List.length_cons]at h;rw[List.zipIdx_cons,List.foldl_cons,zO off cs (k+1) _ (by simp;omega)];simp only[Array.toList_setIfInBounds,List.length_cons];have hlt:off+k<cells.toList.length:=by simp;omega
   have e1:(cells.toList.set (off+k) c).take (off+(k+1))=cells.toList.take (off+k)++[c]:=by
    rw[show off+(k+1)=off+k+1 by omega,List.take_succ_eq_append_getElem (by simpa using hlt),List.take_set_of_le (Nat.le_refl _)];simp
   have e2:(cells.toList.set (off+k) c).drop (off+(k+1)+cs.length)=cells.toList.drop (off+k+(cs.length+1)):=by
    rw[List.drop_set_of_lt (by omega),show off+(k+1)+cs.length=off+k+(cs.length+1) by omega]
   rw[e1,e2];simp
theorem BC(off:Nat)(cs cells:Array Value)(h:off+cs.size<=cells.size) :
 (cs.zipIdx.foldl (fun acc (c,j)=>acc.setIfInBounds (off+j) c) cells)=(cells.toList.take off++cs.toList++cells.toList.drop (off+cs.size)).toArray:=by
 have h1:=zO off cs.toList 0 cells (by simpa using h);simp only[Nat.add_zero]at h1;apply Array.toList_inj.1;rw[<-Array.foldl_toList];simpa [Array.toList_zipIdx]using h1
theorem uM{cells cs:List XC}{off k:Nat}{p:XC->Prop}(h1:∀c∈cells,p c)(h2:∀c∈cs,p c):∀c∈cells.take off++cs++cells.drop k,p c:=by
 intro c hc;simp only[List.mem_append]at hc
 rcases hc with(hc|hc)|hc
 ·exact h1 c (List.mem_of_mem_take hc)
 ·exact h2 c hc
 ·exact h1 c (List.mem_of_mem_drop hc)
theorem uL(f:XC->Value)(cells cs:List XC)(off k:Nat):((cells.map f).take off++cs.map f++(cells.map f).drop k)=(cells.take off++cs++cells.drop k).map f:=by
 simp[List.map_take,List.map_drop]
theorem jF{β : Env}{n:Nat}{place:Nat->Option (Nat×Nat)}:∀{parts:List (Nat×XV)} {vs:List (Nat×Value)} {cells out:List XC},gQ place cells parts=some out->(∀c∈cells,c.ok n) ->
 dj (fun p q=>p.1=q.1/\aL β n p.2 q.2) parts vs ->
 Instr.fill place (cells.map (·.den β)).toArray vs=some (out.map (·.den β)).toArray/\∀c∈out,c.ok n
 | [],vs,cells,out,h,hc,hr=>by
   cases hr;simp only[gQ,Option.some.injEq]at h;subst h;exact⟨rfl,hc⟩
 | (i, v)::rest,vs,cells,out,h,hc,hr=>by
   cases hr with
   | cons h1 h2=>
     rename_i q vs;obtain⟨j,u⟩:=q;obtain⟨rfl,hv⟩:=h1;unfold gQ at h;split at h
     ·rename_i off size cs hp hx;split at h
      ·rename_i hl;obtain⟨e1,e2⟩:=qc hx hv;unfold Instr.fill;simp only[hp];have hsz:u.cells.size=cs.length:=by rw[e1];simp
       rw[if_neg (by rw[hsz];simp[hl.1];omega)];have hz:=BC off u.cells (cells.map (·.den β)).toArray (by rw[hsz];simpa using hl.2);rw[hz,hsz,e1];have:=jF h (uM hc e2) h2;rw[<-uL]at this;exact this
      ·cases h
     ·cases h
def zo:XC->Option (FuncId×List XC)
 | .fn f=>some (f,[])
 | .bind g c=>match zo g with
   | some (f,cs)=>some (f,cs++[c])
   | .none => .none
 | _ => .none
theorem o_{n:Nat}(β : Env):∀{c:XC} {f:FuncId} {cs:List XC},zo c=some (f,cs)->c.ok n->c.den β = .func (.func f) #[] (cs.map (·.den β)).toArray/\∀x∈cs,x.ok n
 | .fn f,_,_,h,_=>by simp only[zo,Option.some.injEq,Prod.mk.injEq]at h;obtain⟨rfl,rfl⟩:=h;exact⟨rfl,by simp⟩
 | .bind g c,f,cs,h,hok=>by
   unfold zo at h;split at h
   ·rename_i f' cs' hg;simp only[Option.some.injEq,Prod.mk.injEq]at h;obtain⟨rfl,rfl⟩:=h;obtain⟨h1,h2⟩:=o_ β hg hok.1;refine⟨by simp[XC.den,h1],fun x hx=>?_⟩
    rcases List.mem_append.1 hx with hx|hx
    ·exact h2 x hx
    ·simp only[List.mem_singleton]at hx;subst hx;exact hok.2
   ·cases h
def kO(g:XC):List XV->Option XC
 | []=>some g
 | .one c::rest=>kO (.bind g c) rest
 | _::_ => .none
theorem oE{β : Env}{n:Nat}:∀{l:List XV} {vs:List Value} {g out:XC} {f:FuncId} {cs:List XC},kO g l=some out->zo g=some (f,cs)->g.ok n->dj (aL β n) l vs ->
 out.ok n/\out.den β = .func (.func f) #[] ((cs.map (·.den β))++vs).toArray
 | [],vs,g,out,f,cs,h,hg,hok,hr=>by
   cases hr;simp only[kO,Option.some.injEq]at h;subst h;exact⟨hok,by simpa using (o_ β hg hok).1⟩
 | .one c::rest,vs,g,out,f,cs,h,hg,hok,hr=>by
   cases hr with
   | cons h1 h2=>
     rename_i v vs;have:=oE (g := .bind g c) (f:=f) (cs:=cs++[c]) h (by simp[zo,hg]) ⟨hok,h1.1⟩ h2;rw[h1.2];simpa using this
 | .undef::_,_,_,_,_,_,h,_,_,_=>by simp[kO]at h
 | .agg _::_,_,_,_,_,_,h,_,_,_=>by simp[kO]at h
 | .tup _::_,_,_,_,_,_,h,_,_,_=>by simp[kO]at h
end Go.Xm
namespace Go.Xm
variable [aq]
def PW(op:BinOp)(k k':FloatKind)(a b:Nat):Option XC:=
 if k=k' then
  match op with
  | .eql=>some (.bool (k.format.order a b==some .eq))
  | .neq=>some (.bool (k.format.order a b != some .eq))
  | .lss=>some (.bool (k.format.order a b==some .lt))
  | .leq=>some (.bool (k.format.order a b==some .lt||k.format.order a b==some .eq))
  | .gtr=>some (.bool (k.format.order a b==some .gt))
  | .geq=>some (.bool (k.format.order a b==some .gt||k.format.order a b==some .eq))
  | .add=>(k.format.add a b).map (.flt k)
  | .sub=>(k.format.sub a b).map (.flt k)
  | .mul=>(k.format.mul a b).map (.flt k)
  | .quo=>(k.format.div a b).map (.flt k)
  | _ => .none
 else .none
theorem Dd{P:Program}{op:BinOp}{t:TypeId}{k k':FloatKind}{a b:Nat}{c:XC}(h:PW op k k' a b=some c)(β : Env)(n:Nat)(w:World) :
 (binOp op t (.float k a) (.float k' b)).run P w = .ok (c.den β) w/\c.ok n:=by
 unfold PW at h;split at h
 ·rename_i hk;subst hk
  cases op<;>simp only at h<;>first
   | (cases h;done)
   | (cases h;simp[binOp,Op.floatCmp,XC.den,XC.ok];done)
   | (obtain⟨r,hr,rfl⟩:=Option.map_eq_some_iff.1 h;simp[binOp,Op.floatArith,hr,XC.den,XC.ok];done)
 ·cases h
def Bl(op:BinOp)(k k':FloatKind)(a b c d:Nat):Option XC:=
 if k=k' then
  match op with
  | .eql=>some (.bool (k.format.order a c==some .eq&&k.format.order b d==some .eq))
  | .neq=>some (.bool (!(k.format.order a c==some .eq&&k.format.order b d==some .eq)))
  | .add=>match k.format.add a c,k.format.add b d with
    | some x,some y=>some (.cplx k x y)
    | _,_ => .none
  | .sub=>match k.format.sub a c,k.format.sub b d with
    | some x,some y=>some (.cplx k x y)
    | _,_ => .none
  | _ => .none
 else .none
theorem Bm{P:Program}{op:BinOp}{t:TypeId}{k k':FloatKind}{a b c d:Nat}{x:XC}(h:Bl op k k' a b c d=some x)(β : Env)(n:Nat)(w:World) :
 (binOp op t (.complex k a b) (.complex k' c d)).run P w = .ok (x.den β) w/\x.ok n:=by
 unfold Bl at h;split at h
 ·rename_i hk;subst hk
  cases op<;>simp only at h<;>first
   | (cases h;done)
   | (cases h;simp[binOp,Op.complexOp,Op.Complex.cmp,Op.floatCmp,asBool,XC.den,XC.ok];done)
   | (split at h<;>cases h;rename_i h1 h2;simp[binOp,Op.complexOp,Op.Complex.arith,Op.floatArith,h1,h2,XC.den,XC.ok];done)
 ·cases h
def PX(op:BinOp)(a b:List UInt8):Option XC:=
 match op with
 | .eql=>some (.bool (a==b))
 | .neq=>some (.bool (!(a==b)))
 | .add=>if a.length+b.length<=9223372036854775807 then some (.str (a++b))else .none
 | .lss=>some (.bool (Op.bytesLess a b))
 | .leq=>some (.bool (Op.bytesLess a b||a==b))
 | .gtr=>some (.bool (!(Op.bytesLess a b||a==b)))
 | .geq=>some (.bool (!Op.bytesLess a b))
 | _ => .none
theorem x9(a b:List UInt8):((⟨a.toArray⟩:ByteArray)++⟨b.toArray⟩)=⟨(a++b).toArray⟩:=by
 apply ByteArray.ext;simp
theorem Dg{P:Program}{op:BinOp}{t:TypeId}{a b:List UInt8}{x:XC}(h:PX op a b=some x)(β : Env)(n:Nat)(w:World) :
 (binOp op t (.string ⟨a.toArray⟩) (.string ⟨b.toArray⟩)).run P w = .ok (x.den β) w/\x.ok n:=by
 cases op<;>simp only[PX]at h<;>first
  | (cases h;done)
  | (cases h;simp[binOp,Op.stringOp,ByteArray.toList_eq,XC.den,XC.ok];done)
  | skip
 split at h
 ·rename_i hl;cases h;have hm:IntKind.i64.max=9223372036854775807:=by decide
  refine⟨?_,trivial⟩;simp only[binOp,Op.stringOp,hm];rw[if_neg (by show¬(((a.toArray.size+b.toArray.size:Nat):Int)>9223372036854775807);simp;omega)];simp[XC.den,x9]
 ·cases h
def p9:XV->Option X1
 | .one c=>some (.one c)
 | .agg cs=>some (.agg cs)
 | _ => .none
theorem qZ{β : Env}{n:Nat}{x:XV}{y:X1}{v:Value}(h:p9 x=some y)(hr:aL β n x v):y.ok n/\v=y.den β:=by
 cases x with
 | one c=>simp only[p9,Option.some.injEq]at h;subst h;exact hr
 | agg cs=>simp only[p9,Option.some.injEq]at h;subst h;exact hr
 | undef=>cases h
 | tup vs=>cases h
def s6(P:Program)(t:TypeId)(x y:XV):Option Bool:=
 match x,y with
 | .one (.bool a),.one (.bool b)=>bY P 1 t (.one (.bool a)) (.one (.bool b))
 | .one .nilp,.one y=>bY P 1 t (.one .nilp) (.one y)
 | .one (.ptr i o),.one y=>bY P 1 t (.one (.ptr i o)) (.one y)
 | .one .nils,.one y=>bY P 1 t (.one .nils) (.one y)
 | .one (.slice i o l c),.one y=>bY P 1 t (.one (.slice i o l c)) (.one y)
 | .one .nilm,.one y=>bY P 1 t (.one .nilm) (.one y)
 | .one (.map i),.one y=>bY P 1 t (.one (.map i)) (.one y)
 | .agg xs,.agg ys=>if P.eqGuardType P.depth t then .none else bY P 40 t (.agg xs) (.agg ys)
 | _,_ => .none
theorem pE{P:Program}{t:TypeId}{x y:Value}{r:Bool}(w:World)(h:(Op.equal t x y).run P w = .ok r w)
 (hx:match x with | .bool _ | .pointer _ | .slice .. | .map _ | .agg _=>True|_=>False) :
 (binOp .eql t x y).run P w = .ok (.bool r) w/\(binOp .neq t x y).run P w = .ok (.bool (!r)) w:=by
 cases x<;>first
  | (exact hx.elim)
  | (unfold binOp;cases y<;>simp[h])
theorem gL{P:Program}{op:BinOp}{t:TypeId}{xo yo:Operand}{u v:Value}(w:World)(h:match u with | .nilIface | .agg _=>False|_=>True) :
 (eqGuard op t xo yo u v).run P w = .ok () w:=by
 unfold eqGuard
 cases u<;>first
  | (exact h.elim)
  | (simp only[];split<;>rfl)
theorem vN{P:Program}{t:TypeId}{x y:XV}{r:Bool}(h:s6 P t x y=some r){β : Env}{n:Nat}{u v:Value}(hu:aL β n x u)(hv:aL β n y v)(op:BinOp)(xo yo:Operand)(w:World) :
 (eqGuard op t xo yo u v).run P w = .ok () w/\(binOp .eql t u v).run P w = .ok (.bool r) w/\(binOp .neq t u v).run P w = .ok (.bool (!r)) w:=by
 have one:∀a b:XC,bY P 1 t (.one a) (.one b)=some r->a.ok n->b.ok n->u=a.den β->v=b.den β ->
  (match a with | .bool _ | .nilp | .ptr .. | .nils | .slice .. | .nilm | .map _=>True|_=>False) ->
  (eqGuard op t xo yo u v).run P w = .ok () w/\(binOp .eql t u v).run P w = .ok (.bool r) w/\(binOp .neq t u v).run P w = .ok (.bool (!r)) w:=by
  intro a b h hao hbo ha hb hs;have he:=fv P 1 t (.one a) (.one b) r h β n hao hbo w Op.maxDepth (by decide);subst ha;subst hb;refine⟨gL w ?_,pE w he ?_⟩
  ·cases a<;>first
    | (exact hs.elim)
    | trivial
    | (rename_i cap;cases cap<;>trivial)
  ·cases a<;>first
    | (exact hs.elim)
    | trivial
    | (rename_i cap;cases cap<;>trivial)
 unfold s6 at h;split at h
 ·exact one _ _ h hu.1 hv.1 hu.2 hv.2 trivial
 ·exact one _ _ h hu.1 hv.1 hu.2 hv.2 trivial
 ·exact one _ _ h hu.1 hv.1 hu.2 hv.2 trivial
 ·exact one _ _ h hu.1 hv.1 hu.2 hv.2 trivial
 ·exact one _ _ h hu.1 hv.1 hu.2 hv.2 trivial
 ·exact one _ _ h hu.1 hv.1 hu.2 hv.2 trivial
 ·exact one _ _ h hu.1 hv.1 hu.2 hv.2 trivial
 ·rename_i xs ys;split at h
  ·cases h
  ·rename_i hg;have he:=fv P 40 t (.agg xs) (.agg ys) r h β n hu.1 hv.1 w Op.maxDepth (by decide);obtain⟨_,rfl⟩:=hu;obtain⟨_,rfl⟩:=hv;exact⟨run_eqGuard_agg w op t xo yo _ _ (by simpa using hg),pE w he trivial⟩
 ·cases h
def s5(P:Program)(op:BinOp)(t:TypeId)(x y:XV):Option XV:=
 match x,y with
 | .one (.int k a),.one (.int k' b)=>(bE op k k' a b).map .one
 | .one (.flt k a),.one (.flt k' b)=>(PW op k k' a b).map .one
 | .one (.cplx k a b),.one (.cplx k' c d)=>(Bl op k k' a b c d).map .one
 | .one (.str a),.one (.str b)=>(PX op a b).map .one
 | x,y=>match op with
   | .eql=>(s6 P t x y).map fun r => .one (.bool r)
   | .neq=>(s6 P t x y).map fun r => .one (.bool (!r))
   | _ => .none
theorem C8{P:Program}{op:BinOp}{t:TypeId}{x y r:XV}(h:s5 P op t x y=some r){β : Env}{n:Nat}{u v:Value}(hu:aL β n x u)(hv:aL β n y v)(xo yo:Operand)(w:World) :
 (eqGuard op t xo yo u v).run P w = .ok () w/\∃z,(binOp op t u v).run P w = .ok z w/\aL β n r z:=by
 unfold s5 at h;split at h
 ·obtain⟨c,hc,rfl⟩:=Option.map_eq_some_iff.1 h;obtain⟨_,rfl⟩:=hu;obtain⟨_,rfl⟩:=hv;obtain⟨h1,h2⟩:=wG (P:=P) (t:=t) hc β n w;exact⟨gL w trivial,_,h1,h2,rfl⟩
 ·obtain⟨c,hc,rfl⟩:=Option.map_eq_some_iff.1 h;obtain⟨_,rfl⟩:=hu;obtain⟨_,rfl⟩:=hv;obtain⟨h1,h2⟩:=Dd (P:=P) (t:=t) hc β n w;exact⟨gL w trivial,_,h1,h2,rfl⟩
 ·obtain⟨c,hc,rfl⟩:=Option.map_eq_some_iff.1 h;obtain⟨_,rfl⟩:=hu;obtain⟨_,rfl⟩:=hv;obtain⟨h1,h2⟩:=Bm (P:=P) (t:=t) hc β n w;exact⟨gL w trivial,_,h1,h2,rfl⟩
 ·obtain⟨c,hc,rfl⟩:=Option.map_eq_some_iff.1 h;obtain⟨_,rfl⟩:=hu;obtain⟨_,rfl⟩:=hv;obtain⟨h1,h2⟩:=Dg (P:=P) (t:=t) hc β n w;exact⟨gL w trivial,_,h1,h2,rfl⟩
 ·split at h
  ·obtain⟨b,hb,rfl⟩:=Option.map_eq_some_iff.1 h;obtain⟨h1,h2,_⟩:=vN hb hu hv .eql xo yo w;exact⟨h1,_,h2,trivial,rfl⟩
  ·obtain⟨b,hb,rfl⟩:=Option.map_eq_some_iff.1 h;obtain⟨h1,_,h2⟩:=vN hb hu hv .neq xo yo w;exact⟨h1,_,h2,trivial,rfl⟩
  ·cases h
end Go.Xm
namespace Go.Xm
variable [aq]
def RV(op:UnOp)(x:XV):Option XV:=
 match op,x with
 | .neg,.one (.int k a)=>some (.one (.int k (iW k (0-a))))
 | .xor,.one (.int k a)=>some (.one (.int k (iW k ((BitVec.ofInt k.bits (if k.signed then -1 else k.max) ^^^ BitVec.ofInt k.bits a).toNat))))
 | .neg,.one (.flt k a)=>some (.one (.flt k (Op.negFloat k a)))
 | .neg,.one (.cplx k a b)=>some (.one (.cplx k (Op.negFloat k a) (Op.negFloat k b)))
 | .not,.one (.bool b)=>some (.one (.bool (!b)))
 | _,_ => .none
theorem GU{P:Program}{op:UnOp}{x r:XV}(h:RV op x=some r){β : Env}{n:Nat}{u:Value}(hu:aL β n x u)(w:World) :
 ∃z,(Op.unary op u).run P w = .ok z w/\aL β n r z:=by
 unfold RV at h
 split at h<;>first
  | (cases h;done)
  | (cases h;obtain⟨_,rfl⟩:=hu;refine⟨_,?_,trivial,rfl⟩;simp only[Op.unary,XC.den,Op.intArith,Op.intBits,Sem.run_pure,cj])
def kP(P:Program)(src dst:TypeId)(x:XV):Option XV:=
 match P.underlying src,P.underlying dst,x with
 | some _,some (.int k),.one (.int _ n)=>some (.one (.int k (iW k n)))
 | some _,some (.float k),.one (.int _ n)=>some (.one (.flt k (k.nearest n)))
 | some _,some (.int k),.one (.flt s b)=>match (s.decode b).toInt .zero with
   | some n=>if k.min<=n/\n<=k.max then some (.one (.int k n))else .none
   | .none => .none
 | some _,some (.float k),.one (.flt s b)=>if s=k then some (.one (.flt k b))else .none
 | some _,some .string,.one (.str s)=>some (.one (.str s))
 | _,_,_ => .none
theorem vJ{P:Program}{src dst:TypeId}{x r:XV}(h:kP P src dst x=some r){β : Env}{n:Nat}{u:Value}(hu:aL β n x u)(w:World) :
 ∃z,(convert src dst u).run P w = .ok z w/\aL β n r z:=by
 unfold kP at h;split at h
 ·rename_i h1 h2;cases h;obtain⟨_,rfl⟩:=hu;refine⟨_,?_,trivial,rfl⟩;simp only[convert,Sem.run_bind,run_underlying h1,run_underlying h2,Result.andThen_ok,XC.den];simp[Conv.intToInt,cj]
 ·rename_i h1 h2;cases h;obtain⟨_,rfl⟩:=hu;refine⟨_,?_,trivial,rfl⟩;simp only[convert,Sem.run_bind,run_underlying h1,run_underlying h2,Result.andThen_ok,XC.den];simp[Conv.intToFloat]
 ·rename_i h1 h2;split at h
  ·rename_i m hm;split at h
   ·rename_i hr;cases h;obtain⟨_,rfl⟩:=hu;refine⟨_,?_,trivial,rfl⟩;simp only[convert,Sem.run_bind,run_underlying h1,run_underlying h2,Result.andThen_ok,XC.den];simp[Conv.floatToInt,hm,hr]
   ·cases h
  ·cases h
 ·rename_i h1 h2;split at h
  ·rename_i hk;subst hk;cases h;obtain⟨_,rfl⟩:=hu;refine⟨_,?_,trivial,rfl⟩;simp only[convert,Sem.run_bind,run_underlying h1,run_underlying h2,Result.andThen_ok,XC.den];simp[Conv.floatToFloat]
  ·cases h
 ·rename_i h1 h2;cases h;obtain⟨_,rfl⟩:=hu;refine⟨_,?_,trivial,rfl⟩;simp only[convert,Sem.run_bind,run_underlying h1,run_underlying h2,Result.andThen_ok,XC.den,Sem.run_pure]
 ·cases h
def jE(x:XV)(i:Nat):Option XV:=
 match x with
 | .tup vs=>(vs[i]?).map X1.p6
 | _ => .none
theorem vO{P:Program}{i:Nat}{x r:XV}(h:jE x i=some r){β : Env}{n:Nat}{u:Value}(hu:aL β n x u)(w:World) :
 ∃z,(Instr.extract u i).run P w = .ok z w/\aL β n r z:=by
 unfold jE at h;split at h
 ·rename_i vs;obtain⟨y,hy,rfl⟩:=Option.map_eq_some_iff.1 h;obtain⟨h1,rfl⟩:=hu;have hg:(vs.map (·.den β)).toArray[i]? = some (y.den β):=by simp[hy]
  exact⟨_,by simp only[Instr.extract,hg,Sem.run_pure],aL.p6.2 ⟨h1 y (List.mem_of_getElem? hy),rfl⟩⟩
 ·cases h
def mo(x:XV):Option XV:=
 match x with
 | .one (.ptr i o)=>some (.one (.ptr i o))
 | .one (.lpt g k o)=>some (.one (.lpt g k o))
 | .one (.fn f)=>some (.one (.fn f))
 | .one (.bind g c)=>match zo (.bind g c)with
   | some _=>some (.one (.bind g c))
   | .none => .none
 | _ => .none
theorem s7{P:Program}{x r:XV}(h:mo x=some r){β : Env}{n:Nat}{o:Oper}{xo:Operand}(ho:o.op = .nilCheck xo){ev:Operand->Value}(hu:aL β n x (ev xo))(w:World) :
 ∃z,(execOp ev o).run P w = .ok (.value z) w/\aL β n r z:=by
 unfold mo at h;unfold execOp;simp only[ho];split at h
 ·cases h;obtain⟨h1,h2⟩:=hu;exact⟨_,by rw[h2];rfl,h1,rfl⟩
 ·cases h;obtain⟨h1,h2⟩:=hu;exact⟨_,by rw[h2];rfl,h1,rfl⟩
 ·cases h;obtain⟨h1,h2⟩:=hu;exact⟨_,by rw[h2];rfl,h1,rfl⟩
 ·rename_i g c;split at h
  ·rename_i p hp;obtain⟨f,cs⟩:=p;cases h;obtain⟨h1,h2⟩:=hu;obtain⟨h3,_⟩:=o_ β hp h1;exact⟨_,by rw[h2,h3];rfl,h1,h3.symm⟩
  ·cases h
 ·cases h
def iO(P:Program)(s:TypeId)(f:Nat):Option Field:=
 match P.underlying s with
 | some (.struct fs)=>fs[f]?
 | _ => .none
def fw(P:Program)(s:TypeId)(x:XV)(f:Nat):Option XV:=
 match iO P s f,x with
 | some fd,.one (.ptr i o)=>match bT P fd.type with
   | some (_+1)=>some (.one (.ptr i (o+fd.offset)))
   | _ => .none
 | some fd,.one (.lpt i q o)=>match bT P fd.type with
   | some (_+1)=>some (.one (.lpt i q (o+fd.offset)))
   | _ => .none
 | _,_ => .none
theorem Addr.ec(b o k:Nat):(⟨b,o,none⟩:Addr).add k=⟨b,o+k,none⟩:=by
 unfold Addr.add;split
 ·rename_i h;subst h;rfl
 ·rfl
theorem sg{P:Program}{s:TypeId}{f:Nat}{x r:XV}(h:fw P s x f=some r){β : Env}{n:Nat}{u:Value}(hu:aL β n x u)(w:World) :
 ∃z,(Instr.fieldAt s u f).run P w = .ok z w/\aL β n r z:=by
 unfold fw at h;split at h
 ·rename_i fd i o hf;split at h
  ·rename_i k hk;cases h;obtain⟨h1,rfl⟩:=hu;unfold iO at hf;split at hf
   ·rename_i fs hs;refine⟨_,?_,h1,rfl⟩;simp only[Instr.fieldAt,Sem.run_bind,run_underlying hs,Result.andThen_ok,hf,XC.den,Instr.sureAddr,Sem.run_pure,fieldPlace,br hk,Nat.add_one_ne_zero,if_false,Addr.ec,Nat.add_assoc]
   ·cases hf
  ·cases h
 ·rename_i fd i q o hf;split at h
  ·rename_i k hk;cases h;obtain⟨h1,rfl⟩:=hu;unfold iO at hf;split at hf
   ·rename_i fs hs;refine⟨_,?_,h1,rfl⟩;simp only[Instr.fieldAt,Sem.run_bind,run_underlying hs,Result.andThen_ok,hf,XC.den,Instr.sureAddr,Sem.run_pure,fieldPlace,br hk,Nat.add_one_ne_zero,if_false,Addr.ec,Nat.add_assoc]
   ·cases hf
  ·cases h
 ·cases h
def y4(P:Program)(s:TypeId)(x:XV)(f:Nat):Option XV:=
 match iO P s f,x with
 | some fd,.agg cs=>(gz P fd.type cs fd.offset).map X1.p6
 | _,_ => .none
theorem y5{P:Program}{s:TypeId}{f:Nat}{x r:XV}(h:y4 P s x f=some r){β : Env}{n:Nat}{u:Value}(hu:aL β n x u)(w:World) :
 ∃z,(Instr.field s u f).run P w = .ok z w/\aL β n r z:=by
 unfold y4 at h;split at h
 ·rename_i fd cs hf;obtain⟨y,hy,rfl⟩:=Option.map_eq_some_iff.1 h;obtain⟨h1,rfl⟩:=hu;obtain⟨h2,h3⟩:=gj hy h1 β w;unfold iO at hf;split at hf
  ·rename_i fs hs;refine⟨_,?_,aL.p6.2 ⟨h3,rfl⟩⟩;simp only[Instr.field,Sem.run_bind,run_underlying hs,Result.andThen_ok,hf,asAgg,Sem.run_pure];exact h2
  ·cases hf
 ·cases h
def b_(P:Program)(t:TypeId)(x ix:XV):Option XV:=
 match P.underlying t,x,ix with
 | some (.array len elem),.one (.ptr i o),.one (.int _ j)=>
   if 0<=j/\j<len then(bT P elem).map fun s => .one (.ptr i (o+j.toNat*s))else .none
 | some (.slice elem),.one (.slice i o len _),.one (.int _ j)=>
   if 0<=j/\j<len then(bT P elem).map fun s => .one (.ptr i (o+j.toNat*s))else .none
 | some (.array len elem),.one (.lpt i q o),.one (.int _ j)=>
   if 0<=j/\j<len then(bT P elem).map fun s => .one (.lpt i q (o+j.toNat*s))else .none
 | some (.slice elem),.one (.lsl i q o len _ _),.one (.int _ j)=>
   if 0<=j/\j<len then(bT P elem).map fun s => .one (.lpt i q (o+j.toNat*s))else .none
 | _,_,_ => .none
theorem si{P:Program}{t:TypeId}{x ix r:XV}(h:b_ P t x ix=some r){β : Env}{n:Nat}{u v:Value}(hu:aL β n x u)(hv:aL β n ix v)(w:World) :
 ∃z,(Instr.indexAt t u v).run P w = .ok z w/\aL β n r z:=by
 unfold b_ at h;split at h
 ·rename_i len elem i o k j ht;split at h
  ·rename_i hj;obtain⟨s,hs,rfl⟩:=Option.map_eq_some_iff.1 h;obtain⟨h1,rfl⟩:=hu;obtain⟨_,rfl⟩:=hv;refine⟨_,?_,h1,rfl⟩;simp only[Instr.indexAt,XC.den,asIntOf,Sem.run_bind,Sem.run_pure,Result.andThen_ok,run_underlying ht,Instr.sureAddr,hj,and_self,if_true,br hs,Addr.ec,Nat.add_assoc]
  ·cases h
 ·rename_i elem i o len cap k j ht;split at h
  ·rename_i hj;obtain⟨s,hs,rfl⟩:=Option.map_eq_some_iff.1 h;obtain⟨h1,rfl⟩:=hu;obtain⟨_,rfl⟩:=hv;refine⟨_,?_,h1,rfl⟩;cases cap<;>simp only[Instr.indexAt,XC.den,asIntOf,Sem.run_bind,Sem.run_pure,Result.andThen_ok,run_underlying ht,hj,and_self,if_true,br hs,Addr.ec,Nat.add_assoc]
  ·cases h
 ·rename_i len elem i q o k j ht;split at h
  ·rename_i hj;obtain⟨s,hs,rfl⟩:=Option.map_eq_some_iff.1 h;obtain⟨h1,rfl⟩:=hu;obtain⟨_,rfl⟩:=hv;refine⟨_,?_,h1,rfl⟩;simp only[Instr.indexAt,XC.den,asIntOf,Sem.run_bind,Sem.run_pure,Result.andThen_ok,run_underlying ht,Instr.sureAddr,hj,and_self,if_true,br hs,Addr.ec,Nat.add_assoc]
  ·cases h
 ·rename_i elem i q o len fl cut k j ht;split at h
  ·rename_i hj;obtain⟨s,hs,rfl⟩:=Option.map_eq_some_iff.1 h;obtain⟨h1,rfl⟩:=hu;obtain⟨_,rfl⟩:=hv;refine⟨_,?_,h1,rfl⟩;simp only[Instr.indexAt,XC.den,asIntOf,Sem.run_bind,Sem.run_pure,Result.andThen_ok,run_underlying ht,hj,and_self,if_true,br hs,Addr.ec,Nat.add_assoc]
  ·cases h
 ·cases h
def qe(P:Program)(t:TypeId)(x ix:XV):Option XV:=
 match P.underlying t,x,ix with
 | some (.array len elem),.agg cs,.one (.int _ j)=>
   if 0<=j/\j<len then match bT P elem with
    | some s=>(gz P elem cs (j.toNat*s)).map X1.p6
    | .none => .none
   else .none
 | some .string,.one (.str s),.one (.int _ j)=>
   if 0<=j then(s[j.toNat]?).map fun b => .one (.int .u8 b.toNat)else .none
 | _,_,_ => .none
theorem y6{P:Program}{t:TypeId}{x ix r:XV}(h:qe P t x ix=some r){β : Env}{n:Nat}{u v:Value}(hu:aL β n x u)(hv:aL β n ix v)(w:World) :
 ∃z,(Instr.index t u v).run P w = .ok z w/\aL β n r z:=by
 unfold qe at h;split at h
 ·rename_i len elem cs k j ht;split at h
  ·rename_i hj;split at h
   ·rename_i s hs;obtain⟨y,hy,rfl⟩:=Option.map_eq_some_iff.1 h;obtain⟨h1,rfl⟩:=hu;obtain⟨_,rfl⟩:=hv;obtain⟨h2,h3⟩:=gj hy h1 β w;refine⟨_,?_,aL.p6.2 ⟨h3,rfl⟩⟩;simp only[Instr.index,XC.den,asIntOf,Sem.run_bind,Sem.run_pure,Result.andThen_ok,run_underlying ht,hj,and_self,if_true,br hs,h2]
   ·cases h
  ·cases h
 ·rename_i s k j ht;split at h
  ·rename_i hj;obtain⟨b,hb,rfl⟩:=Option.map_eq_some_iff.1 h;obtain⟨_,rfl⟩:=hu;obtain⟨_,rfl⟩:=hv;refine⟨_,?_,trivial,rfl⟩
   have hg:(⟨s.toArray⟩:ByteArray)[j.toNat]? = some b:=by
    obtain⟨hl,he⟩:=List.getElem?_eq_some_iff.1 hb;have hlt:j.toNat<(⟨s.toArray⟩:ByteArray).size:=by show j.toNat<s.toArray.size;simpa using hl
    rw[getElem?_pos (⟨s.toArray⟩:ByteArray) j.toNat hlt];exact congrArg some he
   simp only[Instr.index,XC.den,asIntOf,Sem.run_bind,Sem.run_pure,Result.andThen_ok,run_underlying ht,hj,if_true,hg]
  ·cases h
 ·cases h
end Go.Xm
namespace Go.Xm
variable [aq]
def pc(P:Program):List Field->Option (List (Nat×Nat))
 | []=>some []
 | f::fs=>match bT P f.type,pc P fs with
   | some s,some l=>some ((f.offset,s)::l)
   | _,_ => .none
theorem sN{P:Program}(w:World):∀{fs:List Field} {l:List (Nat×Nat)},pc P fs=some l->(fs.mapM fun f=>do pure (f.offset,<-sizeOf f.type):Sem (List (Nat×Nat))).run P w = .ok l w
 | [],l,h=>by simp only[pc,Option.some.injEq]at h;subst h;rfl
 | f :: fs,l,h=>by
   unfold pc at h;split at h
   ·rename_i s l' hs hl;cases h;have:=sN w hl;simp only[List.mapM_cons,Sem.run_bind,br hs,Result.andThen_ok,Sem.run_pure,this]
   ·cases h
def oF(P:Program)(t:TypeId)(parts:List (Nat×XV)):Option XV:=
 match rq P t,P.underlying t with
 | some zs,some (.struct fs)=>match pc P fs.toList with
   | some l=>(gQ (fun i=>l[i]?) zs parts).map .agg
   | .none => .none
 | some zs,some (.array _ elem)=>match bT P elem with
   | some s=>(gQ (fun i=>some (i*s,s)) zs parts).map .agg
   | .none => .none
 | _,_ => .none
theorem ij{P:Program}{t:TypeId}{zs:List XC}(h:rq P t=some zs)(β : Env)(n:Nat) :
 ∃i v,P.info? t=some i/\i.zero=some v/\v.cells=(zs.map (·.den β)).toArray/\∀c∈zs,c.ok n:=by
 unfold rq at h;split at h
 ·rename_i i hi;split at h
  ·rename_i v hv;obtain⟨h1,h2⟩:=oc h β n;exact⟨i,v,hi,hv,by rw[<-h2],h1⟩
  ·cases h
 ·cases h
theorem cV{P:Program}{t:TypeId}{i:TypeInfo}{v:Value}(hi:P.info? t=some i)(hv:i.zero=some v)(w:World):(zeroValue t).run P w = .ok v w:=by
 simp[zeroValue,typeInfo,hi,hv]
theorem yY{P:Program}{t:TypeId}{parts:List (Nat×XV)}{r:XV}(h:oF P t parts=some r){β : Env}{n:Nat}{vs:Array (Nat×Value)}(hp:dj (fun p q=>p.1=q.1/\aL β n p.2 q.2) parts vs.toList)(w:World) :
 ∃z,(Instr.build t vs).run P w = .ok z w/\aL β n r z:=by
 unfold oF at h;split at h
 ·rename_i zs fs hz hu;split at h
  ·rename_i l hl;obtain⟨cs,hc,rfl⟩:=Option.map_eq_some_iff.1 h;obtain⟨i,v,h1,h2,h3,h4⟩:=ij hz β n;obtain⟨h5,h6⟩:=jF hc h4 hp;have hpl:=sN w hl;refine⟨_,?_,h6,rfl⟩;simp only[Instr.build,Sem.run_bind,cV h1 h2,Result.andThen_ok,run_underlying hu];rw[Array.mapM_eq_mapM_toList];simp only[Sem.run_map,hpl,Result.andThen_ok];have:(fun(x:Nat)=>l.toArray[x]?)=fun(i:Nat)=>l[i]?:=by funext i;simp
   simp only[h3,this,h5,Sem.run_pure]
  ·cases h
 ·rename_i zs len elem hz hu;split at h
  ·rename_i s hs;obtain⟨cs,hc,rfl⟩:=Option.map_eq_some_iff.1 h;obtain⟨i,v,h1,h2,h3,h4⟩:=ij hz β n;obtain⟨h5,h6⟩:=jF hc h4 hp;refine⟨_,?_,h6,rfl⟩;simp only[Instr.build,Sem.run_bind,cV h1 h2,Result.andThen_ok,run_underlying hu,br hs,h3,h5,Sem.run_pure]
  ·cases h
 ·cases h
def jN(x:Option XV)(d y:Nat):Option Nat:=
 match x with
 | .none=>some d
 | some (.one (.int _ i))=>if 0<=i/\i<=y then some i.toNat else .none
 | some _ => .none
theorem kh{P:Program}{x:XV}{d y i:Nat}(h:jN (some x) d y=some i){β : Env}{n:Nat}{u:Value}(hu:aL β n x u)(code:BoundsCode)(w:World) :
 (Instr.sliceBound u y code).run P w = .ok i w:=by
 unfold jN at h;split at h
 ·rename_i he;cases he
 ·rename_i k j he;cases he;split at h
  ·rename_i hj;cases h;obtain⟨_,rfl⟩:=hu;simp only[Instr.sliceBound,XC.den,asIntOf,Sem.run_bind,Sem.run_pure,Result.andThen_ok,hj,and_self,if_true]
  ·cases h
 ·cases h
def eI(len cap:Nat)(lo hi mx:Option XV):Option (Nat×Nat×Nat):=
 match mx with
 | .none=>match jN hi len cap with
   | some h=>match jN lo 0 h with
     | some l=>some (l,h,cap)
     | .none => .none
   | .none => .none
 | some m=>match jN (some m) 0 cap,hi with
   | some m,some hi=>match jN (some hi) 0 m with
     | some h=>match jN lo 0 h with
       | some l=>some (l,h,m)
       | .none => .none
     | .none => .none
   | _,_ => .none
inductive ki(β : Env)(n:Nat):Option XV->Option Value->Prop where
 | none:ki β n .none .none
 | some {x:XV} {v:Value}:aL β n x v->ki β n (some x) (some v)
theorem dO{P : Program}{isSlice:Bool}{len cap:Nat}{lo hi mx:Option XV}{r:Nat×Nat×Nat}(h:eI len cap lo hi mx=some r){β : Env}{n:Nat}{vl vh vm:Option Value}
 (h1:ki β n lo vl) (h2:ki β n hi vh) (h3:ki β n mx vm) (w:World):(Instr.sliceBounds isSlice len cap vl vh vm).run P w = .ok r w:=by
 unfold eI at h
 cases h3 with
 | none =>
   simp only[]at h
   cases h2 with
   | none=>
     simp only[jN]at h
     cases h1 with
     | none=>simp only[Option.some.injEq]at h;subst h;rfl
     | some hl=>
       split at h
       ·rename_i l he;cases h;have:=kh (P:=P) he hl (if(none:Option Value).isSome then .slice3C else .sliceB) w;simp only[Instr.sliceBounds,Sem.run_bind,Sem.run_pure,Result.andThen_ok,this]
       ·cases h
   | some hh=>
     split at h
     ·rename_i hv hh';have e2:=kh (P:=P) hh' hh (if isSlice then .sliceAcap else .sliceAlen) w
      cases h1 with
      | none=>
        simp only[jN,Option.some.injEq]at h;subst h;simp only[Instr.sliceBounds,Sem.run_bind,Sem.run_pure,Result.andThen_ok,e2]
      | some hl=>
        split at h
        ·rename_i l he;cases h;have e1:=kh (P:=P) he hl (if(none:Option Value).isSome then .slice3C else .sliceB) w;simp only[Instr.sliceBounds,Sem.run_bind,Sem.run_pure,Result.andThen_ok,e2,e1]
        ·cases h
     ·cases h
 | some hm =>
   rename_i xm vm;simp only[]at h;split at h
   ·rename_i m hi' he3
    cases h2 with
    | some hh=>
      rename_i vh;have e3:=kh (P:=P) he3 hm (if isSlice then .slice3Acap else .slice3Alen) w;split at h
      ·rename_i hv he2;have e2:=kh (P:=P) he2 hh .slice3B w
       cases h1 with
       | none=>
         simp only[jN,Option.some.injEq]at h;subst h;simp only[Instr.sliceBounds,Sem.run_bind,Sem.run_pure,Result.andThen_ok,e2,e3]
       | some hl=>
         split at h
         ·rename_i l he;cases h;have e1:=kh (P:=P) he hl (if(some vm).isSome then .slice3C else .sliceB) w;simp only[Instr.sliceBounds,Sem.run_bind,Sem.run_pure,Result.andThen_ok,e2,e1,e3]
         ·cases h
      ·cases h
   ·cases h
def oJ(P:Program)(t:TypeId)(x:XV)(lo hi mx:Option XV):Option XV:=
 match P.underlying t,x with
 | some (.array k elem),.one (.ptr i o)=>match eI k k lo hi mx,bT P elem with
   | some (l,h,m),some s=>some (.one (.slice i (if m=l then o else o+l*s) (h-l) (.exact (m-l))))
   | _,_ => .none
 | some (.slice elem),.one (.slice i o len (.exact cap))=>match eI len cap lo hi mx,bT P elem with
   | some (l,h,m),some s=>some (.one (.slice i (if m=l then o else o+l*s) (h-l) (.exact (m-l))))
   | _,_ => .none
 | some (.slice elem),.one .nils=>match eI 0 0 lo hi mx,bT P elem with
   | some (0,0,0),some _=>some (.one .nils)
   | _,_ => .none
 | some (.slice elem),.one (.lsl i q o len fl cut)=>match mx,eI len fl lo hi .none,bT P elem with
   | .none,some (l,h,_),some s=>if l=0\/l<fl then some (.one (.lsl i q (o+l*s) (h-l) (fl-l) (cut+l)))else .none
   | _,_,_ => .none
 | some (.slice elem),.one (.lem i)=>match mx,eI 0 0 lo hi .none,bT P elem with
   | .none,some (0,0,0),some _=>some (.one (.lem i))
   | _,_,_ => .none
 | some .string,.one (.str b)=>match mx,eI b.length b.length lo hi .none with
   | .none,some (l,h,_)=>some (.one (.str ((b.drop l).take (h-l))))
   | _,_ => .none
 | _,_ => .none
theorem GR{x:Option XV}{d y z i:Nat}(h:jN x d y=some i)(hy:y<=z):jN x d z=some i:=by
 unfold jN at h ⊢;split at h
 ·exact h
 ·split at h
  ·rename_i hc;rw[if_pos ⟨hc.1,by omega⟩];exact h
  ·cases h
 ·cases h
theorem rj{len c C:Nat}{lo hi:Option XV}{l h m:Nat}(hb:eI len c lo hi .none=some (l,h,m))(hc:c<=C):eI len C lo hi .none=some (l,h,C)/\m=c/\True:=by
 unfold eI at hb ⊢;simp only[]at hb ⊢
 cases e1:jN hi len c with
 | none=>rw[e1]at hb;cases hb
 | some h'=>
   rw[e1]at hb;rw[GR e1 hc];simp only[]at hb ⊢
   cases e2:jN lo 0 h' with
   | none=>rw[e2]at hb;cases hb
   | some l'=>
     rw[e2]at hb;simp only[Option.some.injEq,Prod.mk.injEq]at hb;obtain⟨rfl,rfl,rfl⟩:=hb;exact⟨rfl,rfl,trivial⟩
theorem lJ(b:List UInt8)(l h:Nat):(⟨b.toArray⟩:ByteArray).extract l h=⟨((b.drop l).take (h-l)).toArray⟩:=by
 apply ByteArray.ext;rw[ByteArray.data_extract];apply Array.toList_inj.1;simp[List.extract_eq_take_drop]
theorem y_{P:Program}{t:TypeId}{x r:XV}{lo hi mx:Option XV}(h:oJ P t x lo hi mx=some r){β : Env}{n:Nat}{u:Value}{vl vh vm:Option Value}(hu:aL β n x u)
 (h1:ki β n lo vl) (h2:ki β n hi vh) (h3:ki β n mx vm) (w:World):∃z,(Instr.sliceAt t u vl vh vm).run P w = .ok z w/\aL β n r z:=by
 unfold oJ at h;split at h
 ·rename_i k elem i o ht;split at h
  ·rename_i l hh m s hb hs;cases h;obtain⟨hok,rfl⟩:=hu;have hbd:=dO (P:=P) (isSlice:=false) hb h1 h2 h3 w;refine⟨_,?_,hok,rfl⟩;simp only[Instr.sliceAt,Sem.run_bind,run_underlying ht,Result.andThen_ok,XC.den,Instr.sureAddr,Sem.run_pure,hbd,br hs];split<;>simp[Addr.ec,Nat.add_assoc]
  ·cases h
 ·rename_i elem i o len cap ht;split at h
  ·rename_i l hh m s hb hs;cases h;obtain⟨hok,rfl⟩:=hu;have hbd:=dO (P:=P) (isSlice:=true) hb h1 h2 h3 w;refine⟨_,?_,hok,rfl⟩;simp only[Instr.sliceAt,Instr.slice,Sem.run_bind,run_underlying ht,Result.andThen_ok,XC.den,Sem.run_pure,hbd,br hs];split<;>simp[Addr.ec,Nat.add_assoc]
  ·cases h
 ·rename_i elem ht;split at h
  ·rename_i s hb hs;cases h;obtain⟨hok,rfl⟩:=hu;have hbd:=dO (P:=P) (isSlice:=true) hb h1 h2 h3 w;refine⟨_,?_,trivial,rfl⟩;simp only[Instr.sliceAt,Instr.slice,Sem.run_bind,run_underlying ht,Result.andThen_ok,XC.den,Sem.run_pure,hbd,br hs];rfl
  ·cases h
 ·rename_i elem i q o len fl cut ht;split at h
  ·rename_i l hh m s hb hs;split at h
   ·rename_i hl0;cases h;cases h3;obtain⟨hok,rfl⟩:=hu;have hC:fl<=max fl (s3 (β.bG i) q-cut):=Nat.le_max_left _ _;obtain⟨hb1,hb2,hb3⟩:=rj hb hC;have hbd:=dO (P:=P) (isSlice:=true) hb1 h1 h2 .none w;refine⟨_,?_,hok,rfl⟩;have e2:max (fl-l) (s3 (β.bG i) q-(cut+l))=max fl (s3 (β.bG i) q-cut)-l:=by omega
    simp only[Instr.sliceAt,Instr.slice,Sem.run_bind,run_underlying ht,Result.andThen_ok,XC.den,Sem.run_pure,Option.isSome_none,hbd,br hs,e2];split
    ·rename_i heq;have:l=0:=by omega
     subst this;simp
    ·simp[Addr.ec,Nat.add_assoc]
   ·cases h
  ·cases h
 ·rename_i elem i ht;split at h
  ·rename_i s hb hs;cases h;cases h3;obtain⟨hok,rfl⟩:=hu
   rcases yK (aq.val i)with e|⟨a,cap,e⟩
   ·have hbd:=dO (P:=P) (isSlice:=true) hb h1 h2 .none w;refine⟨Qk (aq.val i),?_,trivial,rfl⟩;simp only[Instr.sliceAt,Instr.slice,Sem.run_bind,run_underlying ht,Result.andThen_ok,XC.den,e,Sem.run_pure,Option.isSome_none,hbd,br hs];rfl
   ·obtain⟨hb1,hb2,hb3⟩:=rj hb (Nat.zero_le cap);have hbd:=dO (P:=P) (isSlice:=true) hb1 h1 h2 .none w;refine⟨Qk (aq.val i),?_,trivial,rfl⟩;simp only[Instr.sliceAt,Instr.slice,Sem.run_bind,run_underlying ht,Result.andThen_ok,XC.den,e,Sem.run_pure,Option.isSome_none,hbd,br hs];split<;>simp[Addr.add]
  ·cases h
 ·rename_i b ht;split at h
  ·rename_i l hh m hb;cases h;cases h3;obtain⟨hok,rfl⟩:=hu;have hbd:=dO (P:=P) (isSlice:=false) hb h1 h2 .none w;refine⟨_,?_,trivial,rfl⟩;have hsz:ByteArray.size (⟨b.toArray⟩:ByteArray)=b.length:=by show b.toArray.size=b.length;simp
   simp only[Instr.sliceAt,Instr.slice,Sem.run_bind,run_underlying ht,Result.andThen_ok,XC.den,Option.isSome_none,Bool.false_eq_true,if_false,Sem.run_pure,hsz,hbd,lJ]
  ·cases h
 ·cases h
end Go.Xm
namespace Go.Xm
variable [aq]
def kU:XC->List XV->Option XC
 | c,[]=>some c
 | .int k x,.one (.int _ y)::rest=>kU (.int k (if y<x then y else x)) rest
 | _,_::_ => .none
def kT:XC->List XV->Option XC
 | c,[]=>some c
 | .int k x,.one (.int _ y)::rest=>kT (.int k (if y>x then y else x)) rest
 | _,_::_ => .none
theorem vS{P:Program}{β : Env}{n:Nat}(w:World):∀{l:List XV} {vs:List Value} {k:IntKind} {x:Int} {r:XC},kU (.int k x) l=some r->dj (aL β n) l vs ->
 (vs.foldlM Builtin.min2 (.int k x)).run P w = .ok (r.den β) w/\r.ok n
 | [],_,k,x,r,h,.nil=>by simp only[kU,Option.some.injEq]at h;subst h;exact⟨rfl,trivial⟩
 | .one (.int k' y)::l,_,k,x,r,h,.cons h1 h2=>by
   obtain⟨_,rfl⟩:=h1;unfold kU at h;have:=vS (P:=P) w h h2;simp only[List.foldlM_cons,XC.den,Builtin.min2,Sem.run_bind,Sem.run_pure,Result.andThen_ok];exact this
 | .undef::_,_,k,x,r,h,_=>by simp[kU]at h
 | .agg _::_,_,k,x,r,h,_=>by simp[kU]at h
 | .tup _::_,_,k,x,r,h,_=>by simp[kU]at h
 | .one (.bool _)::_,_,k,x,r,h,_=>by simp[kU]at h
 | .one (.flt _ _)::_,_,k,x,r,h,_=>by simp[kU]at h
 | .one (.cplx _ _ _)::_,_,k,x,r,h,_=>by simp[kU]at h
 | .one (.str _)::_,_,k,x,r,h,_=>by simp[kU]at h
 | .one .nilp::_,_,k,x,r,h,_=>by simp[kU]at h
 | .one (.ptr _ _)::_,_,k,x,r,h,_=>by simp[kU]at h
 | .one .nils::_,_,k,x,r,h,_=>by simp[kU]at h
 | .one (.slice _ _ _ _)::_,_,k,x,r,h,_=>by simp[kU]at h
 | .one .nilm::_,_,k,x,r,h,_=>by simp[kU]at h
 | .one (.map _)::_,_,k,x,r,h,_=>by simp[kU]at h
 | .one (.fn _)::_,_,k,x,r,h,_=>by simp[kU]at h
 | .one (.bind _ _)::_,_,k,x,r,h,_=>by simp[kU]at h
 | .one .nilf::_,_,k,x,r,h,_=>by simp[kU]at h
 | .one .nili::_,_,k,x,r,h,_=>by simp[kU]at h
theorem vR{P:Program}{β : Env}{n:Nat}(w:World):∀{l:List XV} {vs:List Value} {k:IntKind} {x:Int} {r:XC},kT (.int k x) l=some r->dj (aL β n) l vs ->
 (vs.foldlM Builtin.max2 (.int k x)).run P w = .ok (r.den β) w/\r.ok n
 | [],_,k,x,r,h,.nil=>by simp only[kT,Option.some.injEq]at h;subst h;exact⟨rfl,trivial⟩
 | .one (.int k' y)::l,_,k,x,r,h,.cons h1 h2=>by
   obtain⟨_,rfl⟩:=h1;unfold kT at h;have:=vR (P:=P) w h h2;simp only[List.foldlM_cons,XC.den,Builtin.max2,Sem.run_bind,Sem.run_pure,Result.andThen_ok];exact this
 | .undef::_,_,k,x,r,h,_=>by simp[kT]at h
 | .agg _::_,_,k,x,r,h,_=>by simp[kT]at h
 | .tup _::_,_,k,x,r,h,_=>by simp[kT]at h
 | .one (.bool _)::_,_,k,x,r,h,_=>by simp[kT]at h
 | .one (.flt _ _)::_,_,k,x,r,h,_=>by simp[kT]at h
 | .one (.cplx _ _ _)::_,_,k,x,r,h,_=>by simp[kT]at h
 | .one (.str _)::_,_,k,x,r,h,_=>by simp[kT]at h
 | .one .nilp::_,_,k,x,r,h,_=>by simp[kT]at h
 | .one (.ptr _ _)::_,_,k,x,r,h,_=>by simp[kT]at h
 | .one .nils::_,_,k,x,r,h,_=>by simp[kT]at h
 | .one (.slice _ _ _ _)::_,_,k,x,r,h,_=>by simp[kT]at h
 | .one .nilm::_,_,k,x,r,h,_=>by simp[kT]at h
 | .one (.map _)::_,_,k,x,r,h,_=>by simp[kT]at h
 | .one (.fn _)::_,_,k,x,r,h,_=>by simp[kT]at h
 | .one (.bind _ _)::_,_,k,x,r,h,_=>by simp[kT]at h
 | .one .nilf::_,_,k,x,r,h,_=>by simp[kT]at h
 | .one .nili::_,_,k,x,r,h,_=>by simp[kT]at h
def y7(P:Program)(t:TypeId)(x:XV):Option Nat:=
 match P.underlying t,x with
 | some .string,.one (.str s)=>some s.length
 | some (.array n _),.agg _=>some n
 | some (.pointer arr),.one (.ptr _ _)=>match P.underlying arr with
   | some (.array n _)=>some n
   | _ => .none
 | some (.slice _),.one .nils=>some 0
 | some (.slice _),.one (.slice _ _ n _)=>some n
 | some (.slice _),.one (.lsl _ _ _ n _ _)=>some n
 | some (.slice _),.one (.lem _)=>some 0
 | some (.map _ _),.one .nilm=>some 0
 | _,_ => .none
theorem De{P:Program}{t:TypeId}{x:XV}{r:Nat}(h:y7 P t x=some r){β : Env}{n:Nat}{u:Value}(hu:aL β n x u){ts:Array TypeId}{args:Array Value}(ht:ts[0]? = some t)(ha:args[0]? = some u)(ty:TypeId)(w:World) :
 (Builtin.len_ ts ty args).run P w = .ok (.int .i64 r) w:=by
 unfold y7 at h;simp only[Builtin.len_,ht,ha];split at h
 ·rename_i s hs;cases h;obtain⟨_,rfl⟩:=hu;simp only[Sem.run_bind,run_underlying hs,Result.andThen_ok,XC.den,Sem.run_pure,goInt];rfl
 ·rename_i k e cs hs;cases h;obtain⟨_,rfl⟩:=hu;simp only[Sem.run_bind,run_underlying hs,Result.andThen_ok,Sem.run_pure,goInt]
 ·rename_i arr i o hs;split at h
  ·rename_i k e hk;cases h;obtain⟨_,rfl⟩:=hu;simp only[Sem.run_bind,run_underlying hs,Result.andThen_ok,XC.den,Sem.run_pure,goInt,run_underlying hk]
  ·cases h
 ·rename_i e hs;cases h;obtain⟨_,rfl⟩:=hu;simp only[Sem.run_bind,run_underlying hs,Result.andThen_ok,XC.den,Sem.run_pure,goInt]
 ·rename_i e i o k cap hs;cases h;obtain⟨_,rfl⟩:=hu;cases cap<;>simp only[Sem.run_bind,run_underlying hs,Result.andThen_ok,XC.den,Sem.run_pure,goInt]
 ·rename_i e i q o k fl cut hs;cases h;obtain⟨_,rfl⟩:=hu;simp only[Sem.run_bind,run_underlying hs,Result.andThen_ok,XC.den,Sem.run_pure,goInt]
 ·rename_i e i hs;cases h;obtain⟨_,rfl⟩:=hu
  rcases yK (aq.val i)with e|⟨a,cap,e⟩<;>(simp only[Sem.run_bind,run_underlying hs,Result.andThen_ok,XC.den,e,Sem.run_pure,goInt];try rfl)
 ·rename_i k e hs;cases h;obtain⟨_,rfl⟩:=hu;simp only[Sem.run_bind,run_underlying hs,Result.andThen_ok,XC.den,Sem.run_pure,goInt];rfl
 ·cases h
def ej(P:Program)(b:Builtin)(ts:Array TypeId)(args:List XV):Option XV:=
 match b,args with
 | .len,x::_=>match ts[0]? with
   | some t=>(y7 P t x).map fun(n:Nat)=>XV.one (.int .i64 (n:Int))
   | .none => .none
 | .min,.one (.int k x)::rest=>(kU (.int k x) rest).map .one
 | .max,.one (.int k x)::rest=>(kT (.int k x) rest).map .one
 | .complex,[.one (.flt k a),.one (.flt k' b)]=>if k=k' then some (.one (.cplx k a b))else .none
 | .real,[.one (.cplx k a _)]=>some (.one (.flt k a))
 | .imag,[.one (.cplx k _ b)]=>some (.one (.flt k b))
 | _,_ => .none
theorem dj.head{α γ : Type}{R : α -> γ->Prop}{a : α}{l:List α}{vs:List γ}(h:dj R (a::l) vs):∃b k,vs=b::k/\R a b/\dj R l k:=by
 cases h with
 | cons h1 h2=>exact⟨_,_,rfl,h1,h2⟩
theorem vI{P:Program}{b:Builtin}{ts:Array TypeId}{args:List XV}{r:XV}(h:ej P b ts args=some r){β : Env}{n:Nat}{vs:Array Value}(hv:dj (aL β n) args vs.toList)(ty:TypeId)(cs:Array Bool)(w:World) :
 ∃z,(builtin b ts ty cs vs).run P w = .ok (.value z) w/\aL β n r z:=by
 obtain⟨vs⟩:=vs;simp only at hv;unfold ej at h;split at h
 ·obtain⟨u,k,rfl,h1,h2⟩:=hv.head;split at h
  ·rename_i t ht;obtain⟨m,hm,rfl⟩:=Option.map_eq_some_iff.1 h;have:=De hm h1 (args:=(u::k).toArray) ht (by simp) ty w;exact⟨_,by simp only[builtin,Sem.run_bind,this,Result.andThen_ok,Sem.run_pure];rfl,trivial,rfl⟩
  ·cases h
 ·obtain⟨u,k,rfl,h1,h2⟩:=hv.head;obtain⟨c,hc,rfl⟩:=Option.map_eq_some_iff.1 h;obtain⟨_,rfl⟩:=h1;obtain⟨h3,h4⟩:=vS (P:=P) w hc h2;exact⟨_,by simp only[builtin,Builtin.min_,XC.den,Sem.run_bind,h3,Result.andThen_ok,Sem.run_pure],h4,rfl⟩
 ·obtain⟨u,k,rfl,h1,h2⟩:=hv.head;obtain⟨c,hc,rfl⟩:=Option.map_eq_some_iff.1 h;obtain⟨_,rfl⟩:=h1;obtain⟨h3,h4⟩:=vR (P:=P) w hc h2;exact⟨_,by simp only[builtin,Builtin.max_,XC.den,Sem.run_bind,h3,Result.andThen_ok,Sem.run_pure],h4,rfl⟩
 ·rename_i kk aa kk' bb;obtain⟨u,k,rfl,h1,h2⟩:=hv.head;obtain⟨u',k',rfl,h3,h4⟩:=h2.head;cases h4;split at h
  ·rename_i hk;subst hk;cases h;obtain⟨_,rfl⟩:=h1;obtain⟨_,rfl⟩:=h3;have e:Builtin.complex_ ts ty [XC.den β (.flt kk aa),XC.den β (.flt kk bb)].toArray=pure (.complex kk aa bb):=by show(if _=_ then _ else _)=_;rw[if_pos rfl]
   exact⟨_,by simp only[builtin,e,Sem.run_bind,Result.andThen_ok,Sem.run_pure];rfl,trivial,rfl⟩
  ·cases h
 ·obtain⟨u,k,rfl,h1,h2⟩:=hv.head;cases h2;cases h;obtain⟨_,rfl⟩:=h1;exact⟨_,rfl,trivial,rfl⟩
 ·obtain⟨u,k,rfl,h1,h2⟩:=hv.head;cases h2;cases h;obtain⟨_,rfl⟩:=h1;exact⟨_,rfl,trivial,rfl⟩
 ·cases h
def aZ(P:Program)(ρ : Operand->XV)(op:Op):Option XV:=
 match op with
 | .move x=>some (ρ x)
 | .assign x=>some (ρ x)
 | .pick c a b=>match ρ c with
   | .one (.bool t)=>some (if t then ρ a else ρ b)
   | _ => .none
 | .build t parts=>oF P t (parts.toList.map fun p=>(p.1,ρ p.2))
 | .nilCheck x=>mo (ρ x)
 | .binOp op t x y _=>s5 P op t (ρ x) (ρ y)
 | .unOp op _ x=>RV op (ρ x)
 | .convert s d x=>kP P s d (ρ x)
 | .makeFunc (.func f) first caps=>if first.isEmpty then(kO (.fn f) (caps.toList.map ρ)).map .one else .none
 | .slice t x lo hi mx=>oJ P t (ρ x) (lo.map ρ) (hi.map ρ) (mx.map ρ)
 | .fieldAddr s x f=>fw P s (ρ x) f
 | .field s x f=>y4 P s (ρ x) f
 | .indexAddr t x i=>b_ P t (ρ x) (ρ i)
 | .index t x i=>qe P t (ρ x) (ρ i)
 | .extract x i=>jE (ρ x) i
 | .call ⟨.builtin b,args,ts⟩=>ej P b ts (args.toList.map ρ)
 | _ => .none
theorem kF{β : Env}{n:Nat}{ρ : Operand->XV}{ev:Operand->Value}(hr:∀x,aL β n (ρ x) (ev x)):∀o:Option Operand,ki β n (o.map ρ) (o.map ev)
 | .none => .none
 | some x => .some (hr x)
theorem qo{β : Env}{n:Nat}{ρ : Operand->XV}{ev:Operand->Value}(hr:∀x,aL β n (ρ x) (ev x)):∀l:List Operand,dj (aL β n) (l.map ρ) (l.map ev)
 | [] => .nil
 | x::l => .cons (hr x) (qo hr l)
theorem Bq{P:Program}{ρ : Operand->XV}{o:Oper}{r:XV}(h:aZ P ρ o.op=some r){β : Env}{n:Nat}{ev:Operand->Value}(hr:∀x,aL β n (ρ x) (ev x))(w:World) :
 ∃z,(execOp ev o).run P w = .ok (.value z) w/\aL β n r z:=by
 unfold aZ at h;split at h
 ·rename_i x ho;cases h;exact⟨_,by simp only[execOp,ho,Sem.run_pure],hr x⟩
 ·rename_i x ho;cases h;exact⟨_,by simp only[execOp,ho,Sem.run_pure],hr x⟩
 ·rename_i c a b ho;split at h
  ·rename_i t hc;cases h;have:=hr c;rw[hc]at this;obtain⟨_,h2⟩:=this;refine⟨if t then ev a else ev b,by simp only[execOp,ho,h2,XC.den,asBool,Sem.run_bind,Sem.run_pure,Result.andThen_ok],?_⟩;cases t
   ·exact hr b
   ·exact hr a
  ·cases h
 ·rename_i t parts ho
  obtain⟨z,hz,hz2⟩:=yY h (vs:=parts.map fun(i,x)=>(i,ev x)) (by
   rw[Array.toList_map]
   exact dj.n9 _ _ _ fun p _=>⟨rfl,hr p.2⟩) w
  exact⟨z,by simp only[execOp,ho,Sem.run_bind,hz,Result.andThen_ok,Sem.run_pure],hz2⟩
 ·rename_i x ho;exact s7 h ho (hr x) w
 ·rename_i op t x y t' ho;obtain⟨h1,z,hz,hz2⟩:=C8 h (hr x) (hr y) x y w;exact⟨z,by simp only[execOp,ho,Sem.run_bind,h1,hz,Result.andThen_ok,Sem.run_pure],hz2⟩
 ·rename_i op t x ho;obtain⟨z,hz,hz2⟩:=GU (P:=P) h (hr x) w;exact⟨z,by simp only[execOp,ho,Sem.run_bind,hz,Result.andThen_ok,Sem.run_pure],hz2⟩
 ·rename_i s d x ho;obtain⟨z,hz,hz2⟩:=vJ h (hr x) w;exact⟨z,by simp only[execOp,ho,Sem.run_bind,hz,Result.andThen_ok,Sem.run_pure],hz2⟩
 ·rename_i f first caps ho
  split at h
  ·rename_i hf;obtain⟨c,hc,rfl⟩:=Option.map_eq_some_iff.1 h;have hl:dj (aL β n) (caps.toList.map ρ) (caps.toList.map ev):=qo hr _;obtain⟨h1,h2⟩:=oE hc (f:=f) (cs:=[]) rfl trivial hl;have hfe:first = #[]:=by simpa using hf
   refine⟨c.den β,?_,h1,rfl⟩;rw[h2];have e:caps.map ev=(List.map ev caps.toList).toArray:=by apply Array.toList_inj.1;simp
   simp[execOp,ho,Instr.makeFunc,hfe,e]
  ·cases h
 ·rename_i t x lo hi mx ho;obtain⟨z,hz,hz2⟩:=y_ h (hr x) (kF hr lo) (kF hr hi) (kF hr mx) w;exact⟨z,by simp only[execOp,ho,Sem.run_bind,hz,Result.andThen_ok,Sem.run_pure],hz2⟩
 ·rename_i s x f ho;obtain⟨z,hz,hz2⟩:=sg h (hr x) w;exact⟨z,by simp only[execOp,ho,Sem.run_bind,hz,Result.andThen_ok,Sem.run_pure],hz2⟩
 ·rename_i s x f ho;obtain⟨z,hz,hz2⟩:=y5 h (hr x) w;exact⟨z,by simp only[execOp,ho,Sem.run_bind,hz,Result.andThen_ok,Sem.run_pure],hz2⟩
 ·rename_i t x i ho;obtain⟨z,hz,hz2⟩:=si h (hr x) (hr i) w;exact⟨z,by simp only[execOp,ho,Sem.run_bind,hz,Result.andThen_ok,Sem.run_pure],hz2⟩
 ·rename_i t x i ho;obtain⟨z,hz,hz2⟩:=y6 h (hr x) (hr i) w;exact⟨z,by simp only[execOp,ho,Sem.run_bind,hz,Result.andThen_ok,Sem.run_pure],hz2⟩
 ·rename_i x i ho;obtain⟨z,hz,hz2⟩:=vO (P:=P) h (hr x) w;exact⟨z,by simp only[execOp,ho,Sem.run_bind,hz,Result.andThen_ok,Sem.run_pure],hz2⟩
 ·rename_i b args ts ho;obtain⟨z,hz,hz2⟩:=vI h (vs:=args.map ev) (by rw[Array.toList_map];exact qo hr _) o.type (args.map fun | .const _=>true|_=>false) w;refine⟨z,?_,hz2⟩;simp only[execOp,ho,resolve,invoke,Sem.run_bind,Sem.run_pure,Result.andThen_ok];exact hz
 ·cases h
end Go.Xm
namespace Go.Xm
variable [aq]
theorem fb.cell{β : Env}{n lo sz:Nat}{vs:List XC}{e:TypeId}{opn ro:Bool}{w:World}{b:Nat}(h:fb β n lo sz (.cells vs e opn ro) w.heap[b]?)(j:Nat)(c:XC)(hj:vs[j]? = some c) :
 w.cell? ⟨b,lo+j,none⟩=some (c.den β):=by
 obtain⟨cs,fr,h1,_,_,_,_,h6⟩:=h;rw[cell_of_row w b (lo+j) cs e fr h1];have h7:((cs.toList.drop lo).take vs.length)[j]? = some (c.den β):=by rw[h6];simp[hj]
 rw[List.getElem?_take]at h7;split at h7
 ·rw[List.getElem?_drop]at h7;simpa using h7
 ·cases h7
theorem fb.FH{β : Env}{n lo sz:Nat}{vs:List XC}{e:TypeId}{opn ro:Bool}{o:Option Obj}(h:fb β n lo sz (.cells vs e opn ro) o):∀c∈vs,c.ok n:=by
 obtain⟨cs,fr,h1,h2,h3,h4,h5,h6⟩:=h;exact h5
theorem dq{P:Program}{β : Env}{n lo sz:Nat}{vs:List XC}{e:TypeId}{opn ro:Bool}{w:World}{b:Nat}(h:fb β n lo sz (.cells vs e opn ro) w.heap[b]?)(off s:Nat)(hl:off+s<=vs.length) :
 (loadCells ⟨b,lo+off,none⟩ s).run P w = .ok (((vs.drop off).take s).map (·.den β)).toArray w:=by
 have hlen:(((vs.drop off).take s).map (·.den β)).length=s:=by simp;omega
 have:=run_loadCells_list (P:=P) w ⟨b,lo+off,none⟩ (((vs.drop off).take s).map (·.den β)) (fun j v hv=>by
  rw[Addr.ec,Nat.add_assoc];rw[List.getElem?_map]at hv;obtain⟨c,hc,rfl⟩:=Option.map_eq_some_iff.1 hv;rw[List.getElem?_take]at hc;split at hc
  ·rw[List.getElem?_drop]at hc;exact h.cell _ _ hc
  ·cases hc)
 rwa [hlen]at this
def dC(P:Program)(t:TypeId)(vs:List XC)(off:Nat):Option X1:=
 match fM P t with
 | some true=>match bT P t with
   | some s=>if off+s<=vs.length then some (.agg ((vs.drop off).take s))else .none
   | .none => .none
 | some false=>match vs[off]? with
   | some c=>some (.one c)
   | .none => .none
 | .none => .none
theorem lR{P:Program}{t:TypeId}{vs:List XC}{off:Nat}{x:X1}(h:dC P t vs off=some x){β : Env}{n lo sz:Nat}{e:TypeId}{opn ro:Bool}{w:World}{b:Nat}(hr:fb β n lo sz (.cells vs e opn ro) w.heap[b]?) :
 (loadVar t ⟨b,lo+off,none⟩).run P w = .ok (x.den β) w/\x.ok n:=by
 unfold dC at h;split at h
 ·rename_i ha;split at h
  ·rename_i s hs;split at h
   ·rename_i hl;cases h;refine⟨?_,fun c hc=>hr.FH c (List.mem_of_mem_drop (List.mem_of_mem_take hc))⟩;simp only[loadVar,Sem.run_bind,nc ha,Result.andThen_ok,if_true,br hs,dq hr off s hl,Sem.run_pure,X1.den]
   ·cases h
  ·cases h
 ·rename_i ha;split at h
  ·rename_i c hc;cases h;refine⟨?_,hr.FH c (List.mem_of_getElem? hc)⟩;simp only[loadVar,Sem.run_bind,nc ha,Result.andThen_ok,Bool.false_eq_true,if_false,run_load,hr.cell _ _ hc,X1.den]
  ·cases h
 ·cases h
def lC(P:Program)(ck:TypeId->X1->Bool)(elem:TypeId)(s:Nat)(cs:List XC):Nat->Nat->Bool
 | _,0=>true
 | i,k+1=>match gz P elem cs (i*s)with
   | some y=>ck elem y&&lC P ck elem s cs (i+1) k
   | .none=>false
def ie(P:Program):Nat->TypeId->X1->Bool
 | 0,_,_=>false
 | d + 1,t,x=>
   match P.underlying t with
   | some (.array len elem)=>match x,bT P elem with
     | .agg cs,some s=>lC P (ie P d) elem s cs 0 len
     | _,_=>false
   | some (.struct _)=>false
   | some (.interface _)=>false
   | some _=>true
   | .none=>false
theorem nR{P:Program}{ck:TypeId->X1->Bool}{elem:TypeId}{s:Nat}{cs:List XC}{n:Nat}(hc:∀c∈cs,c.ok n)(β : Env)(w:World)(f:TypeId->Value->Sem Unit)(hs:bT P elem=some s)
 (hf:∀y:X1,y.ok n->ck elem y=true->(f elem (y.den β)).run P w = .ok () w) :
 ∀ (k i:Nat),lC P ck elem s cs i k=true ->
   ((forIn (List.range' i k) PUnit.unit fun i (_:PUnit)=>do
      let s' <-sizeOf elem
      let y <-part elem (cs.map (·.den β)).toArray (i*s')
      f elem y
      pure (ForInStep.yield PUnit.unit):Sem PUnit).run P w) = .ok PUnit.unit w
 | 0,i,_=>by simp
 | k + 1,i,h=>by
   unfold lC at h;split at h
   ·rename_i y hy;simp only[Bool.and_eq_true]at h;obtain⟨h1,h2⟩:=gj hy hc β w;simp only[List.range'_succ,List.forIn_cons,Sem.run_bind,br hs,h1,Result.andThen_ok,hf y h2 h.1,Sem.run_pure];exact nR hc β w f hs hf k (i+1) h.2
   ·cases h
theorem jO{P:Program}(e:Bool){n:Nat}(β : Env)(w:World):∀(d:Nat) (t:TypeId) (x:X1),ie P d t x=true->x.ok n->∀f,d<=f->(Instr.checkKey e f t (x.den β)).run P w = .ok () w
 | 0,t,x,h,_,_,_=>by simp[ie]at h
 | d + 1,t,x,h,hx,f,hf=>by
   obtain⟨g,rfl⟩:∃g,f=g+1:=⟨f-1,by omega⟩
   unfold ie at h;unfold Instr.checkKey;split at h
   ·rename_i len elem hu;split at h
    ·rename_i cs s hs;simp only[Sem.run_bind,run_underlying hu,Result.andThen_ok,X1.den];rw[Std.Legacy.Range.forIn_eq_forIn_range'];simp only[Std.Legacy.Range.size,Nat.sub_zero,Nat.add_sub_cancel,Nat.div_one];have:=nR (P:=P) hx β w (fun t v=>Instr.checkKey e g t v) hs (fun y hy hck=>jO e β w d elem y hck hy g (by omega)) len 0 h;rw[this];rfl
    ·cases h
   ·cases h
   ·cases h
   ·rename_i ds h1 h2 h3 hu;simp only[Sem.run_bind,run_underlying hu,Result.andThen_ok]
    cases ds<;>first
     | rfl
     | (exact(h1 _ _ rfl).elim)
     | (exact(h2 _ rfl).elim)
     | (exact(h3 _ rfl).elim)
   ·cases h
def kS(P:Program)(kt:TypeId)(key:X1):List (X1×X1)->Nat->Option (Option (Nat×X1))
 | [],_=>some .none
 | (k,v)::es,i=>match bY P 40 kt key k with
   | some true=>some (some (i,v))
   | some false=>kS P kt key es (i+1)
   | .none => .none
def mJ(en:List MapEntry):List (Value×Value):=en.map fun e=>(e.key,e.val)
theorem nW{P:Program}{kt:TypeId}{key:X1}{n:Nat}(hk:key.ok n)(β : Env)(w:World):∀(es:List (X1×X1)) (en:List MapEntry) (i:Nat) (r:Option (Nat×X1)),kS P kt key es i=some r ->
 (∀p∈es,p.1.ok n/\p.2.ok n)->mJ en=es.map (fun p=>(p.1.den β,p.2.den β)) ->
 (Instr.findAsking kt (key.den β) en i).run P w = .ok (r.map fun p=>(p.1,p.2.den β)) w
 | [],[],i,r,h,_,_=>by simp only[kS,Option.some.injEq]at h;subst h;rfl
 | [],_::_,i,r,h,_,he=>by simp[mJ]at he
 | _::_,[],i,r,h,_,he=>by simp[mJ]at he
 | (k,v)::es,e::en,i,r,h,hok,he=>by
   simp only[mJ,List.map_cons,List.cons.injEq,Prod.mk.injEq]at he;obtain⟨⟨e1,e2⟩,e3⟩:=he;have hko:=(hok (k,v) (by simp)).1;unfold kS at h;unfold Instr.findAsking;split at h
   ·rename_i hq;cases h;have:=fv P 40 _ _ _ _ hq β n hk hko w Op.maxDepth (by decide);simp only[Sem.run_bind,e1,Op.equal,this,Result.andThen_ok,if_true,Sem.run_pure,e2];rfl
   ·rename_i hq;have:=fv P 40 _ _ _ _ hq β n hk hko w Op.maxDepth (by decide);simp only[Sem.run_bind,e1,Op.equal,this,Result.andThen_ok,Bool.false_eq_true,if_false];exact nW hk β w es en (i+1) r h (fun p hp=>hok p (by simp[hp])) e3
   ·cases h
theorem vj{P:Program}{kt:TypeId}{d:TypeDesc}(hd:P.underlying kt=some d){a b:Value}{r s:Bool}(h:Instr.sameNow d a b=some r)(w:World)(f:Nat)(hs:(Op.equalIn (f+1) kt a b).run P w = .ok s w):r=s:=by
 rw[Op.equalIn]at hs;simp only[Sem.run_bind,run_underlying hd,Result.andThen_ok]at hs;unfold Instr.sameNow at h;split at h
 ·split at h
  ·rename_i hk;subst hk;cases h;simpa using hs
  ·cases h
 ·cases h;simpa using hs
 ·cases h;simpa using hs
 ·cases h
theorem uh{P:Program}{kt:TypeId}{d:TypeDesc}(hd:P.underlying kt=some d){key:X1}{n:Nat}(hk:key.ok n)(β : Env)(w:World):∀(es:List (X1×X1)) (en:List MapEntry) (i:Nat) (r:Option (Nat×X1)) (q:Option (Nat×Value)),kS P kt key es i=some r ->
 (∀p∈es,p.1.ok n/\p.2.ok n)->mJ en=es.map (fun p=>(p.1.den β,p.2.den β))->Instr.findNow d (key.den β) en i=some q->q=r.map fun p=>(p.1,p.2.den β)
 | [],[],i,r,q,h,_,_,hq=>by
   simp only[kS,Option.some.injEq]at h;simp only[Instr.findNow,Option.some.injEq]at hq;subst h;subst hq;rfl
 | [],_::_,i,r,q,h,_,he,_=>by simp[mJ]at he
 | _::_,[],i,r,q,h,_,he,_=>by simp[mJ]at he
 | (k, v)::es,e::en,i,r,q,h,hok,he,hq=>by
   simp only[mJ,List.map_cons,List.cons.injEq,Prod.mk.injEq]at he;obtain⟨⟨e1,e2⟩,e3⟩:=he;have hko:=(hok (k,v) (by simp)).1;unfold kS at h;unfold Instr.findNow at hq;split at h
   ·rename_i hx;cases h;have:=fv P 40 _ _ _ _ hx β n hk hko w 40 (by decide);rw[e1]at hq;split at hq
    ·cases hq;rw[e2];rfl
    ·rename_i hs;have:=vj hd hs w 39 this;cases this
    ·cases hq
   ·rename_i hx;have:=fv P 40 _ _ _ _ hx β n hk hko w 40 (by decide);rw[e1]at hq;split at hq
    ·rename_i hs;have:=vj hd hs w 39 this;cases this
    ·exact uh hd hk β w es en (i+1) r q h (fun p hp=>hok p (by simp[hp])) e3 hq
    ·cases hq
   ·cases h
theorem lp{P:Program}{kt:TypeId}{d:TypeDesc}(hd:P.underlying kt=some d){key:X1}{n:Nat}(hk:key.ok n)(β : Env)(w:World){es:List (X1×X1)}{en:List MapEntry}{r:Option (Nat×X1)}(h:kS P kt key es 0=some r)
 (hok:∀p∈es,p.1.ok n/\p.2.ok n) (he:mJ en=es.map (fun p=>(p.1.den β,p.2.den β))) :
 (Instr.findKey kt (key.den β) en).run P w = .ok (r.map fun p=>(p.1,p.2.den β)) w:=by
 unfold Instr.findKey;simp only[Sem.run_bind,run_underlying hd,Result.andThen_ok];split
 ·rename_i q hq;rw[uh hd hk β w es en 0 r q h hok he hq];rfl
 ·exact nW hk β w es en 0 r h hok he
def oL(P:Program)(t:TypeId):Option X1:=
 match P.info? t with
 | some i=>match i.zero with
   | some (.agg cs)=>(cs.toList.mapM n_).map .agg
   | some v=>(n_ v).map .one
   | .none => .none
 | .none => .none
theorem zd{P:Program}{t:TypeId}{x:X1}(h:oL P t=some x)(β : Env)(n:Nat)(w:World):(zeroValue t).run P w = .ok (x.den β) w/\x.ok n:=by
 unfold oL at h;split at h
 ·rename_i i hi;split at h
  ·rename_i cs hv;obtain⟨l,hl,rfl⟩:=Option.map_eq_some_iff.1 h;obtain⟨h1,h2⟩:=oc hl β n;refine⟨?_,h1⟩;rw[cV hi hv];simp only[X1.den,<-h2]
  ·rename_i v _ hv;obtain⟨c,hc,rfl⟩:=Option.map_eq_some_iff.1 h;obtain⟨h1,h2⟩:=pT hc β n;refine⟨?_,h1⟩;rw[cV hi hv,h2];rfl
  ·cases h
 ·cases h
def nf(P:Program)(kt et:TypeId)(key:X1)(ok:Bool)(es:List (X1×X1)):Option XV:=
 if ie P 40 kt key then
  match P.underlying kt,kS P kt key es 0 with
  | some _,some (some (_,v))=>some (if ok then .tup [v,.one (.bool true)]else v.p6)
  | some _,some .none=>match oL P et with
    | some z=>some (if ok then .tup [z,.one (.bool false)]else z.p6)
    | .none => .none
  | _,_ => .none
 else .none
theorem wL{P : Program}{kt et:TypeId}{key:X1}{ok:Bool}{es:List (X1×X1)}{r:XV}(h:nf P kt et key ok es=some r){β : Env}{n:Nat}(hk:key.ok n){en:Array MapEntry}
 (hok:∀p∈es,p.1.ok n/\p.2.ok n) (he:en.toList.map (fun e=>(e.key,e.val))=es.map (fun p=>(p.1.den β,p.2.den β))) (emp:Bool) (w:World) :
 ∃ z,(do
   Instr.checkKey emp 10000 kt (key.den β)
   let (v,ok') <-match <-Instr.findKey kt (key.den β) en.toList with
    | some (_,v)=>pure (v,true)
    | none=>pure (<-zeroValue et,false)
   pure (if ok then Value.tuple #[v,.bool ok']else v):Sem Value).run P w = .ok z w/\aL β n r z:=by
 unfold nf at h;split at h
 ·rename_i hc;have hck:=jO (P:=P) emp β w 40 kt key hc hk 10000 (by decide);split at h
  ·rename_i d i v hd hf;cases h;have hfk:=lp hd hk β w hf hok he
   have hv : v.ok n:=by
    have key:∀(es:List (X1×X1)) (i j:Nat),kS P kt key es i=some (some (j,v))->∃p∈es,p.2=v:=by
     intro es
     induction es with
     | nil=>intro i j h;simp[kS]at h
     | cons p es ih=>
       intro i j h;obtain⟨k,u⟩:=p;unfold kS at h;split at h
       ·cases h;exact⟨_,List.mem_cons_self ..,rfl⟩
       ·obtain⟨p,hp,e⟩:=ih _ _ h;exact⟨p,List.mem_cons_of_mem _ hp,e⟩
       ·cases h
    obtain⟨p,hp,rfl⟩:=key es 0 i hf;exact(hok p hp).2
   cases ok
   ·exact⟨v.den β,by simp[hck,hfk],aL.p6.2 ⟨hv,rfl⟩⟩
   ·refine⟨_,by simp[hck,hfk];rfl,fun x hx=>?_,rfl⟩
    rcases List.mem_cons.1 hx with rfl|hx
    ·exact hv
    ·simp only[List.mem_singleton]at hx;subst hx;trivial
  ·rename_i d hd hf;split at h
   ·rename_i z hz;cases h;have hfk:=lp hd hk β w hf hok he;obtain⟨h1,h2⟩:=zd hz β n w;cases ok
    ·exact⟨z.den β,by simp[hck,hfk,h1],aL.p6.2 ⟨h2,rfl⟩⟩
    ·refine⟨_,by simp[hck,hfk,h1];rfl,fun x hx=>?_,rfl⟩
     rcases List.mem_cons.1 hx with rfl|hx
     ·exact h2
     ·simp only[List.mem_singleton]at hx;subst hx;trivial
   ·cases h
  ·cases h
 ·cases h
def pe(P:Program)(t:TypeId)(i o len sz:Nat)(lo hi:Option XV)(vs:List XC):Option XV:=
 match P.underlying t with
 | some (.slice elem)=>match bT P elem,jN hi len ((vs.length-o)/sz)with
   | some s,some h=>match jN lo 0 h with
     | some l=>if s=sz/\0<sz/\l<h/\o+h*sz<=vs.length then some (.one (.slice i (o+l*sz) (h-l) (.toEnd sz)))else .none
     | .none => .none
   | _,_ => .none
 | _ => .none
theorem sZ{x:XV}{d y y' i:Nat}(h:jN (some x) d y=some i)(hy:y<=y'):jN (some x) d y'=some i:=by
 unfold jN at h ⊢;split at h
 ·rename_i he;cases he
 ·rename_i k j he;cases he;split at h
  ·rename_i hj;cases h;rw[if_pos ⟨hj.1,by omega⟩]
  ·cases h
 ·cases h
theorem s8{P : Program}{t:TypeId}{i o len sz:Nat}{lo hi:Option XV}{vs:List XC}{r:XV}(h:pe P t i o len sz lo hi vs=some r){β : Env}{n:Nat}(hin:i<n){e:TypeId}{opn ro:Bool}{w:World}
 (hr:fb β n (β.base i) (β.size i) (.cells vs e opn ro) w.heap[β.bG i]?) {vl vh:Option Value}(h1:ki β n lo vl) (h2:ki β n hi vh) :
 ∃z,(Instr.sliceAt t (XC.den β (.slice i o len (.toEnd sz))) vl vh .none).run P w = .ok z w/\aL β n r z:=by
 unfold pe at h;split at h
 ·rename_i elem ht;split at h
  ·rename_i s hv hs hb;split at h
   ·rename_i l hl;split at h
    ·rename_i hc;obtain⟨rfl,hpos,hlh,hfit⟩:=hc;cases h
     have hlen:vs.length <= β.size i:=by
      obtain⟨cs,fr,g1,g2,g3,_⟩:=hr;split at g3<;>omega
     have hcap:hv<=(β.size i-o)/s:=by
      rw[Nat.le_div_iff_mul_le hpos];omega
     have hcap':(vs.length-o)/s<=(β.size i-o)/s:=Nat.div_le_div_right (by omega)
     have hbd:(Instr.sliceBounds true len ((β.size i-o)/s) vl vh .none).run P w = .ok (l,hv,(β.size i-o)/s) w:=by
      refine dO (P:=P) (isSlice:=true) (lo:=lo) (hi:=hi) (mx := .none) ?_ h1 h2 .none w;unfold eI;simp only[]
      have hb':jN hi len ((β.size i-o)/s)=some hv:=by
       cases hi with
       | none=>exact hb
       | some x=>exact sZ hb hcap'
      rw[hb'];simp only[hl]
     refine⟨_,?_,hin,rfl⟩;simp only[Instr.sliceAt,Instr.slice,Sem.run_bind,run_underlying ht,Result.andThen_ok,XC.den,Sem.run_pure,hbd,br hs];rw[if_neg (by omega)];simp only[Option.map_some,Addr.ec,Nat.add_assoc]
     have e1:(β.size i-(o+l*s))/s=(β.size i-o)/s-l:=by
      rw[Nat.sub_add_eq,Nat.mul_comm l s,Nat.sub_mul_div]
     rw[e1]
    ·cases h
   ·cases h
  ·cases h
 ·cases h
theorem z7{P:Program}{t ty kt et:TypeId}{ts:Array TypeId}{args:Array Value}{b:Nat}{en:Array MapEntry}{clock:Nat}{w:World}(ht:ts[0]? = some t)(hu:P.underlying t=some (.map kt et))
 (ha:args[0]? = some (.map (some b))) (hg:w.heap[b]? = some (.map en clock)):(Builtin.len_ ts ty args).run P w = .ok (.int .i64 en.size) w:=by
 have hgo:(getObj b).run P w = .ok (.map en clock) w:=by simp only[getObj,Sem.run,hg]
 simp only[Builtin.len_,ht,ha,Sem.run_bind,run_underlying hu,hgo,Result.andThen_ok,Sem.run_pure,goInt]
def p_:List XC->Option (List Int)
 | []=>some []
 | .int .u8 z::l=>(p_ l).map (z :: ·)
 | _ => .none
theorem oG:∀{cs:List XC} {ns:List Int},p_ cs=some ns->cs=ns.map (XC.int .u8)
 | [],ns,h=>by cases h;rfl
 | c :: l,ns,h=>by
   unfold p_ at h;split at h
   ·rename_i he;cases he
   ·rename_i z l' he;cases he;obtain⟨q,hq,rfl⟩:=Option.map_eq_some_iff.1 h;rw[oG hq];rfl
   ·cases h
def nh(ns:List Int):List UInt8:=ns.map fun z=>UInt8.ofNat z.toNat
theorem u3:∀(ns:List Int) (l:List UInt8),ns.foldl (fun(r:ByteArray) n=>r.push (UInt8.ofNat n.toNat)) ⟨l.toArray⟩=⟨(l++nh ns).toArray⟩
 | [],l=>by simp[nh]
 | n::ns,l=>by
   have h:=u3 ns (l++[UInt8.ofNat n.toNat]);have e:(⟨l.toArray⟩:ByteArray).push (UInt8.ofNat n.toNat)=⟨(l++[UInt8.ofNat n.toNat]).toArray⟩:=by simp[ByteArray.push]
   rw[List.foldl_cons,e,h];simp[nh]
def eX(P : Program)(ρ : Operand->XV)(op:Op):Option (Nat×(ak->Option XV)):=
 match op with
 | .load t a=>match ρ a with
   | .one (.ptr i off)=>some (i,fun o=>match o with
     | .cells vs _ _ _=>(dC P t vs off).map X1.p6
     | _ => .none)
   | .one (.lpt g k off)=>some (g,fun o=>match o with
     | .late L=>match L[k]? with
       | some (c::cs)=>(dC P t ((c::cs).map (·.self g)) off).map X1.p6
       | _ => .none
     | _ => .none)
   | _ => .none
 | .lookup t x ix ok=>match P.underlying t,ρ x,p9 (ρ ix)with
   | some (.map kt et),.one (.map i),some key=>some (i,fun o=>match o with
     | .map es=>nf P kt et key ok es
     | _ => .none)
   | _,_,_ => .none
 | .call ⟨.builtin .len,args,ts⟩=>match args.toList with
   | [x] => match ts[0]?,ρ x with
     | some t,.one (.map i)=>match P.underlying t with
       | some (.map _ _)=>some (i,fun o=>match o with
         | .map es=>some (.one (.int .i64 (es.length:Nat)))
         | _ => .none)
       | _ => .none
     | _,_ => .none
   | _ => .none
 | .slice t x lo hi .none=>match ρ x with
   | .one (.slice i o len (.toEnd sz))=>some (i,fun b=>match b with
     | .cells vs _ _ _=>pe P t i o len sz (lo.map ρ) (hi.map ρ) vs
     | _ => .none)
   | _ => .none
 | .convert s d x=>match P.underlying s,P.underlying d,ρ x with
   | some (.slice e),some .string,.one (.slice i off len _)=>match P.underlying e with
     | some (.int .u8)=>some (i,fun o=>match o with
       | .cells vs _ _ _=>if off+len<=vs.length then(p_ ((vs.drop off).take len)).map fun ns => .one (.str (nh ns))else .none
       | _ => .none)
     | _ => .none
   | some (.slice e),some .string,.one (.lsl g k off len _ _)=>match P.underlying e with
     | some (.int .u8)=>some (g,fun o=>match o with
       | .late L=>match L[k]? with
         | some (c::cs)=>if off+len<=(c::cs).length then(p_ ((((c::cs).map (·.self g)).drop off).take len)).map fun ns => .one (.str (nh ns))else .none
         | _ => .none
       | _ => .none)
     | _ => .none
   | _,_,_ => .none
 | _ => .none
theorem Br{P : Program}{ρ : Operand->XV}{o:Oper}{i:Nat}{f:ak->Option XV}(h:eX P ρ o.op=some (i,f)){β : Env}{m:Mem}{ev:Operand->Value}(hr:∀x,aL β m.n (ρ x) (ev x)){w:World}(hm:Rel β m w)
 {r:XV}(hf:f (m.get i)=some r):∃z,(execOp ev o).run P w = .ok (.value z) w/\aL β m.n r z:=by
 unfold eX at h;split at h
 ·rename_i t a ho;split at h
  ·rename_i j off ha;cases h;have hra:=hr a;rw[ha]at hra;obtain⟨h1,h2⟩:=hra;have hob:=hm.obj i h1;simp only at hf;split at hf
   ·rename_i vs e opn ro hg;rw[hg]at hob;obtain⟨x,hx,rfl⟩:=Option.map_eq_some_iff.1 hf;obtain⟨h3,h4⟩:=lR (P:=P) hx hob;refine⟨x.den β,?_,aL.p6.2 ⟨h4,rfl⟩⟩;simp only[execOp,ho,h2,XC.den,Instr.loadAt,Instr.sureAddr,Sem.run_bind,Sem.run_pure,Result.andThen_ok,h3]
   ·cases hf
  ·rename_i j k off ha;cases h;have hra:=hr a;rw[ha]at hra;obtain⟨h1,h2⟩:=hra;simp only at hf;split at hf
   ·rename_i L hg;split at hf
    ·rename_i c cs hk;obtain⟨e,sz,hob⟩:=(hm.late i h1 L hg).Ju h1 hk (by simp);obtain⟨x,hx,rfl⟩:=Option.map_eq_some_iff.1 hf;obtain⟨h3,h4⟩:=lR (P:=P) hx hob;refine⟨x.den β,?_,aL.p6.2 ⟨h4,rfl⟩⟩;simp only[execOp,ho,h2,XC.den,Instr.loadAt,Instr.sureAddr,Sem.run_bind,Sem.run_pure,Result.andThen_ok,h3]
    ·cases hf
   ·cases hf
  ·cases h
 ·rename_i t x ix ok ho;split at h
  ·rename_i kt et j key hu hx hk;cases h;have hrx:=hr x;rw[hx]at hrx;obtain⟨h1,h2⟩:=hrx;obtain⟨h3,h4⟩:=qZ hk (hr ix);have hob:=hm.obj i h1;simp only at hf;split at hf
   ·rename_i es hg;rw[hg]at hob;obtain⟨en,clock,h5,h6,h7⟩:=hob;obtain⟨z,hz,hz2⟩:=wL hf h3 h6 h7 en.isEmpty w;refine⟨z,?_,hz2⟩;have hgo:(getObj (β.bG i)).run P w = .ok (.map en clock) w:=by simp only[getObj,Sem.run,h5]
    simp only[execOp,ho,h2,h4,XC.den,Instr.lookup,Sem.run_bind,run_underlying hu,hgo,Sem.run_pure,Result.andThen_ok];simp only[Sem.run_bind]at hz;exact congrArg (fun(q:Result Value)=>q.andThen fun a w'=>Result.ok (Next.value a) w') hz
   ·cases hf
  ·cases h
 ·rename_i args ts ho;split at h
  ·rename_i x hargs;split at h
   ·rename_i t j ht hx;split at h
    ·rename_i kt et hu;cases h;have hrx:=hr x;rw[hx]at hrx;obtain⟨h1,h2⟩:=hrx;have hob:=hm.obj i h1;simp only at hf;split at hf
     ·rename_i es hg;cases hf;rw[hg]at hob;obtain⟨en,clock,h5,h6,h7⟩:=hob;refine⟨_,?_,trivial,rfl⟩
      have ha:(args.map ev)[0]? = some (.map (some (β.bG i))):=by
       have:args.map ev = #[ev x]:=by apply Array.toList_inj.1;simp[hargs]
       rw[this,h2];rfl
      have hlen:en.size=es.length:=by
       have:=congrArg List.length h7;simpa using this
      have hl:=z7 (P:=P) (ty:=o.type) ht hu ha h5;rw[hlen]at hl;simp only[execOp,ho,resolve,invoke,builtin,Sem.run_bind,Sem.run_pure,Result.andThen_ok,hl];rfl
     ·cases hf
    ·cases h
   ·cases h
  ·cases h
 ·rename_i t x lo hi ho;split at h
  ·rename_i j off len sz hx;cases h;have hrx:=hr x;rw[hx]at hrx;obtain⟨h1,h2⟩:=hrx;have hob:=hm.obj i h1;simp only at hf;split at hf
   ·rename_i vs e opn ro hg;rw[hg]at hob;obtain⟨z,hz,hz2⟩:=s8 hf h1 hob (kF hr lo) (kF hr hi);exact⟨z,by simp only[execOp,ho,h2,Option.map_none,Sem.run_bind,hz,Result.andThen_ok,Sem.run_pure],hz2⟩
   ·cases hf
  ·cases h
 ·rename_i sr d x ho;split at h
  ·rename_i e j off len cap hs hd hx;split at h
   ·rename_i he;cases h;have hrx:=hr x;rw[hx]at hrx;obtain⟨h1,h2⟩:=hrx;have hob:=hm.obj i h1;simp only at hf;split at hf
    ·rename_i vs et opn ro hg;rw[hg]at hob;split at hf
     ·rename_i hfit;obtain⟨ns,hns,rfl⟩:=Option.map_eq_some_iff.1 hf;have hl:=dq (P:=P) hob off len hfit;rw[oG hns,List.map_map]at hl;have e0:((XC.den β) ∘ XC.int IntKind.u8)=Value.int IntKind.u8:=rfl;rw[e0]at hl
      have hev:∃c,ev x = .slice (some ⟨β.bG i,β.base i+off,.none⟩) len c:=by
       rw[h2];cases cap<;>exact⟨_,rfl⟩
      obtain⟨c,hc⟩:=hev;refine⟨.string ⟨(nh ns).toArray⟩,?_,trivial,rfl⟩;have hb:=run_bytesToString (P:=P) w ⟨β.bG i,β.base i+off,.none⟩ len c ns hl;have hp:=u3 ns [];have e1:(ByteArray.empty)=(⟨([]:List UInt8).toArray⟩:ByteArray):=rfl;rw[e1,hp,List.nil_append]at hb;have hcv:=run_convert_bytes_string (P:=P) w sr d e (some ⟨β.bG i,β.base i+off,.none⟩) len c hs he hd;simp only[execOp,ho,hc,Sem.run_bind,hcv,hb,Result.andThen_ok,Sem.run_pure]
     ·cases hf
    ·cases hf
   ·cases h
  ·rename_i e j k off len fl cut hs hd hx;split at h
   ·rename_i he;cases h;have hrx:=hr x;rw[hx]at hrx;obtain⟨h1,h2⟩:=hrx;simp only at hf;split at hf
    ·rename_i L hg;split at hf
     ·rename_i c0 cs0 hk;obtain⟨et,sz,hob⟩:=(hm.late i h1 L hg).Ju h1 hk (by simp);split at hf
      ·rename_i hfit;obtain⟨ns,hns,rfl⟩:=Option.map_eq_some_iff.1 hf;have hl:=dq (P:=P) hob off len (by rw[List.length_map];exact hfit);rw[oG hns,List.map_map]at hl;have e0:((XC.den β) ∘ XC.int IntKind.u8)=Value.int IntKind.u8:=rfl;rw[e0]at hl
       obtain⟨cap,hc⟩:∃cap,ev x = .slice (some ⟨(lQ (β.bG i) k),(iV (β.bG i) k)+off,.none⟩) len cap:=⟨_,h2⟩
       refine⟨.string ⟨(nh ns).toArray⟩,?_,trivial,rfl⟩;have hb:=run_bytesToString (P:=P) w ⟨(lQ (β.bG i) k),(iV (β.bG i) k)+off,.none⟩ len cap ns hl;have hp:=u3 ns [];have e1:(ByteArray.empty)=(⟨([]:List UInt8).toArray⟩:ByteArray):=rfl;rw[e1,hp,List.nil_append]at hb;have hcv:=run_convert_bytes_string (P:=P) w sr d e (some ⟨(lQ (β.bG i) k),(iV (β.bG i) k)+off,.none⟩) len cap hs he hd;simp only[execOp,ho,hc,Sem.run_bind,hcv,hb,Result.andThen_ok,Sem.run_pure]
      ·cases hf
     ·cases hf
    ·cases hf
   ·cases h
  ·cases h
 ·cases h
end Go.Xm
