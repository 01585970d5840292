/-
  A part of the proof: FloatS, PartIO, Escape, EscapeT, PartOpen, OpenLaw, VecIO.
-/
import Derived.Test.YthdciapjllppjaaGreatFbF
import Derived.Test.YthdciapjllppjaaGreatFbI
import Derived.Test.YthdciapjllppjaaGreatFbM
set_option maxRecDepth 10000
set_option maxHeartbeats 8000000
set_option linter.unusedVariables false
set_option linter.unusedSectionVars false
set_option linter.unusedSimpArgs false
open Go.Proofs.Tryz (prog)
namespace Go.Xm
variable [av]
structure xD(P:Program)(ops:Array Oper)(ms:Nat->Mem)(ds:Nat->Out)(w0:World)(f d:Nat)(t:TypeId)(b:Nat)(β : Env)(q:Nat)(g:Nat->XV)(listed:Array Bool)(a:Act)(w:World):Prop where
 le:q<=f
 l:listed.getD f false=true
 un:g d = .undef
 ge:w0.heap.size<=b
 lt:b<w.heap.size
 bn:∃ti v,P.info? t=some ti/\ti.zero=some v/\w.heap[b]? = some (.cells v.cells t (0,0))
 pU:¬kA β (ms q) b
 vQ:¬C0 β (ms q) b
 tmp:a.tmps.getD d undef = .pointer (some ⟨b,0,none⟩)
theorem Rel.P6{β : Env}{m m':Mem}{w:World}(h:Rel β m w){o:aj}(hp:m.push o=some m'){b sz:Nat}(ho:∀β',Ext m.n β β'->fb β' m'.n 0 sz o w.heap[b]?)(hn:∀j,j<m.n->(m.get j).live=true -> β.bn j≠b)(hlb:¬C0 β m b)(hnl:∀L,o ≠ .late L:=by intro L hL;cases hL) :
 ∃β',Ext m.n β β'/\Rel β' m' w /\ β'.bn m.n=b /\ β'.base m.n=0/\m'.n=m.n+1/\m'.get m.n=o/\∀j,j<m.n->m'.get j=m.get j:=by
 obtain⟨h1,h2,h3,h4⟩:=Mem.bI hp
 let β':Env:=⟨fun j=>if j=m.n then b else β.bn j,fun j=>if j=m.n then 0 else β.base j,fun j=>if j=m.n then sz else β.size j⟩
 have hext:Ext m.n β β':=fun j hj=>⟨by simp only[β'];rw[if_neg (by omega)],by simp only[β'];rw[if_neg (by omega)],by simp only[β'];rw[if_neg (by omega)]⟩
 have hgn:m'.get m.n=o:=by unfold Mem.get;rw[h3]
 have hgo:∀j,j<m.n->m'.get j=m.get j:=fun j hj=>by unfold Mem.get;rw[h4 j (by omega)]
 have e1 : β'.bn m.n=b:=by simp[β']
 have e2 : β'.base m.n=0:=by simp[β']
 have e3 : β'.size m.n=sz:=by simp[β']
 refine⟨β',hext,⟨by omega,b_.push h.fresh hp,fun i hi=>?_,fun i j hi hj li lj hbb=>?_,fun i hi L hL=>?_⟩,e1,e2,h2,hgn,hgo⟩
 ·by_cases hin:i=m.n
  ·subst hin;rw[hgn,e1,e2,e3];exact ho β' hext
  ·have hil:i<m.n:=by omega
   rw[hgo i hil,(hext i hil).1,(hext i hil).2.1,(hext i hil).2.2];exact(h.obj i hil).ext hext (by omega)
 ·by_cases hin:i=m.n
  ·by_cases hjn:j=m.n
   ·omega
   ·have hjl:j<m.n:=by omega
    rw[hgo j hjl]at lj;rw[hin,e1,(hext j hjl).1]at hbb;exact absurd hbb.symm (hn j hjl lj)
  ·have hil:i<m.n:=by omega
   rw[hgo i hil]at li
   by_cases hjn:j=m.n
   ·rw[hjn,e1,(hext i hil).1]at hbb;exact absurd hbb (hn i hil (aj.bN li))
   ·have hjl:j<m.n:=by omega
    rw[hgo j hjl]at lj;rw[(hext i hil).1,(hext j hjl).1]at hbb;exact h.inj i j hil hjl li lj hbb
 ·by_cases hin:i=m.n
  ·rw[hin,hgn]at hL;exact absurd hL (hnl L)
  ·have hil:i<m.n:=by omega
   rw[hgo i hil]at hL;intro k cs hk;obtain⟨g1,g2⟩:=h.late i hil L hL k cs hk;refine⟨g1,fun hne=>?_⟩;obtain⟨g3,all,e,fr,g4,g5⟩:=g2 hne;rw[(hext i hil).1];refine⟨fun⟨j,hj,lj,hbb⟩=>?_,all,e,fr,g4,g5.trans (List.map_congr_left fun c hc=>(XC.nY (g1 c hc) (hext i hil).1).symm)⟩
   by_cases hjn:j=m.n
   ·rw[hjn,e1]at hbb;exact hlb ⟨i,hil,L,k,cs,hL,hk,hne,hbb.symm⟩
   ·have hjl:j<m.n:=by omega
    rw[hgo j hjl]at lj;rw[(hext j hjl).1]at hbb;exact g3 ⟨j,hjl,lj,hbb⟩
theorem Rel.Oa{β : Env}{m:Mem}{w:World}(h:Rel β m w){k:Nat}(hl:C0 β m k):k<w.heap.size:=by
 obtain⟨i,hi,L,q,cs,e1,e2,e3,rfl⟩:=hl;obtain⟨_,all,e,fr,h4,_⟩:=(h.late i hi L e1 q cs e2).2 e3;exact(Array.getElem?_eq_some_iff.1 h4).1
theorem oI{P:Program}{O:cV}{ops:Array Oper}{g:Nat->XV}{o:Oper}{t:TypeId}{m:Mem}{dd:Out}(hop:o.op = .alloc t)(hg:o.guard = .none)(h:iL O P ops g o m=some dd):∃zs,pw P t=some zs/\m.push (.cells zs t false false)=some dd.m/\dd.x = .one (.ptr m.n 0)/\dd.eff=true/\dd.fp = .none:=by
 have hw:aw ops g o=some true:=by unfold aw;rw[hg]
 unfold iL at h;rw[hw]at h;simp only at h;have n1:dK O P (ag g) o.op = .none:=by unfold dK;rw[hop];rfl
 have n2:fj P (ag g) o.op = .none:=by rw[hop];rfl
 have n3:bU P (ag g) o.op m=mJ P t m:=by rw[hop];rfl
 have n4:cH O P (ag g) o.op m = .none:=by rw[hop];rfl
 simp only[dv,n1,n2,n3]at h
 cases ha:mJ P t m with
 | none=>rw[ha]at h;simp only[n4]at h;cases h
 | some p=>
   obtain⟨x,m'⟩:=p;rw[ha]at h;cases h;unfold mJ yQ at ha;split at ha
   ·rename_i zs hz;split at ha
    ·rename_i m1 hp;cases ha;exact⟨zs,hz,hp,rfl,rfl,rfl⟩
    ·cases ha
   ·cases ha
theorem K2{m m':Mem}(h:qY m m'):m.b_->∀j,m.n<=j->j<m'.n->0<(m'.fE j).ver:=by
 induction h with
 | same m=>intro _ j h1 h2;omega
 | put m i o=>intro _ j h1 h2;rw[Mem.dZ]at h2;omega
 | @push m m' o hp=>
   intro _ j h1 h2;obtain⟨_,k2,k3,_⟩:=Mem.bI hp;obtain rfl:j=m.n:=by omega
   rw[k3];exact Nat.one_pos
 | @trans a b c hab hbc ih1 ih2=>
   intro hf j h1 h2;obtain⟨m1,f1⟩:=hab.mono hf;obtain⟨m2,_⟩:=hbc.mono f1
   by_cases hj:j<b.n
   ·exact Nat.lt_of_lt_of_le (ih1 hf j h1 hj) (m2.2 j).1
   ·exact ih2 f1 j (by omega) h2
theorem Lv{m m':Mem}(h:qY m m')(hf:m.b_)(ws:List Nat)(hv:∀j,j∉ws->(m'.fE j).ver=(m.fE j).ver)(ho:∀j,j∈ws->(m'.get j).own=true)(hbd:m'.n<=Mem.bound):gX m m':=fun hb=>by
 obtain⟨h1,h2⟩:=h.mono hf;refine⟨hbd,h1.1,fun j hj hl=>?_⟩
 by_cases hw:j∈ws
 ·exact .inl (ho j hw)
 ·have hlt:j<m.n:=by
   rcases Nat.lt_or_ge j m.n with g|g
   ·exact g
   ·have:=K2 h hf j g hj;rw[hv j hw,hf j g]at this;omega
  refine .inr ⟨hlt,?_⟩;show(m.fE j).obj=(m'.fE j).obj;rw[(h1.2 j).2 (hv j hw)]
def kF(hs:ah):List Oper->List Ab->Bool
 | o::l,b::k=>(ye o||b.ws.all fun j=>(hs.getD j .dead).own&&k.all fun c => !(c.ws.contains j))&&kF hs l k
 | _,_=>true
theorem tE{hs:ah}:∀(l:List Oper) (k:List Ab),kF hs l k=true->∀(i:Nat) (o:Oper) (b:Ab),l[i]? = some o->k[i]? = some b->ye o=true\/∀j,j∈b.ws->(hs.getD j .dead).own=true/\∀e c,i<e->k[e]? = some c->j∉c.ws
 | o :: l,b::k,h,0,o',b',ho,hb=>by
   simp only[List.getElem?_cons_zero,Option.some.injEq]at ho hb;subst ho hb;simp only[kF,Bool.and_eq_true,Bool.or_eq_true,List.all_eq_true]at h
   rcases h.1 with h1|h1
   ·exact .inl h1
   ·refine .inr fun j hj=>⟨(h1 j hj).1,fun e c he hc hin=>?_⟩
    obtain⟨e,rfl⟩:∃e',e=e'+1:=⟨e-1,by omega⟩
    have hc:k[e]? = some c:=by simpa using hc
    have h2:=(h1 j hj).2 c (List.mem_of_getElem? hc);rw[List.contains_iff_mem.2 hin]at h2;cases h2
 | o :: l,b::k,h,i+1,o',b',ho,hb=>by
   simp only[kF,Bool.and_eq_true]at h
   rcases tE l k h.2 i o' b' (by simpa using ho) (by simpa using hb)with h1|h1
   ·exact .inl h1
   ·refine .inr fun j hj=>⟨(h1 j hj).1,fun e c he hc=>?_⟩
    obtain⟨e,rfl⟩:∃e',e=e'+1:=⟨e-1,by omega⟩
    exact(h1 j hj).2 e c (by omega) (by simpa using hc)
 | [],_,_,i,_,_,ho,_=>by simp at ho
 | _::_,[],_,i,_,_,_,hb=>by simp at hb
section
variable {O:cV} {P:Program} {ops:Array Oper} {nt:Nat} {tr:List (Mem×Out)} {rs:Nat->T XV} {ms:Nat->Mem} {ds:Nat->Out}
structure PW(ops:Array Oper)(ms:Nat->Mem)(ds:Nat->Out)(f d:Nat)(t:TypeId):Prop where
 look:∀(i:Nat) (oi:Oper),ops[i]? = some oi->i≠f->d∈oi.looksAt ops->∀e,e<f->(ds e).eff=true->kY ops i e
 rd:∀(i:Nat),i<ops.size->i≠f->(ds i).fp=some (ms f).n->∀e,e<f->(ds e).eff=true->kY ops i e
 ro:∀j,j<(ms f).n->((ms f).get j).live=true->((ms f).get j).own=true\/(j<(ms 0).n/\((ms 0).get j).live=true)
 lt:f<ops.size
 op:∃o,ops[f]? = some o/\o.op = .alloc t/\o.guard = .none/\o.dst=some d
structure KJ(ops:Array Oper)(ms:Nat->Mem)(ds:Nat->Out)(F:Nat->Prop):Prop where
 ord:∀i e,i<ops.size->e<ops.size->(ds i).eff=true->(ds e).eff=true->e<i->¬F i->kY ops i e
 ver:∀i e fp,i<ops.size->e<ops.size->(ds i).fp=some fp->(ds e).eff=true->i≠e->¬kY ops i e->¬kY ops e i->((ds e).m.fE fp).ver=((ms e).fE fp).ver
 flt:∀f,F f->∃d t,PW ops ms ds f d t
structure Bq(O:cV)(P:Program)(ops:Array Oper)(nt:Nat)(rs:Nat->T XV)(ms:Nat->Mem)(ds:Nat->Out)(F:Nat->Prop)(β0:Env)(w0:World)(dfs:List Deferred)(er:Nat->Option Nat)(listed:Array Bool)(a:Act)(w:World)(β : Env)(q:Nat)(g:Nat->XV):Prop where
 size:listed.size=ops.size
 cl:∀i j,kY ops i j->listed.getD i false=true->listed.getD j false=true
 qle:q<=ops.size
 eff:∀e,e<ops.size->(ds e).eff=true->er e = .none->(listed.getD e false=true↔e<q)
 rel:Rel β (ms q) w
 gS:f3 β (ms q).n nt g a.tmps
 g1:∀(i:Nat) (o:Oper) (t:Nat),listed.getD i false=true->er i = .none->ops[i]? = some o->o.dst=some t->g t=(ds i).x
 g2:∀t:Nat,(∀(i:Nat) (o:Oper),listed.getD i false=true->ops[i]? = some o->o.dst≠some t)->g t=(rs 0).get .undef t
 st:Step β0 (ms 0) w0 β (ms q) w
 ea:∀f b,er f=some b->F f/\∃d t,PW ops ms ds f d t/\xD P ops ms ds w0 f d t b β q g listed a w
 dist:∀f f' b,er f=some b->er f'=some b->f=f'
 dfs:a.defers=dfs
def Norm(ds:Nat->Out)(er:Nat->Option Nat)(listed:Array Bool):Prop:=∀f b,er f=some b->∃e,e<f/\(ds e).eff=true/\listed.getD e false=false
def tA(O:cV)(P:Program)(ops:Array Oper)(nt:Nat)(rs:Nat->T XV)(ms:Nat->Mem)(ds:Nat->Out)(F:Nat->Prop)(β0:Env)(w0:World)(dfs:List Deferred)(er:Nat->Option Nat)(listed:Array Bool)(a:Act)(w:World):Prop:=
 ∃β q g,Bq O P ops nt rs ms ds F β0 w0 dfs er listed a w β q g/\Norm ds er listed
theorem Bq.NF(hs:dT ops nt)(hT:Trace O P ops nt ops.toList tr rs ms ds){F:Nat->Prop}{β0:Env}{w0:World}(hR0:Rel β0 (ms 0) w0){dfs:List Deferred}{er:Nat->Option Nat}{listed:Array Bool}{a:Act}{w:World}{β : Env}{q:Nat}{g:Nat->XV}
 (h:Bq O P ops nt rs ms ds F β0 w0 dfs er listed a w β q g) {f b:Nat}(hb:er f=some b) (hmin:∀f' b',er f'=some b'->f'≠f->f<f') (hall:∀e,e<f->(ds e).eff=true->listed.getD e false=true) :
 ∃β' g',Bq O P ops nt rs ms ds F β0 w0 dfs (fun j=>if j=f then .none else er j) listed a w β' (f+1) g':=by
 obtain⟨hF,d,t,hd,he⟩:=h.ea f b hb;obtain⟨o,ho,hop,hgd,hdst⟩:=hd.op;obtain⟨o',ho',_,hdo,hrs,hms⟩:=cq hT hd.lt;rw[ho]at ho';cases ho';obtain⟨zs,hz,hp,hx,hef,_⟩:=oI hop hgd hdo;rw[<-hms]at hp;have hlt:=hd.lt;have hqf:=he.le
 have noer:∀e,e<f->er e = .none:=fun e hlt=>by
  cases hx:er e with
  | none=>rfl
  | some b'=>exact absurd (hmin e b' hx (by omega)) (by omega)
 have hmq:ms f=ms q:=by
  have:=oB hT q (f-q) (by omega) (fun e he1 he2=>by
   cases hxe:(ds e).eff
   ·rfl
   ·have h1:=hall e (by omega) hxe;have:=(h.eff e (by omega) hxe (noer e (by omega))).1 h1
    omega)
  rw[show q+(f-q)=f by omega]at this;exact this
 have hm:=h.rel;have hr:=h.gS;have hst:=h.st;rw[<-hmq]at hm hr hst;have himg:=he.pU;rw[<-hmq]at himg;have hlat:=he.vQ;rw[<-hmq]at hlat;obtain⟨ti,v,v1,v2,v3⟩:=he.bn
 have hnl:∀j,j<(ms f).n->((ms f).get j).live=true -> β.bn j≠b:=fun j hj hl hb=>by
  rcases hd.ro j hj hl with h1|⟨h1,h2⟩
  ·exact himg ⟨j,hj,h1,hb⟩
  ·have h3:=hR0.lt h1 h2;have h4:=(hst.ext j h1).1;have:=he.ge;omega
 obtain⟨β',k1,k2,k3,k4,k5,k6,k7⟩:=hm.P6 hp (b:=b) (sz:=zs.length) (fun β' hext=>by
  obtain⟨ti',v',z1,z2,z3,z4⟩:=gP hz β' (ms f).n;rw[v1]at z1;cases z1;rw[v2]at z2;cases z2;have hn':=(Mem.bI hp).2.1;refine⟨v.cells,(0,0),v3,?_,by simp,fun _=>⟨rfl,rfl⟩,fun c hc=>XC.dm (by omega) (z4 c hc),?_⟩
  ·rw[z3];simp
  ·rw[z3];simp[List.take_of_length_le]) hnl hlat
 have hsame:∀j,j<(ms (f+1)).n->∀L,(ms (f+1)).get j = .late L->j<(ms f).n/\(ms f).get j = .late L:=fun j hj L hL=>by
  by_cases hjn:j=(ms f).n
  ·rw[hjn,k6]at hL;cases hL
  ·have hjl:j<(ms f).n:=by omega
   rw[k7 j hjl]at hL;exact⟨hjl,hL⟩
 have hdlt:d<nt:=hs.dst f o d ho hdst;refine⟨β',fun t'=>if t'=d then .one (.ptr (ms f).n 0)else g t',h.size,h.cl,by omega,fun e he1 he2 he3=>?_,k2,⟨hr.size,hr.small,fun t' ht'=>?_,fun t' ht'=>?_⟩,fun i oi t' hl hei hoi hdi=>?_,fun t' ht'=>?_,?_,fun f' b' hf'=>?_,fun f1 f2 b' h1 h2=>?_,h.dfs⟩
 ·by_cases hef:e=f
  ·subst hef;exact⟨fun _=>by omega,fun _=>he.l⟩
  ·rw[if_neg hef]at he3;have:=h.eff e he1 he2 he3;constructor
   ·intro h;have:=this.1 h;omega
   ·intro h;exact hall e (by omega) he2
 ·by_cases htd:t'=d
  ·subst htd;simp only[if_true];rw[he.tmp];exact⟨by show(ms f).n<(ms (f+1)).n;omega,by simp only[XC.den,k3,k4,Nat.add_zero]⟩
  ·simp only[htd,if_false];exact(hr.rel t' ht').ext k1 (by omega)
 ·have htd:t'≠d:=by omega
  simp only[htd,if_false];exact hr.out t' ht'
 ·by_cases hif:i=f
  ·subst hif;rw[ho]at hoi;cases hoi;rw[hdst]at hdi;cases hdi;simp only[if_true];exact hx.symm
  ·have htd:t'≠d:=fun e=>hif (hs.uniq i f oi o t' hoi ho hdi (by rw[hdst,e]))
   simp only[htd,if_false];rw[if_neg hif]at hei;exact h.g1 i oi t' hl hei hoi hdi
 ·have htd:t'≠d:=fun e=>ht' f o he.l ho (by rw[hdst,e])
  simp only[htd,if_false];exact h.g2 t' ht'
 ·refine⟨by have:=hst.le;omega,fun j hj=>?_,k2,hst.os,hst.tape,hst.output,hst.size,hst.frame,fun k hk hi=>?_,fun k hk hl=>hst.vQ k hk (hl.jb k1 hsame)⟩
  ·have h1:=hst.ext j hj;have h2:=k1 j (by have:=hst.le;omega);exact⟨h2.1.trans h1.1,h2.2.1.trans h1.2.1,h2.2.2.trans h1.2.2⟩
  ·obtain⟨j,hj,hl,hb⟩:=hi
   by_cases hjn:j=(ms f).n
   ·rw[hjn,k3]at hb;have:=he.ge;omega
   ·have hjl:j<(ms f).n:=by omega
    rw[k7 j hjl]at hl;rw[(k1 j hjl).1]at hb;exact hst.pU k hk ⟨j,hjl,hl,hb⟩
 ·by_cases hff:f'=f
  ·rw[if_pos hff]at hf';cases hf'
  ·rw [if_neg hff]at hf';obtain⟨hF',d',t',hd',he'⟩:=h.ea f' b' hf';obtain⟨o2,ho2,_,_,hdst2⟩:=hd'.op;have hdd:d'≠d:=fun e=>hff (hs.uniq f' f o2 o d' ho2 ho hdst2 (by rw[hdst,e]))
   refine⟨hF',d',t',hd',⟨hmin f' b' hf' hff,he'.l,?_,he'.ge,he'.lt,he'.bn,fun hi=>?_,fun hl=>he'.vQ (hmq▸hl.jb k1 hsame),he'.tmp⟩⟩
   ·simp only[hdd,if_false];exact he'.un
   ·obtain⟨j,hj,hl,hbb⟩:=hi
    by_cases hjn:j=(ms f).n
    ·rw[hjn,k3]at hbb;exact hff (h.dist f' f b' hf' (by rw[hb,hbb]))
    ·have hjl:j<(ms f).n:=by omega
     rw[k7 j hjl]at hl;rw[(k1 j hjl).1]at hbb;exact he'.pU (hmq▸⟨j,hjl,hl,hbb⟩)
 ·by_cases h1f:f1=f
  ·rw[if_pos h1f]at h1;cases h1
  ·by_cases h2f:f2=f
   ·rw[if_pos h2f]at h2;cases h2
   ·rw[if_neg h1f]at h1;rw[if_neg h2f]at h2;exact h.dist f1 f2 b' h1 h2
theorem least{p:Nat->Prop}:∀n,p n->∃m,p m/\∀k,p k->m<=k:=by
 intro n
 induction n using Nat.strongRecOn with
 | _ n ih=>
   intro hp
   by_cases h:∃k,k<n/\p k
   ·obtain⟨k,hk,hpk⟩:=h;exact ih k hk hpk
   ·exact⟨n,hp,fun k hk=>Nat.le_of_not_lt fun hlt=>h ⟨k,hlt,hk⟩⟩
theorem Bq.norm(hs:dT ops nt)(hT:Trace O P ops nt ops.toList tr rs ms ds){F:Nat->Prop}{β0:Env}{w0:World}(hR0:Rel β0 (ms 0) w0){dfs:List Deferred}{listed:Array Bool}{a:Act}{w:World} :
 ∀(n:Nat) (er:Nat->Option Nat) (β : Env) (q:Nat) (g:Nat->XV),Bq O P ops nt rs ms ds F β0 w0 dfs er listed a w β q g->(List.range ops.size).countP (fun j=>(er j).isSome)<=n->∃er',tA O P ops nt rs ms ds F β0 w0 dfs er' listed a w:=by
 intro n
 induction n with
 | zero=>
   intro er β q g h hc;refine⟨er,β,q,g,h,fun f b hf=>?_⟩;obtain⟨_,d,t,hd,_⟩:=h.ea f b hf;have:0<(List.range ops.size).countP (fun j=>(er j).isSome):=List.countP_pos_iff.2 ⟨f,List.mem_range.2 hd.lt,by simp[hf]⟩;omega
 | succ n ih=>
   intro er β q g h hc
   by_cases hN:Norm ds er listed
   ·exact⟨er,β,q,g,h,hN⟩
   ·obtain⟨f,hf⟩:=Classical.not_forall.1 hN;obtain⟨b,hb⟩:=Classical.not_forall.1 hf;have hb1:er f=some b:=Classical.byContradiction fun h'=>hb fun h2=>absurd h2 h'
    have hb2:¬∃e,e<f/\(ds e).eff=true/\listed.getD e false=false:=fun h'=>hb fun _=>h'
    obtain⟨f0,hf0,hmin⟩:=least (p:=fun j=>∃b,er j=some b) f ⟨b,hb1⟩;obtain⟨b0,hb0⟩:=hf0;have hle:=hmin f ⟨b,hb1⟩;obtain⟨_,d,t,hd,_⟩:=h.ea f0 b0 hb0
    obtain⟨β',g',h'⟩:=h.NF hs hT hR0 hb0 (fun f' b' hf' hne=>by have:=hmin f' ⟨b',hf'⟩;omega) (fun e e1 e2=>by
     cases hx:listed.getD e false with
     | true=>rfl
     | false=>exact absurd ⟨e,by omega,e2,hx⟩ hb2)
    refine ih _ β' _ g' h' ?_
    have hcnt:=jT (p:=fun j=>(if j=f0 then Option.none else er j).isSome) (q:=fun j=>(er j).isSome) (i:=f0) (fun j hj=>by
     by_cases hjf:j=f0
     ·simp[hjf]at hj
     ·simpa [hjf]using hj) (by simp[hb0]) (by simp) (List.range ops.size) (List.mem_range.2 hd.lt)
    omega
theorem tA.step(hO:aP P O)(hs:dT ops nt)(hnt:nt<1000000)(hT:Trace O P ops nt ops.toList tr rs ms ds){F:Nat->Prop}(hd:KJ ops ms ds F)(h0:(ms 0).b_){β0:Env}{w0:World}(hR0:Rel β0 (ms 0) w0){dfs:List Deferred}{er:Nat->Option Nat}{listed:Array Bool}{a:Act}{w:World}
 (h:tA O P ops nt rs ms ds F β0 w0 dfs er listed a w) {i:Nat}(hi:i∈Region.ready .any ops listed) (hif:F i->∀e,e<i->(ds e).eff=true->listed.getD e false=true) {K:Act->World->Prop} {Q:Exit->Act->World->Prop}
 (hK:∀a' w' er',tA O P ops nt rs ms ds F β0 w0 dfs er' (listed.setIfInBounds i true) a' w'->K a' w'):wpOp P ops Q i K a w:=by
 obtain⟨hun,oi,hoi,hedges⟩:=mem_ready.1 hi;obtain⟨β,q,g,h,hN⟩:=h;have hilt:i<ops.size:=(Array.getElem?_eq_some_iff.1 hoi).1;have hil:i<listed.size:=by rw[h.size];exact hilt
 have hun':listed.getD i false=false:=by rw[<-dE hil];exact hun
 have hq:=h.qle;have heff:=h.eff;have hm:=h.rel;have hr:=h.gS;have hg1:=h.g1;have hg2:=h.g2;have hst:=h.st
 have hanc:∀i' j,kY ops i' j->i'=i->listed.getD j false=true:=by
  intro i' j ha
  induction ha with
  | edge ho he hb=>
    intro e;subst e;rw[hoi]at ho;cases ho;exact hedges _ he hb
  | trans h1 h2 ih1 _=>intro e;exact h.cl _ _ h2 (ih1 e)
 have hanc':∀j,kY ops i j->listed.getD j false=true:=fun j ha=>hanc i j ha rfl
 have hno:∀j,kY ops j i->listed.getD j false=false:=fun j ha=>by
  cases hx:listed.getD j false
  ·rfl
  ·have:=h.cl j i ha hx;rw[hun']at this;cases this
 have early:∀f b,er f=some b->∃d t,PW ops ms ds f d t/\xD P ops ms ds w0 f d t b β q g listed a w/\i≠f/\d∉oi.looksAt ops/\∃e,e<f/\(ds e).eff=true/\listed.getD e false=false:=fun f b hb=>by
  obtain⟨hF,d,t,hfl,h1⟩:=h.ea f b hb;obtain⟨e,e1,e2,e3⟩:=hN f b hb;have hne:i≠f:=fun e'=>by rw[e',h1.l]at hun';cases hun'
  refine⟨d,t,hfl,h1,hne,fun hlk=>?_,e,e1,e2,e3⟩;have:=hanc' e (hfl.look i oi hoi hne hlk e e1 e2);rw[e3]at this;cases this
 have eri:er i = .none:=by
  cases hx:er i with
  | none=>rfl
  | some b=>obtain⟨_,_,_,_,hne,_⟩:=early i b hx;exact absurd rfl hne
 obtain⟨o',ho',_,hdo,hrs,hms⟩:=cq hT hilt;rw[hoi]at ho';cases ho';obtain⟨hr1,hr2⟩:=qF hs hnt hT i (by omega)
 have hlook:∀t∈oi.looksAt ops,g t=(rs i).get .undef t:=by
  intro t ht
  by_cases hw:∃(j:Nat) (oj:Oper),ops[j]? = some oj/\oj.dst=some t
  ·obtain⟨j,oj,hj,hdj⟩:=hw
   have hjf:er j = .none:=by
    cases hx:er j with
    | none=>rfl
    | some b=>
      obtain⟨d,t',hfl,_,_,hdl,_⟩:=early j b hx;obtain⟨o2,ho2,_,_,hd2⟩:=hfl.op;rw[hj]at ho2;cases ho2;rw[hdj]at hd2;cases hd2;exact absurd ht hdl
   have nolisted:listed.getD j false=false->g t=(rs 0).get .undef t:=fun hlj=>hg2 t (fun k ok hk hok e=>by
    have:=hs.uniq k j ok oj t hok hj e hdj;subst this
    rw[hlj]at hk;cases hk)
   have nobefore:¬j<i->(rs i).get .undef t=(rs 0).get .undef t:=fun hji=>hr2 t (fun k ok hk hok e=>by
    have:=hs.uniq k j ok oj t hok hj e hdj
    omega)
   rcases Nat.lt_trichotomy j i with hji|hji|hji
   ·have:=(hs.look i j oi oj t hoi hj hdj ht (by omega)).1 hji;rw[hg1 j oj t (hanc' j this) hjf hj hdj,hr1 j oj t hji hj hdj]
   ·subst hji;rw[nolisted hun',nobefore (by omega)]
   ·have:=(hs.look i j oi oj t hoi hj hdj ht (by omega)).2 hji;rw[nolisted (hno j this),nobefore (by omega)]
  ·have hnone:∀(k:Nat) (ok:Oper),ops[k]? = some ok->ok.dst≠some t:=fun k ok hok e=>hw ⟨k,ok,hok,e⟩
   rw[hg2 t (fun k ok _ hok=>hnone k ok hok),hr2 t (fun k ok _ hok=>hnone k ok hok)]
 have hdstlt:∀t,oi.dst=some t->t<nt:=fun t ht=>hs.dst i oi t hoi ht
 have hcl:∀k j,kY ops k j->(listed.setIfInBounds i true).getD k false=true->(listed.setIfInBounds i true).getD j false=true:=by
  intro k j ha hk;rw[aT hil]at hk ⊢
  by_cases hij:i=j
  ·simp[hij]
  ·simp only[hij,if_false]
   by_cases hik:i=k
   ·subst hik;exact hanc' j ha
   ·simp only[hik,if_false]at hk;exact h.cl k j ha hk
 have hgs1:∀{x:XV},x=(ds i).x->∀(k:Nat) (ok:Oper) (t:Nat),(listed.setIfInBounds i true).getD k false=true->er k = .none->ops[k]? = some ok->ok.dst=some t->(if oi.dst=some t then x else g t)=(ds k).x:=by
  intro x hx k ok t hk hkf hok ht;rw[aT hil]at hk
  by_cases hik:i=k
  ·subst hik;rw[hoi]at hok;cases hok;rw[if_pos ht,hx]
  ·simp only[hik,if_false]at hk;have:oi.dst≠some t:=fun e=>hik (hs.uniq i k oi ok t hoi hok e ht)
   rw[if_neg this];exact hg1 k ok t hk hkf hok ht
 have hgs2:∀{x:XV}(t:Nat),(∀(k:Nat) (ok:Oper),(listed.setIfInBounds i true).getD k false=true->ops[k]? = some ok->ok.dst≠some t)->(if oi.dst=some t then x else g t)=(rs 0).get .undef t:=by
  intro x t ht;have hi':(listed.setIfInBounds i true).getD i false=true:=by rw[aT hil];simp
  rw[if_neg (ht i oi hi' hoi)];refine hg2 t (fun k ok hk hok=>ht k ok ?_ hok);rw[aT hil];split
  ·rfl
  ·exact hk
 have gR:∀{β':Env} {m':Mem} {w':World} {u:Value} {q':Nat} {x:XV},Step β (ms q) w β' m' w'->m'=ms q'->(∀f b,er f=some b->q'<=f)->∀f b,er f=some b->F f/\∃d t,PW ops ms ds f d t/\xD P ops ms ds w0 f d t b β' q' (fun t=>if oi.dst=some t then x else g t) (listed.setIfInBounds i true) (a.put oi.dst u) w':=by
  intro β' m' w' u q' x hs' hq' hle f b hb;obtain⟨d,t0,hfl,h1,hne,_,_⟩:=early f b hb;obtain⟨of,hof,_,_,hofd⟩:=hfl.op;have hnd:oi.dst≠some d:=fun e=>hne (hs.uniq i f oi of d hoi hof e hofd)
  subst hq';refine⟨(h.ea f b hb).1,d,t0,hfl,hle f b hb,?_,?_,h1.ge,Nat.lt_of_lt_of_le h1.lt hs'.size,?_,fun hi=>h1.pU (hs'.pU b h1.lt hi),fun hl=>(hs'.vQ b h1.lt hl).elim h1.pU h1.vQ,?_⟩
  ·rw[aT hil];simp[h1.l]
  ·simp only[hnd,if_false];exact h1.un
  ·obtain⟨ti,v,v1,v2,v3⟩:=h1.bn;exact⟨ti,v,v1,v2,by rw[hs'.frame b h1.lt h1.pU];exact v3⟩
  ·rw[<-h1.tmp]
   cases hod:oi.dst with
   | none=>rfl
   | some d'=>
     have:d'≠d:=fun e=>hnd (by rw[hod,e])
     simp[Act.put,Array.getD_eq_getD_getElem?,Array.getElem?_setIfInBounds_ne this]
 have qle:∀f b,er f=some b->q<=f:=fun f b hb=>by
  obtain⟨_,_,_,h1,_⟩:=early f b hb;exact h1.le
 have hsz:(listed.setIfInBounds i true).size=ops.size:=by simp[h.size]
 cases he:(ds i).eff with
 | false =>
   have hobj : ∀fp,(ds i).fp=some fp->(ms q).get fp=(ms i).get fp:=by
    intro fp hfp
    have verF:∀f b,er f=some b->((ds f).m.fE fp).ver=((ms f).fE fp).ver:=fun f b hb=>by
     obtain⟨d,t,hfl,_,hne,_,e,e1,e2,e3⟩:=early f b hb;obtain⟨of,hof,hofop,hofg,hofd⟩:=hfl.op;obtain⟨o',ho',_,hdo',_,_⟩:=cq hT hfl.lt;rw[hof]at ho';cases ho';obtain⟨zs,_,hp,_⟩:=oI hofop hofg hdo';obtain⟨_,_,_,h4⟩:=Mem.bI hp
     rw[h4 fp (fun e'=>by
      have:=hanc' e (hfl.rd i hilt hne (by rw[hfp,e']) e e1 e2)
      rw[e3]at this;cases this)]
    rcases Nat.le_total q i with hqi|hqi
    ·have := nG hO hT h0 fp q (i-q) (by omega) (fun e he1 he2 he3=>by
      cases hef:er e with
      | some b=>exact verF e b hef
      | none=>
        have hne:i≠e:=by omega
        refine hd.ver i e fp hilt (by omega) hfp he3 hne (fun ha=>?_) (fun ha=>?_)
        ·have:=(heff e (by omega) he3 hef).1 (hanc' e ha);omega
        ·have:=kY.lt hs ha
         omega)
     rw[show q+(i-q)=i by omega]at this;exact this.symm
    ·have := nG hO hT h0 fp i (q-i) (by omega) (fun e he1 he2 he3=>by
      have hne:i≠e:=fun e'=>by subst e';rw[he]at he3;cases he3
      refine hd.ver i e fp hilt (by omega) hfp he3 hne (fun ha=>?_) (fun ha=>?_)
      ·have:=kY.lt hs ha;omega
      ·have h1:=hno e ha
       have h3:er e = .none:=by
        cases hx:er e with
        | none=>rfl
        | some b=>have:=qle e b hx;omega
       have h2:=(heff e (by omega) he3 h3).2 (by omega)
       rw[h1]at h2;cases h2)
     rw[show i+(q-i)=q by omega]at this;exact this
   have hago:=xu hdo (g':=g) hlook he (m':=ms q) hobj;refine vq hO hoi hago hm hr fun u β' w' hu hs'=>hK _ _ er ?_
   refine⟨β',q,fun t=>if oi.dst=some t then(ds i).x else g t,⟨hsz,hcl,hq,?_,hs'.rel,f3.put (hr.ext hs'.ext hs'.le) oi.dst hu hdstlt,hgs1 rfl,hgs2,hst.trans hs',gR hs' rfl qle,h.dist,?_⟩,fun f b hb=>?_⟩
   ·intro e hel hee hef;rw[aT hil];have hie:i≠e:=fun x=>by subst x;rw[he]at hee;cases hee
    simp only[hie,if_false];exact heff e hel hee hef
   ·rw[dC,h.dfs]
   ·obtain⟨e,e1,e2,e3⟩:=hN f b hb;refine⟨e,e1,e2,?_⟩;rw[aT hil];have hie:i≠e:=fun x=>by subst x;rw[he]at e2;cases e2
    simp only[hie,if_false];exact e3
 | true =>
   have hbefore:∀e,e<i->(ds e).eff=true->listed.getD e false=true:=fun e hlt hee=>by
    by_cases hii:F i
    ·exact hif hii e hlt hee
    ·exact hanc' e (hd.ord i e hilt (by omega) he hee hlt hii)
   have hilf:∀f b,er f=some b->i<f:=fun f b hb=>by
    obtain⟨_,_,_,_,hne,_,e,e1,e2,e3⟩:=early f b hb
    rcases Nat.lt_or_ge i f with h1|h1
    ·exact h1
    ·have:=hbefore e (by omega) e2;rw[e3]at this;cases this
   have hqi:q<=i:=by
    rcases Nat.lt_or_ge i q with hlt|hge
    ·have:=(heff i hilt he eri).2 hlt;rw[hun']at this;cases this
    ·exact hge
   have hmq:ms i=ms q:=by
    have := oB hT q (i-q) (by omega) (fun e he1 he2=>by
     cases hx:(ds e).eff
     ·rfl
     ·have h3:er e = .none:=by
       cases hx:er e with
       | none=>rfl
       | some b=>have:=hilf e b hx;omega
      have h2:=(heff e (by omega) hx h3).1 (hbefore e (by omega) hx)
      omega)
    rw[show q+(i-q)=i by omega]at this;exact this
   have hago:=lx hdo (g':=g) hlook;rw[hmq]at hago
   have heff':∀e,e<ops.size->(ds e).eff=true->er e = .none->((listed.setIfInBounds i true).getD e false=true↔e<i+1):=by
    intro e hel hee hef;rw[aT hil]
    by_cases hie:i=e
    ·subst hie;simp
    ·simp only[hie,if_false];constructor
     ·intro hle;have:=(heff e hel hee hef).1 hle;omega
     ·intro hlt;exact hbefore e (by omega) hee
   refine vq hO hoi hago hm hr fun u β' w' hu hs'=>?_
   rw[<-hms]at hu hs';have hput:(a.put oi.dst u).defers=dfs:=by rw[dC,h.dfs]
   have hr':=f3.put (hr.ext hs'.ext hs'.le) oi.dst hu hdstlt;obtain⟨er',h'⟩:=Bq.norm hs hT hR0 _ er β' (i+1) (fun t=>if oi.dst=some t then(ds i).x else g t) ⟨hsz,hcl,by omega,heff',hs'.rel,hr',hgs1 rfl,hgs2,hst.trans hs',gR hs' rfl hilf,h.dist,hput⟩ (Nat.le_refl _);exact hK _ _ er' h'
theorem tA.early(hs:dT ops nt)(hT:Trace O P ops nt ops.toList tr rs ms ds){F:Nat->Prop}{β0:Env}{w0:World}{dfs:List Deferred}{er:Nat->Option Nat}{listed:Array Bool}{a:Act}{w:World}
 (h:tA O P ops nt rs ms ds F β0 w0 dfs er listed a w) {f d:Nat} {t0:TypeId}(hF:F f) (hd:PW ops ms ds f d t0) (hi:f∈Region.ready .any ops listed) (hmore:∃e,e<f/\(ds e).eff=true/\listed.getD e false=false) {K:Act->World->Prop} {Q:Exit->Act->World->Prop}
 (hK:∀a' w' er',tA O P ops nt rs ms ds F β0 w0 dfs er' (listed.setIfInBounds f true) a' w'->K a' w'):wpOp P ops Q f K a w:=by
 obtain⟨hun,oi,hoi,hedges⟩:=mem_ready.1 hi;obtain⟨β,q,g,h,hN⟩:=h;have hflt:=hd.lt;have hil:f<listed.size:=by rw[h.size];exact hflt
 have hun':listed.getD f false=false:=by rw[<-dE hil];exact hun
 have hm:=h.rel;have hr:=h.gS;have hst:=h.st;obtain⟨of,hof,hofop,hofg,hofd⟩:=hd.op;obtain rfl:oi=of:=by rw[hof]at hoi;exact(Option.some.inj hoi).symm
 obtain⟨o',ho',_,hdo,_,_⟩:=cq hT hflt;obtain rfl:oi=o':=by rw[hof]at ho';exact Option.some.inj ho'
 obtain⟨zs,hz,hp,hx,hfe,_⟩:=oI hofop hofg hdo
 have erf:er f = .none:=by
  cases hx:er f with
  | none=>rfl
  | some b=>
    obtain⟨_,_,_,_,h1⟩:=h.ea f b hx;rw[h1.l]at hun';cases hun'
 have hanc':∀j,kY ops f j->listed.getD j false=true:=fun j ha=>by
  have key:∀i' j,kY ops i' j->i'=f->listed.getD j false=true:=by
   intro i' j ha
   induction ha with
   | edge ho he hb=>
     intro e;subst e;rw[hof]at ho;cases ho;exact hedges _ he hb
   | trans h1 h2 ih1 _=>intro e;exact h.cl _ _ h2 (ih1 e)
  exact key f j ha rfl
 have hqf:q<=f:=by
  rcases Nat.lt_or_ge f q with hlt|hge
  ·have:=(h.eff f hflt hfe erf).2 hlt;rw[hun']at this;cases this
  ·exact hge
 have hdlt:d<nt:=hs.dst f oi d hof hofd;obtain⟨ti,v,z1,z2,z3,z4⟩:=gP hz β (ms q).n
 have hrun:∀ev:Operand->Value,(execOp ev oi).run P w = .ok (.value (.pointer (some ⟨w.heap.size,0,none⟩))) (w.alloc (.cells v.cells t0)):=fun ev=>by
  simp only[execOp,hofop,Instr.alloc,Sem.run_bind,c_ z1 z2,Result.andThen_ok,pK,Sem.run_pure]
 have hheap:(w.alloc (.cells v.cells t0)).heap=w.heap.push (.cells v.cells t0 (0,0)):=rfl
 have hb0:∀k,k<w.heap.size->(w.alloc (.cells v.cells t0)).heap[k]? = w.heap[k]?:=fun k hk=>by
  rw[hheap,Array.getElem?_push,if_neg (Nat.ne_of_lt hk)]
 have hrel:Rel β (ms q) (w.alloc (.cells v.cells t0)):=by
  refine⟨hm.bnd,hm.fresh,fun j hj=>?_,hm.inj,fun j hj L hL=>(hm.late j hj L hL).gR hj (Nat.le_refl _) (Ext.refl _ _) (fun k hk _=>hb0 k hk) fun _ _ h=>h⟩;have:=hm.obj j hj
  cases hg:(ms q).get j with
  | dead=>trivial
  | late L=>trivial
  | cells c1 c2 c3 c4=>
    rw[hb0 _ (hm.lt hj (by rw[hg];rfl)),<-hg];exact this
  | map es=>
    rw[hb0 _ (hm.lt hj (by rw[hg];rfl)),<-hg];exact this
 have hstep:Step β (ms q) w β (ms q) (w.alloc (.cells v.cells t0)):=
  ⟨Nat.le_refl _,Ext.refl _ _,hrel,rfl,rfl,rfl,by rw[hheap];simp,fun k hk _=>hb0 k hk,fun _ _ h=>h,fun _ _ h => .inr h⟩
 have hst':=hst.trans hstep;have hsz':(w.alloc (.cells v.cells t0)).heap.size=w.heap.size+1:=by rw[hheap];simp
 unfold wpOp;rw[hof];simp only[];have hwant:Region.wanted oi (yielded ops a.tmps)=true:=by unfold Region.wanted;rw[hofg]
 rw[if_pos hwant];refine .inl ?_;unfold Oper.wp;rw[hrun];refine hK _ _ (fun j=>if j=f then some w.heap.size else er j) ⟨β,q,fun t=>if t=d then .undef else g t,⟨by simp[h.size],fun k j ha hk=>?_,h.qle,fun e hel hee hef=>?_,hrel,⟨?_,hr.small,fun t ht=>?_,fun t ht=>?_⟩,fun k ok t hk hkf hok ht=>?_,fun t ht=>?_,hst',fun f' b hb=>?_,fun f1 f2 b h1 h2=>?_,?_⟩,fun f' b hb=>?_⟩
 ·rw [aT hil]at hk ⊢
  by_cases hij:f=j
  ·simp[hij]
  ·simp only[hij,if_false]
   by_cases hik:f=k
   ·subst hik;exact hanc' j ha
   ·simp only[hik,if_false]at hk;exact h.cl k j ha hk
 ·rw[aT hil]
  by_cases hfe:e=f
  ·rw[if_pos hfe]at hef;cases hef
  ·rw[if_neg hfe]at hef;have:f≠e:=fun e'=>hfe e'.symm
   simp only[this,if_false];exact h.eff e hel hee hef
 ·rw[hofd];simpa [Act.put]using hr.size
 ·by_cases htd:t=d
  ·simp only[htd,if_true];trivial
  ·simp only[htd,if_false]
   have:(a.put oi.dst (.pointer (some ⟨w.heap.size,0,none⟩))).tmps.getD t undef=a.tmps.getD t undef:=by
    rw[hofd];simp[Act.put,Array.getD_eq_getD_getElem?,Array.getElem?_setIfInBounds_ne (Ne.symm htd)]
   rw[this];exact hr.rel t ht
 ·by_cases htd:t=d
  ·simp[htd]
  ·simp only[htd,if_false];exact hr.out t ht
 ·by_cases hkf':k=f
  ·rw[if_pos hkf']at hkf;cases hkf
  ·rw[if_neg hkf']at hkf;rw[aT hil]at hk;simp only[Ne.symm hkf',if_false]at hk;have htd:t≠d:=fun e=>hkf' (hs.uniq k f ok oi t hok hof ht (by rw[hofd,e]))
   simp only[htd,if_false];exact h.g1 k ok t hk hkf hok ht
 ·have htd':t≠d:=fun e=>ht f oi (by rw[aT hil];simp) hof (by rw[hofd,e])
  simp only[htd',if_false];refine h.g2 t (fun k ok hk hok=>ht k ok ?_ hok);rw[aT hil];split
  ·rfl
  ·exact hk
 ·by_cases hff:f'=f
  ·subst hff;rw[if_pos rfl]at hb;cases hb;refine⟨hF,d,t0,hd,⟨hqf,by rw[aT hil];simp,by simp,by have:=hst.size;omega,by omega,⟨ti,v,z1,z2,?_⟩,fun hi=>?_,fun hl=>(by have:=hm.Oa hl;omega),?_⟩⟩
   ·rw[hheap];simp
   ·obtain⟨j,hj,hl,hb⟩:=hi;have:=hm.lt hj (aj.bN hl);omega
   ·rw[hofd];simp[Act.put,Array.getD_eq_getD_getElem?,hr.size,hdlt]
  ·rw[if_neg hff]at hb;obtain⟨hF',d',t',hd',he'⟩:=h.ea f' b hb;obtain⟨o2,ho2,_,_,hdst2⟩:=hd'.op;have hdd:d'≠d:=fun e=>hff (hs.uniq f' f o2 oi d' ho2 hof hdst2 (by rw[hofd,e]))
   refine⟨hF',d',t',hd',⟨he'.le,?_,?_,he'.ge,by have:=he'.lt;omega,?_,he'.pU,he'.vQ,?_⟩⟩
   ·rw[aT hil];split
    ·rfl
    ·exact he'.l
   ·simp only[hdd,if_false];exact he'.un
   ·obtain⟨ti,v,v1,v2,v3⟩:=he'.bn;exact⟨ti,v,v1,v2,by rw[hb0 _ he'.lt];exact v3⟩
   ·rw[<-he'.tmp,hofd];simp[Act.put,Array.getD_eq_getD_getElem?,Array.getElem?_setIfInBounds_ne (Ne.symm hdd)]
 ·by_cases h1f:f1=f
  ·by_cases h2f:f2=f
   ·rw[h1f,h2f]
   ·rw[if_pos h1f]at h1;rw[if_neg h2f]at h2;cases h1;obtain⟨_,_,_,_,he'⟩:=h.ea f2 _ h2;have:=he'.lt;omega
  ·by_cases h2f:f2=f
   ·rw[if_neg h1f]at h1;rw[if_pos h2f]at h2;cases h2;obtain⟨_,_,_,_,he'⟩:=h.ea f1 _ h1;have:=he'.lt;omega
   ·rw[if_neg h1f]at h1;rw[if_neg h2f]at h2;exact h.dist f1 f2 b h1 h2
 ·rw[dC,h.dfs]
 ·by_cases hff:f'=f
  ·obtain⟨e,e1,e2,e3⟩:=hmore;refine⟨e,by omega,e2,?_⟩;rw[aT hil];have:f≠e:=by omega
   simp only[this,if_false];exact e3
  ·replace hb:er f'=some b:=(if_neg hff).symm.trans hb
   obtain⟨e,e1,e2,e3⟩:=hN f' b hb
   by_cases hef:e=f
   ·obtain⟨e',e1',e2',e3'⟩:=hmore;refine⟨e',by omega,e2',?_⟩;rw[aT hil];have:f≠e':=by omega
    simp only[this,if_false];exact e3'
   ·refine⟨e,e1,e2,?_⟩;rw[aT hil];have:f≠e:=fun h=>hef h.symm
    simp only[this,if_false];exact e3
theorem tA.any(hO:aP P O)(hs:dT ops nt)(hnt:nt<1000000)(hT:Trace O P ops nt ops.toList tr rs ms ds){F:Nat->Prop}(hd:KJ ops ms ds F)(h0:(ms 0).b_){β0:Env}{w0:World}(hR0:Rel β0 (ms 0) w0){dfs:List Deferred}{Q:Exit->Act->World->Prop}
 (hQ:ze β0 (ms 0) w0 nt dfs (rs ops.size) (ms ops.size) (Q .normal)):∀(fuel:Nat) (er:Nat->Option Nat) (listed:Array Bool) (a:Act) (w:World),tA O P ops nt rs ms ds F β0 w0 dfs er listed a w ->
 (List.range ops.size).countP (fun i=>listed.getD i false==false)<=fuel->wpAny P .any ops Q fuel listed a w:=by
 have fin:∀(er:Nat->Option Nat) (listed:Array Bool) (a:Act) (w:World),tA O P ops nt rs ms ds F β0 w0 dfs er listed a w->(∀i,i<ops.size->listed.getD i false=true)->Q .normal a w:=by
  intro er listed a w h hall;obtain⟨β,q,g,h,hN⟩:=h
  have nn:∀f,er f = .none:=fun f=>by
   cases hx:er f with
   | none=>rfl
   | some b=>
     obtain⟨_,d,t,hfl,_⟩:=h.ea f b hx;obtain⟨e,e1,e2,e3⟩:=hN f b hx;have:=hall e (by have:=hfl.lt;omega);rw[e3]at this;cases this
  have hq:=h.qle;have hr:=h.gS;have hst:=h.st
  have hmq:ms ops.size=ms q:=by
   have:=oB hT q (ops.size-q) (by omega) (fun e he1 he2=>by
    cases hx:(ds e).eff
    ·rfl
    ·have:=(h.eff e (by omega) hx (nn e)).1 (hall e (by omega))
     omega)
   rw[show q+(ops.size-q)=ops.size by omega]at this;exact this
  obtain⟨hr1,hr2⟩:=qF hs hnt hT ops.size (Nat.le_refl _)
  have hge:g=(rs ops.size).get .undef:=by
   funext t
   by_cases hw:∃(j:Nat) (oj:Oper),ops[j]? = some oj/\oj.dst=some t
   ·obtain⟨j,oj,hj,hdj⟩:=hw;have hjl:j<ops.size:=(Array.getElem?_eq_some_iff.1 hj).1;rw[h.g1 j oj t (hall j hjl) (nn j) hj hdj,hr1 j oj t hjl hj hdj]
   ·have hnone:∀(k:Nat) (ok:Oper),ops[k]? = some ok->ok.dst≠some t:=fun k ok hok e=>hw ⟨k,ok,hok,e⟩
    rw[h.g2 t (fun k ok _ hok=>hnone k ok hok),hr2 t (fun k ok _ hok=>hnone k ok hok)]
  subst hge;rw[<-hmq]at hr hst;exact hQ a β w hr h.dfs hst
 intro fuel
 induction fuel with
 | zero=>
   intro er listed a w h hc
   have hall:∀i,i<ops.size->listed.getD i false=true:=fun i hi=>by
    cases hx:listed.getD i false
    ·have:0<(List.range ops.size).countP (fun i=>listed.getD i false==false):=List.countP_pos_iff.2 ⟨i,List.mem_range.2 hi,by simp[hx]⟩;omega
    ·rfl
   refine⟨?_,fin er listed a w h hall⟩;apply List.eq_nil_iff_forall_not_mem.2;intro i hi;obtain⟨hun,oi,hoi,_⟩:=mem_ready.1 hi;obtain⟨_,_,_,h,_⟩:=h;have hilt:i<ops.size:=(Array.getElem?_eq_some_iff.1 hoi).1;rw[dE (by rw[h.size];exact hilt),hall i hilt]at hun;cases hun
 | succ fuel ih=>
   intro er listed a w h hc;have hsize:listed.size=ops.size:=by obtain⟨_,_,_,h,_⟩:=h;exact h.size
   refine⟨fun hnil=>fin er listed a w h (fun i hi=>?_),fun i hi=>?_⟩
   ·induction i using Nat.strongRecOn with
    | _ i ihi=>
      cases hx:listed.getD i false
      ·exfalso;have ho:ops[i]? = some ops[i]:=by simp[hi]
       have:i∈Region.ready .any ops listed:=mem_ready.2 ⟨by rw[dE (by rw[hsize];exact hi)];exact hx,ops[i],ho,fun e he hb=>by
        have hlt:=hs.back i ops[i] ho e he hb
        exact ihi e.on hlt (by omega)⟩
       rw[hnil]at this;cases this
      ·rfl
   ·obtain⟨hun,oi,hoi,_⟩:=mem_ready.1 hi;have hilt:i<ops.size:=(Array.getElem?_eq_some_iff.1 hoi).1;have hil:i<listed.size:=by rw[hsize];exact hilt
    have hcnt:=jT (p:=fun j=>(listed.setIfInBounds i true).getD j false==false) (q:=fun j=>listed.getD j false==false) (i:=i) (fun j hj=>by
     rw[aT hil]at hj;split at hj
     ·simp at hj
     ·exact hj) (by rw[<-dE hil,hun];rfl) (by rw[aT hil];simp) (List.range ops.size) (List.mem_range.2 hilt)
    by_cases hF:F i
    ·by_cases hmore:∃e,e<i/\(ds e).eff=true/\listed.getD e false=false
     ·obtain⟨d,t,hfl⟩:=hd.flt i hF;exact h.early hs hT hF hfl hi hmore fun a' w' er' h'=>ih er' _ a' w' h' (by omega)
     ·refine h.step hO hs hnt hT hd h0 hR0 hi (fun _ e e1 e2=>?_) fun a' w' er' h'=>ih er' _ a' w' h' (by omega)
      cases hx:listed.getD e false with
      | true=>rfl
      | false=>exact absurd ⟨e,e1,e2,hx⟩ hmore
    ·exact h.step hO hs hnt hT hd h0 hR0 hi (fun e=>absurd e hF) fun a' w' er' h'=>ih er' _ a' w' h' (by omega)
theorem Ci(hO:aP P O)(hP:P.follows .mixedOrders=true)(hs:dT ops nt){id:Nat}(hT:Trace O P ops nt ops.toList tr rs ms ds){F:Nat->Prop}(hd:KJ ops ms ds F){r:T XV}{m:Mem}(h1:rs 0=r)(h2:ms 0=m){β : Env}{w:World}{a:Act}(hr:lC β m.n nt r a.tmps)(hm:Rel β m w)
 {Q:Exit->Act->World->Prop}(hq:ze β m w nt a.defers (rs ops.size) (ms ops.size) (Q .normal)):(Code.region id ops true).wp P Q a w:=by
 subst h1;subst h2;have hdr:=Step.drew hm;refine wp_region_any hP ?_;refine tA.any hO hs hr.small hT hd hm.fresh hm (β0 := β) (w0:=w) (dfs:=a.defers) (Q:=Q) hq _ (fun _ => .none) _ a _ ?_ ?_
 ·refine⟨β,0,(rs 0).get .undef,⟨by simp,fun i j ha hi=>?_,by omega,fun e he _ _=>?_,hdr.rel,hr,fun i o t hi=>?_,fun t _=>rfl,hdr,fun f b hb=>(by cases hb),fun f f' b hb=>(by cases hb),rfl⟩,fun f b hb=>(by cases hb)⟩
  ·exfalso
   by_cases hlt:i<ops.size<;>simp[Array.getD_eq_getD_getElem?,hlt]at hi
  ·simp[Array.getD_eq_getD_getElem?,he]
  ·exfalso
   by_cases hlt:i<ops.size<;>simp[Array.getD_eq_getD_getElem?,hlt]at hi
 ·exact Nat.le_trans List.countP_le_length (by simp)
def tc(bs:List Nat)(fs:List Nat)(i:Nat)(di:Ab)(e:Nat)(de:Ab):Bool:=
 !de.eff||i==e||((!(di.eff&&decide (e<i)&&!fs.contains i)||bit bs i e)&&
  (match di.fp with
    | .none=>true
    | some fp=>bit bs i e||bit bs e i||!(de.ws.contains fp)))
def M8(ops:Array Oper)(bs:List Nat)(tr:List Ab)(f:Nat):Bool:=
 match ops[f]?,tr[f]? with
 | some o,some bf=>match o.op,o.guard,o.dst with
   | .alloc _,.none,some d=>(List.range ops.size).all (fun i=>i==f||(match ops[i]? with
      | .none=>true
      | some oi => !((oi.looksAt ops).contains d||(match tr[i]? with | .none=>false|some di=>(match di.fp with | .none=>false|some p=>bf.ws.contains p)))||(List.range f).all fun e=>match tr[e]? with
        | .none=>true
        | some de => !de.eff||bit bs i e))
   | _,_,_=>false
 | _,_=>false
def tO(ops:Array Oper)(bs:List Nat)(tr:List Ab)(fs:List Nat):Bool:=
 fs.all (M8 ops bs tr)&&(List.range tr.length).all fun i=>match tr[i]? with
  | .none=>true
  | some di=>(!di.eff&&di.fp.isNone)||(List.range tr.length).all fun e=>match tr[e]? with
    | .none=>true
    | some de=>tc bs fs i di e de
theorem BL(hO : aP P O)(hT:Trace O P ops nt ops.toList tr rs ms ds)(h0f:(ms 0).b_)(hb:(ms 0).n<=Mem.bound){ab:List Ab}{hz:ah}(hno:kF hz ops.toList ab=true)(hfin:aV (ms ops.size) hz)(ht:NC tr ab){fs:List Nat}(h:tO ops (iu ops.toList) ab fs=true):KJ ops ms ds (·∈fs):=by
 have fre:∀i,i<=ops.size->(ms i).b_:=by
  intro i
  induction i with
  | zero=>exact fun _=>h0f
  | succ i ih=>
    intro hi;obtain⟨o,ho,_,hx,_,hm⟩:=cq hT (show i<ops.size by omega);rw[hm];exact((kT hO hx).mono (ih (by omega))).2
 have grow:∀q i,i+q<=ops.size->(ms i).n<=(ms (i+q)).n:=by
  intro q
  induction q with
  | zero=>exact fun i _=>Nat.le_refl _
  | succ q ih=>
    intro i hi;obtain⟨o,ho,_,hx,_,hm⟩:=cq hT (show i+q<ops.size by omega);rw[show i+(q+1)=(i+q)+1 by omega,hm];exact Nat.le_trans (ih i (by omega)) ((kT hO hx).mono (fre _ (by omega))).1.1
 have key : ∀i,i<=ops.size->gX (ms 0) (ms i)/\(ms i).b_:=by
  intro i
  induction i with
  | zero=>exact fun _=>⟨.same _,h0f⟩
  | succ i ih=>
    intro hi;obtain⟨h1,h2⟩:=ih (by omega);obtain⟨o,ho,_,hx,_,hm⟩:=cq hT (show i<ops.size by omega);have hfr:=fre (i+1) hi;obtain⟨_,_,hti,_⟩:=cq hT (show i<ops.size by omega);obtain⟨b,hbi,_,_,k3⟩:=cY.get? ht i _ hti;have hbn:(ms (i+1)).n<=Mem.bound:=Nat.le_trans (by have:=grow (ops.size-(i+1)) (i+1) (by omega);rw[show i+1+(ops.size-(i+1))=ops.size by omega]at this;exact this) hfin.bnd;refine⟨h1.trans ?_,hfr⟩
    rcases tE ops.toList ab hno i o b (by simpa using ho) hbi with hn|hn
    ·rw[hm];exact Pv hn hx
    ·rw [hm]at hbn ⊢;refine Lv (kT hO hx) h2 b.ws k3 (fun j hj=>?_) hbn;obtain⟨o1,o2⟩:=hn j hj
     have same:∀q,i+1+q<=ops.size->((ms (i+1+q)).fE j).obj=((ms (i+1)).fE j).obj:=by
      intro q
      induction q with
      | zero=>exact fun _=>rfl
      | succ q ihq=>
        intro hq;obtain⟨o',ho',hte,hx',_,hm'⟩:=cq hT (show i+1+q<ops.size by omega);obtain⟨b',hbe,_,_,k3'⟩:=cY.get? ht (i+1+q) _ hte;have hv:=k3' j (o2 (i+1+q) b' (by omega) hbe);rw[show i+1+(q+1)=(i+1+q)+1 by omega,hm',<-ihq (by omega)];have:=(((kT hO hx').mono (fre _ (by omega))).1.2 j).2 hv;rw[this]
     have h5:=same (ops.size-(i+1)) (by omega);rw[show i+1+(ops.size-(i+1))=ops.size by omega]at h5;rw[<-hm];show(((ms (i+1)).fE j).obj).own=true;rw[<-h5];show((ms ops.size).get j).own=true
     by_cases hjl:j<(ms ops.size).n
     ·have h6:=hfin.get? hjl;rw[List.getD_eq_getElem?_getD,h6]at o1;exact o1
     ·rw[List.getD_eq_getElem?_getD,List.getElem?_eq_none (by have:=hfin.n;omega)]at o1;cases o1
 unfold tO at h;simp only[Bool.and_eq_true]at h;obtain⟨hfl,hdy⟩:=h;have hl:tr.length=ab.length:=cY.length ht
 have at_:∀i,i<ops.size->∃b,ab[i]? = some b/\(ds i).eff=b.eff/\(ds i).fp=b.fp/\∀j,j∉b.ws->((ds i).m.fE j).ver=((ms i).fE j).ver:=fun i hi=>by
  obtain⟨_,_,hti,_⟩:=cq hT hi;obtain⟨b,hbi,k1,k2,k3⟩:=cY.get? ht i _ hti;exact⟨b,hbi,k1,k2,k3⟩
 have pair:∀i e bi be,ab[i]? = some bi->ab[e]? = some be->((!bi.eff&&bi.fp.isNone)||tc (iu ops.toList) fs i bi e be)=true:=fun i e bi be hi he=>by
  have hil:i<ab.length:=(List.getElem?_eq_some_iff.1 hi).1;have hel:e<ab.length:=(List.getElem?_eq_some_iff.1 he).1;have h3:=List.all_eq_true.1 hdy i (List.mem_range.2 hil);rw[hi]at h3;simp only[Bool.or_eq_true]at h3 ⊢
  rcases h3 with h3|h3
  ·exact .inl h3
  ·have h4:=List.all_eq_true.1 h3 e (List.mem_range.2 hel);rw[he]at h4;exact .inr h4
 refine⟨fun i e hi he h1 h2 hlt hF=>?_,fun i e fp hi he h1 h2 hne ha hb=>?_,fun f hf=>?_⟩
 ·obtain⟨bi,hbi,k1,k2,k3⟩:=at_ i hi;obtain⟨be,hbe,j1,j2,j3⟩:=at_ e he;have hp:=pair i e bi be hbi hbe;rw[k1]at h1;rw[j1]at h2;have hq:(i==e)=false:=by simp;omega
  have hc:fs.contains i=false:=by simpa using hF
  simp[tc,h1,h2,hq,hlt,hc]at hp;exact fc ops i e (hp.1.resolve_left hF)
 ·obtain⟨bi,hbi,k1,k2,k3⟩:=at_ i hi;obtain⟨be,hbe,j1,j2,j3⟩:=at_ e he;have hp:=pair i e bi be hbi hbe;rw[k2]at h1;rw[j1]at h2;have hq:(i==e)=false:=by simpa using hne
  have n1:bit (iu ops.toList) i e=false:=by
   cases hx:bit (iu ops.toList) i e
   ·rfl
   ·exact absurd (fc ops i e hx) ha
  have n2:bit (iu ops.toList) e i=false:=by
   cases hx:bit (iu ops.toList) e i
   ·rfl
   ·exact absurd (fc ops e i hx) hb
  unfold tc at hp;rw[h1,h2,hq,n1,n2]at hp;simp only[Bool.not_true,Bool.false_or,Option.isNone_some,Bool.and_false,Bool.and_eq_true,Bool.or_false,Bool.not_eq_true']at hp;exact j3 fp (by have:=hp.2;simpa using this)
 ·have hf1 := List.all_eq_true.1 hfl f hf;unfold M8 at hf1;split at hf1
  ·rename_i o bf hof hbf;split at hf1
   ·rename_i t d hop hg hd;have hflt:f<ops.size:=(Array.getElem?_eq_some_iff.1 hof).1;obtain⟨o',ho',htf,hxf,_,_⟩:=cq hT hflt;obtain rfl:o=o':=by rw[hof]at ho';exact Option.some.inj ho'
    obtain⟨hkr,hfr⟩:=key f (by omega);obtain⟨bf',hbf',k1,k2,k3⟩:=at_ f hflt;obtain rfl:bf=bf':=by rw[hbf]at hbf';exact Option.some.inj hbf'
    obtain⟨zs,_,hp,_⟩:=oI hop hg hxf
    have hn:(ms f).n∈bf.ws:=by
     refine Classical.byContradiction fun hn=>?_
     have e1:=k3 _ hn;obtain⟨_,_,e2,_⟩:=Mem.bI hp;rw[e2,hfr _ (Nat.le_refl _)]at e1;cases e1
    have look:∀i oi,ops[i]? = some oi->i≠f->(d∈oi.looksAt ops\/(ds i).fp=some (ms f).n)->∀e,e<f->(ds e).eff=true->kY ops i e:=fun i oi hoi hif hor e hef heff=>by
     have hi:i<ops.size:=(Array.getElem?_eq_some_iff.1 hoi).1;obtain⟨bi,hbi,q1,q2,q3⟩:=at_ i hi;obtain⟨be,hbe,r1,r2,r3⟩:=at_ e (by omega);have h1:=List.all_eq_true.1 hf1 i (List.mem_range.2 hi);have hq:(i==f)=false:=by simpa using hif
     rw[hoi,hbi,hq]at h1;simp only[Bool.false_or,Bool.or_eq_true,Bool.not_eq_true']at h1
     have h2:((List.range f).all fun e=>match ab[e]? with | .none=>true|some de => !de.eff||bit (iu ops.toList) i e)=true:=by
      rcases h1 with h1|h1
      ·exfalso;simp only[Bool.or_eq_false_iff]at h1
       rcases hor with hor|hor
       ·have:(oi.looksAt ops).contains d=true:=by simpa using hor
        rw[this]at h1;cases h1.1
       ·rw[q2]at hor;have:=h1.2;rw[hor]at this;simp only at this;rw[List.contains_iff_mem.2 hn]at this;cases this
      ·exact h1
     have h3:=List.all_eq_true.1 h2 e (List.mem_range.2 hef);rw[hbe]at h3;rw[r1]at heff;simp only[heff,Bool.not_true,Bool.false_or]at h3;exact fc ops i e h3
    refine⟨d,t,fun i oi hoi hif hd=>look i oi hoi hif (.inl hd),fun i hi hif hfp=>look i ops[i] (by simp[hi]) hif (.inr hfp),fun j hj hlv=>?_,hflt,o,hof,hop,hg,hd⟩;obtain⟨_,_,k⟩:=hkr hb
    rcases k j hj hlv with k|⟨k,ke⟩
    ·exact .inl k
    ·exact .inr ⟨k,by first|(rw[ke];exact hlv)|(rw[<-ke];exact hlv)|simp[k,ke,hlv]⟩
   ·cases hf1
  ·cases hf1
theorem WX.NO(hO:aP P O)(hP:P.follows .mixedOrders=true){nI id:Nat}{fs:List Nat}{al al':aL}{hs hs':ah}{bs:List Ab}{K:ch}(hst:cK ops nt (iu ops.toList)=true)(h:l6 O P ops nt ops.toList al hs bs al' hs')(hdy:tO ops (iu ops.toList) bs fs=true)(hno:kF hs' ops.toList bs=true)
 (hk:K .normal al' hs'):WX P nt nI (.code (.region id ops true)) al hs K:=by
 intro βI mI wI hn m hm β w a Q hr hw hq;obtain⟨r,hrr⟩:=r9 (rg al) nt hr.small hr.out;obtain⟨tr,r',m',h1,h2,h3,h4⟩:=qJ hr.small h hm hrr;obtain⟨rs,ms,ds,hT,t1,t2,t3,t4⟩:=oq h1;have hsz:ops.toList.length=ops.size:=by simp
 have hfin:aV (ms ops.size) hs':=by rw[<-hsz,t4];exact h3
 have hd:=BL hO hT (by rw[t2];exact hm.fresh) (by rw[t2];exact hm.bnd) hno hfin h4 hdy;have e:(r.get .undef)=rg al:=funext hrr;have e':(r'.get .undef)=rg al':=funext h2;rw[hsz]at t3 t4;refine Ci hO hP (jV hst) hT hd t1 t2 (by unfold lC;rw[e];exact hr) hw.rel ?_;rw[t3,t4];intro a' β' w' k1 k2 k3;unfold lC at k1;rw[e']at k1;exact hq .normal al' hs' m' hk h3 a' β' w' k1 k2 (hw.trans k3)
theorem WX.NQ(fs:List Nat){K:ch}{al:aL}{hs:ah}{nI id:Nat}(hP:P.follows .mixedOrders=true)(hst:cK ops nt (iu ops.toList)=true)(h:SK P ops nt [] ops.toList al hs fun bs al' hs'=>(tO ops (iu ops.toList) bs fs&&kF hs' ops.toList bs)=true/\K .normal al' hs'):WX P nt nI (.code (.region id ops true)) al hs K:=by
 obtain⟨Lf,h1,h2,h3,bs,al',hs',h4,h5,h6⟩:=h;exact WX.NO (pP fun e he=>(h2 e he).resolve_left (by simp)) hP hst h4 (by simp only[Bool.and_eq_true]at h5;exact h5.1) (by simp only[Bool.and_eq_true]at h5;exact h5.2) h6
theorem SH{nI id:Nat}(fs:List Nat){al:aL}{hs:ah}{K:ch}(h:SK P ops nt [] ops.toList al hs fun bs al' hs'=>(tO ops (iu ops.toList) bs fs&&kF hs' ops.toList bs)=true/\K .normal al' hs')(hP:P.follows .mixedOrders=true:=by kernel_rfl)(hst:cK ops nt (iu ops.toList)=true:=by kernel_rfl):WX P nt nI (.code (.region id ops true)) al hs K:=
 WX.NQ fs hP hst h
end
end Go.Xm
namespace Go.Proofs.YthdciapjllppjaaGreat
open Go.Xm
variable [av]
theorem Gz:bm prog 46 [.one (.ptr 0 0),.one (.int .u64 1),.one (.int .i64 1)] [.cells [.slice 1 0 0 (.exact 0),.int .i64 0] 134 false false,.cells (il .u8 []) 5 false false] (.tup []) (KN [true]):=by
 refine cO Tryz.func46 ?_
 repeat' (first|refine zz ?_|refine zx (fun _=>?_) (fun _=>?_)|fail)
 refine WX.loop ?_;refine WX.round ?_
 repeat' (first
  |(refine qz ?_;first
   |refine KT (n:=1) (r:=[0]) rfl (ic rfl rfl rfl) (fun h=>absurd h (by decide)) (fun _=>?_))
  |refine zz ?_|refine zx (fun _=>?_) (fun _=>?_)|fail)
 refine WX.round ?_
 repeat' (first|refine zz ?_|refine zx (fun _=>?_) (fun _=>?_)|fail)
 show aE _ _ _ _ _ _ _ _;refine kV [0,1,3] ?_;rfl
theorem Kf{HS:ah}{i k:Nat}{opn:Bool}(hi:HS[i]? = some (.cells [.slice k 0 0 (.exact 0),.int .i64 0] 134 false false))(hk:HS[k]? = some (.cells (il .u8 []) 5 false false))(hd:i≠k){N:Nat}(hN:HS.length=N){HS':ah}(hh:bC HS [i,k] [aO N [true],.dead,au [true]]=HS')(hbd:Nat.blt HS'.length Mem.bound=true) :
 aA.Sound prog ⟨46,[.one (.ptr i 0),.one (.int .u64 1),.one (.int .i64 1)],HS,.tup [],HS',[i,k]⟩:=by
 subst hN;refine bp [i,k] [i,k] 1 Gz (by simp[hd]) ?_ ?_ ?_ rfl (.cons (by simp[XV.br,XC.ok]) (.flat (.flat .nil))) (.cons rfl (.flat (.flat .nil))) (b7.ok _) (b7.aB _) ?_ rfl rfl hh hbd (.inl rfl)
 ·exact .cons hi (.flat hk .nil)
 ·exact .cons (by simp[aj.br,XC.ok]) (.flat .nil)
 ·exact .cons (by simp[aj.br,XC.ok,aJ]) (.flat (.flat .nil))
 ·exact .cons (by simp only[aj.aB,List.map_cons,List.map_nil,XC.aB,aX];rfl) (.flat (.flat .nil))
theorem Gw(bs:List Bool)(hb:bs.length<=1000000) :
 bm prog 48 [.one (.ptr 0 0)] (WH bs) (ee 2 (((bs++[true]).length+7)/8) 1) [aO 1 bs,au bs,au (bs++[true])]:=by
 refine cO Tryz.func48 ?_;have hwl:=dA bs
 repeat' (first
  |(refine qz ?_;first
   |refine KT (n:=(bs.length+7)/8) (r:=wr bs) (dA bs) (yA rfl rfl (dA bs)) (fun h=>?_) (fun h=>?_))
  |refine SH (id:=3) [11] ?_|refine zz ?_|refine zx (fun _=>?_) (fun _=>?_)|fail)
 ·obtain rfl:bs = []:=List.length_eq_zero_iff.1 (by omega)
  repeat' (first
   |(refine qz ?_;first
    |refine cl ?_ (hi:=by exact Kf (k:=2) (opn:=false) rfl rfl (by decide) nL nA rfl))
   |refine zz ?_|refine zx (fun _=>?_) (fun _=>?_)|fail)
  show aE _ _ _ _ _ _ _ _;refine kV [0,1,4] ?_;rw[dz];rfl
 ·have hw:aO 3 bs = .cells [.slice 3 0 (0+(bs.length+7)/8) (.toEnd 1),.int .i64 (bs.length:Nat)] 134 false false:=by
   unfold aO eY;rw[if_neg (by omega),Nat.zero_add]
  have hy:au bs = .cells (il .u8 ([]++wr bs)) 5 true false:=by
   refine bG fun hn=>?_
   have h2:(il .u8 (wr bs)).length=0:=by rw[hn];rfl
   rw[bH,hwl]at h2;omega
  repeat' (first
   |(refine qz ?_;first
    |refine cl ?_ (hi:=by exact eZ (i:=4) (k:=3) (size:=1) rfl (bs:=bs) (by decide) (by decide) hb (by rw[hw];rfl) (by rw[hy];rfl) (by decide) nL nA rfl))
   |refine zz ?_|refine zx (fun _=>?_) (fun _=>?_)|fail)
  show aE _ _ _ _ _ _ _ _;refine kV [0,1,5] ?_;rw[dz];rfl
theorem DY(a b:List XC)(e e' e1 e2 e3:TypeId)(cs ds fs:List XC):fM [.cells a e false false,bz e1 cs] [.cells b e' false false,bz e2 ds,bz e3 fs]=true:=by
 cases cs<;>cases ds<;>cases fs<;>simp[fM,aj.live,aj.own,bz]
theorem vg{bs:List Bool}(hb:bs.length<=1000000){HS:ah}{i k:Nat}(hi:HS[i]? = some (aO k bs))(hk:HS[k]? = some (au bs))(hd:i≠k){N:Nat}(hN:HS.length=N){HS':ah}(hh:HS++[au (bs++[true])]=HS')(hbd:Nat.blt HS'.length Mem.bound=true) :
 aA.Sound prog ⟨48,[.one (.ptr i 0)],HS,ee N (((bs++[true]).length+7)/8) 1,HS',[i,k]⟩:=by
 subst hN
 have hh':bC HS [i,k] [aO k bs,au bs,au (bs++[true])]=HS':=by
  simp only[bC];rw[aC hi,aC hk];exact hh
 refine bp [i,k] [i,k] 1 (Gw bs hb) (by simp[hd]) ?_ ?_ ?_ rfl (.cons (by simp[XV.br,XC.ok]) .nil) (.cons rfl .nil) (ib (Nat.le_of_ble_eq_true rfl)) (dz ..) ?_ ?_ rfl hh' hbd (.inl rfl)
 ·exact af.gT hi rfl rfl rfl (.flat hk .nil)
 ·exact .cons (by simp[aj.br,XC.ok,aJ]) (.flat .nil)
 ·exact .cons (by simp[aj.br,XC.ok,aJ]) (.flat (.flat .nil))
 ·exact .cons (by simp only[aj.aB,List.map_cons,List.map_nil,XC.aB,aX];rfl) (.flat (.flat .nil))
 ·exact DY ..
def tz:Nat->Int->Nat
 | 0,_=>0
 | f+1,x=>if x%2=0 then tz f (x/2)+1 else 0
def yv(L:List Int):Nat×Bool:=if L.getD (L.length-1) 0=0 then(0,false)else(8*L.length-1-tz 8 (L.getD (L.length-1) 0),true)
theorem Ji{L:List Int}{B:List Bool}(hB:B.length<=8*L.length)(hn:L.length<=100000) :
 bm prog 67 [ee 0 L.length 1,.one (.int .i64 (B.length:Nat))] [bz 5 (il .u8 L)] (.one (.ptr 1 0)) [bz 5 (il .u8 L),qE 2 L B 0 false,ln L]:=by
 refine cO Tryz.func67 ?_
 repeat' (first
  |(refine qz ?_;first
   |refine SP (r:=L) (yA rfl rfl rfl) ?_)
  |refine zz ?_|refine zx (fun _=>?_) (fun _=>?_)|fail)
 show aE _ _ _ _ _ _ _ _;refine kV [0,2,1] ?_;rfl
theorem L6{L:List Int}{B:List Bool}(hB:B.length<=8*L.length)(hn:L.length<=100000){n:Nat}(hln:L.length=n){z:Int}(hz:z=(B.length:Nat)){HS:ah}{i:Nat}(hi:HS[i]? = some (bz 5 (il .u8 L))){N:Nat}(hN:HS.length=N){HS':ah}(hh:HS++[qE (N+1) L B 0 false,ln L]=HS')(hb:Nat.blt HS'.length Mem.bound=true) :
 aA.Sound prog ⟨67,[ee i n 1,.one (.int .i64 z)],HS,.one (.ptr N 0),HS',[i]⟩:=by
 subst hln hz hN;refine bp [i] [i] 2 (Ji hB hn) (by simp) (.flat hi .nil) (.flat .nil) (.flat (.cons (by simp[aj.br,XC.ok]) (.flat .nil))) rfl (.cons (ib (Nat.le_of_ble_eq_true rfl)) (.flat .nil)) (.cons (dz ..) (.flat .nil)) (by simp[XV.br,XC.ok]) rfl (.flat (.cons rfl (.flat .nil))) ?_ rfl (by simp only[bC];rw[aC hi];exact hh) hb (.inl rfl);cases il .u8 L<;>simp[fM,aj.live,aj.own,bz]
def HN(st:List Int×Int)(b:Int):List Int×Int:=
 if 2<=st.2/\b<=3 then(st.1++[3]++[b],if b=0 then 0+1 else 0)else(st.1++[b],if b=0 then st.2+1 else 0)
def f5(l:List Int):Nat->List Int×Int
 | 0=>([],0)
 | j+1=>HN (f5 l j) (l.getD j 0)
theorem tQ(l:List Int):∀j,(f5 l j).1.length<=2*j/\0<=(f5 l j).2/\(f5 l j).2<=j
 | 0=>⟨Nat.le_refl _,by show(0:Int)<=0;omega,by show(0:Int)<=0;omega⟩
 | j + 1=>by
   obtain⟨h1,h2,h3⟩:=tQ l j;unfold f5 HN;split
   ·refine⟨by simp;omega,?_⟩;simp only[];split<;>omega
   ·refine⟨by simp;omega,?_⟩;simp only[];split<;>omega
theorem BO{l:List Int}(hl:aW l)(hn:l.length<=100000) :
 bm prog 51 [ee 0 l.length 1] [bz 5 (il .u8 l)] (ee 1 (f5 l l.length).1.length 1) [bz 5 (il .u8 l),bz 5 (il .u8 (f5 l l.length).1)]:=by
 refine cO Tryz.func51 ?_
 repeat' (first|refine zz ?_|refine zx (fun _=>?_) (fun _=>?_)|fail)
 refine WX.cj rfl ?_;refine WX.bQ (σ:=Nat) (fun j=>[(7,ee 0 l.length 1),(8,.one (.int .i64 (l.length:Nat))),(9,.one (.int .i64 (j:Nat))),(3,ee 1 (f5 l j).1.length 1),(4,.one (.int .i64 (f5 l j).2))]) (fun j=>[bz 5 (il .u8 l),bz 5 (il .u8 (f5 l j).1)]) (fun j=>j<=l.length) (fun j=>l.length-j) 0 (Nat.zero_le _) (fun s _=>mE) (bq [0,1]) ?_;intro j hj ih;have hr:=tQ l j
 by_cases hlt:j<l.length
 ·have hb:=hl j;have e0:f5 l (j+1)=HN (f5 l j) (l.getD j 0):=rfl;unfold HN at e0
  repeat' (first
   |(refine qz ?_;first
    |refine PR ?_ (hn:=by simp))
   |refine zz ?_|refine zx (fun _=>?_) (fun _=>?_)|fail)
  ·rename_i g1 g2 g3;rw[if_pos ⟨g1,g2⟩,if_pos g3]at e0;refine ih (j+1) _ _ _ (bq [0,5] (obj:=by(repeat' (first|exact af.nil|refine af.flat (by rw[e0];rfl) ?_|refine oz ?_));first|done|fail) (reg:=by(repeat' (first|exact ae.nil|refine ae.jD rfl rfl (by rw[e0];simp) ?_|refine ae.flat (by rw[e0];rfl) ?_|refine rz ?_|refine ae.sl rfl (by assumption) rfl ?_));first|done|fail)) (by show j+1<=_;omega) (by show _-(j+1)<_-j;omega)
  ·rename_i g1 g2 g3;rw[if_pos ⟨g1,g2⟩,if_neg g3]at e0;refine ih (j+1) _ _ _ (bq [0,5] (obj:=by(repeat' (first|exact af.nil|refine af.flat (by rw[e0];rfl) ?_|refine oz ?_));first|done|fail) (reg:=by(repeat' (first|exact ae.nil|refine ae.jD rfl rfl (by rw[e0];simp) ?_|refine ae.flat (by rw[e0];rfl) ?_|refine rz ?_|refine ae.sl rfl (by assumption) rfl ?_));first|done|fail)) (by show j+1<=_;omega) (by show _-(j+1)<_-j;omega)
  ·rename_i g1 g2;rw[if_neg (fun h=>g2 h.2),if_neg (by omega)]at e0;refine ih (j+1) _ _ _ (bq [0,3] (obj:=by(repeat' (first|exact af.nil|refine af.flat (by rw[e0];rfl) ?_|refine oz ?_));first|done|fail) (reg:=by(repeat' (first|exact ae.nil|refine ae.jD rfl rfl (by rw[e0];simp) ?_|refine ae.flat (by rw[e0];rfl) ?_|refine rz ?_|refine ae.sl rfl (by assumption) rfl ?_));first|done|fail)) (by show j+1<=_;omega) (by show _-(j+1)<_-j;omega)
  ·rename_i g1 g2;rw[if_neg (fun h=>g1 h.1),if_pos g2]at e0;refine ih (j+1) _ _ _ (bq [0,3] (obj:=by(repeat' (first|exact af.nil|refine af.flat (by rw[e0];rfl) ?_|refine oz ?_));first|done|fail) (reg:=by(repeat' (first|exact ae.nil|refine ae.jD rfl rfl (by rw[e0];simp) ?_|refine ae.flat (by rw[e0];rfl) ?_|refine rz ?_|refine ae.sl rfl (by assumption) rfl ?_));first|done|fail)) (by show j+1<=_;omega) (by show _-(j+1)<_-j;omega)
  ·rename_i g1 g2;rw[if_neg (fun h=>g1 h.1),if_neg g2]at e0;refine ih (j+1) _ _ _ (bq [0,3] (obj:=by(repeat' (first|exact af.nil|refine af.flat (by rw[e0];rfl) ?_|refine oz ?_));first|done|fail) (reg:=by(repeat' (first|exact ae.nil|refine ae.jD rfl rfl (by rw[e0];simp) ?_|refine ae.flat (by rw[e0];rfl) ?_|refine rz ?_|refine ae.sl rfl (by assumption) rfl ?_));first|done|fail)) (by show j+1<=_;omega) (by show _-(j+1)<_-j;omega)
 ·obtain rfl:j=l.length:=by omega
  repeat' (first|refine zz ?_|refine zx (fun _=>?_) (fun _=>?_)|fail)
  show aE _ _ _ _ _ _ _ _;refine kV [0,1] ?_;rw[dz];rfl
def NV(l:List Int):Nat->List Int->Int->Nat->Option (List Int)
 | 0,out,_,_=>some out
 | k+1,out,z,i=>
   if z=2/\l.getD i 0<3 then none
   else if z=2/\l.getD i 0=3 then(if i+1=l.length\/3<l.getD (i+1) 0 then none else NV l k out 0 (i+1))
   else NV l k (out++[l.getD i 0]) (if l.getD i 0=0 then z+1 else 0) (i+1)
theorem OH(e e' e2:TypeId)(cs ds fs:List XC):fM [bz e cs] [bz e' ds,bz e2 fs]=true:=by
 cases cs<;>cases ds<;>cases fs<;>simp[fM,aj.live,aj.own,bz]
theorem ET{l:List Int}(hl:aW l)(hn:l.length<=100000){n:Nat}(hln:l.length=n){HS:ah}{i:Nat}(hi:HS[i]? = some (bz 5 (il .u8 l))){N:Nat}(hN:HS.length=N){HS':ah}(hh:HS++[bz 5 (il .u8 (f5 l l.length).1)]=HS')(hb:Nat.blt HS'.length Mem.bound=true) :
 aA.Sound prog ⟨51,[ee i n 1],HS,ee N (f5 l l.length).1.length 1,HS',[i]⟩:=by
 subst hln hN;exact bp [i] [i] 1 (BO hl hn) (by simp) (.flat hi .nil) (.flat .nil) (.flat (.flat .nil)) rfl (.cons (ib (Nat.le_of_ble_eq_true rfl)) .nil) (.cons (dz ..) .nil) (ib (Nat.le_of_ble_eq_true rfl)) (dz ..) (.flat (.flat .nil)) (OH ..) rfl (by simp only[bC];rw[aC hi];exact hh) hb (.inl rfl)
theorem Pk:∀(x:Fin 256) (r:Fin 8),(x.val:Int)/2^(7-r.val)%2=1->(∀j:Fin 8,r<j->¬(x.val:Int)/2^(7-j.val)%2=1)->tz 8 (x.val:Int)=7-r.val/\x.val≠0:=by
 decide +kernel
theorem Ru(bs:List Bool):yv (wr (bs++[true]))=(bs.length,true):=by
 have hlen:=dA (bs++[true]);simp only[List.length_append,List.length_cons,List.length_nil]at hlen;have hi:(wr (bs++[true])).length-1=bs.length/8:=by omega
 have hb:=jG (bs++[true]) (bs.length/8)
 obtain⟨x,hx⟩:∃x:Fin 256,(wr (bs++[true])).getD (bs.length/8) 0=(x.val:Int):=⟨⟨((wr (bs++[true])).getD (bs.length/8) 0).toNat,by omega⟩,by simp only[];omega⟩
 have bit:∀j:Fin 8,decide ((x.val:Int)/2^(7-j.val)%2=1)=(bs++[true]).getD (8*(bs.length/8)+j.val) false:=by
  intro j;have:=Kh (bs++[true]) (8*(bs.length/8)+j.val);unfold kG at this;rw[show(8*(bs.length/8)+j.val)/8=bs.length/8 by omega,show(8*(bs.length/8)+j.val)%8=j.val by omega,hx]at this;exact this
 have h1:=Pk x ⟨bs.length%8,Nat.mod_lt _ (by omega)⟩ (by
  have:=bit ⟨bs.length%8,Nat.mod_lt _ (by omega)⟩;simp only at this;rw[show 8*(bs.length/8)+bs.length%8=bs.length by omega]at this
  simpa using this) (fun j hj=>by
  have:=bit j;have hj':bs.length%8<j.val:=hj;rw[List.getD_eq_getElem?_getD,List.getElem?_eq_none (by simp;omega)]at this
  simpa using this)
 unfold yv;rw[hi,hx,if_neg (by have:=h1.2;omega),h1.1];simp only[Prod.mk.injEq,and_true];rw[hlen];omega
def rn:Int->List Int->List Int
 | _,[]=>[]
 | z,b::t=>if 2<=z/\b<=3 then 3::b::rn (if b=0 then 0+1 else 0) t else b::rn (if b=0 then z+1 else 0) t
theorem HO(l:List Int):∀j,j<=l.length->(f5 l j).1++rn (f5 l j).2 (l.drop j)=rn 0 l
 | 0,_=>rfl
 | j + 1,h=>by
   rw[<-HO l j (by omega)]
   have hd:l.drop j=l.getD j 0::l.drop (j+1):=by
    rw[List.drop_eq_getElem_cons (by omega),List.getD_eq_getElem?_getD,List.getElem?_eq_getElem (by omega)];rfl
   rw[hd,f5,HN]
   conv=>rhs;rw[rn]
   split
   ·simp
   ·simp
theorem tP(l:List Int):(f5 l l.length).1=rn 0 l:=by
 have:=HO l l.length (Nat.le_refl _);rw[List.drop_length]at this;simpa [rn]using this
theorem d9{f f':FuncId}{a a':List XV}{HS HS' K K':ah}{v v':XV}{w w':List Nat}(h:Nat.beq HS.length HS'.length=false):Compat ⟨f,a,HS,v,K,w⟩ ⟨f',a',HS',v',K',w'⟩:=fun _ _ e=>by
 have e':HS.length=HS'.length:=congrArg List.length e;rw[e']at h;simp at h
theorem FV{p:Int×Int}(h:bK p)(hr:eV p=true){HS:ah}(hb:Nat.blt HS.length Mem.bound=true):aA.Sound prog ⟨111,[.one (cI p)],HS,.one (.bool true),HS,[]⟩:=by
 have:=eE h hb;rw[hr]at this;exact this
theorem je{x:Int}(h : -32<=x/\x<=32):0<=bZ x/\bZ x<=64:=by unfold bZ;split<;>omega
def gM(v e:Int×Int):List Bool:=eF (bZ (ij (v.1-e.1)))++eF (bZ (ij (v.2-e.2)))
theorem iH(v:Int)(h:0<=v/\v<=8190):(eF v).length<=27:=by
 unfold eF;split
 ·decide
 ·simp only[List.length_cons,xa];have:=ri (n:=(v+1).toNat) (k:=13) (by omega);omega
theorem Kb(bs:List Bool)(v e:Int×Int)(hv:bK v)(he:bK e)(hr:eV v=true)(hb:bs.length<=800000) :
 bm prog 90 [.one (.ptr 0 0),.one (cI v),.one (cI e)] (WH bs) (.one (.bool true)) (KN (bs++gM v e)):=by
 have hx:=mH (v.1-e.1);have hy:=mH (v.2-e.2);have a1:=hv.1.1;have a2:=hv.1.2;have a3:=hv.2.1;have a4:=hv.2.2;have b1:=he.1.1;have b2:=he.1.2;have b3:=he.2.1;have b4:=he.2.2;have hl:=iH (bZ (ij (v.1-e.1))) (by have:=je ⟨hx.1,by omega⟩;omega);have e0:bs++gM v e=(bs++eF (bZ (ij (v.1-e.1))))++eF (bZ (ij (v.2-e.2))):=by rw[gM,List.append_assoc]
 rw[e0];refine cO Tryz.func90 ?_
 repeat' (first
  |(refine qz ?_;first
   |refine cl ?_ (hi:=by exact FV hv hr rfl)
   |refine cl ?_ (hi:=by exact jc hv rfl)
   |refine cl ?_ (hi:=by exact jc he rfl)
   |refine cl ?_ (hi:=by exact MI (by omega) rfl)
   |refine cl ?_ (hi:=by exact rP (by omega) rfl)
   |refine cl ?_ (hi:=by exact iI (v:=bZ (ij (v.1-e.1))) (bs:=bs) (by have:=je ⟨hx.1,by omega⟩;omega) (by omega) rfl rfl (by decide) nL nA rfl)
   |refine cl ?_ (hi:=by exact iI (v:=bZ (ij (v.2-e.2))) (bs:=bs++eF (bZ (ij (v.1-e.1)))) (by have:=je ⟨hy.1,by omega⟩;omega) (by rw[List.length_append];omega) rfl rfl (by decide) nL nA rfl))
  |refine zz ?_|refine zx (fun _=>?_) (fun _=>?_)|refine bM (by first|exact ai.nil|exact ai.one _|exact ai.pf (by repeat' (first|exact True.intro|refine And.intro ?_ ?_|exact Compat.ne rfl|exact d9 rfl))) ⟨by kernel_rfl,?_⟩|refine bM (by first|exact ai.nil|exact ai.one _|exact ai.pf (by repeat' (first|exact True.intro|refine And.intro ?_ ?_|exact Compat.ne rfl|exact d9 rfl))) ?_|fail)
 show aE _ _ _ _ _ _ _ _;refine kV [0,1,3] ?_;rfl
theorem qO{bs:List Bool}{v e:Int×Int}(hv:bK v)(he:bK e)(hr:eV v=true)(hb:bs.length<=800000){HS:ah}{i k:Nat}(hi:HS[i]? = some (aO k bs))(hk:HS[k]? = some (au bs))(hd:i≠k){N:Nat}(hN:HS.length=N){HS':ah}(hh:bC HS [i,k] [aO N (bs++gM v e),.dead,au (bs++gM v e)]=HS')(hbd:Nat.blt HS'.length Mem.bound=true) :
 aA.Sound prog ⟨90,[.one (.ptr i 0),.one (cI v),.one (cI e)],HS,.one (.bool true),HS',[i,k]⟩:=
 MF (fun τ => .flat (.flat .nil)) (.flat (.flat .nil)) (Kb bs v e hv he hr hb) hi hk hd hN hh hbd
def Pq(B:List Bool)(r:Nat×Bool):Int:=xk (uU B r).1
def Pr(B:List Bool)(r:Nat×Bool):Int:=xk (uU B (uU B r).2).1
def Ra(B:List Bool)(e:Int×Int)(r:Nat×Bool):Int×Int:=(ij (e.1+Pq B r),ij (e.2+Pr B r))
def Pp(B:List Bool)(r:Nat×Bool):Nat×Bool:=(uU B (uU B r).2).2
def CD(B:List Bool)(e:Int×Int)(r:Nat×Bool):Prop:=(Pp B r).2=true\/Pq B r < -32\/31<Pq B r\/Pr B r < -32\/31<Pr B r\/eV (Ra B e r)=false
instance (B:List Bool) (e:Int×Int) (r:Nat×Bool):Decidable (CD B e r):=by unfold CD;infer_instance
def Q_(B:List Bool)(e:Int×Int)(r:Nat×Bool):(Int×Int)×(Nat×Bool):=if CD B e r then((0,0),((Pp B r).1,true))else(Ra B e r,Pp B r)
theorem lQ(v e:Int×Int):(gM v e).length<=54:=by
 unfold gM;have hx:=mH (v.1-e.1);have hy:=mH (v.2-e.2);have h1:=iH (bZ (ij (v.1-e.1))) (by have:=je ⟨hx.1,by omega⟩;omega);have h2:=iH (bZ (ij (v.2-e.2))) (by have:=je ⟨hy.1,by omega⟩;omega);rw[List.length_append];omega
end Go.Proofs.YthdciapjllppjaaGreat
