/-
  A part of the proof: StaR, TabS, EvLaw, Blocks0, Firsts, OutL, Fill1.
-/
import Derived.Test.YtagpkhindehcbaaGreatKeF
import Derived.Test.YtagpkhindehcbaaGreatKeP
set_option maxRecDepth 10000
set_option maxHeartbeats 8000000
set_option linter.unusedVariables false
set_option linter.unusedSectionVars false
set_option linter.unusedSimpArgs false
namespace Go.Proofs.YtagpkhindehcbaaGreat
open Go.Xm
variable [ax]
theorem Pf(a b c:List XC)(e e':TypeId)(S S':bm):ee (.cells a e false false :: .cells b e' false false::dY S) (.cells c e false false :: .cells b e' false false::dY S')=true:=by
 simp[ee,ak.live,ak.own]
theorem Q_{f:FuncId}{more:List XV}(hm:∀τ,dT τ more more)(hmo:fk 22 more){v:XV}[bC v]{L:List Int}{B:List Bool}{p p':Nat}{e e':Bool}{S:bm}(hc:bh Tryz.prog f (.one (.ptr 2 0) :: .one (.ptr 0 0)::more) (bp 1 L B p e::aK L::dY S) v (bp 1 L B p' e'::aK L::dY S))
 {HS:aj}(hi:HS[0]? = some (bp 1 L B p e)) (hk:HS[1]? = some (aK L)) (hS:(HS.drop 2).take 20=dY S) {HS':aj}(hh:HS.set 0 (bp 1 L B p' e')=HS') (hbd:Nat.blt HS'.length Mem.bound=true) :
 aG.Sound Tryz.prog ⟨f,.one (.ptr 2 0) :: .one (.ptr 0 0)::more,HS,v,HS',[0]⟩:=by
 have nd:=r9 (k:=1) (.inl rfl)
 have ht:∀j,2<=j->j<22->nth (0::1::bQ) j=j:=fun j h1 h2=>by
  have:=nV 1 [] j h1 h2
  rwa [List.append_nil]at this
 have ht':∀j,2<=j->j<22->nth ((0::1::bQ)++List.range' HS.length 0) j=j:=nV 1 _
 have hv:=pZ S ht hS (ls:=[]) .nil
 rw[List.append_nil,List.append_nil]at hv
 have ho:=gM S 22 (Nat.le_refl _) (l:=[]) .nil
 rw[List.append_nil]at ho
 have hr:=r8 S ht' (l:=[]) (l':=[]) .nil
 rw[List.append_nil]at hr
 have hh':bK HS (0::1::bQ) (bp 1 L B p' e'::aK L::dY S)=HS':=by
  rw[<-hh,bK,bK,aF (i:=1) (by rw[List.getElem?_set_ne (by decide)];exact hk)]
  have:=qY bQ (dY S) (HS.set 0 (bp 1 L B p' e')) [] rfl fun j i hj=>by
   obtain⟨h1,rfl⟩:=uq hj
   have hl:j<(dY S).length:=h1
   exact⟨(dY S)[j],by rw[List.getElem?_set_ne (by omega),zN hS h1,List.getElem?_eq_getElem hl],List.getElem?_eq_getElem hl⟩
  rw[List.append_nil,List.append_nil]at this
  exact this
 refine bT (0::1::bQ) [0] 0 hc nd (.cons hi (.flat hk hv)) (.cons (by simp[ak.ca,XC.ok]) (.flat ho)) (.cons (by simp[ak.ca,XC.ok]) (.flat ho)) rfl (.cons (by show 2<22;omega) (.cons (by show 0<22;omega) hmo)) (.cons rfl (.cons rfl (hm _))) (bC.ok _) (bC.ay _) ?_ (Pf ..) rfl hh' hbd (.inr fun j hjl hj=>?_)
 ·exact .cons rfl (.flat hr)
 ·subst hh
  exact List.getElem?_set_ne (fun h=>hj (by rw[<-h];exact List.mem_singleton.2 rfl))
theorem KJ{L:List Int}{B:List Bool}(h:c_ L B)(r:Nat×Bool){S:bm}{HS:aj}(hi:HS[0]? = some (bp 1 L B r.1 r.2))(hk:HS[1]? = some (aK L))(hS:(HS.drop 2).take 20=dY S){HS':aj}(hh:HS.set 0 (bp 1 L B (eI B r).2.1 (eI B r).2.2)=HS')(hbd:Nat.blt HS'.length Mem.bound=true) :
 aG.Sound Tryz.prog ⟨96,[.one (.ptr 2 0),.one (.ptr 0 0)],HS,.one (.int .i64 (eI B r).1),HS',[0]⟩:=
 Q_ (fun _ => .nil) .nil (Ns h r S) hi hk hS hh hbd
end Go.Proofs.YtagpkhindehcbaaGreat
namespace Go.Proofs.YtagpkhindehcbaaGreat
open Go.Xm
variable [ax]
def zu(S:bm)(mb k dx dy:Int):Option Kn:=dm S.A S.B S.C S.cols (placeOf S.cols mb k).1 ((placeOf S.cols mb k).2.1-dx) ((placeOf S.cols mb k).2.2-dy)
def aZ(S:bm)(mb k q:Int):Int×Int:=j9 (zu S mb k 1 0) (zu S mb k 0 1) (zu S mb k 1 1) q
def cu(S:bm)(mb k q:Int):Nat->Int:=uU (zu S mb k 1 0) (zu S mb k 0 1) (zu S mb k 1 1) q
def mB(S:bm)(mb k:Int):Int:=(placeOf S.cols mb k).2.2*da S.cols (placeOf S.cols mb k).1+(placeOf S.cols mb k).2.1
def bu(S:bm)(mb k:Int)(b:Kn):bm:={S with A:=jt (placeOf S.cols mb k).1 0 S.A (mB S mb k) b,B:=jt (placeOf S.cols mb k).1 1 S.B (mB S mb k) b,C:=jt (placeOf S.cols mb k).1 2 S.C (mB S mb k) b}
theorem bN(n q:Int):0<=dG n q/\dG n q<=127:=by
 have h:=n7 q
 have:0<=(max n 0+stepOf q/2)/stepOf q:=Int.ediv_nonneg (by omega) (by omega)
 unfold dG
 omega
theorem IF(la lb lc:Option Kn)(q:Int):0<=(j9 la lb lc q).2/\(j9 la lb lc q).2<=127/\0<=(j9 la lb lc q).1/\(j9 la lb lc q).1<=2:=by
 unfold j9
 cases la<;>cases lb<;>simp only[]
 ·exact⟨(bN _ _).1,(bN _ _).2,by simp,by simp⟩
 ·exact⟨(bN _ _).1,(bN _ _).2,by simp,by simp⟩
 ·exact⟨(bN _ _).1,(bN _ _).2,by simp,by simp⟩
 ·cases lc<;>simp only[]<;>split
  ·exact⟨(bN _ _).1,(bN _ _).2,by simp,by simp⟩
  ·exact⟨(bN _ _).1,(bN _ _).2,by simp,by simp⟩
  ·exact⟨(bN _ _).1,(bN _ _).2,by simp,by simp⟩
  ·exact⟨(bN _ _).1,(bN _ _).2,by simp,by simp⟩
theorem lh(S:bm)(mb k q:Int):0<=(aZ S mb k q).2/\(aZ S mb k q).2<=127/\0<=(aZ S mb k q).1/\(aZ S mb k q).1<=2:=IF _ _ _ _
section
variable {S:bm} {mb k q:Int}(hD:gq S.cols S.rows) (hmb:0<=mb/\mb<S.cols*S.rows) (hk:0<=k/\k<6)
include hD hmb hk
theorem RQ:iH S.cols S.rows mb k=true:=kg.2 ⟨hmb.1,hmb.2,hk⟩
theorem KA:bh Tryz.prog 70 [.one (.ptr 0 0),.one (.int .i64 mb),.one (.int .i64 k),.one (.int .i64 q)] (bX S.cols S.rows S.A S.B S.C) (kQ (aZ S mb k q)) (bX S.cols S.rows S.A S.B S.C):=
 rC ⟨hD.c0,hD.c1⟩ ⟨by have:=hD.r0;omega,hD.r1⟩ (RQ hD hmb hk) (p:=(placeOf S.cols mb k).1) (x:=(placeOf S.cols mb k).2.1) (y:=(placeOf S.cols mb k).2.2) rfl (by unfold zu;rw[Int.sub_zero]) (by unfold zu;rw[Int.sub_zero]) rfl
theorem G7:bh Tryz.prog 73 [.one (.ptr 0 0),.one (.int .i64 mb),.one (.int .i64 k),.one (.int .i64 q)] (bX S.cols S.rows S.A S.B S.C) (.agg (ti .i64 64 (cu S mb k q))) (bX S.cols S.rows S.A S.B S.C):=
 Ix ⟨hD.c0,hD.c1⟩ ⟨by have:=hD.r0;omega,hD.r1⟩ (RQ hD hmb hk) (p:=(placeOf S.cols mb k).1) (x:=(placeOf S.cols mb k).2.1) (y:=(placeOf S.cols mb k).2.2) rfl (by unfold zu;rw[Int.sub_zero]) (by unfold zu;rw[Int.sub_zero]) rfl
theorem KH(b:Kn):bh Tryz.prog 74 [.one (.ptr 0 0),.one (.int .i64 mb),.one (.int .i64 k),.agg (dQ b)] (bX S.cols S.rows S.A S.B S.C) (.tup []) (bX S.cols S.rows (bu S mb k b).A (bu S mb k b).B (bu S mb k b).C):=
 MX ⟨hD.c0,hD.c1⟩ ⟨by have:=hD.r0;omega,hD.r1⟩ (RQ hD hmb hk) (p:=(placeOf S.cols mb k).1) (x:=(placeOf S.cols mb k).2.1) (y:=(placeOf S.cols mb k).2.2) rfl b
theorem iJ{HS:aj}(ha:HS[18]? = some (.cells [.int .i64 S.cols,.int .i64 S.rows,.map 19,.map 20,.map 21] 171 false false))(hb:HS[19]? = some (.map (ag S.A)))(hc:HS[20]? = some (.map (ag S.B)))(hd:HS[21]? = some (.map (ag S.C)))(hbd:Nat.blt HS.length Mem.bound=true) :
 aG.Sound Tryz.prog ⟨70,[.one (.ptr 18 0),.one (.int .i64 mb),.one (.int .i64 k),.one (.int .i64 q)],HS,kQ (aZ S mb k q),HS,[]⟩:=
 aJ (KA hD hmb hk) 18 19 20 21 (by decide) ha hb hc hd rfl rfl hbd
theorem px{HS:aj}(ha:HS[18]? = some (.cells [.int .i64 S.cols,.int .i64 S.rows,.map 19,.map 20,.map 21] 171 false false))(hb:HS[19]? = some (.map (ag S.A)))(hc:HS[20]? = some (.map (ag S.B)))(hd:HS[21]? = some (.map (ag S.C)))(hbd:Nat.blt HS.length Mem.bound=true) :
 aG.Sound Tryz.prog ⟨73,[.one (.ptr 18 0),.one (.int .i64 mb),.one (.int .i64 k),.one (.int .i64 q)],HS,.agg (ti .i64 64 (cu S mb k q)),HS,[]⟩:=
 aJ (G7 hD hmb hk) 18 19 20 21 (by decide) ha hb hc hd rfl (gX _ _ _) hbd
theorem l_{b:Kn}{HS HS':aj}(ha:HS[18]? = some (.cells [.int .i64 S.cols,.int .i64 S.rows,.map 19,.map 20,.map 21] 171 false false))(hb:HS[19]? = some (.map (ag S.A)))(hc:HS[20]? = some (.map (ag S.B)))(hd:HS[21]? = some (.map (ag S.C)))(hh:((HS.set 19 (.map (ag (bu S mb k b).A))).set 20 (.map (ag (bu S mb k b).B))).set 21 (.map (ag (bu S mb k b).C))=HS')(hbd:Nat.blt HS'.length Mem.bound=true) :
 aG.Sound Tryz.prog ⟨74,[.one (.ptr 18 0),.one (.int .i64 mb),.one (.int .i64 k),.agg (dQ b)],HS,.tup [],HS',[19,20,21]⟩:=
 IW (KH hD hmb hk b) 18 19 20 21 (by decide) ha hb hc hd hh hbd
end
theorem n_{S:bm}{mb k q:Int}(h:∀dx dy b,zu S mb k dx dy=some b->∀i,-1000000<=b.lv i/\b.lv i<=1000000)(i:Nat) : -1000000<=cu S mb k q i/\cu S mb k q i<=1000000:=by
 have hem:∀(b:Kn) (s:Nat),(∀i,-1000000<=b.lv i/\b.lv i<=1000000)->∀n i,-1000000<=em b s n i/\em b s n i<=1000000:=by
  intro b s hb n
  induction n with
  | zero=>intro i;simp[em]
  | succ n ih=>
    intro i
    rw[nH]
    unfold cn
    split
    ·exact hb _
    ·exact ih i
 have ho:∀(o:Option Kn) (s:Nat),(∀b,o=some b->∀i,-1000000<=b.lv i/\b.lv i<=1000000) -> -1000000<=fq o s q i/\fq o s q i<=1000000:=by
  intro o s hb
  cases o with
  | none=>simp[fq,jM]
  | some b=>
    unfold fq
    simp only[]
    split
    ·exact hem b s (hb b rfl) _ i
    ·simp[jM]
 unfold cu uU
 split
 ·exact ho _ _ (h 1 0)
 ·split
  ·exact ho _ _ (h 0 1)
  ·simp[jM]
end Go.Proofs.YtagpkhindehcbaaGreat
namespace Go.Proofs.YtagpkhindehcbaaGreat
open Go.Xm
variable [ax]
theorem vV{f:Nat->Int}(h:∀i,i<64 -> -2047<=f i/\f i<=2047):∀(n i:Nat) (run:Int),i+n=64->0<=run->run<=i->∀e∈eF f n i run,lT e/\e.2.2=false
 | 0,i,run,_,_,_,e,he=>by cases he
 | n + 1,i,run,h1,h2,h3,e,he=>by
   unfold eF at he
   by_cases hz:f i=0
   ·rw[if_pos hz]at he
    exact vV h n (i+1) (run+1) (by omega) (by omega) (by omega) e he
   ·rw[if_neg hz]at he
    rcases List.mem_cons.1 he with rfl|he
    ·exact⟨⟨⟨h2,by show run<=63;omega⟩,hz,h i (by omega)⟩,rfl⟩
    ·exact vV h n (i+1) 0 (by omega) (by omega) (by omega) e he
theorem vf:∀(l:List Ev) (j:Nat),(∀e∈l,e.2.2=false)->j<l.length->(iQ l).getD j default=((l.getD j default).1,(l.getD j default).2.1,decide (j+1=l.length))
 | [],j,_,hj=>by simp at hj
 | [e],j,_,hj=>by
   have:j=0:=by simpa using hj
   subst this
   rfl
 | e::e2::l,0,hf,_=>by
   have:e.2.2=false:=hf e (List.mem_cons_self ..)
   show e=(e.1,e.2.1,decide (0+1=(e::e2::l).length))
   rw[decide_eq_false (by simp),<-this]
 | e :: e2::l,j+1,hf,hj=>by
   have ih:=vf (e2::l) j (fun x hx=>hf x (List.mem_cons_of_mem _ hx)) (by simpa using hj)
   show(iQ (e2::l)).getD j default=_
   rw[ih]
   show _=(((e2::l).getD j default).1,((e2::l).getD j default).2.1,decide (j+1+1=(e::e2::l).length))
   have:decide (j+1=(e2::l).length)=decide (j+1+1=(e::e2::l).length):=by
    simp only[List.length_cons]
    rcases Classical.em (j+1=l.length+1)with g|g
    ·rw[decide_eq_true g,decide_eq_true (by omega)]
    ·rw[decide_eq_false g,decide_eq_false (by omega)]
   rw[this]
theorem MV{f:Nat->Int}{st:Nat}(hst:st<=64)(h:∀i,i<64 -> -2047<=f i/\f i<=2047):dV f st = []\/jC (dV f st):=by
 have hg:=vV h (64-st) st 0 (by omega) (Int.le_refl _) (by omega)
 have hlen:=sX f (64-st) st 0
 unfold dV
 generalize eF f (64-st) st 0=l at hg hlen ⊢
 cases hl:l with
 | nil=>exact .inl rfl
 | cons a t=>
   right
   rw[<-hl]
   have hpos:0<l.length:=by rw[hl];simp
   have hget:∀j,j<l.length->(iQ l).getD j default=((l.getD j default).1,(l.getD j default).2.1,decide (j+1=l.length)):=fun j hj=>vf l j (fun e he=>(hg e he).2) hj
   have hmem:∀j,j<l.length->l.getD j default∈l:=fun j hj=>by
    rw[List.getD_eq_getElem?_getD,List.getElem?_eq_getElem hj]
    exact List.getElem_mem hj
   refine⟨by rw[iR];omega,fun j hj=>?_,fun j hj=>?_⟩
   ·rw[iR]at hj
    have:=(hg _ (hmem j hj)).1
    rw[hget j hj]
    exact⟨this.run,this.nz,this.lev⟩
   ·rw[iR]at hj
    rw[hget j hj,iR]
theorem J5{o:Int}(ho:o=0\/o=1\/o=2){f:Nat->Int}(h:∀i,i<64 -> -2047<=f i/\f i<=2047):∀i,i<64 -> -2047<=h_ o f i/\h_ o f i<=2047:=fun i hi=>by
 have:=kS ho hi
 exact h _ (by omega)
end Go.Proofs.YtagpkhindehcbaaGreat
namespace Go.Proofs.YtagpkhindehcbaaGreat
open Go.Xm
variable [ax]
structure oC where
 S:bm
 B:List Bool
 pat:Int
 col:Int
 ev:Nat->List Ev
def aL(m:Mb)(k:Nat)(i:Nat):Int:=m.lev (k*64+i)
noncomputable def fU(m:Mb)(S:bm)(mb:Int)(k:Nat):Option (Nat->Int):=
 if alone m=true then(if m.edge=true then ov (aL m k) (cu S mb k m.qp)else some (aL m k)).map fun r=>cn r 0 0 else some (aL m k)
noncomputable def nB(m:Mb)(S:bm)(mb:Int)(k:Nat)(r:Nat->Int):List Ev:=dV (h_ (dC m.edge (aZ S mb k m.qp).1) r) (if alone m=true then 1 else 0)
def kE(pat k:Int):Int:=ED .i64 pat (8/2^k.toNat)
def kB(col k:Int):Int:=ED .u64 col (2/2^(k-4).toNat)
noncomputable def cz(m:Mb)(mb:Int)(k:Nat)(x:oC)(ev:List Ev):oC:=
 ⟨if alone m=true then bu x.S mb k ⟨aL m k,m.qp⟩else x.S,if alone m=true then x.B++b6 (aL m k 0-(aZ x.S mb k m.qp).2)else x.B,if 0<ev.length/\k<4 then kE x.pat k else x.pat,if 0<ev.length/\¬k<4 then kB x.col k else x.col,fun j=>if j=k then ev else x.ev j⟩
noncomputable def fH(m:Mb)(mb:Int)(x0:oC):Nat->Option oC
 | 0=>some x0
 | k+1=>(fH m mb x0 k).bind fun x=>(fU m x.S mb k).map fun r=>cz m mb k x (nB m x.S mb k r)
theorem FG{m:Mb}{mb:Int}{x0:oC}{k:Nat}(h:fH m mb x0 k=none):∀j,k<=j->fH m mb x0 j=none:=by
 intro j hj
 induction hj with
 | refl=>exact h
 | step _ ih=>rw[fH,ih];rfl
def Av(T:oH):Prop:=∀key b,cC T key=some b->∀i,-1000000<=b.lv i/\b.lv i<=1000000
def uD(S:bm):Prop:=Av S.A/\Av S.B/\Av S.C
theorem I_{T:oH}(h:Av T){key:Int}{b:Kn}(hb:∀i,-1000000<=b.lv i/\b.lv i<=1000000):Av (oE T key b):=fun key' b' h'=>by
 rw[f6]at h'
 split at h'
 ·cases h';exact hb
 ·exact h key' b' h'
theorem mR{p q:Int}{T:oH}(h:Av T){key:Int}{b:Kn}(hb:∀i,-1000000<=b.lv i/\b.lv i<=1000000):Av (jt p q T key b):=by
 unfold jt
 split
 ·exact I_ h hb
 ·exact h
theorem mQ:Av []:=fun key b h=>by cases h
structure iW(S:bm):Prop where
 dims:gq S.cols S.rows
 lev:uD S
 tiny:cg S.M
theorem zv{S:bm}(h:uD S){mb k dx dy:Int}{b:Kn}(hb:zu S mb k dx dy=some b):∀i,-1000000<=b.lv i/\b.lv i<=1000000:=by
 unfold zu dm cD at hb
 split at hb
 ·cases hb
 ·unfold bU at hb
  split at hb
  ·exact h.1 _ _ hb
  ·split at hb
   ·exact h.2.1 _ _ hb
   ·exact h.2.2 _ _ hb
structure jJ(m:Mb):Prop where
 ok:iL m
 kind:m.kind<=4
 lev:∀i,i<384 -> -2047<=m.lev i/\m.lev i<=2047
 first:alone m=true->∀k,k<6->0<=m.lev (k*64)/\m.lev (k*64)<=127
structure CC(m:Mb)(mb:Int)(x0:oC)(s:Nat×oC):Prop where
 le:s.1<=6
 run:fH m mb x0 s.1=some s.2
 st:iW s.2.S
 cr:s.2.S.cols=x0.S.cols/\s.2.S.rows=x0.S.rows
 len:s.2.B.length<=x0.B.length+76*s.1
 nil:∀j,s.1<=j->s.2.ev j = []
 evs:∀j,s.2.ev j = []\/jC (s.2.ev j)
 pat:0<=s.2.pat/\s.2.pat<16
 col:0<=s.2.col/\s.2.col<4
theorem Jx:∀(a:Fin 16) (k:Fin 4),0<=kE (a.val:Int) (k.val:Int)/\kE (a.val:Int) (k.val:Int)<16:=by decide +kernel
theorem Ip:∀(a:Fin 4) (k:Fin 2),0<=kB (a.val:Int) ((k.val+4:Nat):Int)/\kB (a.val:Int) ((k.val+4:Nat):Int)<4:=by decide +kernel
theorem BA{a:Int}{k:Nat}(h:0<=a/\a<16)(hk:k<4):0<=kE a k/\kE a k<16:=by
 have:=Jx ⟨a.toNat,by omega⟩ ⟨k,hk⟩
 simp only[Int.toNat_of_nonneg h.1]at this
 exact this
theorem AQ{a:Int}{k:Nat}(h:0<=a/\a<4)(hk:¬k<4)(hk6:k<6):0<=kB a k/\kB a k<4:=by
 have:=Ip ⟨a.toNat,by omega⟩ ⟨k-4,by omega⟩
 simp only[Int.toNat_of_nonneg h.1,show k-4+4=k by omega]at this
 exact this
theorem mN{m:Mb}(hg:jJ m){S:bm}{mb:Int}{k:Nat}(ha:alone m=true)(hk:k<6) : -4000<=aL m k 0-(aZ S mb k m.qp).2/\aL m k 0-(aZ S mb k m.qp).2<=4000:=by
 have h1:=hg.first ha k hk
 have h2:=lh S mb k m.qp
 have e:aL m k 0=m.lev (k*64):=by unfold aL;rw[Nat.add_zero]
 rw[e]
 omega
theorem I9{m:Mb}(hg:jJ m){k:Nat}(hk:k<6):∀i,i<64 -> -2047<=aL m k i/\aL m k i<=2047:=fun i hi=>hg.lev _ (by omega)
theorem Gb{l e r:Nat->Int}(h:ov l e=some r):∀i,i<64 -> -2047<=r i/\r i<=2047:=by
 unfold ov at h
 split at h
 ·cases h
 ·rename_i hn
  cases h
  intro i hi
  have:¬l4 l e i:=fun hb=>hn ⟨i,hi,hb⟩
  unfold l4 at this
  show -2047<=l i-e i/\l i-e i<=2047
  omega
theorem FF{m:Mb}(hg:jJ m){S:bm}{mb:Int}{k:Nat}(hk:k<6){r:Nat->Int}(h:fU m S mb k=some r):∀i,i<64 -> -2047<=r i/\r i<=2047:=by
 have hl:=I9 hg hk
 have hu:∀q:Nat->Int,(∀i,i<64 -> -2047<=q i/\q i<=2047)->∀i,i<64 -> -2047<=cn q 0 0 i/\cn q 0 0 i<=2047:=fun q hq i hi=>by
  unfold cn
  split
  ·omega
  ·exact hq i hi
 unfold fU at h
 split at h
 ·obtain⟨q,hq,rfl⟩:=Option.map_eq_some_iff.1 h
  split at hq
  ·exact hu q (Gb hq)
  ·cases hq;exact hu _ hl
 ·cases h;exact hl
theorem mK{m:Mb}(hg:jJ m){mb:Int}{x0:oC}{s:Nat×oC}(h:CC m mb x0 s)(h6:s.1<6){r:Nat->Int}(hr:fU m s.2.S mb s.1=some r):CC m mb x0 (s.1+1,cz m mb s.1 s.2 (nB m s.2.S mb s.1 r)):=by
 have hrr:=FF hg h6 hr
 have hev:nB m s.2.S mb s.1 r = []\/jC (nB m s.2.S mb s.1 r):=by
  unfold nB
  exact MV (by split<;>omega) (J5 (eQ _ _) hrr)
 refine⟨by show s.1+1<=6;omega,?_,?_,?_,?_,?_,?_,?_,?_⟩
 ·show fH m mb x0 (s.1+1)=_
  rw[fH,h.run]
  simp only[Option.bind_some,hr,Option.map_some]
 ·show iW (if alone m=true then bu s.2.S mb s.1 ⟨aL m s.1,m.qp⟩else s.2.S)
  split
  ·have hb:∀i,-1000000<=(Kn.mk (aL m s.1) m.qp).lv i/\(Kn.mk (aL m s.1) m.qp).lv i<=1000000:=fun i=>hg.ok.lev _
   exact⟨h.st.dims,⟨mR h.st.lev.1 hb,mR h.st.lev.2.1 hb,mR h.st.lev.2.2 hb⟩,h.st.tiny⟩
  ·exact h.st
 ·show(if alone m=true then bu s.2.S mb s.1 ⟨aL m s.1,m.qp⟩else s.2.S).cols=_/\(if alone m=true then bu s.2.S mb s.1 ⟨aL m s.1,m.qp⟩else s.2.S).rows=_
  split<;>exact h.cr
 ·show(if alone m=true then s.2.B++b6 (aL m s.1 0-(aZ s.2.S mb s.1 m.qp).2)else s.2.B).length<=x0.B.length+76*(s.1+1)
  have:=h.len
  split
  ·rename_i ha
   have:=FQ (mN hg (S:=s.2.S) (mb:=mb) ha h6)
   rw[List.length_append];omega
  ·omega
 ·intro j hj
  show(if j=s.1 then _ else s.2.ev j) = []
  have hj':s.1+1<=j:=hj
  rw[if_neg (by omega)]
  exact h.nil j (by omega)
 ·intro j
  show(if j=s.1 then _ else s.2.ev j) = []\/jC (if j=s.1 then _ else s.2.ev j)
  split
  ·exact hev
  ·exact h.evs j
 ·show 0<=(if _ then kE s.2.pat s.1 else s.2.pat)/\(if _ then kE s.2.pat s.1 else s.2.pat)<16
  split
  ·rename_i hc
   exact BA h.pat hc.2
  ·exact h.pat
 ·show 0<=(if _ then kB s.2.col s.1 else s.2.col)/\(if _ then kB s.2.col s.1 else s.2.col)<4
  split
  ·rename_i hc
   exact AQ h.col hc.2 h6
  ·exact h.col
def fg(x:oC):List Bool:=(x.B++cV cP x.pat.toNat)++ed x.col 2
def dk(bw:List Bool)(x:oC):Nat->List Bool
 | 0=>bw
 | k+1=>dk bw x k++dO (x.ev k)
theorem sG{bw:List Bool}{x:oC}(h:∀j,x.ev j = []\/jC (x.ev j)):∀k,(dk bw x k).length<=bw.length+3456*k
 | 0=>Nat.le_refl _
 | k + 1=>by
   rw[dk,List.length_append]
   have ih:=sG (bw:=bw) h k
   have:(dO (x.ev k)).length<=3456:=by
    rcases h k with e|e
    ·rw[e];simp[dO]
    ·have h1:=u5 e _ (Nat.le_refl _)
     rw[List.take_length]at h1
     have:=e.len
     omega
   omega
theorem m8{m:Mb}{a:Bool}(ha:alone m=a){HS:aj}(hb:Nat.blt HS.length Mem.bound=true):aG.Sound Tryz.prog ⟨37,[.agg (mC m)],HS,.one (.int .i64 (if a=true then 1 else 0)),HS,[]⟩:=by
 subst ha
 exact sa hb
abbrev Ly(ev:Nat->List Ev):ak := .cells [gJ 27 (ev 0).length 3,gJ 28 (ev 1).length 3,gJ 29 (ev 2).length 3,gJ 30 (ev 3).length 3,gJ 31 (ev 4).length 3,gJ 32 (ev 5).length 3] 185 false false
end Go.Proofs.YtagpkhindehcbaaGreat
namespace Go.Proofs.YtagpkhindehcbaaGreat
open Go.Xm
variable [ax]
def fL(m:Mb)(h:Nat->Bool):List XC:=mC m++[.bool (h 0),.bool (h 1),.bool (h 2),.bool (h 3),.bool (h 4),.bool (h 5)]
theorem cc(m:Mb)(h:Nat->Bool):(fL m h).length=397:=by simp[fL,aI]
theorem vC(m:Mb)(h:Nat->Bool):(fL m h).all XC.shut=true:=by
 unfold fL
 rw[List.all_append,jk];rfl
instance Rk (m:Mb) (h:Nat->Bool) (e:TypeId) (a b:Bool):cL (.cells (fL m h) e a b):=jh (vC m h)
theorem EL(m:Mb)(h:Nat->Bool){i:Nat}(hi:i<384)(z:Int):(fL m h).set (7+i) (.int .i64 z)=fL {m with lev:=cn m.lev i z} h:=by
 unfold fL
 rw[List.set_append_left _ _ (by rw[aI];omega)]
 congr 1
 rw[Nat.add_comm]
 show .int .u8 m.kind :: .int .i64 m.qp::cy (m.v 0)::cy (m.v 1)::cy (m.v 2)::cy (m.v 3) :: .bool m.edge::(ti .i64 384 m.lev).set i (.int .i64 z)=_
 rw[tb];rfl
theorem MF(m:Mb)(h:Nat->Bool){off s:Nat}(h7:7<=off)(hs:off+s<=391):((fL m h).drop off).take s=ti .i64 s fun i=>m.lev (off-7+i):=by
 unfold fL
 rw[List.drop_append_of_le_length (by rw[aI];omega),List.take_append_of_le_length (by rw[List.length_drop,aI];omega),O0 m h7 hs]
theorem ui(m:Mb)(h:Nat->Bool):((fL m h).drop 0).take 391=mC m:=by
 unfold fL
 rw[List.drop_zero,List.take_append_of_le_length (by rw[aI];omega),List.take_of_length_le (by rw[aI];omega)]
structure f9 where
 m:Mb
 S:bm
 r:Nat×Bool
def AY(B:List Bool)(mb:Int)(x:f9)(k:Nat):Int:=(aZ x.S mb k x.m.qp).2+(eI B x.r).1
def sL(B:List Bool)(mb:Int)(x:f9)(k:Nat):Prop:=AY B mb x k<0\/127<AY B mb x k
instance (B:List Bool) (mb:Int) (x:f9) (k:Nat):Decidable (sL B mb x k):=by unfold sL;infer_instance
def oW(B:List Bool)(mb:Int)(x:f9)(k:Nat):Int:=if sL B mb x k then 0 else AY B mb x k
def Ll(B:List Bool)(mb:Int)(x:f9)(k:Nat):Mb:={x.m with lev:=cn x.m.lev (k*64) (oW B mb x k)}
def ot(B:List Bool)(mb:Int)(x:f9)(k:Nat):f9:=
 ⟨Ll B mb x k,bu x.S mb k ⟨aL (Ll B mb x k) k,(Ll B mb x k).qp⟩,if sL B mb x k then((eI B x.r).2.1,true)else(eI B x.r).2⟩
def cY(B:List Bool)(mb:Int)(x:f9):Nat->f9
 | 0=>x
 | k+1=>ot B mb (cY B mb x k) k
theorem Hc(B:List Bool)(r:Nat×Bool) : -5000<=(eI B r).1/\(eI B r).1<=5000:=by
 have hr:=oS (K:=12) (by decide) Ih B (cZ.T.length/2) 0 r
 have hs:cH B r<=12:=by unfold cH;have:(kO cZ B r).1<=12:=hr.2;omega
 have hn:0<=(lI B r).1/\(lI B r).1<2^cH B r:=iM B (cH B r) (kO cZ B r).2
 have hp:(2:Int)^cH B r<=4096:=by
  have:=Nat.pow_le_pow_right (show 0<2 by decide) hs
  have h2:((2^cH B r:Nat):Int)<=((2^12:Nat):Int):=Int.ofNat_le.2 this
  rw[Int.natCast_pow]at h2
  exact h2
 unfold eI
 split
 ·simp only[];omega
 ·omega
theorem C7{L:List Int}{B:List Bool}(hB:c_ L B)(x:f9)(hs:Nat->Bool)(mb:Int)(hD:gq x.S.cols x.S.rows)(hmb:0<=mb/\mb<x.S.cols*x.S.rows)(hq : -1000000<=x.m.qp/\x.m.qp<=1000000) :
 bh Tryz.prog 68 [.one (.ptr 2 0),.one (.ptr 0 0),.one (.int .i64 mb),.one (.ptr 22 0)] [bp 1 L B x.r.1 x.r.2,aK L,dK (x.S),bO 4 8 12,aw 5 6 7 cM,aR cM,aT cM,aS cM,aw 9 10 11 cZ,aR cZ,aT cZ,aS cZ,aw 13 14 15 cP,aR cP,aT cP,aS cP,cq 17 (x.S).cols (x.S).rows,.map (a_ (x.S).M),.cells [.int .i64 (x.S).cols,.int .i64 (x.S).rows,.map 19,.map 20,.map 21] 171 false false,.map (ag (x.S).A),.map (ag (x.S).B),.map (ag (x.S).C),.cells (fL x.m hs) 56 false false] (.tup []) [bp 1 L B (cY B mb x 6).r.1 (cY B mb x 6).r.2,aK L,dK ((cY B mb x 6).S),bO 4 8 12,aw 5 6 7 cM,aR cM,aT cM,aS cM,aw 9 10 11 cZ,aR cZ,aT cZ,aS cZ,aw 13 14 15 cP,aR cP,aT cP,aS cP,cq 17 ((cY B mb x 6).S).cols ((cY B mb x 6).S).rows,.map (a_ ((cY B mb x 6).S).M),.cells [.int .i64 ((cY B mb x 6).S).cols,.int .i64 ((cY B mb x 6).S).rows,.map 19,.map 20,.map 21] 171 false false,.map (ag ((cY B mb x 6).S).A),.map (ag ((cY B mb x 6).S).B),.map (ag ((cY B mb x 6).S).C),.cells (fL (cY B mb x 6).m hs) 56 false false]:=by
 obtain⟨y,hy⟩:∃y,cY B mb x 6=y:=⟨_,rfl⟩
 rw[hy]
 refine cO Tryz.func68 ?_
 repeat' (first|refine zz ?_|refine zx (fun _=>?_) (fun _=>?_)|fail)
 refine WX.dA (σ:=Nat×f9) (fun s=>[(12,.one (.int .i64 (s.1:Nat))),(0,.one (.ptr 2 0)),(1,.one (.ptr 0 0)),(2,.one (.int .i64 mb)),(3,.one (.ptr 22 0))]) (fun s=>[bp 1 L B s.2.r.1 s.2.r.2,aK L,dK (s.2.S),bO 4 8 12,aw 5 6 7 cM,aR cM,aT cM,aS cM,aw 9 10 11 cZ,aR cZ,aT cZ,aS cZ,aw 13 14 15 cP,aR cP,aT cP,aS cP,cq 17 (s.2.S).cols (s.2.S).rows,.map (a_ (s.2.S).M),.cells [.int .i64 (s.2.S).cols,.int .i64 (s.2.S).rows,.map 19,.map 20,.map 21] 171 false false,.map (ag (s.2.S).A),.map (ag (s.2.S).B),.map (ag (s.2.S).C),.cells (fL s.2.m hs) 56 false false]) (fun s=>s.1<=6/\cY B mb x s.1=s.2/\s.2.S.cols=x.S.cols/\s.2.S.rows=x.S.rows/\s.2.m.qp=x.m.qp) (fun s=>6-s.1) (0,x) ⟨by show 0<=6;omega,rfl,rfl,rfl,rfl⟩ (fun s _=>lS) (cG [0,1,2,3,4,5,6,7,8,9,10,11,12,13,14,15,16,17,18,19,20,21,22]) ?_
 intro s ⟨g1,g2,g3,g4,g5⟩ ih
 have hD':gq s.2.S.cols s.2.S.rows:=by rw[g3,g4];exact hD
 have hmb':0<=mb/\mb<s.2.S.cols*s.2.S.rows:=by rw[g3,g4];exact hmb
 by_cases h6:s.1<6
 ·have hu:=Hc B s.2.r
  have hf:=lh s.2.S mb s.1 s.2.m.qp
  obtain⟨m',hm'⟩:∃m',Ll B mb s.2 s.1=m':=⟨_,rfl⟩
  have hw:((fL m' hs).drop (7+s.1*64+0)).take 64=ti .i64 64 (aL m' s.1):=by
   rw[Nat.add_zero,MF m' hs (by omega) (by omega)]
   refine sf fun i hi=>?_
   unfold aL
   congr 1
   omega
  have hg0:cY B mb x (s.1+1)=ot B mb s.2 s.1:=by show ot B mb (cY B mb x s.1) s.1=_;rw[g2]
  have hqp:m'.qp=s.2.m.qp:=by rw[<-hm'];rfl
  by_cases hb:sL B mb s.2 s.1
  ·have hN:ot B mb s.2 s.1=⟨m',bu s.2.S mb s.1 ⟨aL m' s.1,m'.qp⟩,((eI B s.2.r).2.1,true)⟩:=by
    unfold ot
    rw[hm',if_pos hb]
   have hset:(fL s.2.m hs).set (7+s.1*64+0) (.int .i64 0)=fL m' hs:=by
    rw[Nat.add_zero,EL _ _ (by omega),<-hm',Ll,oW,if_pos hb]
   have hb':=hb
   unfold sL AY at hb'
   repeat' (first
    |(refine qz ?_;first
     |refine cl ?_ (hi:=by exact iJ (S:=s.2.S) (mb:=mb) (k:=(s.1:Nat)) (q:=s.2.m.qp) hD' hmb' (by omega) rfl rfl rfl rfl rfl)
     |refine cl ?_ (hi:=by exact KJ hB s.2.r (S:=s.2.S) rfl rfl rfl nL rfl)
     |refine cl ?_ (hi:=by exact gH (p:=(eI B s.2.r).2.1) (e:=(eI B s.2.r).2.2) rfl rfl (by decide) nL rfl)
     |refine st ?_ (hle:=by rw[cc];omega) (hv:=hset)
     |refine sO (cs:=ti .i64 64 (aL m' s.1)) ?_ (hle:=by rw[cc];omega) (hc:=hw)
     |refine cl ?_ (hi:=by exact l_ (S:=s.2.S) (mb:=mb) (k:=(s.1:Nat)) (b:=⟨aL m' s.1,m'.qp⟩) hD' hmb' (by omega) rfl rfl rfl rfl nA rfl))
    |refine zz ?_|refine zx (fun _=>?_) (fun _=>?_)|fail)
   all_goals exact ih (s.1+1,⟨m',bu s.2.S mb s.1 ⟨aL m' s.1,m'.qp⟩,((eI B s.2.r).2.1,true)⟩) _ _ _ (cG [0,1,2,3,4,5,6,7,8,9,10,11,12,13,14,15,16,17,18,19,20,21,22]) ⟨by show s.1+1<=6;omega,by show _=_;rw[hg0,hN],g3,g4,by show m'.qp=_;rw[hqp,g5]⟩ (by show 6-(s.1+1)<_;omega)
  ·have hN:ot B mb s.2 s.1=⟨m',bu s.2.S mb s.1 ⟨aL m' s.1,m'.qp⟩,(eI B s.2.r).2⟩:=by
    unfold ot
    rw[hm',if_neg hb]
   have hset:(fL s.2.m hs).set (7+s.1*64+0) (.int .i64 ((aZ s.2.S mb s.1 s.2.m.qp).2+(eI B s.2.r).1))=fL m' hs:=by
    rw[Nat.add_zero,EL _ _ (by omega),<-hm',Ll,oW,if_neg hb];rfl
   have hb':=hb
   unfold sL AY at hb'
   repeat' (first
    |(refine qz ?_;first
     |refine cl ?_ (hi:=by exact iJ (S:=s.2.S) (mb:=mb) (k:=(s.1:Nat)) (q:=s.2.m.qp) hD' hmb' (by omega) rfl rfl rfl rfl rfl)
     |refine cl ?_ (hi:=by exact KJ hB s.2.r (S:=s.2.S) rfl rfl rfl nL rfl)
     |refine st ?_ (hle:=by rw[cc];omega) (hv:=hset)
     |refine sO (cs:=ti .i64 64 (aL m' s.1)) ?_ (hle:=by rw[cc];omega) (hc:=hw)
     |refine cl ?_ (hi:=by exact l_ (S:=s.2.S) (mb:=mb) (k:=(s.1:Nat)) (b:=⟨aL m' s.1,m'.qp⟩) hD' hmb' (by omega) rfl rfl rfl rfl nA rfl))
    |refine zz ?_|refine zx (fun _=>?_) (fun _=>?_)|fail)
   all_goals exact ih (s.1+1,⟨m',bu s.2.S mb s.1 ⟨aL m' s.1,m'.qp⟩,(eI B s.2.r).2⟩) _ _ _ (cG [0,1,2,3,4,5,6,7,8,9,10,11,12,13,14,15,16,17,18,19,20,21,22]) ⟨by show s.1+1<=6;omega,by show _=_;rw[hg0,hN],g3,g4,by show m'.qp=_;rw[hqp,g5]⟩ (by show 6-(s.1+1)<_;omega)
 ·have e6:s.1=6:=by omega
  have ey:s.2=y:=by rw[<-g2,e6,hy]
  subst ey
  repeat' (first|refine zz ?_|refine zx (fun _=>?_) (fun _=>?_)|fail)
  show aB _ _ _ _ _ _ _ _;refine kV [0,1,2,3,4,5,6,7,8,9,10,11,12,13,14,15,16,17,18,19,20,21,22] ?_
  all_goals rfl
end Go.Proofs.YtagpkhindehcbaaGreat
namespace Go.Xm
variable [ax]
variable {P:Program} {ops:Array Oper} {nt nI:Nat} {al:bn} {hs:aj} {o:Oper} {l:List Oper} {L:List aG} {K:List Ab->bn->aj->Prop} {d:Nat}
theorem Qc{t:TypeId}{a y:Operand}{s i off:Nat}{cs vs vs':List XC}{e:TypeId}{opn:Bool}{hs':aj}(hk:SK P ops nt L l al hs' fun bs=>K (⟨true,.none,[i]⟩::bs))(hs2:off+s<=vs.length)(hv:vs.take off++cs++vs.drop (off+s)=vs')(ho:o.op = .store t a y:=by exact rfl)(ht:aQ P t s:=by infer_instance)(hw:av ops (rg al) o=some true:=by exact rfl)(hd:o.dst = .none:=by exact rfl)
 (ha:ai (rg al) a = .one (.ptr i off):=by exact rfl) (hy:db (ai (rg al) y)=some cs:=by exact rfl) (hi:hs[i]? = some (.cells vs e opn false):=by exact rfl) (hs1:s=cs.length:=by exact rfl) (hh:hs.set i (.cells vs' e opn false)=hs':=by first|(simp only[List.set_cons_succ,List.set_cons_zero];exact rfl)|exact rfl):SK P ops nt L (o::l) al hs K:=
 GL ho hw hd ha hy hi hs1 hs2 hv hh hk
end Go.Xm
namespace Go.Proofs.YtagpkhindehcbaaGreat
open Go.Xm
variable [ax]
def lC:Mb:=⟨0,0,fun _=>(0,0),false,fun _=>0⟩
def pR:Nat->Bool:=fun _=>false
theorem Aq:bD Tryz.prog 56 (fL lC pR):=by
 have h:([.int .u8 0,.int .i64 0,.cplx .f64 0 0,.cplx .f64 0 0,.cplx .f64 0 0,.cplx .f64 0 0,.bool false]++(ti .i64 384 fun _=>0)++[.bool false,.bool false,.bool false,.bool false,.bool false,.bool false]:List XC)=fL lC pR:=by
  unfold fL mC lC
  simp only[<-d9]
  rfl
 rw[<-h]
 infer_instance
def sN(h:Nat->Bool):List XC:=[.bool (h 0),.bool (h 1),.bool (h 2),.bool (h 3),.bool (h 4),.bool (h 5)]
theorem d8(m:Mb)(h:Nat->Bool):fL m h = .int .u8 m.kind :: .int .i64 m.qp::cy (m.v 0)::cy (m.v 1)::cy (m.v 2)::cy (m.v 3) :: .bool m.edge::(ti .i64 384 m.lev++sN h):=by
 simp only[fL,mC,List.cons_append,sN]
theorem Bv(m:Mb)(h:Nat->Bool)(z:Int):(fL m h).set 0 (.int .u8 z)=fL {m with kind:=z} h:=by
 rw[d8];exact(d8 {m with kind:=z} h).symm
theorem O7(m:Mb)(h:Nat->Bool)(z:Int):(fL m h).set 1 (.int .i64 z)=fL {m with qp:=z} h:=by
 rw[d8];exact(d8 {m with qp:=z} h).symm
theorem Jr(m:Mb)(h:Nat->Bool)(b:Bool):(fL m h).set 6 (.bool b)=fL {m with edge:=b} h:=by
 rw[d8];exact(d8 {m with edge:=b} h).symm
def ku(v:Nat->Int×Int)(k:Nat)(x:Int×Int):Nat->Int×Int:=fun j=>if j=k then x else v j
theorem EM(m:Mb)(h:Nat->Bool){k:Nat}(hk:k<4)(x:Int×Int):(fL m h).set (2+k) (cy x)=fL {m with v:=ku m.v k x} h:=by
 rw[d8]
 refine Eq.trans ?_ (d8 {m with v:=ku m.v k x} h).symm
 match k,hk with
 | 0,_=>rfl
 | 1,_=>rfl
 | 2,_=>rfl
 | 3,_=>rfl
theorem O8(m:Mb)(h:Nat->Bool)(x:Int×Int):(fL m h).take 2++[cy x,cy x,cy x,cy x]++(fL m h).drop (2+4)=fL {m with v:=fun _=>x} h:=by
 rw[d8]
 exact(d8 {m with v:=fun _=>x} h).symm
theorem fD(m:Mb)(h:Nat->Bool):(fL m h)[0]? = some (.int .u8 m.kind):=by rw[d8];rfl
theorem Jt(m:Mb)(h:Nat->Bool){k:Nat}(hk:k<4):(fL m h)[2+k]? = some (cy (m.v k)):=by
 rw[d8]
 match k,hk with
 | 0,_=>rfl
 | 1,_=>rfl
 | 2,_=>rfl
 | 3,_=>rfl
def Hg(h:Nat->Bool)(j:Nat):Nat->Bool:=fun i=>if i<j then h i else false
theorem pS(m:Mb)(h:Nat->Bool){j:Nat}(hj:j<6):(fL m (Hg h j)).set (391+j) (.bool (h j))=fL m (Hg h (j+1)):=by
 unfold fL
 rw[List.set_append_right _ _ (by rw[aI];omega),aI]
 rw[Nat.add_sub_cancel_left]
 refine congrArg (mC m ++ ·) ?_
 show(sN (Hg h j)).set j _=sN (Hg h (j+1))
 match j,hj with
 | 0,_=>rfl
 | 1,_=>rfl
 | 2,_=>rfl
 | 3,_=>rfl
 | 4,_=>rfl
 | 5,_=>rfl
theorem MD(m:Mb)(h:Nat->Bool):fL m (Hg h 6)=fL m h:=by
 rw[d8,d8];rfl
theorem Js(m:Mb)(h:Nat->Bool):fL m (Hg h 0)=fL m pR:=by
 rw[d8,d8];rfl
theorem Dy{f:FuncId}{args args':List XV}{v:XV}[bC v]{L:List Int}{B:List Bool}{p p':Nat}{e e':Bool}{S S':bm}{l l':aj}(ls:List Nat)(hc:bh Tryz.prog f args (bp 1 L B p e::aK L::(dY S++l)) v (bp 1 L B p' e'::aK L::(dY S'++l')))
 {HS:aj}(hi:HS[0]? = some (bp 1 L B p e)) (hk:HS[1]? = some (aK L)) (hS:(HS.drop 2).take 20=dY S) (hnd:(0::1::(bQ++ls)).Nodup) (hv:ae (nth (0::1::(bQ++ls))) HS ls l) (hl:ls.length=l.length) (hl':l'.length=l.length) (hok:bl (22+l.length) l) (hok':bl (22+l.length) l') (hren:dq (nth (0::1::(bQ++ls))) l' l') (hro:ee l l'=true) (hle:l.length<100)
 (ha:fk (22+l.length) args) (hr:dT (nth (0::1::(bQ++ls))) args args') {HS':aj}(hh:bK HS (0::1::(bQ++ls)) (bp 1 L B p' e'::aK L::(dY S'++l'))=HS') (hbd:Nat.blt HS'.length Mem.bound=true) :
 aG.Sound Tryz.prog ⟨f,args',HS,v,HS',0::1::(bQ++ls)⟩:=by
 have ht:∀j,2<=j->j<22->nth (0::1::(bQ++ls)) j=j:=nV 1 ls
 have ht':∀j,nth ((0::1::(bQ++ls))++List.range' HS.length 0) j=nth (0::1::(bQ++ls)) j:=fun j=>by
  rw[List.range'_zero,List.append_nil]
 have ht2:nth ((0::1::(bQ++ls))++List.range' HS.length 0)=nth (0::1::(bQ++ls)):=funext ht'
 have hln:(bp 1 L B p e::aK L::(dY S++l)).length=22+l.length:=by simp;omega
 have hln':(bp 1 L B p' e'::aK L::(dY S'++l')).length=22+l.length:=by simp;omega
 refine bT (0::1::(bQ++ls)) (0::1::(bQ++ls)) 0 hc hnd (.cons hi (.flat hk (pZ S ht hS hv))) (by rw[hln];exact .cons (by simp[ak.ca,XC.ok];omega) (.flat (gM S _ (by omega) hok))) (by rw[hln'];exact .cons (by simp[ak.ca,XC.ok];omega) (.flat (gM S' _ (by omega) hok'))) (by simp;omega) (by rw[hln];exact ha) hr (bC.ok _) (bC.ay _) ?_ ?_ ?_ hh hbd (.inl rfl)
 ·rw[ht2]
  exact .cons rfl (.flat (r8 S' ht hren))
 ·simp only[ee,ak.live,ak.own,List.cons_append,List.nil_append,hro,Bool.and_true,Bool.true_and]
  simp
 ·rw[hln]
  have h:122<=Mem.bound:=Nat.le_of_ble_eq_true rfl
  unfold Nat.blt
  rw[Nat.ble_eq]
  omega
theorem GA(L:List Int)(B:List Bool)(p:Nat)(e:Bool)(S:bm)(hD:gq S.cols S.rows)(mb:Int)(hmb:0<=mb/\mb<S.cols*S.rows)(m:Mb) :
 bh Tryz.prog 53 [.one (.ptr 2 0),.one (.int .i64 mb),.agg (mC m)] [bp 1 L B p e,aK L,dK (S),bO 4 8 12,aw 5 6 7 cM,aR cM,aT cM,aS cM,aw 9 10 11 cZ,aR cZ,aT cZ,aS cZ,aw 13 14 15 cP,aR cP,aT cP,aS cP,cq 17 (S).cols (S).rows,.map (a_ (S).M),.cells [.int .i64 (S).cols,.int .i64 (S).rows,.map 19,.map 20,.map 21] 171 false false,.map (ag (S).A),.map (ag (S).B),.map (ag (S).C)] (.tup []) [bp 1 L B p e,aK L,dK (aY S mb m.v),bO 4 8 12,aw 5 6 7 cM,aR cM,aT cM,aS cM,aw 9 10 11 cZ,aR cZ,aT cZ,aS cZ,aw 13 14 15 cP,aR cP,aT cP,aS cP,cq 17 (aY S mb m.v).cols (aY S mb m.v).rows,.map (a_ (aY S mb m.v).M),.cells [.int .i64 (aY S mb m.v).cols,.int .i64 (aY S mb m.v).rows,.map 19,.map 20,.map 21] 171 false false,.map (ag (aY S mb m.v).A),.map (ag (aY S mb m.v).B),.map (ag (aY S mb m.v).C)]:=by
 refine cO Tryz.func53 ?_
 repeat' (first
  |(refine qz ?_;first
   |refine sO (cs:=vt m.v) ?_ (hle:=by rw[aI];decide)
   |refine xp ?_
   |refine cl ?_ (hi:=by exact dE (M:=S.M) (cols:=S.cols) (rows:=S.rows) (i:=16) (j:=17) (k:=0) (v:=m.v 0) hD hmb (by decide) rfl rfl (by decide) nA rfl)
   |refine cl ?_ (hi:=by exact dE (M:=aW S.M S.cols mb 0 (m.v 0)) (cols:=S.cols) (rows:=S.rows) (i:=16) (j:=17) (k:=1) (v:=m.v 1) hD hmb (by decide) rfl rfl (by decide) nA rfl)
   |refine cl ?_ (hi:=by exact dE (M:=aW (aW S.M S.cols mb 0 (m.v 0)) S.cols mb 1 (m.v 1)) (cols:=S.cols) (rows:=S.rows) (i:=16) (j:=17) (k:=2) (v:=m.v 2) hD hmb (by decide) rfl rfl (by decide) nA rfl)
   |refine cl ?_ (hi:=by exact dE (M:=aW (aW (aW S.M S.cols mb 0 (m.v 0)) S.cols mb 1 (m.v 1)) S.cols mb 2 (m.v 2)) (cols:=S.cols) (rows:=S.rows) (i:=16) (j:=17) (k:=3) (v:=m.v 3) hD hmb (by decide) rfl rfl (by decide) nA rfl))
  |refine WX.loop ?_|refine WX.round ?_|refine zz ?_|refine zx (fun _=>?_) (fun _=>?_)|fail)
 show aB _ _ _ _ _ _ _ _;refine kV [0,1,2,3,4,5,6,7,8,9,10,11,12,13,14,15,16,17,18,19,20,21] ?_
 rfl
theorem BN{L:List Int}{B:List Bool}{r:Nat×Bool}{S:bm}(hD:gq S.cols S.rows){mb:Int}(hmb:0<=mb/\mb<S.cols*S.rows){m:Mb}{HS:aj}(hi:HS[0]? = some (bp 1 L B r.1 r.2))(hk:HS[1]? = some (aK L))(hS:(HS.drop 2).take 20=dY S){HS':aj}(hh:bK HS (0::1::bQ) (bp 1 L B r.1 r.2::aK L::dY (aY S mb m.v))=HS')(hbd:Nat.blt HS'.length Mem.bound=true) :
 aG.Sound Tryz.prog ⟨53,[.one (.ptr 2 0),.one (.int .i64 mb),.agg (mC m)],HS,.tup [],HS',0::1::bQ⟩:=by
 have hc:=GA L B r.1 r.2 S hD mb hmb m
 have hc':bh Tryz.prog 53 [.one (.ptr 2 0),.one (.int .i64 mb),.agg (mC m)] (bp 1 L B r.1 r.2::aK L::(dY S++[])) (.tup []) (bp 1 L B r.1 r.2::aK L::(dY (aY S mb m.v)++[])):=by
  rw[List.append_nil,List.append_nil];exact hc
 have h:=Dy (S:=S) (S':=aY S mb m.v) (l:=[]) (l':=[]) (args':=[.one (.ptr 2 0),.one (.int .i64 mb),.agg (mC m)]) [] hc' hi hk hS (by decide) .nil rfl rfl .nil .nil .nil rfl (by decide) (.cons (by show 2<22;omega) (.flat (.flat .nil))) (.cons rfl (.flat (.flat .nil))) (HS':=HS') (by rw[List.append_nil,List.append_nil];exact hh) hbd
 rw[List.append_nil]at h
 exact h
theorem F1{L:List Int}{B:List Bool}(hB:c_ L B){x:f9}{hs:Nat->Bool}{mb:Int}(hD:gq x.S.cols x.S.rows)(hmb:0<=mb/\mb<x.S.cols*x.S.rows)(hq : -1000000<=x.m.qp/\x.m.qp<=1000000){HS:aj}(hi:HS[0]? = some (bp 1 L B x.r.1 x.r.2))(hk:HS[1]? = some (aK L))(hS:(HS.drop 2).take 20=dY x.S)(h23:HS[23]? = some (.cells (fL x.m hs) 56 false false)){HS':aj}(hh:bK HS (0::1::(bQ++[23])) (bp 1 L B (cY B mb x 6).r.1 (cY B mb x 6).r.2::aK L::(dY (cY B mb x 6).S++[.cells (fL (cY B mb x 6).m hs) 56 false false]))=HS')(hbd:Nat.blt HS'.length Mem.bound=true) :
 aG.Sound Tryz.prog ⟨68,[.one (.ptr 2 0),.one (.ptr 0 0),.one (.int .i64 mb),.one (.ptr 23 0)],HS,.tup [],HS',0::1::(bQ++[23])⟩:=by
 obtain⟨y,hy⟩:∃y,cY B mb x 6=y:=⟨_,rfl⟩
 have hc:=C7 hB x hs mb hD hmb hq
 rw[hy]at hc hh
 obtain⟨o1,ho1⟩:∃o,ak.cells (fL x.m hs) 56 false false=o:=⟨_,rfl⟩
 obtain⟨o2,ho2⟩:∃o,ak.cells (fL y.m hs) 56 false false=o:=⟨_,rfl⟩
 have f1:cL o1:=ho1▸inferInstance
 have f2:cL o2:=ho2▸inferInstance
 have hro:ee [o1] [o2]=true:=by subst ho1 ho2;simp[ee,ak.live,ak.own]
 rw[ho1,ho2]at hc
 rw[ho2]at hh
 rw[ho1]at h23
 exact Dy (S:=x.S) (S':=y.S) (l:=[o1]) (l':=[o2]) [23] hc hi hk hS (by decide) (.flat h23 .nil) rfl rfl (.flat .nil) (.flat .nil) (.flat .nil) hro (show 1<100 by omega) (.cons (by show 2<23;omega) (.cons (by show 0<23;omega) (.flat (.cons (by show 22<23;omega) .nil)))) (.cons rfl (.cons rfl (.flat (.cons rfl .nil)))) hh hbd
end Go.Proofs.YtagpkhindehcbaaGreat
namespace Go.Proofs.YtagpkhindehcbaaGreat
open Go.Xm
variable [ax]
theorem rr{m:Mb}{b:Bool}(ha:alone m=b){HS:aj}(hb:Nat.blt HS.length Mem.bound=true):aG.Sound Tryz.prog ⟨13,[.agg (mC m)],HS,.one (.bool b),HS,[]⟩:=by
 subst ha;exact oN hb
def dD(m:Mb)(k:Nat)(l:Nat->Int):Mb:={m with lev:=fun i=>if k*64<=i/\i<k*64+64 then l (i-k*64)else m.lev i}
theorem Df(m:Mb){k:Nat}(hk:k<6)(l:Nat->Int):(mC m).take (7+k*64)++ti .i64 64 l++(mC m).drop (7+k*64+64)=mC (dD m k l):=by
 have h1:∀m:Mb,mC m=(.int .u8 m.kind :: .int .i64 m.qp::cy (m.v 0)::cy (m.v 1)::cy (m.v 2)::cy (m.v 3) :: .bool m.edge::[])++ti .i64 384 m.lev:=fun m=>rfl
 have hm:(dD m k l).kind=m.kind/\(dD m k l).qp=m.qp/\(dD m k l).v=m.v/\(dD m k l).edge=m.edge:=⟨rfl,rfl,rfl,rfl⟩
 rw[h1 m,h1 (dD m k l),hm.1,hm.2.1,hm.2.2.1,hm.2.2.2]
 rw[List.take_append,List.drop_append]
 simp only[List.length_cons,List.length_nil]
 rw[List.take_of_length_le (by simp only[List.length_cons,List.length_nil];omega),List.drop_of_length_le (by simp only[List.length_cons,List.length_nil];omega),List.nil_append,List.append_assoc,List.append_assoc]
 congr 1
 apply List.ext_getElem?
 intro i
 rw[show 7+k*64-(0+1+1+1+1+1+1+1)=k*64 by omega,show 7+k*64+64-(0+1+1+1+1+1+1+1)=k*64+64 by omega]
 by_cases hi:i<384
 ·rw [fz (f:=(dD m k l).lev) hi]
  by_cases h1:i<k*64
  ·rw[List.getElem?_append_left (by rw[List.length_take,aD];omega),List.getElem?_take_of_lt h1,fz hi]
   show _=some (XC.int .i64 (if k*64<=i/\i<k*64+64 then _ else _))
   rw[if_neg (by omega)]
  ·rw[List.getElem?_append_right (by rw[List.length_take,aD];omega),List.length_take,aD,show min (k*64) 384=k*64 by omega]
   by_cases h2:i<k*64+64
   ·rw[List.getElem?_append_left (by rw[aD];omega),fz (by omega)]
    show _=some (XC.int .i64 (if k*64<=i/\i<k*64+64 then _ else _))
    rw[if_pos (by omega)]
   ·rw[List.getElem?_append_right (by rw[aD];omega),aD,List.getElem?_drop,fz (by omega)]
    show _=some (XC.int .i64 (if k*64<=i/\i<k*64+64 then _ else _))
    rw[if_neg (by omega),show k*64+64+(i-k*64-64)=i by omega]
 ·have e1:(ti .i64 384 (dD m k l).lev)[i]? = none:=List.getElem?_eq_none (by rw[aD];omega)
  rw[e1,List.getElem?_eq_none]
  rw[List.length_append,List.length_append,List.length_take,List.length_drop,aD,aD];omega
theorem De(m:Mb){i:Nat}(hi:i<384):(mC m)[7+i]? = some (.int .i64 (m.lev i)):=by
 rw[Nat.add_comm]
 show(ti .i64 384 m.lev)[i]? = _
 exact fz hi
noncomputable def hJ(S:bm)(mb:Int)(k:Nat)(m:Mb)(rest:Nat->Int):Option (bm×Mb):=
 if alone m=true then
  (if m.edge=true then kh (c9 (dC m.edge (aZ S mb k m.qp).1) rest) (cu S mb k m.qp)else some (c9 (dC m.edge (aZ S mb k m.qp).1) rest)).map fun l=>
    (bu S mb k ⟨cn l 0 (m.lev (k*64)),m.qp⟩,dD m k (cn l 0 (m.lev (k*64))))
 else some (S,dD m k (c9 0 rest))
theorem vG{edge:Bool}{frm o:Int}(ho:dC edge frm=o){HS:aj}(hb:Nat.blt HS.length Mem.bound=true):aG.Sound Tryz.prog ⟨71,[.one (.bool edge),.one (.int .u8 frm)],HS,.one (.int .u8 o),HS,[]⟩:=by
 subst ho;exact km hb
theorem Jc{m:Mb}{b:Bool}(h:m.edge=b):(mC m)[6]? = some (.bool b):=congrArg (fun b=>some (XC.bool b)) h
section
variable {S:bm} {mb:Int} {k:Nat} {m:Mb} {rest:Nat->Int}
theorem QD(hk:k<6)(ha:alone m=false) :
 bh Tryz.prog 38 [.one (.ptr 2 0),.one (.int .i64 mb),.one (.int .i64 (k:Nat)),.one (.ptr 0 0),.agg (ti .i64 64 rest)] [mw m,.dead,dK (S),bO 4 8 12,aw 5 6 7 cM,aR cM,aT cM,aS cM,aw 9 10 11 cZ,aR cZ,aT cZ,aS cZ,aw 13 14 15 cP,aR cP,aT cP,aS cP,cq 17 (S).cols (S).rows,.map (a_ (S).M),.cells [.int .i64 (S).cols,.int .i64 (S).rows,.map 19,.map 20,.map 21] 171 false false,.map (ag (S).A),.map (ag (S).B),.map (ag (S).C)] (.one (.bool true)) [mw (dD m k (c9 0 rest)),.dead,dK (S),bO 4 8 12,aw 5 6 7 cM,aR cM,aT cM,aS cM,aw 9 10 11 cZ,aR cZ,aT cZ,aS cZ,aw 13 14 15 cP,aR cP,aT cP,aS cP,cq 17 (S).cols (S).rows,.map (a_ (S).M),.cells [.int .i64 (S).cols,.int .i64 (S).rows,.map 19,.map 20,.map 21] 171 false false,.map (ag (S).A),.map (ag (S).B),.map (ag (S).C)]:=by
 refine cO Tryz.func38 ?_
 repeat' (first
  |(refine qz ?_;first
   |refine fC ?_ (hle:=by rw[aI])
   |refine fC ?_ (hle:=by rw[aD])
   |refine cl ?_ (hi:=by exact rr ha rfl)
   |refine cl ?_ (hi:=by exact r_ (.inl rfl) rfl)
   |refine Qc ?_ (by rw[aI];omega) (Df m hk (c9 0 rest)) (hs1:=by rw[aD]))
  |refine zz ?_|refine zx (fun _=>?_) (fun _=>?_)|fail)
 show aB _ _ _ _ _ _ _ _;refine kV [0,1,2,3,4,5,6,7,8,9,10,11,12,13,14,15,16,17,18,19,20,21] ?_
 rfl
theorem QE(hD:gq S.cols S.rows)(hmb:0<=mb/\mb<S.cols*S.rows)(hk:k<6)(ha:alone m=true)(he:m.edge=false){o:Int}(ho:dC false (aZ S mb k m.qp).1=o){l:Nat->Int}(hl:cn (c9 o rest) 0 (m.lev (k*64))=l) :
 bh Tryz.prog 38 [.one (.ptr 2 0),.one (.int .i64 mb),.one (.int .i64 (k:Nat)),.one (.ptr 0 0),.agg (ti .i64 64 rest)] [mw m,.dead,dK (S),bO 4 8 12,aw 5 6 7 cM,aR cM,aT cM,aS cM,aw 9 10 11 cZ,aR cZ,aT cZ,aS cZ,aw 13 14 15 cP,aR cP,aT cP,aS cP,cq 17 (S).cols (S).rows,.map (a_ (S).M),.cells [.int .i64 (S).cols,.int .i64 (S).rows,.map 19,.map 20,.map 21] 171 false false,.map (ag (S).A),.map (ag (S).B),.map (ag (S).C)] (.one (.bool true)) [mw (dD m k l),.dead,dK ((bu S mb k ⟨l,m.qp⟩)),bO 4 8 12,aw 5 6 7 cM,aR cM,aT cM,aS cM,aw 9 10 11 cZ,aR cZ,aT cZ,aS cZ,aw 13 14 15 cP,aR cP,aT cP,aS cP,cq 17 ((bu S mb k ⟨l,m.qp⟩)).cols ((bu S mb k ⟨l,m.qp⟩)).rows,.map (a_ ((bu S mb k ⟨l,m.qp⟩)).M),.cells [.int .i64 ((bu S mb k ⟨l,m.qp⟩)).cols,.int .i64 ((bu S mb k ⟨l,m.qp⟩)).rows,.map 19,.map 20,.map 21] 171 false false,.map (ag ((bu S mb k ⟨l,m.qp⟩)).A),.map (ag ((bu S mb k ⟨l,m.qp⟩)).B),.map (ag ((bu S mb k ⟨l,m.qp⟩)).C)]:=by
 subst hl
 have hor:=eQ false (aZ S mb k m.qp).1
 rw[ho]at hor
 have hE:=Jc he
 have hq:(mC m)[1]? = some (.int .i64 m.qp):=rfl
 have hL:=De m (i:=k*64) (by omega)
 refine cO Tryz.func38 ?_
 repeat' (first
  |(refine qz ?_;first
   |refine fC ?_ (hle:=by rw[aI])
   |refine fC ?_ (hle:=by rw[aD])
   |refine ld (hc:=hE) ?_
   |refine ld (hc:=hL) ?_
   |refine cl ?_ (hi:=by exact rr ha rfl)
   |refine cl ?_ (hi:=by exact iJ (S:=S) hD hmb (by omega) rfl rfl rfl rfl rfl)
   |refine cl ?_ (hi:=by exact vG ho rfl)
   |refine cl ?_ (hi:=by exact r_ hor rfl)
   |refine Qc ?_ (by rw[aI];omega) (Df m hk (cn (c9 o rest) 0 (m.lev (k*64)))) (hs1:=by rw[aD])
   |refine cl ?_ (hi:=by exact l_ (S:=S) (b:=⟨cn (c9 o rest) 0 (m.lev (k*64)),m.qp⟩) hD hmb (by omega) rfl rfl rfl rfl nA rfl))
  |refine Hn (id:=5) [8] ?_|refine zz ?_|refine zx (fun _=>?_) (fun _=>?_)|fail)
 show aB _ _ _ _ _ _ _ _;refine kV [0,1,2,3,4,5,6,7,8,9,10,11,12,13,14,15,16,17,18,19,20,21] ?_
 rfl
theorem QF(hD:gq S.cols S.rows)(hmb:0<=mb/\mb<S.cols*S.rows)(hk:k<6)(ha:alone m=true)(he:m.edge=true){o:Int}(ho:dC true (aZ S mb k m.qp).1=o)(hb1:∀i,-1000000<=c9 o rest i/\c9 o rest i<=1000000)(hb2:∀i,-1000000<=cu S mb k m.qp i/\cu S mb k m.qp i<=1000000){l2:Nat->Int}(hm:kh (c9 o rest) (cu S mb k m.qp)=some l2){l:Nat->Int}(hl:cn l2 0 (m.lev (k*64))=l) :
 bh Tryz.prog 38 [.one (.ptr 2 0),.one (.int .i64 mb),.one (.int .i64 (k:Nat)),.one (.ptr 0 0),.agg (ti .i64 64 rest)] [mw m,.dead,dK (S),bO 4 8 12,aw 5 6 7 cM,aR cM,aT cM,aS cM,aw 9 10 11 cZ,aR cZ,aT cZ,aS cZ,aw 13 14 15 cP,aR cP,aT cP,aS cP,cq 17 (S).cols (S).rows,.map (a_ (S).M),.cells [.int .i64 (S).cols,.int .i64 (S).rows,.map 19,.map 20,.map 21] 171 false false,.map (ag (S).A),.map (ag (S).B),.map (ag (S).C)] (.one (.bool true)) [mw (dD m k l),.dead,dK ((bu S mb k ⟨l,m.qp⟩)),bO 4 8 12,aw 5 6 7 cM,aR cM,aT cM,aS cM,aw 9 10 11 cZ,aR cZ,aT cZ,aS cZ,aw 13 14 15 cP,aR cP,aT cP,aS cP,cq 17 ((bu S mb k ⟨l,m.qp⟩)).cols ((bu S mb k ⟨l,m.qp⟩)).rows,.map (a_ ((bu S mb k ⟨l,m.qp⟩)).M),.cells [.int .i64 ((bu S mb k ⟨l,m.qp⟩)).cols,.int .i64 ((bu S mb k ⟨l,m.qp⟩)).rows,.map 19,.map 20,.map 21] 171 false false,.map (ag ((bu S mb k ⟨l,m.qp⟩)).A),.map (ag ((bu S mb k ⟨l,m.qp⟩)).B),.map (ag ((bu S mb k ⟨l,m.qp⟩)).C)]:=by
 subst hl
 have hor:=eQ true (aZ S mb k m.qp).1
 rw[ho]at hor
 have hE:=Jc he
 have hL:=De m (i:=k*64) (by omega)
 refine cO Tryz.func38 ?_
 repeat' (first
  |(refine qz ?_;first
   |refine fC ?_ (hle:=by rw[aI])
   |refine fC ?_ (hle:=by rw[aD])
   |refine ld (hc:=hE) ?_
   |refine ld (hc:=hL) ?_
   |refine cl ?_ (hi:=by exact rr ha rfl)
   |refine cl ?_ (hi:=by exact iJ (S:=S) hD hmb (by omega) rfl rfl rfl rfl rfl)
   |refine cl ?_ (hi:=by exact px (S:=S) hD hmb (by omega) rfl rfl rfl rfl rfl)
   |refine cl ?_ (hi:=by exact vG ho rfl)
   |refine cl ?_ (hi:=by exact r_ hor rfl)
   |refine cl ?_ (hi:=by exact EI hb1 hb2 hm rfl)
   |refine kr ?_ (hs1:=by rw[aD]) (hs2:=by rw[aD])
   |refine Qc ?_ (by rw[aI];omega) (Df m hk (cn l2 0 (m.lev (k*64)))) (hs1:=by rw[aD])
   |refine cl ?_ (hi:=by exact l_ (S:=S) (b:=⟨cn l2 0 (m.lev (k*64)),m.qp⟩) hD hmb (by omega) rfl rfl rfl rfl nA rfl))
  |refine Hn (id:=5) [8] ?_|refine Hn (id:=7) [16] ?_|refine zz ?_|refine zx (fun _=>?_) (fun _=>?_)|fail)
 show aB _ _ _ _ _ _ _ _;refine kV [0,1,2,3,4,5,6,7,8,9,10,11,12,13,14,15,16,17,18,19,20,21] ?_
 rfl
theorem QG(hD:gq S.cols S.rows)(hmb:0<=mb/\mb<S.cols*S.rows)(hk:k<6)(ha:alone m=true)(he:m.edge=true){o:Int}(ho:dC true (aZ S mb k m.qp).1=o)(hb1:∀i,-1000000<=c9 o rest i/\c9 o rest i<=1000000)(hb2:∀i,-1000000<=cu S mb k m.qp i/\cu S mb k m.qp i<=1000000)(hm:kh (c9 o rest) (cu S mb k m.qp)=none) :
 bh Tryz.prog 38 [.one (.ptr 2 0),.one (.int .i64 mb),.one (.int .i64 (k:Nat)),.one (.ptr 0 0),.agg (ti .i64 64 rest)] [mw m,.dead,dK (S),bO 4 8 12,aw 5 6 7 cM,aR cM,aT cM,aS cM,aw 9 10 11 cZ,aR cZ,aT cZ,aS cZ,aw 13 14 15 cP,aR cP,aT cP,aS cP,cq 17 (S).cols (S).rows,.map (a_ (S).M),.cells [.int .i64 (S).cols,.int .i64 (S).rows,.map 19,.map 20,.map 21] 171 false false,.map (ag (S).A),.map (ag (S).B),.map (ag (S).C)] (.one (.bool false)) [mw m,.dead,dK (S),bO 4 8 12,aw 5 6 7 cM,aR cM,aT cM,aS cM,aw 9 10 11 cZ,aR cZ,aT cZ,aS cZ,aw 13 14 15 cP,aR cP,aT cP,aS cP,cq 17 (S).cols (S).rows,.map (a_ (S).M),.cells [.int .i64 (S).cols,.int .i64 (S).rows,.map 19,.map 20,.map 21] 171 false false,.map (ag (S).A),.map (ag (S).B),.map (ag (S).C)]:=by
 have hor:=eQ true (aZ S mb k m.qp).1
 rw[ho]at hor
 have hE:=Jc he
 have hL:=De m (i:=k*64) (by omega)
 refine cO Tryz.func38 ?_
 repeat' (first
  |(refine qz ?_;first
   |refine fC ?_ (hle:=by rw[aI])
   |refine fC ?_ (hle:=by rw[aD])
   |refine ld (hc:=hE) ?_
   |refine ld (hc:=hL) ?_
   |refine cl ?_ (hi:=by exact rr ha rfl)
   |refine cl ?_ (hi:=by exact iJ (S:=S) hD hmb (by omega) rfl rfl rfl rfl rfl)
   |refine cl ?_ (hi:=by exact px (S:=S) hD hmb (by omega) rfl rfl rfl rfl rfl)
   |refine cl ?_ (hi:=by exact vG ho rfl)
   |refine cl ?_ (hi:=by exact r_ hor rfl)
   |refine cl ?_ (hi:=by exact EI hb1 hb2 hm rfl))
  |refine Hn (id:=5) [8] ?_|refine Hn (id:=7) [16] ?_|refine zz ?_|refine zx (fun _=>?_) (fun _=>?_)|fail)
 show aB _ _ _ _ _ _ _ _;refine kV [0,1,2,3,4,5,6,7,8,9,10,11,12,13,14,15,16,17,18,19,20,21] ?_
 rfl
end
end Go.Proofs.YtagpkhindehcbaaGreat
