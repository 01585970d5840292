/-
  A part of the proof: StaR, TabS, EvLaw, Blocks0, Firsts, OutL, Fill1.
-/
import Derived.Test.YtagpkhindehcbaaGreatKfF
import Derived.Test.YtagpkhindehcbaaGreatKfP
set_option maxRecDepth 10000
set_option maxHeartbeats 8000000
set_option linter.unusedVariables false
set_option linter.unusedSectionVars false
set_option linter.unusedSimpArgs false
namespace Go.Proofs.YtagpkhindehcbaaGreat
open Go.Xm
variable [ax]
theorem OX(a b c:List XC)(e e':TypeId)(S S':bm):d9 (.cells a e false false :: .cells b e' false false::ep S) (.cells c e false false :: .cells b e' false false::ep S')=true:=by
 simp[d9,ak.live,ak.own]
theorem QP{f:FuncId}{more:List XV}(hm:∀τ,dR τ more more)(hmo:fq 22 more){v:XV}[bE v]{L:List Int}{B:List Bool}{p p':Nat}{e e':Bool}{S:bm}(hc:bh Tryz.prog f (.one (.ptr 2 0) :: .one (.ptr 0 0)::more) (bt 1 L B p e::aL L::ep S) v (bt 1 L B p' e'::aL L::ep S))
 {HS:aj}(hi:HS[0]? = some (bt 1 L B p e)) (hk:HS[1]? = some (aL L)) (hS:(HS.drop 2).take 20=ep S) {HS':aj}(hh:HS.set 0 (bt 1 L B p' e')=HS') (hbd:Nat.blt HS'.length Mem.bound=true) :
 aG.Sound Tryz.prog ⟨f,.one (.ptr 2 0) :: .one (.ptr 0 0)::more,HS,v,HS',[0]⟩:=by
 have nd:=r9 (k:=1) (.inl rfl)
 have ht:∀j,2<=j->j<22->nth (0::1::bR) j=j:=fun j h1 h2=>by
  have:=nS 1 [] j h1 h2
  rwa [List.append_nil]at this
 have ht':∀j,2<=j->j<22->nth ((0::1::bR)++List.range' HS.length 0) j=j:=nS 1 _
 have hv:=pU S ht hS (ls:=[]) .nil
 rw[List.append_nil,List.append_nil]at hv
 have ho:=gK S 22 (Nat.le_refl _) (l:=[]) .nil
 rw[List.append_nil]at ho
 have hr:=r8 S ht' (l:=[]) (l':=[]) .nil
 rw[List.append_nil]at hr
 have hh':bK HS (0::1::bR) (bt 1 L B p' e'::aL L::ep S)=HS':=by
  rw[<-hh,bK,bK,aF (i:=1) (by rw[List.getElem?_set_ne (by decide)];exact hk)]
  have:=qV bR (ep S) (HS.set 0 (bt 1 L B p' e')) [] rfl fun j i hj=>by
   obtain⟨h1,rfl⟩:=uh hj
   have hl:j<(ep S).length:=h1
   exact⟨(ep S)[j],by rw[List.getElem?_set_ne (by omega),zD hS h1,List.getElem?_eq_getElem hl],List.getElem?_eq_getElem hl⟩
  rw[List.append_nil,List.append_nil]at this
  exact this
 refine bO (0::1::bR) [0] 0 hc nd (.cons hi (.flat hk hv)) (.cons (by simp[ak.b7,XC.ok]) (.flat ho)) (.cons (by simp[ak.b7,XC.ok]) (.flat ho)) rfl (.cons (by show 2<22;omega) (.cons (by show 0<22;omega) hmo)) (.cons rfl (.cons rfl (hm _))) (bE.ok _) (bE.ay _) ?_ (OX ..) rfl hh' hbd (.inr fun j hjl hj=>?_)
 ·exact .cons rfl (.flat hr)
 ·subst hh
  exact List.getElem?_set_ne (fun h=>hj (by rw[<-h];exact List.mem_singleton.2 rfl))
theorem Kw{L:List Int}{B:List Bool}(h:dp L B)(r:Nat×Bool){S:bm}{HS:aj}(hi:HS[0]? = some (bt 1 L B r.1 r.2))(hk:HS[1]? = some (aL L))(hS:(HS.drop 2).take 20=ep S){HS':aj}(hh:HS.set 0 (bt 1 L B (eI B r).2.1 (eI B r).2.2)=HS')(hbd:Nat.blt HS'.length Mem.bound=true) :
 aG.Sound Tryz.prog ⟨96,[.one (.ptr 2 0),.one (.ptr 0 0)],HS,.one (.int .i64 (eI B r).1),HS',[0]⟩:=
 QP (fun _ => .nil) .nil (Ng h r S) hi hk hS hh hbd
def zh(S:bm)(mb k dx dy:Int):Option Kn:=dt S.A S.B S.C S.cols (placeOf S.cols mb k).1 ((placeOf S.cols mb k).2.1-dx) ((placeOf S.cols mb k).2.2-dy)
def a_(S:bm)(mb k q:Int):Int×Int:=j5 (zh S mb k 1 0) (zh S mb k 0 1) (zh S mb k 1 1) q
def cq(S:bm)(mb k q:Int):Nat->Int:=uQ (zh S mb k 1 0) (zh S mb k 0 1) (zh S mb k 1 1) q
def mz(S:bm)(mb k:Int):Int:=(placeOf S.cols mb k).2.2*df S.cols (placeOf S.cols mb k).1+(placeOf S.cols mb k).2.1
def bu(S:bm)(mb k:Int)(b:Kn):bm:={S with A:=jt (placeOf S.cols mb k).1 0 S.A (mz S mb k) b,B:=jt (placeOf S.cols mb k).1 1 S.B (mz S mb k) b,C:=jt (placeOf S.cols mb k).1 2 S.C (mz S mb k) b}
theorem bN(n q:Int):0<=dG n q/\dG n q<=127:=by
 have h:=nZ q
 have:0<=(max n 0+stepOf q/2)/stepOf q:=Int.ediv_nonneg (by omega) (by omega)
 unfold dG
 omega
theorem Iu(la lb lc:Option Kn)(q:Int):0<=(j5 la lb lc q).2/\(j5 la lb lc q).2<=127/\0<=(j5 la lb lc q).1/\(j5 la lb lc q).1<=2:=by
 unfold j5
 cases la<;>cases lb<;>simp only[]
 ·exact⟨(bN _ _).1,(bN _ _).2,by simp,by simp⟩
 ·exact⟨(bN _ _).1,(bN _ _).2,by simp,by simp⟩
 ·exact⟨(bN _ _).1,(bN _ _).2,by simp,by simp⟩
 ·cases lc<;>simp only[]<;>split
  ·exact⟨(bN _ _).1,(bN _ _).2,by simp,by simp⟩
  ·exact⟨(bN _ _).1,(bN _ _).2,by simp,by simp⟩
  ·exact⟨(bN _ _).1,(bN _ _).2,by simp,by simp⟩
  ·exact⟨(bN _ _).1,(bN _ _).2,by simp,by simp⟩
theorem lg(S:bm)(mb k q:Int):0<=(a_ S mb k q).2/\(a_ S mb k q).2<=127/\0<=(a_ S mb k q).1/\(a_ S mb k q).1<=2:=Iu _ _ _ _
section
variable {S:bm} {mb k q:Int}(hD:gR S.cols S.rows) (hmb:0<=mb/\mb<S.cols*S.rows) (hk:0<=k/\k<6)
include hD hmb hk
theorem Rt:iG S.cols S.rows mb k=true:=j7.2 ⟨hmb.1,hmb.2,hk⟩
theorem Kl:bh Tryz.prog 70 [.one (.ptr 0 0),.one (.int .i64 mb),.one (.int .i64 k),.one (.int .i64 q)] (bX S.cols S.rows S.A S.B S.C) (kN (a_ S mb k q)) (bX S.cols S.rows S.A S.B S.C):=
 rB ⟨hD.c0,hD.c1⟩ ⟨by have:=hD.r0;omega,hD.r1⟩ (Rt hD hmb hk) (p:=(placeOf S.cols mb k).1) (x:=(placeOf S.cols mb k).2.1) (y:=(placeOf S.cols mb k).2.2) rfl (by unfold zh;rw[Int.sub_zero]) (by unfold zh;rw[Int.sub_zero]) rfl
theorem GY:bh Tryz.prog 73 [.one (.ptr 0 0),.one (.int .i64 mb),.one (.int .i64 k),.one (.int .i64 q)] (bX S.cols S.rows S.A S.B S.C) (.agg (ti .i64 64 (cq S mb k q))) (bX S.cols S.rows S.A S.B S.C):=
 Im ⟨hD.c0,hD.c1⟩ ⟨by have:=hD.r0;omega,hD.r1⟩ (Rt hD hmb hk) (p:=(placeOf S.cols mb k).1) (x:=(placeOf S.cols mb k).2.1) (y:=(placeOf S.cols mb k).2.2) rfl (by unfold zh;rw[Int.sub_zero]) (by unfold zh;rw[Int.sub_zero]) rfl
theorem Ku(b:Kn):bh Tryz.prog 74 [.one (.ptr 0 0),.one (.int .i64 mb),.one (.int .i64 k),.agg (dO b)] (bX S.cols S.rows S.A S.B S.C) (.tup []) (bX S.cols S.rows (bu S mb k b).A (bu S mb k b).B (bu S mb k b).C):=
 MJ ⟨hD.c0,hD.c1⟩ ⟨by have:=hD.r0;omega,hD.r1⟩ (Rt hD hmb hk) (p:=(placeOf S.cols mb k).1) (x:=(placeOf S.cols mb k).2.1) (y:=(placeOf S.cols mb k).2.2) rfl b
theorem iI{HS:aj}(ha:HS[18]? = some (.cells [.int .i64 S.cols,.int .i64 S.rows,.map 19,.map 20,.map 21] 171 false false))(hb:HS[19]? = some (.map (ag S.A)))(hc:HS[20]? = some (.map (ag S.B)))(hd:HS[21]? = some (.map (ag S.C)))(hbd:Nat.blt HS.length Mem.bound=true) :
 aG.Sound Tryz.prog ⟨70,[.one (.ptr 18 0),.one (.int .i64 mb),.one (.int .i64 k),.one (.int .i64 q)],HS,kN (a_ S mb k q),HS,[]⟩:=
 aJ (Kl hD hmb hk) 18 19 20 21 (by decide) ha hb hc hd rfl rfl hbd
theorem pq{HS:aj}(ha:HS[18]? = some (.cells [.int .i64 S.cols,.int .i64 S.rows,.map 19,.map 20,.map 21] 171 false false))(hb:HS[19]? = some (.map (ag S.A)))(hc:HS[20]? = some (.map (ag S.B)))(hd:HS[21]? = some (.map (ag S.C)))(hbd:Nat.blt HS.length Mem.bound=true) :
 aG.Sound Tryz.prog ⟨73,[.one (.ptr 18 0),.one (.int .i64 mb),.one (.int .i64 k),.one (.int .i64 q)],HS,.agg (ti .i64 64 (cq S mb k q)),HS,[]⟩:=
 aJ (GY hD hmb hk) 18 19 20 21 (by decide) ha hb hc hd rfl (gX _ _ _) hbd
theorem l7{b:Kn}{HS HS':aj}(ha:HS[18]? = some (.cells [.int .i64 S.cols,.int .i64 S.rows,.map 19,.map 20,.map 21] 171 false false))(hb:HS[19]? = some (.map (ag S.A)))(hc:HS[20]? = some (.map (ag S.B)))(hd:HS[21]? = some (.map (ag S.C)))(hh:((HS.set 19 (.map (ag (bu S mb k b).A))).set 20 (.map (ag (bu S mb k b).B))).set 21 (.map (ag (bu S mb k b).C))=HS')(hbd:Nat.blt HS'.length Mem.bound=true) :
 aG.Sound Tryz.prog ⟨74,[.one (.ptr 18 0),.one (.int .i64 mb),.one (.int .i64 k),.agg (dO b)],HS,.tup [],HS',[19,20,21]⟩:=
 IJ (Ku hD hmb hk b) 18 19 20 21 (by decide) ha hb hc hd hh hbd
end
theorem n7{S:bm}{mb k q:Int}(h:∀dx dy b,zh S mb k dx dy=some b->∀i,-1000000<=b.lv i/\b.lv i<=1000000)(i:Nat) : -1000000<=cq S mb k q i/\cq S mb k q i<=1000000:=by
 have hem:∀(b:Kn) (s:Nat),(∀i,-1000000<=b.lv i/\b.lv i<=1000000)->∀n i,-1000000<=em b s n i/\em b s n i<=1000000:=by
  intro b s hb n
  induction n with
  | zero=>intro i;simp[em]
  | succ n ih=>
    intro i
    rw[nD]
    unfold cw
    split
    ·exact hb _
    ·exact ih i
 have ho:∀(o:Option Kn) (s:Nat),(∀b,o=some b->∀i,-1000000<=b.lv i/\b.lv i<=1000000) -> -1000000<=fv o s q i/\fv o s q i<=1000000:=by
  intro o s hb
  cases o with
  | none=>simp[fv,jG]
  | some b=>
    unfold fv
    simp only[]
    split
    ·exact hem b s (hb b rfl) _ i
    ·simp[jG]
 unfold cq uQ
 split
 ·exact ho _ _ (h 1 0)
 ·split
  ·exact ho _ _ (h 0 1)
  ·simp[jG]
end Go.Proofs.YtagpkhindehcbaaGreat
namespace Go.Proofs.YtagpkhindehcbaaGreat
open Go.Xm
variable [ax]
theorem vN{f:Nat->Int}(h:∀i,i<64 -> -2047<=f i/\f i<=2047):∀(n i:Nat) (run:Int),i+n=64->0<=run->run<=i->∀e∈eD f n i run,oE e/\e.2.2=false
 | 0,i,run,_,_,_,e,he=>by cases he
 | n + 1,i,run,h1,h2,h3,e,he=>by
   unfold eD at he
   by_cases hz:f i=0
   ·rw[if_pos hz]at he
    exact vN h n (i+1) (run+1) (by omega) (by omega) (by omega) e he
   ·rw[if_neg hz]at he
    rcases List.mem_cons.1 he with rfl|he
    ·exact⟨⟨⟨h2,by show run<=63;omega⟩,hz,h i (by omega)⟩,rfl⟩
    ·exact vN h n (i+1) 0 (by omega) (by omega) (by omega) e he
theorem u9:∀(l:List Ev) (j:Nat),(∀e∈l,e.2.2=false)->j<l.length->(iP l).getD j default=((l.getD j default).1,(l.getD j default).2.1,decide (j+1=l.length))
 | [],j,_,hj=>by simp at hj
 | [e],j,_,hj=>by
   have:j=0:=by simpa using hj
   subst this
   rfl
 | e::e2::l,0,hf,_=>by
   have:e.2.2=false:=hf e (List.mem_cons_self ..)
   show e=(e.1,e.2.1,decide (0+1=(e::e2::l).length))
   rw[decide_eq_false (by simp),<-this]
 | e :: e2::l,j+1,hf,hj=>by
   have ih:=u9 (e2::l) j (fun x hx=>hf x (List.mem_cons_of_mem _ hx)) (by simpa using hj)
   show(iP (e2::l)).getD j default=_
   rw[ih]
   show _=(((e2::l).getD j default).1,((e2::l).getD j default).2.1,decide (j+1+1=(e::e2::l).length))
   have:decide (j+1=(e2::l).length)=decide (j+1+1=(e::e2::l).length):=by
    simp only[List.length_cons]
    rcases Classical.em (j+1=l.length+1)with g|g
    ·rw[decide_eq_true g,decide_eq_true (by omega)]
    ·rw[decide_eq_false g,decide_eq_false (by omega)]
   rw[this]
theorem MH{f:Nat->Int}{st:Nat}(hst:st<=64)(h:∀i,i<64 -> -2047<=f i/\f i<=2047):dS f st = []\/jW (dS f st):=by
 have hg:=vN h (64-st) st 0 (by omega) (Int.le_refl _) (by omega)
 have hlen:=sU f (64-st) st 0
 unfold dS
 generalize eD f (64-st) st 0=l at hg hlen ⊢
 cases hl:l with
 | nil=>exact .inl rfl
 | cons a t=>
   right
   rw[<-hl]
   have hpos:0<l.length:=by rw[hl];simp
   have hget:∀j,j<l.length->(iP l).getD j default=((l.getD j default).1,(l.getD j default).2.1,decide (j+1=l.length)):=fun j hj=>u9 l j (fun e he=>(hg e he).2) hj
   have hmem:∀j,j<l.length->l.getD j default∈l:=fun j hj=>by
    rw[List.getD_eq_getElem?_getD,List.getElem?_eq_getElem hj]
    exact List.getElem_mem hj
   refine⟨by rw[iQ];omega,fun j hj=>?_,fun j hj=>?_⟩
   ·rw[iQ]at hj
    have:=(hg _ (hmem j hj)).1
    rw[hget j hj]
    exact⟨this.run,this.nz,this.lev⟩
   ·rw[iQ]at hj
    rw[hget j hj,iQ]
theorem JQ{o:Int}(ho:o=0\/o=1\/o=2){f:Nat->Int}(h:∀i,i<64 -> -2047<=f i/\f i<=2047):∀i,i<64 -> -2047<=hU o f i/\hU o f i<=2047:=fun i hi=>by
 have:=kP ho hi
 exact h _ (by omega)
structure oD where
 S:bm
 B:List Bool
 pat:Int
 col:Int
 ev:Nat->List Ev
def aK(m:Mb)(k:Nat)(i:Nat):Int:=m.lev (k*64+i)
noncomputable def fW(m:Mb)(S:bm)(mb:Int)(k:Nat):Option (Nat->Int):=
 if alone m=true then(if m.edge=true then ot (aK m k) (cq S mb k m.qp)else some (aK m k)).map fun r=>cw r 0 0 else some (aK m k)
noncomputable def nr(m:Mb)(S:bm)(mb:Int)(k:Nat)(r:Nat->Int):List Ev:=dS (hU (dD m.edge (a_ S mb k m.qp).1) r) (if alone m=true then 1 else 0)
def kA(pat k:Int):Int:=Es .i64 pat (8/2^k.toNat)
def kx(col k:Int):Int:=Es .u64 col (2/2^(k-4).toNat)
noncomputable def cC(m:Mb)(mb:Int)(k:Nat)(x:oD)(ev:List Ev):oD:=
 ⟨if alone m=true then bu x.S mb k ⟨aK m k,m.qp⟩else x.S,if alone m=true then x.B++bY (aK m k 0-(a_ x.S mb k m.qp).2)else x.B,if 0<ev.length/\k<4 then kA x.pat k else x.pat,if 0<ev.length/\¬k<4 then kx x.col k else x.col,fun j=>if j=k then ev else x.ev j⟩
noncomputable def fJ(m:Mb)(mb:Int)(x0:oD):Nat->Option oD
 | 0=>some x0
 | k+1=>(fJ m mb x0 k).bind fun x=>(fW m x.S mb k).map fun r=>cC m mb k x (nr m x.S mb k r)
theorem Fq{m:Mb}{mb:Int}{x0:oD}{k:Nat}(h:fJ m mb x0 k=none):∀j,k<=j->fJ m mb x0 j=none:=by
 intro j hj
 induction hj with
 | refl=>exact h
 | step _ ih=>rw[fJ,ih];rfl
def An(T:oJ):Prop:=∀key b,cH T key=some b->∀i,-1000000<=b.lv i/\b.lv i<=1000000
def ux(S:bm):Prop:=An S.A/\An S.B/\An S.C
theorem IX{T:oJ}(h:An T){key:Int}{b:Kn}(hb:∀i,-1000000<=b.lv i/\b.lv i<=1000000):An (oH T key b):=fun key' b' h'=>by
 rw[f9]at h'
 split at h'
 ·cases h';exact hb
 ·exact h key' b' h'
theorem mO{p q:Int}{T:oJ}(h:An T){key:Int}{b:Kn}(hb:∀i,-1000000<=b.lv i/\b.lv i<=1000000):An (jt p q T key b):=by
 unfold jt
 split
 ·exact IX h hb
 ·exact h
theorem mN:An []:=fun key b h=>by cases h
structure iX(S:bm):Prop where
 dims:gR S.cols S.rows
 lev:ux S
 tiny:cj S.M
theorem zi{S:bm}(h:ux S){mb k dx dy:Int}{b:Kn}(hb:zh S mb k dx dy=some b):∀i,-1000000<=b.lv i/\b.lv i<=1000000:=by
 unfold zh dt cI at hb
 split at hb
 ·cases hb
 ·unfold bU at hb
  split at hb
  ·exact h.1 _ _ hb
  ·split at hb
   ·exact h.2.1 _ _ hb
   ·exact h.2.2 _ _ hb
structure jE(m:Mb):Prop where
 ok:iK m
 kind:m.kind<=4
 lev:∀i,i<384 -> -2047<=m.lev i/\m.lev i<=2047
 first:alone m=true->∀k,k<6->0<=m.lev (k*64)/\m.lev (k*64)<=127
structure Cr(m:Mb)(mb:Int)(x0:oD)(s:Nat×oD):Prop where
 le:s.1<=6
 run:fJ m mb x0 s.1=some s.2
 st:iX s.2.S
 cr:s.2.S.cols=x0.S.cols/\s.2.S.rows=x0.S.rows
 len:s.2.B.length<=x0.B.length+76*s.1
 nil:∀j,s.1<=j->s.2.ev j = []
 evs:∀j,s.2.ev j = []\/jW (s.2.ev j)
 pat:0<=s.2.pat/\s.2.pat<16
 col:0<=s.2.col/\s.2.col<4
theorem Jj:∀(a:Fin 16) (k:Fin 4),0<=kA (a.val:Int) (k.val:Int)/\kA (a.val:Int) (k.val:Int)<16:=by decide +kernel
theorem Ic:∀(a:Fin 4) (k:Fin 2),0<=kx (a.val:Int) ((k.val+4:Nat):Int)/\kx (a.val:Int) ((k.val+4:Nat):Int)<4:=by decide +kernel
theorem Bq{a:Int}{k:Nat}(h:0<=a/\a<16)(hk:k<4):0<=kA a k/\kA a k<16:=by
 have:=Jj ⟨a.toNat,by omega⟩ ⟨k,hk⟩
 simp only[Int.toNat_of_nonneg h.1]at this
 exact this
theorem AG{a:Int}{k:Nat}(h:0<=a/\a<4)(hk:¬k<4)(hk6:k<6):0<=kx a k/\kx a k<4:=by
 have:=Ic ⟨a.toNat,by omega⟩ ⟨k-4,by omega⟩
 simp only[Int.toNat_of_nonneg h.1,show k-4+4=k by omega]at this
 exact this
theorem mK{m:Mb}(hg:jE m){S:bm}{mb:Int}{k:Nat}(ha:alone m=true)(hk:k<6) : -4000<=aK m k 0-(a_ S mb k m.qp).2/\aK m k 0-(a_ S mb k m.qp).2<=4000:=by
 have h1:=hg.first ha k hk
 have h2:=lg S mb k m.qp
 have e:aK m k 0=m.lev (k*64):=by unfold aK;rw[Nat.add_zero]
 rw[e]
 omega
theorem IW{m:Mb}(hg:jE m){k:Nat}(hk:k<6):∀i,i<64 -> -2047<=aK m k i/\aK m k i<=2047:=fun i hi=>hg.lev _ (by omega)
theorem F1{l e r:Nat->Int}(h:ot l e=some r):∀i,i<64 -> -2047<=r i/\r i<=2047:=by
 unfold ot at h
 split at h
 ·cases h
 ·rename_i hn
  cases h
  intro i hi
  have:¬lZ l e i:=fun hb=>hn ⟨i,hi,hb⟩
  unfold lZ at this
  show -2047<=l i-e i/\l i-e i<=2047
  omega
theorem Fp{m:Mb}(hg:jE m){S:bm}{mb:Int}{k:Nat}(hk:k<6){r:Nat->Int}(h:fW m S mb k=some r):∀i,i<64 -> -2047<=r i/\r i<=2047:=by
 have hl:=IW hg hk
 have hu:∀q:Nat->Int,(∀i,i<64 -> -2047<=q i/\q i<=2047)->∀i,i<64 -> -2047<=cw q 0 0 i/\cw q 0 0 i<=2047:=fun q hq i hi=>by
  unfold cw
  split
  ·omega
  ·exact hq i hi
 unfold fW at h
 split at h
 ·obtain⟨q,hq,rfl⟩:=Option.map_eq_some_iff.1 h
  split at hq
  ·exact hu q (F1 hq)
  ·cases hq;exact hu _ hl
 ·cases h;exact hl
theorem mH{m:Mb}(hg:jE m){mb:Int}{x0:oD}{s:Nat×oD}(h:Cr m mb x0 s)(h6:s.1<6){r:Nat->Int}(hr:fW m s.2.S mb s.1=some r):Cr m mb x0 (s.1+1,cC m mb s.1 s.2 (nr m s.2.S mb s.1 r)):=by
 have hrr:=Fp hg h6 hr
 have hev:nr m s.2.S mb s.1 r = []\/jW (nr m s.2.S mb s.1 r):=by
  unfold nr
  exact MH (by split<;>omega) (JQ (eT _ _) hrr)
 refine⟨by show s.1+1<=6;omega,?_,?_,?_,?_,?_,?_,?_,?_⟩
 ·show fJ m mb x0 (s.1+1)=_
  rw[fJ,h.run]
  simp only[Option.bind_some,hr,Option.map_some]
 ·show iX (if alone m=true then bu s.2.S mb s.1 ⟨aK m s.1,m.qp⟩else s.2.S)
  split
  ·have hb:∀i,-1000000<=(Kn.mk (aK m s.1) m.qp).lv i/\(Kn.mk (aK m s.1) m.qp).lv i<=1000000:=fun i=>hg.ok.lev _
   exact⟨h.st.dims,⟨mO h.st.lev.1 hb,mO h.st.lev.2.1 hb,mO h.st.lev.2.2 hb⟩,h.st.tiny⟩
  ·exact h.st
 ·show(if alone m=true then bu s.2.S mb s.1 ⟨aK m s.1,m.qp⟩else s.2.S).cols=_/\(if alone m=true then bu s.2.S mb s.1 ⟨aK m s.1,m.qp⟩else s.2.S).rows=_
  split<;>exact h.cr
 ·show(if alone m=true then s.2.B++bY (aK m s.1 0-(a_ s.2.S mb s.1 m.qp).2)else s.2.B).length<=x0.B.length+76*(s.1+1)
  have:=h.len
  split
  ·rename_i ha
   have:=FB (mK hg (S:=s.2.S) (mb:=mb) ha h6)
   rw[List.length_append];omega
  ·omega
 ·intro j hj
  show(if j=s.1 then _ else s.2.ev j) = []
  have hj':s.1+1<=j:=hj
  rw[if_neg (by omega)]
  exact h.nil j (by omega)
 ·intro j
  show(if j=s.1 then _ else s.2.ev j) = []\/jW (if j=s.1 then _ else s.2.ev j)
  split
  ·exact hev
  ·exact h.evs j
 ·show 0<=(if _ then kA s.2.pat s.1 else s.2.pat)/\(if _ then kA s.2.pat s.1 else s.2.pat)<16
  split
  ·rename_i hc
   exact Bq h.pat hc.2
  ·exact h.pat
 ·show 0<=(if _ then kx s.2.col s.1 else s.2.col)/\(if _ then kx s.2.col s.1 else s.2.col)<4
  split
  ·rename_i hc
   exact AG h.col hc.2 h6
  ·exact h.col
def fj(x:oD):List Bool:=(x.B++c9 cP x.pat.toNat)++d8 x.col 2
def dq(bw:List Bool)(x:oD):Nat->List Bool
 | 0=>bw
 | k+1=>dq bw x k++fF (x.ev k)
theorem sE{bw:List Bool}{x:oD}(h:∀j,x.ev j = []\/jW (x.ev j)):∀k,(dq bw x k).length<=bw.length+3456*k
 | 0=>Nat.le_refl _
 | k + 1=>by
   rw[dq,List.length_append]
   have ih:=sE (bw:=bw) h k
   have:(fF (x.ev k)).length<=3456:=by
    rcases h k with e|e
    ·rw[e];simp[fF]
    ·have h1:=uX e _ (Nat.le_refl _)
     rw[List.take_length]at h1
     have:=e.len
     omega
   omega
theorem mX{m:Mb}{a:Bool}(ha:alone m=a){HS:aj}(hb:Nat.blt HS.length Mem.bound=true):aG.Sound Tryz.prog ⟨37,[.agg (mC m)],HS,.one (.int .i64 (if a=true then 1 else 0)),HS,[]⟩:=by
 subst ha
 exact sa hb
abbrev Ln(ev:Nat->List Ev):ak := .cells [fD 27 (ev 0).length 3,fD 28 (ev 1).length 3,fD 29 (ev 2).length 3,fD 30 (ev 3).length 3,fD 31 (ev 4).length 3,fD 32 (ev 5).length 3] 185 false false
def fZ(m:Mb)(h:Nat->Bool):List XC:=mC m++[.bool (h 0),.bool (h 1),.bool (h 2),.bool (h 3),.bool (h 4),.bool (h 5)]
theorem ca(m:Mb)(h:Nat->Bool):(fZ m h).length=397:=by simp[fZ,aI]
theorem vq(m:Mb)(h:Nat->Bool):(fZ m h).all XC.shut=true:=by
 unfold fZ
 rw[List.all_append,kO];rfl
instance Q1 (m:Mb) (h:Nat->Bool) (e:TypeId) (a b:Bool):c8 (.cells (fZ m h) e a b):=jj (vq m h)
theorem EA(m:Mb)(h:Nat->Bool){i:Nat}(hi:i<384)(z:Int):(fZ m h).set (7+i) (.int .i64 z)=fZ {m with lev:=cw m.lev i z} h:=by
 unfold fZ
 rw[List.set_append_left _ _ (by rw[aI];omega)]
 congr 1
 rw[Nat.add_comm]
 show .int .u8 m.kind :: .int .i64 m.qp::cD (m.v 0)::cD (m.v 1)::cD (m.v 2)::cD (m.v 3) :: .bool m.edge::(ti .i64 384 m.lev).set i (.int .i64 z)=_
 rw[s4];rfl
theorem Mq(m:Mb)(h:Nat->Bool){off s:Nat}(h7:7<=off)(hs:off+s<=391):((fZ m h).drop off).take s=ti .i64 s fun i=>m.lev (off-7+i):=by
 unfold fZ
 rw[List.drop_append_of_le_length (by rw[aI];omega),List.take_append_of_le_length (by rw[List.length_drop,aI];omega),OI m h7 hs]
theorem uc(m:Mb)(h:Nat->Bool):((fZ m h).drop 0).take 391=mC m:=by
 unfold fZ
 rw[List.drop_zero,List.take_append_of_le_length (by rw[aI];omega),List.take_of_length_le (by rw[aI];omega)]
structure gh where
 m:Mb
 S:bm
 r:Nat×Bool
def AO(B:List Bool)(mb:Int)(x:gh)(k:Nat):Int:=(a_ x.S mb k x.m.qp).2+(eI B x.r).1
def sI(B:List Bool)(mb:Int)(x:gh)(k:Nat):Prop:=AO B mb x k<0\/127<AO B mb x k
instance (B:List Bool) (mb:Int) (x:gh) (k:Nat):Decidable (sI B mb x k):=by unfold sI;infer_instance
def oY(B:List Bool)(mb:Int)(x:gh)(k:Nat):Int:=if sI B mb x k then 0 else AO B mb x k
def K9(B:List Bool)(mb:Int)(x:gh)(k:Nat):Mb:={x.m with lev:=cw x.m.lev (k*64) (oY B mb x k)}
def oo(B:List Bool)(mb:Int)(x:gh)(k:Nat):gh:=
 ⟨K9 B mb x k,bu x.S mb k ⟨aK (K9 B mb x k) k,(K9 B mb x k).qp⟩,if sI B mb x k then((eI B x.r).2.1,true)else(eI B x.r).2⟩
def da(B:List Bool)(mb:Int)(x:gh):Nat->gh
 | 0=>x
 | k+1=>oo B mb (da B mb x k) k
theorem G6(B:List Bool)(r:Nat×Bool) : -5000<=(eI B r).1/\(eI B r).1<=5000:=by
 have hr:=oU (K:=12) (by decide) H7 B (cZ.T.length/2) 0 r
 have hs:cQ B r<=12:=by unfold cQ;have:(kK cZ B r).1<=12:=hr.2;omega
 have hn:0<=(lF B r).1/\(lF B r).1<2^cQ B r:=iL B (cQ B r) (kK cZ B r).2
 have hp:(2:Int)^cQ B r<=4096:=by
  have:=Nat.pow_le_pow_right (show 0<2 by decide) hs
  have h2:((2^cQ B r:Nat):Int)<=((2^12:Nat):Int):=Int.ofNat_le.2 this
  rw[Int.natCast_pow]at h2
  exact h2
 unfold eI
 split
 ·simp only[];omega
 ·omega
theorem CV{L:List Int}{B:List Bool}(hB:dp L B)(x:gh)(hs:Nat->Bool)(mb:Int)(hD:gR x.S.cols x.S.rows)(hmb:0<=mb/\mb<x.S.cols*x.S.rows)(hq : -1000000<=x.m.qp/\x.m.qp<=1000000) :
 bh Tryz.prog 68 [.one (.ptr 2 0),.one (.ptr 0 0),.one (.int .i64 mb),.one (.ptr 22 0)] [bt 1 L B x.r.1 x.r.2,aL L,dJ (x.S),bM 4 8 12,aw 5 6 7 cM,aR cM,aT cM,aS cM,aw 9 10 11 cZ,aR cZ,aT cZ,aS cZ,aw 13 14 15 cP,aR cP,aT cP,aS cP,cn 17 (x.S).cols (x.S).rows,.map (ba (x.S).M),.cells [.int .i64 (x.S).cols,.int .i64 (x.S).rows,.map 19,.map 20,.map 21] 171 false false,.map (ag (x.S).A),.map (ag (x.S).B),.map (ag (x.S).C),.cells (fZ x.m hs) 56 false false] (.tup []) [bt 1 L B (da B mb x 6).r.1 (da B mb x 6).r.2,aL L,dJ ((da B mb x 6).S),bM 4 8 12,aw 5 6 7 cM,aR cM,aT cM,aS cM,aw 9 10 11 cZ,aR cZ,aT cZ,aS cZ,aw 13 14 15 cP,aR cP,aT cP,aS cP,cn 17 ((da B mb x 6).S).cols ((da B mb x 6).S).rows,.map (ba ((da B mb x 6).S).M),.cells [.int .i64 ((da B mb x 6).S).cols,.int .i64 ((da B mb x 6).S).rows,.map 19,.map 20,.map 21] 171 false false,.map (ag ((da B mb x 6).S).A),.map (ag ((da B mb x 6).S).B),.map (ag ((da B mb x 6).S).C),.cells (fZ (da B mb x 6).m hs) 56 false false]:=by
 obtain⟨y,hy⟩:∃y,da B mb x 6=y:=⟨_,rfl⟩
 rw[hy]
 refine cO Tryz.func68 ?_
 repeat' (first|refine zz ?_|refine zx (fun _=>?_) (fun _=>?_)|fail)
 refine WX.dw (σ:=Nat×gh) (fun s=>[(12,.one (.int .i64 (s.1:Nat))),(0,.one (.ptr 2 0)),(1,.one (.ptr 0 0)),(2,.one (.int .i64 mb)),(3,.one (.ptr 22 0))]) (fun s=>[bt 1 L B s.2.r.1 s.2.r.2,aL L,dJ (s.2.S),bM 4 8 12,aw 5 6 7 cM,aR cM,aT cM,aS cM,aw 9 10 11 cZ,aR cZ,aT cZ,aS cZ,aw 13 14 15 cP,aR cP,aT cP,aS cP,cn 17 (s.2.S).cols (s.2.S).rows,.map (ba (s.2.S).M),.cells [.int .i64 (s.2.S).cols,.int .i64 (s.2.S).rows,.map 19,.map 20,.map 21] 171 false false,.map (ag (s.2.S).A),.map (ag (s.2.S).B),.map (ag (s.2.S).C),.cells (fZ s.2.m hs) 56 false false]) (fun s=>s.1<=6/\da B mb x s.1=s.2/\s.2.S.cols=x.S.cols/\s.2.S.rows=x.S.rows/\s.2.m.qp=x.m.qp) (fun s=>6-s.1) (0,x) ⟨by show 0<=6;omega,rfl,rfl,rfl,rfl⟩ (fun s _=>lD) (cG [0,1,2,3,4,5,6,7,8,9,10,11,12,13,14,15,16,17,18,19,20,21,22]) ?_
 intro s ⟨g1,g2,g3,g4,g5⟩ ih
 have hD':gR s.2.S.cols s.2.S.rows:=by rw[g3,g4];exact hD
 have hmb':0<=mb/\mb<s.2.S.cols*s.2.S.rows:=by rw[g3,g4];exact hmb
 by_cases h6:s.1<6
 ·have hu:=G6 B s.2.r
  have hf:=lg s.2.S mb s.1 s.2.m.qp
  obtain⟨m',hm'⟩:∃m',K9 B mb s.2 s.1=m':=⟨_,rfl⟩
  have hw:((fZ m' hs).drop (7+s.1*64+0)).take 64=ti .i64 64 (aK m' s.1):=by
   rw[Nat.add_zero,Mq m' hs (by omega) (by omega)]
   refine sf fun i hi=>?_
   unfold aK
   congr 1
   omega
  have hg0:da B mb x (s.1+1)=oo B mb s.2 s.1:=by show oo B mb (da B mb x s.1) s.1=_;rw[g2]
  have hqp:m'.qp=s.2.m.qp:=by rw[<-hm'];rfl
  by_cases hb:sI B mb s.2 s.1
  ·have hN:oo B mb s.2 s.1=⟨m',bu s.2.S mb s.1 ⟨aK m' s.1,m'.qp⟩,((eI B s.2.r).2.1,true)⟩:=by
    unfold oo
    rw[hm',if_pos hb]
   have hset:(fZ s.2.m hs).set (7+s.1*64+0) (.int .i64 0)=fZ m' hs:=by
    rw[Nat.add_zero,EA _ _ (by omega),<-hm',K9,oY,if_pos hb]
   have hb':=hb
   unfold sI AO at hb'
   repeat' (first
    |(refine qz ?_;first
     |refine cl ?_ (hi:=by exact iI (S:=s.2.S) (mb:=mb) (k:=(s.1:Nat)) (q:=s.2.m.qp) hD' hmb' (by omega) rfl rfl rfl rfl rfl)
     |refine cl ?_ (hi:=by exact Kw hB s.2.r (S:=s.2.S) rfl rfl rfl nL rfl)
     |refine cl ?_ (hi:=by exact gG (p:=(eI B s.2.r).2.1) (e:=(eI B s.2.r).2.2) rfl rfl (by decide) nL rfl)
     |refine st ?_ (hle:=by rw[ca];omega) (hv:=hset)
     |refine t_ (cs:=ti .i64 64 (aK m' s.1)) ?_ (hle:=by rw[ca];omega) (hc:=hw)
     |refine cl ?_ (hi:=by exact l7 (S:=s.2.S) (mb:=mb) (k:=(s.1:Nat)) (b:=⟨aK m' s.1,m'.qp⟩) hD' hmb' (by omega) rfl rfl rfl rfl nA rfl))
    |refine zz ?_|refine zx (fun _=>?_) (fun _=>?_)|fail)
   all_goals exact ih (s.1+1,⟨m',bu s.2.S mb s.1 ⟨aK m' s.1,m'.qp⟩,((eI B s.2.r).2.1,true)⟩) _ _ _ (cG [0,1,2,3,4,5,6,7,8,9,10,11,12,13,14,15,16,17,18,19,20,21,22]) ⟨by show s.1+1<=6;omega,by show _=_;rw[hg0,hN],g3,g4,by show m'.qp=_;rw[hqp,g5]⟩ (by show 6-(s.1+1)<_;omega)
  ·have hN:oo B mb s.2 s.1=⟨m',bu s.2.S mb s.1 ⟨aK m' s.1,m'.qp⟩,(eI B s.2.r).2⟩:=by
    unfold oo
    rw[hm',if_neg hb]
   have hset:(fZ s.2.m hs).set (7+s.1*64+0) (.int .i64 ((a_ s.2.S mb s.1 s.2.m.qp).2+(eI B s.2.r).1))=fZ m' hs:=by
    rw[Nat.add_zero,EA _ _ (by omega),<-hm',K9,oY,if_neg hb];rfl
   have hb':=hb
   unfold sI AO at hb'
   repeat' (first
    |(refine qz ?_;first
     |refine cl ?_ (hi:=by exact iI (S:=s.2.S) (mb:=mb) (k:=(s.1:Nat)) (q:=s.2.m.qp) hD' hmb' (by omega) rfl rfl rfl rfl rfl)
     |refine cl ?_ (hi:=by exact Kw hB s.2.r (S:=s.2.S) rfl rfl rfl nL rfl)
     |refine st ?_ (hle:=by rw[ca];omega) (hv:=hset)
     |refine t_ (cs:=ti .i64 64 (aK m' s.1)) ?_ (hle:=by rw[ca];omega) (hc:=hw)
     |refine cl ?_ (hi:=by exact l7 (S:=s.2.S) (mb:=mb) (k:=(s.1:Nat)) (b:=⟨aK m' s.1,m'.qp⟩) hD' hmb' (by omega) rfl rfl rfl rfl nA rfl))
    |refine zz ?_|refine zx (fun _=>?_) (fun _=>?_)|fail)
   all_goals exact ih (s.1+1,⟨m',bu s.2.S mb s.1 ⟨aK m' s.1,m'.qp⟩,(eI B s.2.r).2⟩) _ _ _ (cG [0,1,2,3,4,5,6,7,8,9,10,11,12,13,14,15,16,17,18,19,20,21,22]) ⟨by show s.1+1<=6;omega,by show _=_;rw[hg0,hN],g3,g4,by show m'.qp=_;rw[hqp,g5]⟩ (by show 6-(s.1+1)<_;omega)
 ·have e6:s.1=6:=by omega
  have ey:s.2=y:=by rw[<-g2,e6,hy]
  subst ey
  repeat' (first|refine zz ?_|refine zx (fun _=>?_) (fun _=>?_)|fail)
  show aC _ _ _ _ _ _ _ _;refine kV [0,1,2,3,4,5,6,7,8,9,10,11,12,13,14,15,16,17,18,19,20,21,22] ?_
  all_goals rfl
end Go.Proofs.YtagpkhindehcbaaGreat
namespace Go.Xm
variable [ax]
variable {P:Program} {ops:Array Oper} {nt nI:Nat} {al:bl} {hs:aj} {o:Oper} {l:List Oper} {L:List aG} {K:List Ab->bl->aj->Prop} {d:Nat}
theorem PR{t:TypeId}{a y:Operand}{s i off:Nat}{cs vs vs':List XC}{e:TypeId}{opn:Bool}{hs':aj}(hk:SK P ops nt L l al hs' fun bs=>K (⟨true,.none,[i]⟩::bs))(hs2:off+s<=vs.length)(hv:vs.take off++cs++vs.drop (off+s)=vs')(ho:o.op = .store t a y:=by exact rfl)(ht:aP P t s:=by infer_instance)(hw:av ops (rg al) o=some true:=by exact rfl)(hd:o.dst = .none:=by exact rfl)
 (ha:ai (rg al) a = .one (.ptr i off):=by exact rfl) (hy:dh (ai (rg al) y)=some cs:=by exact rfl) (hi:hs[i]? = some (.cells vs e opn false):=by exact rfl) (hs1:s=cs.length:=by exact rfl) (hh:hs.set i (.cells vs' e opn false)=hs':=by first|(simp only[List.set_cons_succ,List.set_cons_zero];exact rfl)|exact rfl):SK P ops nt L (o::l) al hs K:=
 Gy ho hw hd ha hy hi hs1 hs2 hv hh hk
end Go.Xm
namespace Go.Proofs.YtagpkhindehcbaaGreat
open Go.Xm
variable [ax]
def ly:Mb:=⟨0,0,fun _=>(0,0),false,fun _=>0⟩
def pN:Nat->Bool:=fun _=>false
theorem Ag:bz Tryz.prog 56 (fZ ly pN):=by
 have h:([.int .u8 0,.int .i64 0,.cplx .f64 0 0,.cplx .f64 0 0,.cplx .f64 0 0,.cplx .f64 0 0,.bool false]++(ti .i64 384 fun _=>0)++[.bool false,.bool false,.bool false,.bool false,.bool false,.bool false]:List XC)=fZ ly pN:=by
  unfold fZ mC ly
  simp only[<-dX]
  rfl
 rw[<-h]
 infer_instance
def sK(h:Nat->Bool):List XC:=[.bool (h 0),.bool (h 1),.bool (h 2),.bool (h 3),.bool (h 4),.bool (h 5)]
theorem dW(m:Mb)(h:Nat->Bool):fZ m h = .int .u8 m.kind :: .int .i64 m.qp::cD (m.v 0)::cD (m.v 1)::cD (m.v 2)::cD (m.v 3) :: .bool m.edge::(ti .i64 384 m.lev++sK h):=by
 simp only[fZ,mC,List.cons_append,sK]
theorem Bk(m:Mb)(h:Nat->Bool)(z:Int):(fZ m h).set 0 (.int .u8 z)=fZ {m with kind:=z} h:=by
 rw[dW];exact(dW {m with kind:=z} h).symm
theorem ON(m:Mb)(h:Nat->Bool)(z:Int):(fZ m h).set 1 (.int .i64 z)=fZ {m with qp:=z} h:=by
 rw[dW];exact(dW {m with qp:=z} h).symm
theorem Jd(m:Mb)(h:Nat->Bool)(b:Bool):(fZ m h).set 6 (.bool b)=fZ {m with edge:=b} h:=by
 rw[dW];exact(dW {m with edge:=b} h).symm
def km(v:Nat->Int×Int)(k:Nat)(x:Int×Int):Nat->Int×Int:=fun j=>if j=k then x else v j
theorem EB(m:Mb)(h:Nat->Bool){k:Nat}(hk:k<4)(x:Int×Int):(fZ m h).set (2+k) (cD x)=fZ {m with v:=km m.v k x} h:=by
 rw[dW]
 refine Eq.trans ?_ (dW {m with v:=km m.v k x} h).symm
 match k,hk with
 | 0,_=>rfl
 | 1,_=>rfl
 | 2,_=>rfl
 | 3,_=>rfl
theorem OO(m:Mb)(h:Nat->Bool)(x:Int×Int):(fZ m h).take 2++[cD x,cD x,cD x,cD x]++(fZ m h).drop (2+4)=fZ {m with v:=fun _=>x} h:=by
 rw[dW]
 exact(dW {m with v:=fun _=>x} h).symm
theorem fH(m:Mb)(h:Nat->Bool):(fZ m h)[0]? = some (.int .u8 m.kind):=by rw[dW];rfl
theorem Jf(m:Mb)(h:Nat->Bool){k:Nat}(hk:k<4):(fZ m h)[2+k]? = some (cD (m.v k)):=by
 rw[dW]
 match k,hk with
 | 0,_=>rfl
 | 1,_=>rfl
 | 2,_=>rfl
 | 3,_=>rfl
def G9(h:Nat->Bool)(j:Nat):Nat->Bool:=fun i=>if i<j then h i else false
theorem pO(m:Mb)(h:Nat->Bool){j:Nat}(hj:j<6):(fZ m (G9 h j)).set (391+j) (.bool (h j))=fZ m (G9 h (j+1)):=by
 unfold fZ
 rw[List.set_append_right _ _ (by rw[aI];omega),aI]
 rw[Nat.add_sub_cancel_left]
 refine congrArg (mC m ++ ·) ?_
 show(sK (G9 h j)).set j _=sK (G9 h (j+1))
 match j,hj with
 | 0,_=>rfl
 | 1,_=>rfl
 | 2,_=>rfl
 | 3,_=>rfl
 | 4,_=>rfl
 | 5,_=>rfl
theorem Mo(m:Mb)(h:Nat->Bool):fZ m (G9 h 6)=fZ m h:=by
 rw[dW,dW];rfl
theorem Je(m:Mb)(h:Nat->Bool):fZ m (G9 h 0)=fZ m pN:=by
 rw[dW,dW];rfl
theorem JM{f:FuncId}{args args':List XV}{v:XV}[bE v]{L:List Int}{B:List Bool}{p p':Nat}{e e':Bool}{S S':bm}{l l':aj}(ls:List Nat)(hc:bh Tryz.prog f args (bt 1 L B p e::aL L::(ep S++l)) v (bt 1 L B p' e'::aL L::(ep S'++l')))
 {HS:aj}(hi:HS[0]? = some (bt 1 L B p e)) (hk:HS[1]? = some (aL L)) (hS:(HS.drop 2).take 20=ep S) (hnd:(0::1::(bR++ls)).Nodup) (hv:ae (nth (0::1::(bR++ls))) HS ls l) (hl:ls.length=l.length) (hl':l'.length=l.length) (hok:bc (22+l.length) l) (hok':bc (22+l.length) l') (hren:dv (nth (0::1::(bR++ls))) l' l') (hro:d9 l l'=true) (hle:l.length<100)
 (ha:fq (22+l.length) args) (hr:dR (nth (0::1::(bR++ls))) args args') {HS':aj}(hh:bK HS (0::1::(bR++ls)) (bt 1 L B p' e'::aL L::(ep S'++l'))=HS') (hbd:Nat.blt HS'.length Mem.bound=true) :
 aG.Sound Tryz.prog ⟨f,args',HS,v,HS',0::1::(bR++ls)⟩:=by
 have ht:∀j,2<=j->j<22->nth (0::1::(bR++ls)) j=j:=nS 1 ls
 have ht':∀j,nth ((0::1::(bR++ls))++List.range' HS.length 0) j=nth (0::1::(bR++ls)) j:=fun j=>by
  rw[List.range'_zero,List.append_nil]
 have ht2:nth ((0::1::(bR++ls))++List.range' HS.length 0)=nth (0::1::(bR++ls)):=funext ht'
 have hln:(bt 1 L B p e::aL L::(ep S++l)).length=22+l.length:=by simp;omega
 have hln':(bt 1 L B p' e'::aL L::(ep S'++l')).length=22+l.length:=by simp;omega
 refine bO (0::1::(bR++ls)) (0::1::(bR++ls)) 0 hc hnd (.cons hi (.flat hk (pU S ht hS hv))) (by rw[hln];exact .cons (by simp[ak.b7,XC.ok];omega) (.flat (gK S _ (by omega) hok))) (by rw[hln'];exact .cons (by simp[ak.b7,XC.ok];omega) (.flat (gK S' _ (by omega) hok'))) (by simp;omega) (by rw[hln];exact ha) hr (bE.ok _) (bE.ay _) ?_ ?_ ?_ hh hbd (.inl rfl)
 ·rw[ht2]
  exact .cons rfl (.flat (r8 S' ht hren))
 ·simp only[d9,ak.live,ak.own,List.cons_append,List.nil_append,hro,Bool.and_true,Bool.true_and]
  simp
 ·rw[hln]
  have h:122<=Mem.bound:=Nat.le_of_ble_eq_true rfl
  unfold Nat.blt
  rw[Nat.ble_eq]
  omega
theorem Gp(L:List Int)(B:List Bool)(p:Nat)(e:Bool)(S:bm)(hD:gR S.cols S.rows)(mb:Int)(hmb:0<=mb/\mb<S.cols*S.rows)(m:Mb) :
 bh Tryz.prog 53 [.one (.ptr 2 0),.one (.int .i64 mb),.agg (mC m)] [bt 1 L B p e,aL L,dJ (S),bM 4 8 12,aw 5 6 7 cM,aR cM,aT cM,aS cM,aw 9 10 11 cZ,aR cZ,aT cZ,aS cZ,aw 13 14 15 cP,aR cP,aT cP,aS cP,cn 17 (S).cols (S).rows,.map (ba (S).M),.cells [.int .i64 (S).cols,.int .i64 (S).rows,.map 19,.map 20,.map 21] 171 false false,.map (ag (S).A),.map (ag (S).B),.map (ag (S).C)] (.tup []) [bt 1 L B p e,aL L,dJ (aX S mb m.v),bM 4 8 12,aw 5 6 7 cM,aR cM,aT cM,aS cM,aw 9 10 11 cZ,aR cZ,aT cZ,aS cZ,aw 13 14 15 cP,aR cP,aT cP,aS cP,cn 17 (aX S mb m.v).cols (aX S mb m.v).rows,.map (ba (aX S mb m.v).M),.cells [.int .i64 (aX S mb m.v).cols,.int .i64 (aX S mb m.v).rows,.map 19,.map 20,.map 21] 171 false false,.map (ag (aX S mb m.v).A),.map (ag (aX S mb m.v).B),.map (ag (aX S mb m.v).C)]:=by
 refine cO Tryz.func53 ?_
 repeat' (first
  |(refine qz ?_;first
   |refine t_ (cs:=vt m.v) ?_ (hle:=by rw[aI];decide)
   |refine xc ?_
   |refine cl ?_ (hi:=by exact dF (M:=S.M) (cols:=S.cols) (rows:=S.rows) (i:=16) (j:=17) (k:=0) (v:=m.v 0) hD hmb (by decide) rfl rfl (by decide) nA rfl)
   |refine cl ?_ (hi:=by exact dF (M:=aV S.M S.cols mb 0 (m.v 0)) (cols:=S.cols) (rows:=S.rows) (i:=16) (j:=17) (k:=1) (v:=m.v 1) hD hmb (by decide) rfl rfl (by decide) nA rfl)
   |refine cl ?_ (hi:=by exact dF (M:=aV (aV S.M S.cols mb 0 (m.v 0)) S.cols mb 1 (m.v 1)) (cols:=S.cols) (rows:=S.rows) (i:=16) (j:=17) (k:=2) (v:=m.v 2) hD hmb (by decide) rfl rfl (by decide) nA rfl)
   |refine cl ?_ (hi:=by exact dF (M:=aV (aV (aV S.M S.cols mb 0 (m.v 0)) S.cols mb 1 (m.v 1)) S.cols mb 2 (m.v 2)) (cols:=S.cols) (rows:=S.rows) (i:=16) (j:=17) (k:=3) (v:=m.v 3) hD hmb (by decide) rfl rfl (by decide) nA rfl))
  |refine WX.loop ?_|refine WX.round ?_|refine zz ?_|refine zx (fun _=>?_) (fun _=>?_)|fail)
 show aC _ _ _ _ _ _ _ _;refine kV [0,1,2,3,4,5,6,7,8,9,10,11,12,13,14,15,16,17,18,19,20,21] ?_
 rfl
theorem BE{L:List Int}{B:List Bool}{r:Nat×Bool}{S:bm}(hD:gR S.cols S.rows){mb:Int}(hmb:0<=mb/\mb<S.cols*S.rows){m:Mb}{HS:aj}(hi:HS[0]? = some (bt 1 L B r.1 r.2))(hk:HS[1]? = some (aL L))(hS:(HS.drop 2).take 20=ep S){HS':aj}(hh:bK HS (0::1::bR) (bt 1 L B r.1 r.2::aL L::ep (aX S mb m.v))=HS')(hbd:Nat.blt HS'.length Mem.bound=true) :
 aG.Sound Tryz.prog ⟨53,[.one (.ptr 2 0),.one (.int .i64 mb),.agg (mC m)],HS,.tup [],HS',0::1::bR⟩:=by
 have hc:=Gp L B r.1 r.2 S hD mb hmb m
 have hc':bh Tryz.prog 53 [.one (.ptr 2 0),.one (.int .i64 mb),.agg (mC m)] (bt 1 L B r.1 r.2::aL L::(ep S++[])) (.tup []) (bt 1 L B r.1 r.2::aL L::(ep (aX S mb m.v)++[])):=by
  rw[List.append_nil,List.append_nil];exact hc
 have h:=JM (S:=S) (S':=aX S mb m.v) (l:=[]) (l':=[]) (args':=[.one (.ptr 2 0),.one (.int .i64 mb),.agg (mC m)]) [] hc' hi hk hS (by decide) .nil rfl rfl .nil .nil .nil rfl (by decide) (.cons (by show 2<22;omega) (.flat (.flat .nil))) (.cons rfl (.flat (.flat .nil))) (HS':=HS') (by rw[List.append_nil,List.append_nil];exact hh) hbd
 rw[List.append_nil]at h
 exact h
theorem FM{L:List Int}{B:List Bool}(hB:dp L B){x:gh}{hs:Nat->Bool}{mb:Int}(hD:gR x.S.cols x.S.rows)(hmb:0<=mb/\mb<x.S.cols*x.S.rows)(hq : -1000000<=x.m.qp/\x.m.qp<=1000000){HS:aj}(hi:HS[0]? = some (bt 1 L B x.r.1 x.r.2))(hk:HS[1]? = some (aL L))(hS:(HS.drop 2).take 20=ep x.S)(h23:HS[23]? = some (.cells (fZ x.m hs) 56 false false)){HS':aj}(hh:bK HS (0::1::(bR++[23])) (bt 1 L B (da B mb x 6).r.1 (da B mb x 6).r.2::aL L::(ep (da B mb x 6).S++[.cells (fZ (da B mb x 6).m hs) 56 false false]))=HS')(hbd:Nat.blt HS'.length Mem.bound=true) :
 aG.Sound Tryz.prog ⟨68,[.one (.ptr 2 0),.one (.ptr 0 0),.one (.int .i64 mb),.one (.ptr 23 0)],HS,.tup [],HS',0::1::(bR++[23])⟩:=by
 obtain⟨y,hy⟩:∃y,da B mb x 6=y:=⟨_,rfl⟩
 have hc:=CV hB x hs mb hD hmb hq
 rw[hy]at hc hh
 obtain⟨o1,ho1⟩:∃o,ak.cells (fZ x.m hs) 56 false false=o:=⟨_,rfl⟩
 obtain⟨o2,ho2⟩:∃o,ak.cells (fZ y.m hs) 56 false false=o:=⟨_,rfl⟩
 have f1:c8 o1:=ho1▸inferInstance
 have f2:c8 o2:=ho2▸inferInstance
 have hro:d9 [o1] [o2]=true:=by subst ho1 ho2;simp[d9,ak.live,ak.own]
 rw[ho1,ho2]at hc
 rw[ho2]at hh
 rw[ho1]at h23
 exact JM (S:=x.S) (S':=y.S) (l:=[o1]) (l':=[o2]) [23] hc hi hk hS (by decide) (.flat h23 .nil) rfl rfl (.flat .nil) (.flat .nil) (.flat .nil) hro (show 1<100 by omega) (.cons (by show 2<23;omega) (.cons (by show 0<23;omega) (.flat (.cons (by show 22<23;omega) .nil)))) (.cons rfl (.cons rfl (.flat (.cons rfl .nil)))) hh hbd
theorem rp{m:Mb}{b:Bool}(ha:alone m=b){HS:aj}(hb:Nat.blt HS.length Mem.bound=true):aG.Sound Tryz.prog ⟨13,[.agg (mC m)],HS,.one (.bool b),HS,[]⟩:=by
 subst ha;exact oO hb
def dE(m:Mb)(k:Nat)(l:Nat->Int):Mb:={m with lev:=fun i=>if k*64<=i/\i<k*64+64 then l (i-k*64)else m.lev i}
theorem C6(m:Mb){k:Nat}(hk:k<6)(l:Nat->Int):(mC m).take (7+k*64)++ti .i64 64 l++(mC m).drop (7+k*64+64)=mC (dE m k l):=by
 have h1:∀m:Mb,mC m=(.int .u8 m.kind :: .int .i64 m.qp::cD (m.v 0)::cD (m.v 1)::cD (m.v 2)::cD (m.v 3) :: .bool m.edge::[])++ti .i64 384 m.lev:=fun m=>rfl
 have hm:(dE m k l).kind=m.kind/\(dE m k l).qp=m.qp/\(dE m k l).v=m.v/\(dE m k l).edge=m.edge:=⟨rfl,rfl,rfl,rfl⟩
 rw[h1 m,h1 (dE m k l),hm.1,hm.2.1,hm.2.2.1,hm.2.2.2]
 rw[List.take_append,List.drop_append]
 simp only[List.length_cons,List.length_nil]
 rw[List.take_of_length_le (by simp only[List.length_cons,List.length_nil];omega),List.drop_of_length_le (by simp only[List.length_cons,List.length_nil];omega),List.nil_append,List.append_assoc,List.append_assoc]
 congr 1
 apply List.ext_getElem?
 intro i
 rw[show 7+k*64-(0+1+1+1+1+1+1+1)=k*64 by omega,show 7+k*64+64-(0+1+1+1+1+1+1+1)=k*64+64 by omega]
 by_cases hi:i<384
 ·rw [iV (f:=(dE m k l).lev) hi]
  by_cases h1:i<k*64
  ·rw[List.getElem?_append_left (by rw[List.length_take,aE];omega),List.getElem?_take_of_lt h1,iV hi]
   show _=some (XC.int .i64 (if k*64<=i/\i<k*64+64 then _ else _))
   rw[if_neg (by omega)]
  ·rw[List.getElem?_append_right (by rw[List.length_take,aE];omega),List.length_take,aE,show min (k*64) 384=k*64 by omega]
   by_cases h2:i<k*64+64
   ·rw[List.getElem?_append_left (by rw[aE];omega),iV (by omega)]
    show _=some (XC.int .i64 (if k*64<=i/\i<k*64+64 then _ else _))
    rw[if_pos (by omega)]
   ·rw[List.getElem?_append_right (by rw[aE];omega),aE,List.getElem?_drop,iV (by omega)]
    show _=some (XC.int .i64 (if k*64<=i/\i<k*64+64 then _ else _))
    rw[if_neg (by omega),show k*64+64+(i-k*64-64)=i by omega]
 ·have e1:(ti .i64 384 (dE m k l).lev)[i]? = none:=List.getElem?_eq_none (by rw[aE];omega)
  rw[e1,List.getElem?_eq_none]
  rw[List.length_append,List.length_append,List.length_take,List.length_drop,aE,aE];omega
theorem C5(m:Mb){i:Nat}(hi:i<384):(mC m)[7+i]? = some (.int .i64 (m.lev i)):=by
 rw[Nat.add_comm]
 show(ti .i64 384 m.lev)[i]? = _
 exact iV hi
noncomputable def g_(S:bm)(mb:Int)(k:Nat)(m:Mb)(rest:Nat->Int):Option (bm×Mb):=
 if alone m=true then
  (if m.edge=true then j9 (dc (dD m.edge (a_ S mb k m.qp).1) rest) (cq S mb k m.qp)else some (dc (dD m.edge (a_ S mb k m.qp).1) rest)).map fun l=>
    (bu S mb k ⟨cw l 0 (m.lev (k*64)),m.qp⟩,dE m k (cw l 0 (m.lev (k*64))))
 else some (S,dE m k (dc 0 rest))
theorem vw{edge:Bool}{frm o:Int}(ho:dD edge frm=o){HS:aj}(hb:Nat.blt HS.length Mem.bound=true):aG.Sound Tryz.prog ⟨71,[.one (.bool edge),.one (.int .u8 frm)],HS,.one (.int .u8 o),HS,[]⟩:=by
 subst ho;exact kg hb
theorem I0{m:Mb}{b:Bool}(h:m.edge=b):(mC m)[6]? = some (.bool b):=congrArg (fun b=>some (XC.bool b)) h
section
variable {S:bm} {mb:Int} {k:Nat} {m:Mb} {rest:Nat->Int}
theorem Qi(hk:k<6)(ha:alone m=false) :
 bh Tryz.prog 38 [.one (.ptr 2 0),.one (.int .i64 mb),.one (.int .i64 (k:Nat)),.one (.ptr 0 0),.agg (ti .i64 64 rest)] [mu m,.dead,dJ (S),bM 4 8 12,aw 5 6 7 cM,aR cM,aT cM,aS cM,aw 9 10 11 cZ,aR cZ,aT cZ,aS cZ,aw 13 14 15 cP,aR cP,aT cP,aS cP,cn 17 (S).cols (S).rows,.map (ba (S).M),.cells [.int .i64 (S).cols,.int .i64 (S).rows,.map 19,.map 20,.map 21] 171 false false,.map (ag (S).A),.map (ag (S).B),.map (ag (S).C)] (.one (.bool true)) [mu (dE m k (dc 0 rest)),.dead,dJ (S),bM 4 8 12,aw 5 6 7 cM,aR cM,aT cM,aS cM,aw 9 10 11 cZ,aR cZ,aT cZ,aS cZ,aw 13 14 15 cP,aR cP,aT cP,aS cP,cn 17 (S).cols (S).rows,.map (ba (S).M),.cells [.int .i64 (S).cols,.int .i64 (S).rows,.map 19,.map 20,.map 21] 171 false false,.map (ag (S).A),.map (ag (S).B),.map (ag (S).C)]:=by
 refine cO Tryz.func38 ?_
 repeat' (first
  |(refine qz ?_;first
   |refine fG ?_ (hle:=by rw[aI])
   |refine fG ?_ (hle:=by rw[aE])
   |refine cl ?_ (hi:=by exact rp ha rfl)
   |refine cl ?_ (hi:=by exact r_ (.inl rfl) rfl)
   |refine PR ?_ (by rw[aI];omega) (C6 m hk (dc 0 rest)) (hs1:=by rw[aE]))
  |refine zz ?_|refine zx (fun _=>?_) (fun _=>?_)|fail)
 show aC _ _ _ _ _ _ _ _;refine kV [0,1,2,3,4,5,6,7,8,9,10,11,12,13,14,15,16,17,18,19,20,21] ?_
 rfl
theorem Qj(hD:gR S.cols S.rows)(hmb:0<=mb/\mb<S.cols*S.rows)(hk:k<6)(ha:alone m=true)(he:m.edge=false){o:Int}(ho:dD false (a_ S mb k m.qp).1=o){l:Nat->Int}(hl:cw (dc o rest) 0 (m.lev (k*64))=l) :
 bh Tryz.prog 38 [.one (.ptr 2 0),.one (.int .i64 mb),.one (.int .i64 (k:Nat)),.one (.ptr 0 0),.agg (ti .i64 64 rest)] [mu m,.dead,dJ (S),bM 4 8 12,aw 5 6 7 cM,aR cM,aT cM,aS cM,aw 9 10 11 cZ,aR cZ,aT cZ,aS cZ,aw 13 14 15 cP,aR cP,aT cP,aS cP,cn 17 (S).cols (S).rows,.map (ba (S).M),.cells [.int .i64 (S).cols,.int .i64 (S).rows,.map 19,.map 20,.map 21] 171 false false,.map (ag (S).A),.map (ag (S).B),.map (ag (S).C)] (.one (.bool true)) [mu (dE m k l),.dead,dJ ((bu S mb k ⟨l,m.qp⟩)),bM 4 8 12,aw 5 6 7 cM,aR cM,aT cM,aS cM,aw 9 10 11 cZ,aR cZ,aT cZ,aS cZ,aw 13 14 15 cP,aR cP,aT cP,aS cP,cn 17 ((bu S mb k ⟨l,m.qp⟩)).cols ((bu S mb k ⟨l,m.qp⟩)).rows,.map (ba ((bu S mb k ⟨l,m.qp⟩)).M),.cells [.int .i64 ((bu S mb k ⟨l,m.qp⟩)).cols,.int .i64 ((bu S mb k ⟨l,m.qp⟩)).rows,.map 19,.map 20,.map 21] 171 false false,.map (ag ((bu S mb k ⟨l,m.qp⟩)).A),.map (ag ((bu S mb k ⟨l,m.qp⟩)).B),.map (ag ((bu S mb k ⟨l,m.qp⟩)).C)]:=by
 subst hl
 have hor:=eT false (a_ S mb k m.qp).1
 rw[ho]at hor
 have hE:=I0 he
 have hq:(mC m)[1]? = some (.int .i64 m.qp):=rfl
 have hL:=C5 m (i:=k*64) (by omega)
 refine cO Tryz.func38 ?_
 repeat' (first
  |(refine qz ?_;first
   |refine fG ?_ (hle:=by rw[aI])
   |refine fG ?_ (hle:=by rw[aE])
   |refine ld (hc:=hE) ?_
   |refine ld (hc:=hL) ?_
   |refine cl ?_ (hi:=by exact rp ha rfl)
   |refine cl ?_ (hi:=by exact iI (S:=S) hD hmb (by omega) rfl rfl rfl rfl rfl)
   |refine cl ?_ (hi:=by exact vw ho rfl)
   |refine cl ?_ (hi:=by exact r_ hor rfl)
   |refine PR ?_ (by rw[aI];omega) (C6 m hk (cw (dc o rest) 0 (m.lev (k*64)))) (hs1:=by rw[aE])
   |refine cl ?_ (hi:=by exact l7 (S:=S) (b:=⟨cw (dc o rest) 0 (m.lev (k*64)),m.qp⟩) hD hmb (by omega) rfl rfl rfl rfl nA rfl))
  |refine Hg (id:=5) [8] ?_|refine zz ?_|refine zx (fun _=>?_) (fun _=>?_)|fail)
 show aC _ _ _ _ _ _ _ _;refine kV [0,1,2,3,4,5,6,7,8,9,10,11,12,13,14,15,16,17,18,19,20,21] ?_
 rfl
theorem Qk(hD:gR S.cols S.rows)(hmb:0<=mb/\mb<S.cols*S.rows)(hk:k<6)(ha:alone m=true)(he:m.edge=true){o:Int}(ho:dD true (a_ S mb k m.qp).1=o)(hb1:∀i,-1000000<=dc o rest i/\dc o rest i<=1000000)(hb2:∀i,-1000000<=cq S mb k m.qp i/\cq S mb k m.qp i<=1000000){l2:Nat->Int}(hm:j9 (dc o rest) (cq S mb k m.qp)=some l2){l:Nat->Int}(hl:cw l2 0 (m.lev (k*64))=l) :
 bh Tryz.prog 38 [.one (.ptr 2 0),.one (.int .i64 mb),.one (.int .i64 (k:Nat)),.one (.ptr 0 0),.agg (ti .i64 64 rest)] [mu m,.dead,dJ (S),bM 4 8 12,aw 5 6 7 cM,aR cM,aT cM,aS cM,aw 9 10 11 cZ,aR cZ,aT cZ,aS cZ,aw 13 14 15 cP,aR cP,aT cP,aS cP,cn 17 (S).cols (S).rows,.map (ba (S).M),.cells [.int .i64 (S).cols,.int .i64 (S).rows,.map 19,.map 20,.map 21] 171 false false,.map (ag (S).A),.map (ag (S).B),.map (ag (S).C)] (.one (.bool true)) [mu (dE m k l),.dead,dJ ((bu S mb k ⟨l,m.qp⟩)),bM 4 8 12,aw 5 6 7 cM,aR cM,aT cM,aS cM,aw 9 10 11 cZ,aR cZ,aT cZ,aS cZ,aw 13 14 15 cP,aR cP,aT cP,aS cP,cn 17 ((bu S mb k ⟨l,m.qp⟩)).cols ((bu S mb k ⟨l,m.qp⟩)).rows,.map (ba ((bu S mb k ⟨l,m.qp⟩)).M),.cells [.int .i64 ((bu S mb k ⟨l,m.qp⟩)).cols,.int .i64 ((bu S mb k ⟨l,m.qp⟩)).rows,.map 19,.map 20,.map 21] 171 false false,.map (ag ((bu S mb k ⟨l,m.qp⟩)).A),.map (ag ((bu S mb k ⟨l,m.qp⟩)).B),.map (ag ((bu S mb k ⟨l,m.qp⟩)).C)]:=by
 subst hl
 have hor:=eT true (a_ S mb k m.qp).1
 rw[ho]at hor
 have hE:=I0 he
 have hL:=C5 m (i:=k*64) (by omega)
 refine cO Tryz.func38 ?_
 repeat' (first
  |(refine qz ?_;first
   |refine fG ?_ (hle:=by rw[aI])
   |refine fG ?_ (hle:=by rw[aE])
   |refine ld (hc:=hE) ?_
   |refine ld (hc:=hL) ?_
   |refine cl ?_ (hi:=by exact rp ha rfl)
   |refine cl ?_ (hi:=by exact iI (S:=S) hD hmb (by omega) rfl rfl rfl rfl rfl)
   |refine cl ?_ (hi:=by exact pq (S:=S) hD hmb (by omega) rfl rfl rfl rfl rfl)
   |refine cl ?_ (hi:=by exact vw ho rfl)
   |refine cl ?_ (hi:=by exact r_ hor rfl)
   |refine cl ?_ (hi:=by exact Ex hb1 hb2 hm rfl)
   |refine kj ?_ (hs1:=by rw[aE]) (hs2:=by rw[aE])
   |refine PR ?_ (by rw[aI];omega) (C6 m hk (cw l2 0 (m.lev (k*64)))) (hs1:=by rw[aE])
   |refine cl ?_ (hi:=by exact l7 (S:=S) (b:=⟨cw l2 0 (m.lev (k*64)),m.qp⟩) hD hmb (by omega) rfl rfl rfl rfl nA rfl))
  |refine Hg (id:=5) [8] ?_|refine Hg (id:=7) [16] ?_|refine zz ?_|refine zx (fun _=>?_) (fun _=>?_)|fail)
 show aC _ _ _ _ _ _ _ _;refine kV [0,1,2,3,4,5,6,7,8,9,10,11,12,13,14,15,16,17,18,19,20,21] ?_
 rfl
theorem Ql(hD:gR S.cols S.rows)(hmb:0<=mb/\mb<S.cols*S.rows)(hk:k<6)(ha:alone m=true)(he:m.edge=true){o:Int}(ho:dD true (a_ S mb k m.qp).1=o)(hb1:∀i,-1000000<=dc o rest i/\dc o rest i<=1000000)(hb2:∀i,-1000000<=cq S mb k m.qp i/\cq S mb k m.qp i<=1000000)(hm:j9 (dc o rest) (cq S mb k m.qp)=none) :
 bh Tryz.prog 38 [.one (.ptr 2 0),.one (.int .i64 mb),.one (.int .i64 (k:Nat)),.one (.ptr 0 0),.agg (ti .i64 64 rest)] [mu m,.dead,dJ (S),bM 4 8 12,aw 5 6 7 cM,aR cM,aT cM,aS cM,aw 9 10 11 cZ,aR cZ,aT cZ,aS cZ,aw 13 14 15 cP,aR cP,aT cP,aS cP,cn 17 (S).cols (S).rows,.map (ba (S).M),.cells [.int .i64 (S).cols,.int .i64 (S).rows,.map 19,.map 20,.map 21] 171 false false,.map (ag (S).A),.map (ag (S).B),.map (ag (S).C)] (.one (.bool false)) [mu m,.dead,dJ (S),bM 4 8 12,aw 5 6 7 cM,aR cM,aT cM,aS cM,aw 9 10 11 cZ,aR cZ,aT cZ,aS cZ,aw 13 14 15 cP,aR cP,aT cP,aS cP,cn 17 (S).cols (S).rows,.map (ba (S).M),.cells [.int .i64 (S).cols,.int .i64 (S).rows,.map 19,.map 20,.map 21] 171 false false,.map (ag (S).A),.map (ag (S).B),.map (ag (S).C)]:=by
 have hor:=eT true (a_ S mb k m.qp).1
 rw[ho]at hor
 have hE:=I0 he
 have hL:=C5 m (i:=k*64) (by omega)
 refine cO Tryz.func38 ?_
 repeat' (first
  |(refine qz ?_;first
   |refine fG ?_ (hle:=by rw[aI])
   |refine fG ?_ (hle:=by rw[aE])
   |refine ld (hc:=hE) ?_
   |refine ld (hc:=hL) ?_
   |refine cl ?_ (hi:=by exact rp ha rfl)
   |refine cl ?_ (hi:=by exact iI (S:=S) hD hmb (by omega) rfl rfl rfl rfl rfl)
   |refine cl ?_ (hi:=by exact pq (S:=S) hD hmb (by omega) rfl rfl rfl rfl rfl)
   |refine cl ?_ (hi:=by exact vw ho rfl)
   |refine cl ?_ (hi:=by exact r_ hor rfl)
   |refine cl ?_ (hi:=by exact Ex hb1 hb2 hm rfl))
  |refine Hg (id:=5) [8] ?_|refine Hg (id:=7) [16] ?_|refine zz ?_|refine zx (fun _=>?_) (fun _=>?_)|fail)
 show aC _ _ _ _ _ _ _ _;refine kV [0,1,2,3,4,5,6,7,8,9,10,11,12,13,14,15,16,17,18,19,20,21] ?_
 rfl
end
end Go.Proofs.YtagpkhindehcbaaGreat
