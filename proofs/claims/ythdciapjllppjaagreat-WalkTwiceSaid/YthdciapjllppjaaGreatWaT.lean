/-
  A part of the proof: Sta3, TabS, EvLaw, Blocks0.
-/
import Derived.Test.YthdciapjllppjaaGreatWaS
set_option maxRecDepth 10000
set_option maxHeartbeats 8000000
set_option linter.unusedVariables false
set_option linter.unusedSectionVars false
set_option linter.unusedSimpArgs false
open Go.Proofs.Tryz (prog)
namespace Go.Proofs.YthdciapjllppjaaGreat
open Go.Xm
variable [ak]
def bX(S:cD)(mb:Int)(v:Nat->Int×Int):cD:={S with M:=Ea S.M S.cols mb v}
theorem F9(bs:List Bool)(S:cD)(hD:lP S.cols S.rows)(mb:Int)(hmb:0<=mb/\mb<S.cols*S.rows)(m:Mb) :
 bq prog 89 [.one (.ptr 2 0),.one (.int .i64 mb),.agg (mC m)] [aO 1 bs,au bs,jz (S),eZ 4 8 12,aW 5 6 7 cM,c6 cM,c9 cM,c7 cM,aW 9 10 11 cZ,c6 cZ,c9 cZ,c7 cZ,aW 13 14 15 cP,c6 cP,c9 cP,c7 cP,fA 17 (S).cols (S).rows,.map (cB (S).M),.cells [.int .i64 (S).cols,.int .i64 (S).rows,.map 19,.map 20,.map 21] 220 false false,.map (aq (S).A),.map (aq (S).B),.map (aq (S).C)] (.tup []) [aO 1 bs,au bs,jz (bX S mb m.v),eZ 4 8 12,aW 5 6 7 cM,c6 cM,c9 cM,c7 cM,aW 9 10 11 cZ,c6 cZ,c9 cZ,c7 cZ,aW 13 14 15 cP,c6 cP,c9 cP,c7 cP,fA 17 (bX S mb m.v).cols (bX S mb m.v).rows,.map (cB (bX S mb m.v).M),.cells [.int .i64 (bX S mb m.v).cols,.int .i64 (bX S mb m.v).rows,.map 19,.map 20,.map 21] 220 false false,.map (aq (bX S mb m.v).A),.map (aq (bX S mb m.v).B),.map (aq (bX S mb m.v).C)]:=by
 refine cO Tryz.func89 ?_
 repeat' (first
  |(refine qz ?_;first
   |refine rG (cs:=vt m.v) ?_ (hle:=by rw[bl];decide)
   |refine Ky ?_
   |refine cl ?_ (hi:=by exact jY (M:=S.M) (cols:=S.cols) (rows:=S.rows) (i:=16) (j:=17) (k:=0) (v:=m.v 0) hD hmb (by decide) rfl rfl (by decide) nA rfl)
   |refine cl ?_ (hi:=by exact jY (M:=cH S.M S.cols mb 0 (m.v 0)) (cols:=S.cols) (rows:=S.rows) (i:=16) (j:=17) (k:=1) (v:=m.v 1) hD hmb (by decide) rfl rfl (by decide) nA rfl)
   |refine cl ?_ (hi:=by exact jY (M:=cH (cH S.M S.cols mb 0 (m.v 0)) S.cols mb 1 (m.v 1)) (cols:=S.cols) (rows:=S.rows) (i:=16) (j:=17) (k:=2) (v:=m.v 2) hD hmb (by decide) rfl rfl (by decide) nA rfl)
   |refine cl ?_ (hi:=by exact jY (M:=cH (cH (cH S.M S.cols mb 0 (m.v 0)) S.cols mb 1 (m.v 1)) S.cols mb 2 (m.v 2)) (cols:=S.cols) (rows:=S.rows) (i:=16) (j:=17) (k:=3) (v:=m.v 3) hD hmb (by decide) rfl rfl (by decide) nA rfl))
  |refine WX.loop ?_|refine WX.round ?_|refine zz ?_|refine zx (fun _=>?_) (fun _=>?_)|fail)
 show aE _ _ _ _ _ _ _ _;refine kV [0,1,2,3,4,5,6,7,8,9,10,11,12,13,14,15,16,17,18,19,20,21] ?_;rfl
def B5(S:cD)(mb k dx dy:Int):Option Kn:=bD S.A S.B S.C S.cols (placeOf S.cols mb k).1 ((placeOf S.cols mb k).2.1-dx) ((placeOf S.cols mb k).2.2-dy)
def dB(S:cD)(mb k q:Int):Int×Int:=kn (B5 S mb k 1 0) (B5 S mb k 0 1) (B5 S mb k 1 1) q
def iG(S:cD)(mb k q:Int):Nat->Int:=zm (B5 S mb k 1 0) (B5 S mb k 0 1) (B5 S mb k 1 1) q
def Pe(S:cD)(mb k:Int):Int:=(placeOf S.cols mb k).2.2*cC S.cols (placeOf S.cols mb k).1+(placeOf S.cols mb k).2.1
def eC(S:cD)(mb k:Int)(b:Kn):cD:={S with A:=rS (placeOf S.cols mb k).1 0 S.A (Pe S mb k) b,B:=rS (placeOf S.cols mb k).1 1 S.B (Pe S mb k) b,C:=rS (placeOf S.cols mb k).1 2 S.C (Pe S mb k) b}
theorem bt(n q:Int):0<=df n q/\df n q<=127:=by
 have h:=mU q;have:0<=(max n 0+stepOf q/2)/stepOf q:=Int.ediv_nonneg (by omega) (by omega);unfold df;omega
theorem HA(la lb lc:Option Kn)(q:Int):0<=(kn la lb lc q).2/\(kn la lb lc q).2<=127/\0<=(kn la lb lc q).1/\(kn la lb lc q).1<=2:=by
 unfold kn;cases la<;>cases lb<;>simp only[]
 ·exact⟨(bt _ _).1,(bt _ _).2,by simp,by simp⟩
 ·exact⟨(bt _ _).1,(bt _ _).2,by simp,by simp⟩
 ·exact⟨(bt _ _).1,(bt _ _).2,by simp,by simp⟩
 ·cases lc<;>simp only[]<;>split
  ·exact⟨(bt _ _).1,(bt _ _).2,by simp,by simp⟩
  ·exact⟨(bt _ _).1,(bt _ _).2,by simp,by simp⟩
  ·exact⟨(bt _ _).1,(bt _ _).2,by simp,by simp⟩
  ·exact⟨(bt _ _).1,(bt _ _).2,by simp,by simp⟩
theorem rW(S:cD)(mb k q:Int):0<=(dB S mb k q).2/\(dB S mb k q).2<=127/\0<=(dB S mb k q).1/\(dB S mb k q).1<=2:=HA _ _ _ _
section
variable {S:cD} {mb k q:Int}(hD:lP S.cols S.rows) (hmb:0<=mb/\mb<S.cols*S.rows) (hk:0<=k/\k<6)
include hD hmb hk
theorem Sr:gR S.cols S.rows mb k=true:=jt.2 ⟨hmb.1,hmb.2,hk⟩
theorem JI:bq prog 119 [.one (.ptr 0 0),.one (.int .i64 mb),.one (.int .i64 k),.one (.int .i64 q)] (bI S.cols S.rows S.A S.B S.C) (jT (dB S mb k q)) (bI S.cols S.rows S.A S.B S.C):=
 qh ⟨hD.c0,hD.c1⟩ ⟨by have:=hD.r0;omega,hD.r1⟩ (Sr hD hmb hk) (p:=(placeOf S.cols mb k).1) (x:=(placeOf S.cols mb k).2.1) (y:=(placeOf S.cols mb k).2.2) rfl (by unfold B5;rw[Int.sub_zero]) (by unfold B5;rw[Int.sub_zero]) rfl
theorem Ge:bq prog 121 [.one (.ptr 0 0),.one (.int .i64 mb),.one (.int .i64 k),.one (.int .i64 q)] (bI S.cols S.rows S.A S.B S.C) (.agg (ti .i64 64 (iG S mb k q))) (bI S.cols S.rows S.A S.B S.C):=
 Hs ⟨hD.c0,hD.c1⟩ ⟨by have:=hD.r0;omega,hD.r1⟩ (Sr hD hmb hk) (p:=(placeOf S.cols mb k).1) (x:=(placeOf S.cols mb k).2.1) (y:=(placeOf S.cols mb k).2.2) rfl (by unfold B5;rw[Int.sub_zero]) (by unfold B5;rw[Int.sub_zero]) rfl
theorem JN(b:Kn):bq prog 123 [.one (.ptr 0 0),.one (.int .i64 mb),.one (.int .i64 k),.agg (dk b)] (bI S.cols S.rows S.A S.B S.C) (.tup []) (bI S.cols S.rows (eC S mb k b).A (eC S mb k b).B (eC S mb k b).C):=
 L7 ⟨hD.c0,hD.c1⟩ ⟨by have:=hD.r0;omega,hD.r1⟩ (Sr hD hmb hk) (p:=(placeOf S.cols mb k).1) (x:=(placeOf S.cols mb k).2.1) (y:=(placeOf S.cols mb k).2.2) rfl b
theorem yD{HS:ah}(ha:HS[18]? = some (.cells [.int .i64 S.cols,.int .i64 S.rows,.map 19,.map 20,.map 21] 220 false false))(hb:HS[19]? = some (.map (aq S.A)))(hc:HS[20]? = some (.map (aq S.B)))(hd:HS[21]? = some (.map (aq S.C)))(hbd:Nat.blt HS.length Mem.bound=true) :
 az.Sound prog ⟨119,[.one (.ptr 18 0),.one (.int .i64 mb),.one (.int .i64 k),.one (.int .i64 q)],HS,jT (dB S mb k q),HS,[]⟩:=
 aC (JI hD hmb hk) 18 19 20 21 (by decide) ha hb hc hd rfl rfl hbd
theorem JH{HS:ah}(ha:HS[18]? = some (.cells [.int .i64 S.cols,.int .i64 S.rows,.map 19,.map 20,.map 21] 220 false false))(hb:HS[19]? = some (.map (aq S.A)))(hc:HS[20]? = some (.map (aq S.B)))(hd:HS[21]? = some (.map (aq S.C)))(hbd:Nat.blt HS.length Mem.bound=true) :
 az.Sound prog ⟨121,[.one (.ptr 18 0),.one (.int .i64 mb),.one (.int .i64 k),.one (.int .i64 q)],HS,.agg (ti .i64 64 (iG S mb k q)),HS,[]⟩:=
 aC (Ge hD hmb hk) 18 19 20 21 (by decide) ha hb hc hd rfl (je _ _ _) hbd
theorem D_{b:Kn}{HS HS':ah}(ha:HS[18]? = some (.cells [.int .i64 S.cols,.int .i64 S.rows,.map 19,.map 20,.map 21] 220 false false))(hb:HS[19]? = some (.map (aq S.A)))(hc:HS[20]? = some (.map (aq S.B)))(hd:HS[21]? = some (.map (aq S.C)))(hh:((HS.set 19 (.map (aq (eC S mb k b).A))).set 20 (.map (aq (eC S mb k b).B))).set 21 (.map (aq (eC S mb k b).C))=HS')(hbd:Nat.blt HS'.length Mem.bound=true) :
 az.Sound prog ⟨123,[.one (.ptr 18 0),.one (.int .i64 mb),.one (.int .i64 k),.agg (dk b)],HS,.tup [],HS',[19,20,21]⟩:=
 HR (JN hD hmb hk b) 18 19 20 21 (by decide) ha hb hc hd hh hbd
end
theorem vg{S:cD}{mb k q:Int}(h:∀dx dy b,B5 S mb k dx dy=some b->∀i,-1000000<=b.lv i/\b.lv i<=1000000)(i:Nat) : -1000000<=iG S mb k q i/\iG S mb k q i<=1000000:=by
 have hem:∀(b:Kn) (s:Nat),(∀i,-1000000<=b.lv i/\b.lv i<=1000000)->∀n i,-1000000<=em b s n i/\em b s n i<=1000000:=by
  intro b s hb n
  induction n with
  | zero=>intro i;simp[em]
  | succ n ih=>
    intro i;rw[xU];unfold fV;split
    ·exact hb _
    ·exact ih i
 have ho:∀(o:Option Kn) (s:Nat),(∀b,o=some b->∀i,-1000000<=b.lv i/\b.lv i<=1000000) -> -1000000<=jo o s q i/\jo o s q i<=1000000:=by
  intro o s hb
  cases o with
  | none=>simp[jo,iY]
  | some b=>
    unfold jo;simp only[];split
    ·exact hem b s (hb b rfl) _ i
    ·simp[iY]
 unfold iG zm;split
 ·exact ho _ _ (h 1 0)
 ·split
  ·exact ho _ _ (h 0 1)
  ·simp[iY]
end Go.Proofs.YthdciapjllppjaaGreat
namespace Go.Proofs.YthdciapjllppjaaGreat
open Go.Xm
variable [ak]
theorem u3{f:Nat->Int}(h:∀i,i<64 -> -2047<=f i/\f i<=2047):∀(n i:Nat) (run:Int),i+n=64->0<=run->run<=i->∀e∈lp f n i run,Et e/\e.2.2=false
 | 0,i,run,_,_,_,e,he=>by cases he
 | n + 1,i,run,h1,h2,h3,e,he=>by
   unfold lp at he
   by_cases hz:f i=0
   ·rw[if_pos hz]at he;exact u3 h n (i+1) (run+1) (by omega) (by omega) (by omega) e he
   ·rw[if_neg hz]at he
    rcases List.mem_cons.1 he with rfl|he
    ·exact⟨⟨⟨h2,by show run<=63;omega⟩,hz,h i (by omega)⟩,rfl⟩
    ·exact u3 h n (i+1) 0 (by omega) (by omega) (by omega) e he
theorem um:∀(l:List Ev) (j:Nat),(∀e∈l,e.2.2=false)->j<l.length->(kx l).getD j default=((l.getD j default).1,(l.getD j default).2.1,decide (j+1=l.length))
 | [],j,_,hj=>by simp at hj
 | [e],j,_,hj=>by
   have:j=0:=by simpa using hj
   subst this;rfl
 | e::e2::l,0,hf,_=>by
   have:e.2.2=false:=hf e (List.mem_cons_self ..);show e=(e.1,e.2.1,decide (0+1=(e::e2::l).length));rw[decide_eq_false (by simp),<-this]
 | e :: e2::l,j+1,hf,hj=>by
   have ih:=um (e2::l) j (fun x hx=>hf x (List.mem_cons_of_mem _ hx)) (by simpa using hj);show(kx (e2::l)).getD j default=_;rw[ih];show _=(((e2::l).getD j default).1,((e2::l).getD j default).2.1,decide (j+1+1=(e::e2::l).length))
   have:decide (j+1=(e2::l).length)=decide (j+1+1=(e::e2::l).length):=by
    simp only[List.length_cons]
    rcases Classical.em (j+1=l.length+1)with g|g
    ·rw[decide_eq_true g,decide_eq_true (by omega)]
    ·rw[decide_eq_false g,decide_eq_false (by omega)]
   rw[this]
theorem L4{f:Nat->Int}{st:Nat}(hst:st<=64)(h:∀i,i<64 -> -2047<=f i/\f i<=2047):jP f st = []\/p5 (jP f st):=by
 have hg:=u3 h (64-st) st 0 (by omega) (Int.le_refl _) (by omega);have hlen:=rP f (64-st) st 0;unfold jP;generalize lp f (64-st) st 0=l at hg hlen ⊢
 cases hl:l with
 | nil=>exact .inl rfl
 | cons a t=>
   right;rw[<-hl];have hpos:0<l.length:=by rw[hl];simp
   have hget:∀j,j<l.length->(kx l).getD j default=((l.getD j default).1,(l.getD j default).2.1,decide (j+1=l.length)):=fun j hj=>um l j (fun e he=>(hg e he).2) hj
   have hmem:∀j,j<l.length->l.getD j default∈l:=fun j hj=>by
    rw[List.getD_eq_getElem?_getD,List.getElem?_eq_getElem hj];exact List.getElem_mem hj
   refine⟨by rw[iX];omega,fun j hj=>?_,fun j hj=>?_⟩
   ·rw[iX]at hj;have:=(hg _ (hmem j hj)).1;rw[hget j hj];exact⟨this.run,this.nz,this.lev⟩
   ·rw[iX]at hj;rw[hget j hj,iX]
theorem Jf{o:Int}(ho:o=0\/o=1\/o=2){f:Nat->Int}(h:∀i,i<64 -> -2047<=f i/\f i<=2047):∀i,i<64 -> -2047<=qH o f i/\qH o f i<=2047:=fun i hi=>by
 have:=DN ho hi;exact h _ (by omega)
structure ri where
 S:cD
 B:List Bool
 pat:Int
 col:Int
 ev:Nat->List Ev
def cy(m:Mb)(k:Nat)(i:Nat):Int:=m.lev (k*64+i)
noncomputable def m7(m:Mb)(S:cD)(mb:Int)(k:Nat):Option (Nat->Int):=
 if alone m=true then(if m.edge=true then pc (cy m k) (iG S mb k m.qp)else some (cy m k)).map fun r=>fV r 0 0 else some (cy m k)
noncomputable def EE(m:Mb)(S:cD)(mb:Int)(k:Nat)(r:Nat->Int):List Ev:=jP (qH (iZ m.edge (dB S mb k m.qp).1) r) (if alone m=true then 1 else 0)
def rM(pat k:Int):Int:=ya .i64 pat (8/2^k.toNat)
def rq(col k:Int):Int:=ya .u64 col (2/2^(k-4).toNat)
noncomputable def gw(m:Mb)(mb:Int)(k:Nat)(x:ri)(ev:List Ev):ri:=
 ⟨if alone m=true then eC x.S mb k ⟨cy m k,m.qp⟩else x.S,if alone m=true then x.B++fJ (cy m k 0-(dB x.S mb k m.qp).2)else x.B,if 0<ev.length/\k<4 then rM x.pat k else x.pat,if 0<ev.length/\¬k<4 then rq x.col k else x.col,fun j=>if j=k then ev else x.ev j⟩
noncomputable def kh(m:Mb)(mb:Int)(x0:ri):Nat->Option ri
 | 0=>some x0
 | k+1=>(kh m mb x0 k).bind fun x=>(m7 m x.S mb k).map fun r=>gw m mb k x (EE m x.S mb k r)
theorem EG{m:Mb}{mb:Int}{x0:ri}{k:Nat}(h:kh m mb x0 k=none):∀j,k<=j->kh m mb x0 j=none:=by
 intro j hj
 induction hj with
 | refl=>exact h
 | step _ ih=>rw[kh,ih];rfl
def za(T:nq):Prop:=∀key b,eK T key=some b->∀i,-1000000<=b.lv i/\b.lv i<=1000000
def GO(S:cD):Prop:=za S.A/\za S.B/\za S.C
theorem Ig{T:nq}(h:za T){key:Int}{b:Kn}(hb:∀i,-1000000<=b.lv i/\b.lv i<=1000000):za (v_ T key b):=fun key' b' h'=>by
 rw[rK]at h';split at h'
 ·cases h';exact hb
 ·exact h key' b' h'
theorem uu{p q:Int}{T:nq}(h:za T){key:Int}{b:Kn}(hb:∀i,-1000000<=b.lv i/\b.lv i<=1000000):za (rS p q T key b):=by
 unfold rS;split
 ·exact Ig h hb
 ·exact h
theorem ur:za []:=fun key b h=>by cases h
structure kg(S:cD):Prop where
 dims:lP S.cols S.rows
 lev:GO S
 tiny:fH S.M
theorem Iv{S:cD}(h:GO S){mb k dx dy:Int}{b:Kn}(hb:B5 S mb k dx dy=some b):∀i,-1000000<=b.lv i/\b.lv i<=1000000:=by
 unfold B5 bD cf at hb;split at hb
 ·cases hb
 ·unfold bK at hb;split at hb
  ·exact h.1 _ _ hb
  ·split at hb
   ·exact h.2.1 _ _ hb
   ·exact h.2.2 _ _ hb
structure nw(m:Mb):Prop where
 ok:jR m
 kind:m.kind<=4
 lev:∀i,i<384 -> -2047<=m.lev i/\m.lev i<=2047
 first:alone m=true->∀k,k<6->0<=m.lev (k*64)/\m.lev (k*64)<=127
structure Er(m:Mb)(mb:Int)(x0:ri)(s:Nat×ri):Prop where
 le:s.1<=6
 run:kh m mb x0 s.1=some s.2
 st:kg s.2.S
 cr:s.2.S.cols=x0.S.cols/\s.2.S.rows=x0.S.rows
 len:s.2.B.length<=x0.B.length+76*s.1
 nil:∀j,s.1<=j->s.2.ev j = []
 evs:∀j,s.2.ev j = []\/p5 (s.2.ev j)
 pat:0<=s.2.pat/\s.2.pat<16
 col:0<=s.2.col/\s.2.col<4
theorem IG:∀(a:Fin 16) (k:Fin 4),0<=rM (a.val:Int) (k.val:Int)/\rM (a.val:Int) (k.val:Int)<16:=by decide +kernel
theorem Hl:∀(a:Fin 4) (k:Fin 2),0<=rq (a.val:Int) ((k.val+4:Nat):Int)/\rq (a.val:Int) ((k.val+4:Nat):Int)<4:=by decide +kernel
theorem IH{a:Int}{k:Nat}(h:0<=a/\a<16)(hk:k<4):0<=rM a k/\rM a k<16:=by
 have:=IG ⟨a.toNat,by omega⟩ ⟨k,hk⟩;simp only[Int.toNat_of_nonneg h.1]at this;exact this
theorem Hm{a:Int}{k:Nat}(h:0<=a/\a<4)(hk:¬k<4)(hk6:k<6):0<=rq a k/\rq a k<4:=by
 have:=Hl ⟨a.toNat,by omega⟩ ⟨k-4,by omega⟩;simp only[Int.toNat_of_nonneg h.1,show k-4+4=k by omega]at this;exact this
theorem tQ{m:Mb}(hg:nw m){S:cD}{mb:Int}{k:Nat}(ha:alone m=true)(hk:k<6) : -4000<=cy m k 0-(dB S mb k m.qp).2/\cy m k 0-(dB S mb k m.qp).2<=4000:=by
 have h1:=hg.first ha k hk
 have h2:=rW S mb k m.qp;have e:cy m k 0=m.lev (k*64):=by unfold cy;rw[Nat.add_zero]
 rw[e];omega
theorem Ie{m:Mb}(hg:nw m){k:Nat}(hk:k<6):∀i,i<64 -> -2047<=cy m k i/\cy m k i<=2047:=fun i hi=>hg.lev _ (by omega)
theorem Fb{l e r:Nat->Int}(h:pc l e=some r):∀i,i<64 -> -2047<=r i/\r i<=2047:=by
 unfold pc at h;split at h
 ·cases h
 ·rename_i hn;cases h;intro i hi;have:¬ln l e i:=fun hb=>hn ⟨i,hi,hb⟩
  unfold ln at this;show -2047<=l i-e i/\l i-e i<=2047;omega
theorem EF{m:Mb}(hg:nw m){S:cD}{mb:Int}{k:Nat}(hk:k<6){r:Nat->Int}(h:m7 m S mb k=some r):∀i,i<64 -> -2047<=r i/\r i<=2047:=by
 have hl:=Ie hg hk
 have hu:∀q:Nat->Int,(∀i,i<64 -> -2047<=q i/\q i<=2047)->∀i,i<64 -> -2047<=fV q 0 0 i/\fV q 0 0 i<=2047:=fun q hq i hi=>by
  unfold fV;split
  ·omega
  ·exact hq i hi
 unfold m7 at h;split at h
 ·obtain⟨q,hq,rfl⟩:=Option.map_eq_some_iff.1 h;split at hq
  ·exact hu q (Fb hq)
  ·cases hq;exact hu _ hl
 ·cases h;exact hl
theorem wx{m:Mb}(hg:nw m){mb:Int}{x0:ri}{s:Nat×ri}(h:Er m mb x0 s)(h6:s.1<6){r:Nat->Int}(hr:m7 m s.2.S mb s.1=some r):Er m mb x0 (s.1+1,gw m mb s.1 s.2 (EE m s.2.S mb s.1 r)):=by
 have hrr:=EF hg h6 hr
 have hev:EE m s.2.S mb s.1 r = []\/p5 (EE m s.2.S mb s.1 r):=by
  unfold EE;exact L4 (by split<;>omega) (Jf (oI _ _) hrr)
 refine⟨by show s.1+1<=6;omega,?_,?_,?_,?_,?_,?_,?_,?_⟩
 ·show kh m mb x0 (s.1+1)=_;rw[kh,h.run];simp only[Option.bind_some,hr,Option.map_some]
 ·show kg (if alone m=true then eC s.2.S mb s.1 ⟨cy m s.1,m.qp⟩else s.2.S);split
  ·have hb:∀i,-1000000<=(Kn.mk (cy m s.1) m.qp).lv i/\(Kn.mk (cy m s.1) m.qp).lv i<=1000000:=fun i=>hg.ok.lev _
   exact⟨h.st.dims,⟨uu h.st.lev.1 hb,uu h.st.lev.2.1 hb,uu h.st.lev.2.2 hb⟩,h.st.tiny⟩
  ·exact h.st
 ·show(if alone m=true then eC s.2.S mb s.1 ⟨cy m s.1,m.qp⟩else s.2.S).cols=_/\(if alone m=true then eC s.2.S mb s.1 ⟨cy m s.1,m.qp⟩else s.2.S).rows=_;split<;>exact h.cr
 ·show(if alone m=true then s.2.B++fJ (cy m s.1 0-(dB s.2.S mb s.1 m.qp).2)else s.2.B).length<=x0.B.length+76*(s.1+1);have:=h.len;split
  ·rename_i ha;have:=ES (tQ hg (S:=s.2.S) (mb:=mb) ha h6);rw[List.length_append];omega
  ·omega
 ·intro j hj;show(if j=s.1 then _ else s.2.ev j) = [];have hj':s.1+1<=j:=hj;rw[if_neg (by omega)];exact h.nil j (by omega)
 ·intro j;show(if j=s.1 then _ else s.2.ev j) = []\/p5 (if j=s.1 then _ else s.2.ev j);split
  ·exact hev
  ·exact h.evs j
 ·show 0<=(if _ then rM s.2.pat s.1 else s.2.pat)/\(if _ then rM s.2.pat s.1 else s.2.pat)<16;split
  ·rename_i hc;exact IH h.pat hc.2
  ·exact h.pat
 ·show 0<=(if _ then rq s.2.col s.1 else s.2.col)/\(if _ then rq s.2.col s.1 else s.2.col)<4;split
  ·rename_i hc;exact Hm h.col hc.2 h6
  ·exact h.col
def eG(x:ri):List Bool:=(x.B++jl cP x.pat.toNat)++aI x.col 2
def cV(bw:List Bool)(x:ri):Nat->List Bool
 | 0=>bw
 | k+1=>cV bw x k++gJ (x.ev k)
theorem rl{bw:List Bool}{x:ri}(h:∀j,x.ev j = []\/p5 (x.ev j)):∀k,(cV bw x k).length<=bw.length+3456*k
 | 0=>Nat.le_refl _
 | k + 1=>by
   rw[cV,List.length_append];have ih:=rl (bw:=bw) h k
   have:(gJ (x.ev k)).length<=3456:=by
    rcases h k with e|e
    ·rw[e];simp[gJ]
    ·have h1:=tW e _ (Nat.le_refl _);rw[List.take_length]at h1;have:=e.len;omega
   omega
theorem ve{m:Mb}{a:Bool}(ha:alone m=a){HS:ah}(hb:Nat.blt HS.length Mem.bound=true):az.Sound prog ⟨127,[.agg (mC m)],HS,.one (.int .i64 (if a=true then 1 else 0)),HS,[]⟩:=by
 subst ha;exact Jx hb
abbrev NI(ev:Nat->List Ev):aj := .cells [eg 27 (ev 0).length 3,eg 28 (ev 1).length 3,eg 29 (ev 2).length 3,eg 30 (ev 3).length 3,eg 31 (ev 4).length 3,eg 32 (ev 5).length 3] 232 false false
end Go.Proofs.YthdciapjllppjaaGreat
