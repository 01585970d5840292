/-
  A part of the proof: Sta2, Sta3, TabS, EvLaw, Blocks0.
-/
import Derived.Test.YtnkodcmkpfefhaaGreatEeP
set_option maxRecDepth 10000
set_option maxHeartbeats 8000000
set_option linter.unusedVariables false
set_option linter.unusedSectionVars false
set_option linter.unusedSimpArgs false
namespace Go.Proofs.YtnkodcmkpfefhaaGreat
open Go.Xm
variable [aw]
abbrev JI(S:bO):List XC:=[.ptr 3 0,.int .i64 S.id,.bool S.inter,.bool S.down,.int .i64 S.hqp,.int .i64 S.qp,.ptr 16 0,.ptr 18 0]
theorem uQ{S:bO}{b:Bool}(h:S.inter=b):(JI S)[2]? = some (.bool b):=by rw[<-h];rfl
def aG(S:bO)(m:Mb):List Bool:=(if S.inter=true then ir cM m.kind.toNat else [decide (m.kind=4)])++(if m.kind=4 then fq (dV S.qp m.qp).1 2 else [])
def eR(S:bO)(m:Mb):bO:=if m.kind=4 then {S with qp:=m.qp}else S
theorem CF(a b:Int):0<=(dV a b).1/\(dV a b).1<=3:=by
 unfold dV
 repeat' split
 all_goals simp
theorem gx(bs:List Bool)(S:bO)(m:Mb)(hm:iR m)(hk:m.kind<=4)(hq : -1000000<=S.qp/\S.qp<=1000000)(hb:bs.length<=800000) :
 aW Tryz.prog 109 [.one (.ptr 2 0),.one (.ptr 0 0),.agg (mC m)] [aK 1 bs,aq bs,fv (S),cK 4 8 12,aI 5 6 7 cM,bz cM,bC cM,bB cM,aI 9 10 11 cZ,bz cZ,bC cZ,bB cZ,aI 13 14 15 cP,bz cP,bC cP,bB cP,dq 17 (S).cols (S).rows,.map (bK (S).M),.cells [.int .i64 (S).cols,.int .i64 (S).rows,.map 19,.map 20,.map 21] 142 false false,.map (aj (S).A),.map (aj (S).B),.map (aj (S).C)] (.tup []) [aK 22 (bs++aG S m),.dead,fv (eR S m),cK 4 8 12,aI 5 6 7 cM,bz cM,bC cM,bB cM,aI 9 10 11 cZ,bz cZ,bC cZ,bB cZ,aI 13 14 15 cP,bz cP,bC cP,bB cP,dq 17 (eR S m).cols (eR S m).rows,.map (bK (eR S m).M),.cells [.int .i64 (eR S m).cols,.int .i64 (eR S m).rows,.map 19,.map 20,.map 21] 142 false false,.map (aj (eR S m).A),.map (aj (eR S m).B),.map (aj (eR S m).C),aq (bs++aG S m)]:=by
 have hkind:=hm.kind
 have hqp:=hm.qp
 have hsr:=CF S.qp m.qp
 have hcb:=i0 zV m.kind.toNat
 have hkn:m.kind=(m.kind.toNat:Nat):=by omega
 unfold aG
 obtain⟨b,hin⟩:∃b,S.inter=b:=⟨_,rfl⟩
 have hl2:=uQ hin
 by_cases h4:m.kind=4
 ·have e4:eR S m = {S with qp:=m.qp}:=if_pos h4
  rw[e4,if_pos h4]
  cases b
  ·rw[if_neg (by rw[hin];decide),decide_eq_true h4,<-List.append_assoc]
   refine cO Tryz.func109 ?_
   repeat' (first
    |(refine qz ?_;first
     |refine ld (hc:=hl2) ?_
     |refine cl ?_ (hi:=by exact jl (b:=true) (bs:=bs) (by omega) rfl rfl (by decide) nL nA rfl)
     |refine cl ?_ (hi:=by exact qM hq hqp rfl)
     |refine cl ?_ (hi:=by exact fR (n:=(dV S.qp m.qp).1) (size:=2) rfl (bs:=bs++[true]) (by omega) (by decide) (by rw[List.length_append];simp;omega) rfl rfl (by decide) nL nA rfl))
    |refine zz ?_|refine zx (fun _=>?_) (fun _=>?_)|fail)
   show aD _ _ _ _ _ _ _ _;refine kV [0,1,2,3,4,5,6,7,8,9,10,11,12,13,14,15,16,17,18,19,20,21,24] ?_
   rfl
  ·rw[if_pos hin,<-List.append_assoc]
   refine cO Tryz.func109 ?_
   repeat' (first
    |(refine qz ?_;first
     |refine ld (hc:=hl2) ?_
     |refine cl ?_ (hi:=by exact n9 (C:=cM) zV (n:=m.kind.toNat) hkn (by show m.kind.toNat<5;omega) (bs:=bs) (by omega) rfl rfl rfl rfl rfl rfl (by decide) nL nA rfl)
     |refine cl ?_ (hi:=by exact qM hq hqp rfl)
     |refine cl ?_ (hi:=by exact fR (n:=(dV S.qp m.qp).1) (size:=2) rfl (bs:=bs++ir cM m.kind.toNat) (by omega) (by decide) (by rw[List.length_append];omega) rfl rfl (by decide) nL nA rfl))
    |refine zz ?_|refine zx (fun _=>?_) (fun _=>?_)|fail)
   show aD _ _ _ _ _ _ _ _;refine kV [0,1,2,3,4,5,6,7,8,9,10,11,12,13,14,15,16,17,18,19,20,21,24] ?_
   rfl
 ·have e4:eR S m=S:=if_neg h4
  rw[e4,if_neg h4,List.append_nil]
  cases b
  ·rw[if_neg (by rw[hin];decide),decide_eq_false h4]
   refine cO Tryz.func109 ?_
   repeat' (first
    |(refine qz ?_;first
     |refine ld (hc:=hl2) ?_
     |refine cl ?_ (hi:=by exact jl (b:=false) (bs:=bs) (by omega) rfl rfl (by decide) nL nA rfl))
    |refine zz ?_|refine zx (fun _=>?_) (fun _=>?_)|fail)
   show aD _ _ _ _ _ _ _ _;refine kV [0,1,2,3,4,5,6,7,8,9,10,11,12,13,14,15,16,17,18,19,20,21,23] ?_
   rfl
  ·rw[if_pos hin]
   refine cO Tryz.func109 ?_
   repeat' (first
    |(refine qz ?_;first
     |refine ld (hc:=hl2) ?_
     |refine cl ?_ (hi:=by exact n9 (C:=cM) zV (n:=m.kind.toNat) hkn (by show m.kind.toNat<5;omega) (bs:=bs) (by omega) rfl rfl rfl rfl rfl rfl (by decide) nL nA rfl))
    |refine zz ?_|refine zx (fun _=>?_) (fun _=>?_)|fail)
   show aD _ _ _ _ _ _ _ _;refine kV [0,1,2,3,4,5,6,7,8,9,10,11,12,13,14,15,16,17,18,19,20,21,23] ?_
   rfl
theorem ej(S:bO)(m:Mb):(aG S m).length<=66:=by
 unfold aG
 have:=i0 zV m.kind.toNat
 rw[List.length_append]
 split<;>split<;>simp only[List.length_cons,List.length_nil,gB]<;>omega
def AM(M:iI)(cols mb:Int)(v:Nat->Int×Int):iI:=a_ (a_ (a_ (a_ M cols mb 0 (v 0)) cols mb 1 (v 1)) cols mb 2 (v 2)) cols mb 3 (v 3)
def bk(S:bO)(mb:Int)(v:Nat->Int×Int):bO:={S with M:=AM S.M S.cols mb v}
theorem CK(bs:List Bool)(S:bO)(hD:j6 S.cols S.rows)(mb:Int)(hmb:0<=mb/\mb<S.cols*S.rows)(m:Mb) :
 aW Tryz.prog 110 [.one (.ptr 2 0),.one (.int .i64 mb),.agg (mC m)] [aK 1 bs,aq bs,fv (S),cK 4 8 12,aI 5 6 7 cM,bz cM,bC cM,bB cM,aI 9 10 11 cZ,bz cZ,bC cZ,bB cZ,aI 13 14 15 cP,bz cP,bC cP,bB cP,dq 17 (S).cols (S).rows,.map (bK (S).M),.cells [.int .i64 (S).cols,.int .i64 (S).rows,.map 19,.map 20,.map 21] 142 false false,.map (aj (S).A),.map (aj (S).B),.map (aj (S).C)] (.tup []) [aK 1 bs,aq bs,fv (bk S mb m.v),cK 4 8 12,aI 5 6 7 cM,bz cM,bC cM,bB cM,aI 9 10 11 cZ,bz cZ,bC cZ,bB cZ,aI 13 14 15 cP,bz cP,bC cP,bB cP,dq 17 (bk S mb m.v).cols (bk S mb m.v).rows,.map (bK (bk S mb m.v).M),.cells [.int .i64 (bk S mb m.v).cols,.int .i64 (bk S mb m.v).rows,.map 19,.map 20,.map 21] 142 false false,.map (aj (bk S mb m.v).A),.map (aj (bk S mb m.v).B),.map (aj (bk S mb m.v).C)]:=by
 refine cO Tryz.func110 ?_
 repeat' (first
  |(refine qz ?_;first
   |refine mU (cs:=vt m.v) ?_ (hle:=by rw[aQ];decide)
   |refine BL ?_
   |refine cl ?_ (hi:=by exact eH (M:=S.M) (cols:=S.cols) (rows:=S.rows) (i:=16) (j:=17) (k:=0) (v:=m.v 0) hD hmb (by decide) rfl rfl (by decide) nA rfl)
   |refine cl ?_ (hi:=by exact eH (M:=a_ S.M S.cols mb 0 (m.v 0)) (cols:=S.cols) (rows:=S.rows) (i:=16) (j:=17) (k:=1) (v:=m.v 1) hD hmb (by decide) rfl rfl (by decide) nA rfl)
   |refine cl ?_ (hi:=by exact eH (M:=a_ (a_ S.M S.cols mb 0 (m.v 0)) S.cols mb 1 (m.v 1)) (cols:=S.cols) (rows:=S.rows) (i:=16) (j:=17) (k:=2) (v:=m.v 2) hD hmb (by decide) rfl rfl (by decide) nA rfl)
   |refine cl ?_ (hi:=by exact eH (M:=a_ (a_ (a_ S.M S.cols mb 0 (m.v 0)) S.cols mb 1 (m.v 1)) S.cols mb 2 (m.v 2)) (cols:=S.cols) (rows:=S.rows) (i:=16) (j:=17) (k:=3) (v:=m.v 3) hD hmb (by decide) rfl rfl (by decide) nA rfl))
  |refine WX.loop ?_|refine WX.round ?_|refine zz ?_|refine zx (fun _=>?_) (fun _=>?_)|fail)
 show aD _ _ _ _ _ _ _ _;refine kV [0,1,2,3,4,5,6,7,8,9,10,11,12,13,14,15,16,17,18,19,20,21] ?_
 rfl
def BV(S:bO)(mb k dx dy:Int):Option Kn:=cx S.A S.B S.C S.cols (placeOf S.cols mb k).1 ((placeOf S.cols mb k).2.1-dx) ((placeOf S.cols mb k).2.2-dy)
def bN(S:bO)(mb k q:Int):Int×Int:=jb (BV S mb k 1 0) (BV S mb k 0 1) (BV S mb k 1 1) q
def j0(S:bO)(mb k q:Int):Nat->Int:=z7 (BV S mb k 1 0) (BV S mb k 0 1) (BV S mb k 1 1) q
def J7(S:bO)(mb k:Int):Int:=(placeOf S.cols mb k).2.2*ch S.cols (placeOf S.cols mb k).1+(placeOf S.cols mb k).2.1
def cc(S:bO)(mb k:Int)(b:Kn):bO:={S with A:=r_ (placeOf S.cols mb k).1 0 S.A (J7 S mb k) b,B:=r_ (placeOf S.cols mb k).1 1 S.B (J7 S mb k) b,C:=r_ (placeOf S.cols mb k).1 2 S.C (J7 S mb k) b}
theorem bn(n q:Int):0<=cG n q/\cG n q<=127:=by
 have h:=lx q
 have:0<=(max n 0+stepOf q/2)/stepOf q:=Int.ediv_nonneg (by omega) (by omega)
 unfold cG
 omega
theorem D5(la lb lc:Option Kn)(q:Int):0<=(jb la lb lc q).2/\(jb la lb lc q).2<=127/\0<=(jb la lb lc q).1/\(jb la lb lc q).1<=2:=by
 unfold jb
 cases la<;>cases lb<;>simp only[]
 ·exact⟨(bn _ _).1,(bn _ _).2,by simp,by simp⟩
 ·exact⟨(bn _ _).1,(bn _ _).2,by simp,by simp⟩
 ·exact⟨(bn _ _).1,(bn _ _).2,by simp,by simp⟩
 ·cases lc<;>simp only[]<;>split
  ·exact⟨(bn _ _).1,(bn _ _).2,by simp,by simp⟩
  ·exact⟨(bn _ _).1,(bn _ _).2,by simp,by simp⟩
  ·exact⟨(bn _ _).1,(bn _ _).2,by simp,by simp⟩
  ·exact⟨(bn _ _).1,(bn _ _).2,by simp,by simp⟩
theorem kD(S:bO)(mb k q:Int):0<=(bN S mb k q).2/\(bN S mb k q).2<=127/\0<=(bN S mb k q).1/\(bN S mb k q).1<=2:=D5 _ _ _ _
section
variable {S:bO} {mb k q:Int}(hD:j6 S.cols S.rows) (hmb:0<=mb/\mb<S.cols*S.rows) (hk:0<=k/\k<6)
include hD hmb hk
theorem MI:fQ S.cols S.rows mb k=true:=iy.2 ⟨hmb.1,hmb.2,hk⟩
theorem FG:aW Tryz.prog 127 [.one (.ptr 0 0),.one (.int .i64 mb),.one (.int .i64 k),.one (.int .i64 q)] (bt S.cols S.rows S.A S.B S.C) (iU (bN S mb k q)) (bt S.cols S.rows S.A S.B S.C):=
 oc ⟨hD.c0,hD.c1⟩ ⟨by have:=hD.r0;omega,hD.r1⟩ (MI hD hmb hk) (p:=(placeOf S.cols mb k).1) (x:=(placeOf S.cols mb k).2.1) (y:=(placeOf S.cols mb k).2.2) rfl (by unfold BV;rw[Int.sub_zero]) (by unfold BV;rw[Int.sub_zero]) rfl
theorem tN:aW Tryz.prog 98 [.one (.ptr 0 0),.one (.int .i64 mb),.one (.int .i64 k),.one (.int .i64 q)] (bt S.cols S.rows S.A S.B S.C) (.agg (ti .i64 64 (j0 S mb k q))) (bt S.cols S.rows S.A S.B S.C):=
 DU ⟨hD.c0,hD.c1⟩ ⟨by have:=hD.r0;omega,hD.r1⟩ (MI hD hmb hk) (p:=(placeOf S.cols mb k).1) (x:=(placeOf S.cols mb k).2.1) (y:=(placeOf S.cols mb k).2.2) rfl (by unfold BV;rw[Int.sub_zero]) (by unfold BV;rw[Int.sub_zero]) rfl
theorem xi(b:Kn):aW Tryz.prog 99 [.one (.ptr 0 0),.one (.int .i64 mb),.one (.int .i64 k),.agg (cU b)] (bt S.cols S.rows S.A S.B S.C) (.tup []) (bt S.cols S.rows (cc S mb k b).A (cc S mb k b).B (cc S mb k b).C):=
 HI ⟨hD.c0,hD.c1⟩ ⟨by have:=hD.r0;omega,hD.r1⟩ (MI hD hmb hk) (p:=(placeOf S.cols mb k).1) (x:=(placeOf S.cols mb k).2.1) (y:=(placeOf S.cols mb k).2.2) rfl b
theorem lz{HS:ai}(ha:HS[18]? = some (.cells [.int .i64 S.cols,.int .i64 S.rows,.map 19,.map 20,.map 21] 142 false false))(hb:HS[19]? = some (.map (aj S.A)))(hc:HS[20]? = some (.map (aj S.B)))(hd:HS[21]? = some (.map (aj S.C)))(hbd:Nat.blt HS.length Mem.bound=true) :
 aC.Sound Tryz.prog ⟨127,[.one (.ptr 18 0),.one (.int .i64 mb),.one (.int .i64 k),.one (.int .i64 q)],HS,iU (bN S mb k q),HS,[]⟩:=
 aF (FG hD hmb hk) 18 19 20 21 (by decide) ha hb hc hd rfl rfl hbd
theorem sf{HS:ai}(ha:HS[18]? = some (.cells [.int .i64 S.cols,.int .i64 S.rows,.map 19,.map 20,.map 21] 142 false false))(hb:HS[19]? = some (.map (aj S.A)))(hc:HS[20]? = some (.map (aj S.B)))(hd:HS[21]? = some (.map (aj S.C)))(hbd:Nat.blt HS.length Mem.bound=true) :
 aC.Sound Tryz.prog ⟨98,[.one (.ptr 18 0),.one (.int .i64 mb),.one (.int .i64 k),.one (.int .i64 q)],HS,.agg (ti .i64 64 (j0 S mb k q)),HS,[]⟩:=
 aF (tN hD hmb hk) 18 19 20 21 (by decide) ha hb hc hd rfl (iX _ _ _) hbd
theorem qN{b:Kn}{HS HS':ai}(ha:HS[18]? = some (.cells [.int .i64 S.cols,.int .i64 S.rows,.map 19,.map 20,.map 21] 142 false false))(hb:HS[19]? = some (.map (aj S.A)))(hc:HS[20]? = some (.map (aj S.B)))(hd:HS[21]? = some (.map (aj S.C)))(hh:((HS.set 19 (.map (aj (cc S mb k b).A))).set 20 (.map (aj (cc S mb k b).B))).set 21 (.map (aj (cc S mb k b).C))=HS')(hbd:Nat.blt HS'.length Mem.bound=true) :
 aC.Sound Tryz.prog ⟨99,[.one (.ptr 18 0),.one (.int .i64 mb),.one (.int .i64 k),.agg (cU b)],HS,.tup [],HS',[19,20,21]⟩:=
 wk (xi hD hmb hk b) 18 19 20 21 (by decide) ha hb hc hd hh hbd
end
theorem ly{S:bO}{mb k q:Int}(h:∀dx dy b,BV S mb k dx dy=some b->∀i,-1000000<=b.lv i/\b.lv i<=1000000)(i:Nat) : -1000000<=j0 S mb k q i/\j0 S mb k q i<=1000000:=by
 have hem:∀(b:Kn) (s:Nat),(∀i,-1000000<=b.lv i/\b.lv i<=1000000)->∀n i,-1000000<=em b s n i/\em b s n i<=1000000:=by
  intro b s hb n
  induction n with
  | zero=>intro i;simp[em]
  | succ n ih=>
    intro i
    rw[uk]
    unfold gM
    split
    ·exact hb _
    ·exact ih i
 have ho:∀(o:Option Kn) (s:Nat),(∀b,o=some b->∀i,-1000000<=b.lv i/\b.lv i<=1000000) -> -1000000<=kf o s q i/\kf o s q i<=1000000:=by
  intro o s hb
  cases o with
  | none=>simp[kf,gX]
  | some b=>
    unfold kf
    simp only[]
    split
    ·exact hem b s (hb b rfl) _ i
    ·simp[gX]
 unfold j0 z7
 split
 ·exact ho _ _ (h 1 0)
 ·split
  ·exact ho _ _ (h 0 1)
  ·simp[gX]
end Go.Proofs.YtnkodcmkpfefhaaGreat
namespace Go.Proofs.YtnkodcmkpfefhaaGreat
open Go.Xm
variable [aw]
theorem r6{f:Nat->Int}(h:∀i,i<64 -> -2047<=f i/\f i<=2047):∀(n i:Nat) (run:Int),i+n=64->0<=run->run<=i->∀e∈jL f n i run,Df e/\e.2.2=false
 | 0,i,run,_,_,_,e,he=>by cases he
 | n + 1,i,run,h1,h2,h3,e,he=>by
   unfold jL at he
   by_cases hz:f i=0
   ·rw[if_pos hz]at he
    exact r6 h n (i+1) (run+1) (by omega) (by omega) (by omega) e he
   ·rw[if_neg hz]at he
    rcases List.mem_cons.1 he with rfl|he
    ·exact⟨⟨⟨h2,by show run<=63;omega⟩,hz,h i (by omega)⟩,rfl⟩
    ·exact r6 h n (i+1) 0 (by omega) (by omega) (by omega) e he
theorem rF:∀(l:List Ev) (j:Nat),(∀e∈l,e.2.2=false)->j<l.length->(jc l).getD j default=((l.getD j default).1,(l.getD j default).2.1,decide (j+1=l.length))
 | [],j,_,hj=>by simp at hj
 | [e],j,_,hj=>by
   have:j=0:=by simpa using hj
   subst this
   rfl
 | e::e2::l,0,hf,_=>by
   have:e.2.2=false:=hf e (List.mem_cons_self ..)
   show e=(e.1,e.2.1,decide (0+1=(e::e2::l).length))
   rw[decide_eq_false (by simp),<-this]
 | e :: e2::l,j+1,hf,hj=>by
   have ih:=rF (e2::l) j (fun x hx=>hf x (List.mem_cons_of_mem _ hx)) (by simpa using hj)
   show(jc (e2::l)).getD j default=_
   rw[ih]
   show _=(((e2::l).getD j default).1,((e2::l).getD j default).2.1,decide (j+1+1=(e::e2::l).length))
   have:decide (j+1=(e2::l).length)=decide (j+1+1=(e::e2::l).length):=by
    simp only[List.length_cons]
    rcases Classical.em (j+1=l.length+1)with g|g
    ·rw[decide_eq_true g,decide_eq_true (by omega)]
    ·rw[decide_eq_false g,decide_eq_false (by omega)]
   rw[this]
theorem HG{f:Nat->Int}{st:Nat}(hst:st<=64)(h:∀i,i<64 -> -2047<=f i/\f i<=2047):gF f st = []\/nV (gF f st):=by
 have hg:=r6 h (64-st) st 0 (by omega) (Int.le_refl _) (by omega)
 have hlen:=pr f (64-st) st 0
 unfold gF
 generalize jL f (64-st) st 0=l at hg hlen ⊢
 cases hl:l with
 | nil=>exact .inl rfl
 | cons a t=>
   right
   rw[<-hl]
   have hpos:0<l.length:=by rw[hl];simp
   have hget:∀j,j<l.length->(jc l).getD j default=((l.getD j default).1,(l.getD j default).2.1,decide (j+1=l.length)):=fun j hj=>rF l j (fun e he=>(hg e he).2) hj
   have hmem:∀j,j<l.length->l.getD j default∈l:=fun j hj=>by
    rw[List.getD_eq_getElem?_getD,List.getElem?_eq_getElem hj]
    exact List.getElem_mem hj
   refine⟨by rw[gW];omega,fun j hj=>?_,fun j hj=>?_⟩
   ·rw[gW]at hj
    have:=(hg _ (hmem j hj)).1
    rw[hget j hj]
    exact⟨this.run,this.nz,this.lev⟩
   ·rw[gW]at hj
    rw[hget j hj,gW]
theorem Fi{o:Int}(ho:o=0\/o=1\/o=2){f:Nat->Int}(h:∀i,i<64 -> -2047<=f i/\f i<=2047):∀i,i<64 -> -2047<=lK o f i/\lK o f i<=2047:=fun i hi=>by
 have:=Ap ho hi
 exact h _ (by omega)
structure oT where
 S:bO
 B:List Bool
 pat:Int
 col:Int
 ev:Nat->List Ev
def bg(m:Mb)(k:Nat)(i:Nat):Int:=m.lev (k*64+i)
noncomputable def f5(m:Mb)(S:bO)(mb:Int)(k:Nat):Option (Nat->Int):=
 if alone m=true then(if m.edge=true then jH (bg m k) (j0 S mb k m.qp)else some (bg m k)).map fun r=>gM r 0 0 else some (bg m k)
noncomputable def vu(m:Mb)(S:bO)(mb:Int)(k:Nat)(r:Nat->Int):List Ev:=gF (lK (gz m.edge (bN S mb k m.qp).1) r) (if alone m=true then 1 else 0)
def lp(pat k:Int):Int:=Gp .i64 pat (8/2^k.toNat)
def kT(col k:Int):Int:=Gp .u64 col (2/2^(k-4).toNat)
noncomputable def cw(m:Mb)(mb:Int)(k:Nat)(x:oT)(ev:List Ev):oT:=
 ⟨if alone m=true then cc x.S mb k ⟨bg m k,m.qp⟩else x.S,if alone m=true then x.B++cH (bg m k 0-(bN x.S mb k m.qp).2)else x.B,if 0<ev.length/\k<4 then lp x.pat k else x.pat,if 0<ev.length/\¬k<4 then kT x.col k else x.col,fun j=>if j=k then ev else x.ev j⟩
noncomputable def gm(m:Mb)(mb:Int)(x0:oT):Nat->Option oT
 | 0=>some x0
 | k+1=>(gm m mb x0 k).bind fun x=>(f5 m x.S mb k).map fun r=>cw m mb k x (vu m x.S mb k r)
theorem A9{m:Mb}{mb:Int}{x0:oT}{k:Nat}(h:gm m mb x0 k=none):∀j,k<=j->gm m mb x0 j=none:=by
 intro j hj
 induction hj with
 | refl=>exact h
 | step _ ih=>rw[gm,ih];rfl
def vB(T:mS):Prop:=∀key b,eF T key=some b->∀i,-1000000<=b.lv i/\b.lv i<=1000000
def pH(S:bO):Prop:=vB S.A/\vB S.B/\vB S.C
theorem Ex{T:mS}(h:vB T){key:Int}{b:Kn}(hb:∀i,-1000000<=b.lv i/\b.lv i<=1000000):vB (sX T key b):=fun key' b' h'=>by
 rw[tA]at h'
 split at h'
 ·cases h';exact hb
 ·exact h key' b' h'
theorem kp{p q:Int}{T:mS}(h:vB T){key:Int}{b:Kn}(hb:∀i,-1000000<=b.lv i/\b.lv i<=1000000):vB (r_ p q T key b):=by
 unfold r_
 split
 ·exact Ex h hb
 ·exact h
theorem kn:vB []:=fun key b h=>by cases h
structure f4(S:bO):Prop where
 dims:j6 S.cols S.rows
 lev:pH S
 tiny:c_ S.M
theorem uG{S:bO}(h:pH S){mb k dx dy:Int}{b:Kn}(hb:BV S mb k dx dy=some b):∀i,-1000000<=b.lv i/\b.lv i<=1000000:=by
 unfold BV cx b8 at hb
 split at hb
 ·cases hb
 ·unfold bE at hb
  split at hb
  ·exact h.1 _ _ hb
  ·split at hb
   ·exact h.2.1 _ _ hb
   ·exact h.2.2 _ _ hb
structure kL(m:Mb):Prop where
 ok:iR m
 kind:m.kind<=4
 lev:∀i,i<384 -> -2047<=m.lev i/\m.lev i<=2047
 first:alone m=true->∀k,k<6->0<=m.lev (k*64)/\m.lev (k*64)<=127
structure xS(m:Mb)(mb:Int)(x0:oT)(s:Nat×oT):Prop where
 le:s.1<=6
 run:gm m mb x0 s.1=some s.2
 st:f4 s.2.S
 cr:s.2.S.cols=x0.S.cols/\s.2.S.rows=x0.S.rows
 len:s.2.B.length<=x0.B.length+76*s.1
 nil:∀j,s.1<=j->s.2.ev j = []
 evs:∀j,s.2.ev j = []\/nV (s.2.ev j)
 pat:0<=s.2.pat/\s.2.pat<16
 col:0<=s.2.col/\s.2.col<4
theorem ER:∀(a:Fin 16) (k:Fin 4),0<=lp (a.val:Int) (k.val:Int)/\lp (a.val:Int) (k.val:Int)<16:=by decide +kernel
theorem DN:∀(a:Fin 4) (k:Fin 2),0<=kT (a.val:Int) ((k.val+4:Nat):Int)/\kT (a.val:Int) ((k.val+4:Nat):Int)<4:=by decide +kernel
theorem ES{a:Int}{k:Nat}(h:0<=a/\a<16)(hk:k<4):0<=lp a k/\lp a k<16:=by
 have:=ER ⟨a.toNat,by omega⟩ ⟨k,hk⟩
 simp only[Int.toNat_of_nonneg h.1]at this
 exact this
theorem DO{a:Int}{k:Nat}(h:0<=a/\a<4)(hk:¬k<4)(hk6:k<6):0<=kT a k/\kT a k<4:=by
 have:=DN ⟨a.toNat,by omega⟩ ⟨k-4,by omega⟩
 simp only[Int.toNat_of_nonneg h.1,show k-4+4=k by omega]at this
 exact this
theorem lW{m:Mb}(hg:kL m){S:bO}{mb:Int}{k:Nat}(ha:alone m=true)(hk:k<6) : -4000<=bg m k 0-(bN S mb k m.qp).2/\bg m k 0-(bN S mb k m.qp).2<=4000:=by
 have h1:=hg.first ha k hk
 have h2:=kD S mb k m.qp
 have e:bg m k 0=m.lev (k*64):=by unfold bg;rw[Nat.add_zero]
 rw[e]
 omega
theorem Ew{m:Mb}(hg:kL m){k:Nat}(hk:k<6):∀i,i<64 -> -2047<=bg m k i/\bg m k i<=2047:=fun i hi=>hg.lev _ (by omega)
theorem BP{l e r:Nat->Int}(h:jH l e=some r):∀i,i<64 -> -2047<=r i/\r i<=2047:=by
 unfold jH at h
 split at h
 ·cases h
 ·rename_i hn
  cases h
  intro i hi
  have:¬iV l e i:=fun hb=>hn ⟨i,hi,hb⟩
  unfold iV at this
  show -2047<=l i-e i/\l i-e i<=2047
  omega
theorem A8{m:Mb}(hg:kL m){S:bO}{mb:Int}{k:Nat}(hk:k<6){r:Nat->Int}(h:f5 m S mb k=some r):∀i,i<64 -> -2047<=r i/\r i<=2047:=by
 have hl:=Ew hg hk
 have hu:∀q:Nat->Int,(∀i,i<64 -> -2047<=q i/\q i<=2047)->∀i,i<64 -> -2047<=gM q 0 0 i/\gM q 0 0 i<=2047:=fun q hq i hi=>by
  unfold gM
  split
  ·omega
  ·exact hq i hi
 unfold f5 at h
 split at h
 ·obtain⟨q,hq,rfl⟩:=Option.map_eq_some_iff.1 h
  split at hq
  ·exact hu q (BP hq)
  ·cases hq;exact hu _ hl
 ·cases h;exact hl
theorem j_{m:Mb}(hg:kL m){mb:Int}{x0:oT}{s:Nat×oT}(h:xS m mb x0 s)(h6:s.1<6){r:Nat->Int}(hr:f5 m s.2.S mb s.1=some r):xS m mb x0 (s.1+1,cw m mb s.1 s.2 (vu m s.2.S mb s.1 r)):=by
 have hrr:=A8 hg h6 hr
 have hev:vu m s.2.S mb s.1 r = []\/nV (vu m s.2.S mb s.1 r):=by
  unfold vu
  exact HG (by split<;>omega) (Fi (gY _ _) hrr)
 refine⟨by show s.1+1<=6;omega,?_,?_,?_,?_,?_,?_,?_,?_⟩
 ·show gm m mb x0 (s.1+1)=_
  rw[gm,h.run]
  simp only[Option.bind_some,hr,Option.map_some]
 ·show f4 (if alone m=true then cc s.2.S mb s.1 ⟨bg m s.1,m.qp⟩else s.2.S)
  split
  ·have hb:∀i,-1000000<=(Kn.mk (bg m s.1) m.qp).lv i/\(Kn.mk (bg m s.1) m.qp).lv i<=1000000:=fun i=>hg.ok.lev _
   exact⟨h.st.dims,⟨kp h.st.lev.1 hb,kp h.st.lev.2.1 hb,kp h.st.lev.2.2 hb⟩,h.st.tiny⟩
  ·exact h.st
 ·show(if alone m=true then cc s.2.S mb s.1 ⟨bg m s.1,m.qp⟩else s.2.S).cols=_/\(if alone m=true then cc s.2.S mb s.1 ⟨bg m s.1,m.qp⟩else s.2.S).rows=_
  split<;>exact h.cr
 ·show(if alone m=true then s.2.B++cH (bg m s.1 0-(bN s.2.S mb s.1 m.qp).2)else s.2.B).length<=x0.B.length+76*(s.1+1)
  have:=h.len
  split
  ·rename_i ha
   have:=Bp (lW hg (S:=s.2.S) (mb:=mb) ha h6)
   rw[List.length_append];omega
  ·omega
 ·intro j hj
  show(if j=s.1 then _ else s.2.ev j) = []
  have hj':s.1+1<=j:=hj
  rw[if_neg (by omega)]
  exact h.nil j (by omega)
 ·intro j
  show(if j=s.1 then _ else s.2.ev j) = []\/nV (if j=s.1 then _ else s.2.ev j)
  split
  ·exact hev
  ·exact h.evs j
 ·show 0<=(if _ then lp s.2.pat s.1 else s.2.pat)/\(if _ then lp s.2.pat s.1 else s.2.pat)<16
  split
  ·rename_i hc
   exact ES h.pat hc.2
  ·exact h.pat
 ·show 0<=(if _ then kT s.2.col s.1 else s.2.col)/\(if _ then kT s.2.col s.1 else s.2.col)<4
  split
  ·rename_i hc
   exact DO h.col hc.2 h6
  ·exact h.col
def dY(x:oT):List Bool:=(x.B++ir cP x.pat.toNat)++fq x.col 2
def cC(bw:List Bool)(x:oT):Nat->List Bool
 | 0=>bw
 | k+1=>cC bw x k++fE (x.ev k)
theorem o4{bw:List Bool}{x:oT}(h:∀j,x.ev j = []\/nV (x.ev j)):∀k,(cC bw x k).length<=bw.length+3456*k
 | 0=>Nat.le_refl _
 | k + 1=>by
   rw[cC,List.length_append]
   have ih:=o4 (bw:=bw) h k
   have:(fE (x.ev k)).length<=3456:=by
    rcases h k with e|e
    ·rw[e];simp[fE]
    ·have h1:=rl e _ (Nat.le_refl _)
     rw[List.take_length]at h1
     have:=e.len
     omega
   omega
theorem kB{m:Mb}{a:Bool}(ha:alone m=a){HS:ai}(hb:Nat.blt HS.length Mem.bound=true):aC.Sound Tryz.prog ⟨149,[.agg (mC m)],HS,.one (.int .i64 (if a=true then 1 else 0)),HS,[]⟩:=by
 subst ha
 exact Fx hb
abbrev GA(ev:Nat->List Ev):ah := .cells [jx 27 (ev 0).length 3,jx 28 (ev 1).length 3,jx 29 (ev 2).length 3,jx 30 (ev 3).length 3,jx 31 (ev 4).length 3,jx 32 (ev 5).length 3] 225 false false
end Go.Proofs.YtnkodcmkpfefhaaGreat
