/-
  A part of the proof: PrSet, PrEdge, PrFacts.
-/
import Derived.Test.YthdciapjllppjaaGreatWaD
import Derived.Test.YthdciapjllppjaaGreatWaI
import Derived.Test.YthdciapjllppjaaGreatWaJ
import Derived.Test.YthdciapjllppjaaGreatWaK
set_option maxRecDepth 10000
set_option maxHeartbeats 8000000
set_option linter.unusedVariables false
set_option linter.unusedSectionVars false
set_option linter.unusedSimpArgs false
open Go.Proofs.Tryz (prog)
namespace Go.Proofs.YthdciapjllppjaaGreat
open Go.Xm
variable [ak]
theorem JM(cols rows:Int)(hc:0<=cols/\cols<=8)(hr:0<=rows/\rows<=8):bq prog 84 [.one (.int .i64 cols),.one (.int .i64 rows)] [] (.one (.ptr 0 0)) (bI cols rows [] [] []):=by
 refine cO Tryz.func84 ?_
 repeat' (first|refine zz ?_|refine zx (fun _=>?_) (fun _=>?_)|fail)
 show aE _ _ _ _ _ _ _ _;refine DB (nth [3,0,1,2]) (.inr rfl) (fun m hm=>rfl) rfl (show 0<4 by omega) ?_ (fun j hj=>absurd hj (Nat.not_lt_zero j));refine Nt [3,0,1,2] rfl (by decide) (dh _ _ _ _ _) fun j o hj=>?_
 match j,hj with
 | 0,hj=>cases hj;rfl
 | 1,hj=>cases hj;rfl
 | 2,hj=>cases hj;rfl
 | 3,hj=>cases hj;rfl
 | j+4,hj=>simp[bI]at hj
def rS(p q:Int)(T:nq)(key:Int)(b:Kn):nq:=if p=q then v_ T key b else T
theorem Ji(cols rows mb k p w x y:Int)(b:Kn)(A B C:nq)(hin:gR cols rows mb k=true)(hcr:0<=cols*rows/\cols*rows<=64)
 (hpl:bq prog 140 [.one (.ptr 0 0),.one (.int .i64 mb),.one (.int .i64 k)] (bI cols rows A B C) (.tup [.one (.int .i64 p),.one (.int .i64 w),.one (.int .i64 x),.one (.int .i64 y)]) (bI cols rows A B C))
 (hp:p=0\/p=1\/p=2) (hyw:0<=y*w/\y*w<=10000) (hx:0<=x/\x<=10000) :
 bq prog 123 [.one (.ptr 0 0),.one (.int .i64 mb),.one (.int .i64 k),.agg (dk b)] (bI cols rows A B C) (.tup []) (bI cols rows (rS p 0 A (y*w+x) b) (rS p 1 B (y*w+x) b) (rS p 2 C (y*w+x) b)):=by
 have hI:=fe cols rows mb k A B C hcr;rw[hin]at hI
 rcases hp with rfl|rfl|rfl
 all_goals
  refine cO Tryz.func123 ?_
  repeat' (first
   |(refine qz ?_;first
    |refine ax (aC hI 0 1 2 3 (by decide) rfl rfl rfl rfl rfl rfl rfl) rfl rfl rfl rfl rfl rfl (by kernel_rfl) rfl ?_
    |refine ax (aC hpl 0 1 2 3 (by decide) rfl rfl rfl rfl rfl rfl rfl) rfl rfl rfl rfl rfl rfl (by kernel_rfl) rfl ?_
    |refine Ay (vc:=BV) rfl rfl rfl s6 rfl rfl rfl rfl hS ?_)
   |refine zz ?_|refine zx (fun _=>?_) (fun _=>?_)|fail)
  show aE _ _ _ _ _ _ _ _;refine bN (junk:=_) (by first|exact .inr rfl|exact .inl rfl) (fE.zero rfl .nil) rfl (fun _ h=>by cases h) rfl (dh _ _ _ _ _)
def em(b:Kn)(s:Nat):Nat->Nat->Int
 | 0=>fun _=>0
 | n+1=>fV (em b s n) ((n+1)*s) (b.lv ((n+1)*s))
theorem xU(b:Kn)(s n:Nat):em b s (n+1)=fV (em b s n) ((n+1)*s) (b.lv ((n+1)*s)):=rfl
def iY:Nat->Int:=fun _=>0
theorem vj(k:IntKind)(n:Nat)(f:Nat->Int)(m:Nat):(XV.agg (ti k n f)).bH m:=by
 intro c hc;obtain⟨i,_,rfl⟩:=List.mem_map.1 hc;trivial
section
variable (cols rows mb k p w x y q n:Int) (A B C:nq)
 (hpl:bq prog 140 [.one (.ptr 0 0),.one (.int .i64 mb),.one (.int .i64 k)] (bI cols rows A B C) (.tup [.one (.int .i64 p),.one (.int .i64 w),.one (.int .i64 x),.one (.int .i64 y)]) (bI cols rows A B C))
 (hp:p=0\/p=1\/p=2) (hyw : -1000<=y*w/\y*w<=1000) (hyw1 : -1000<=(y-1)*w/\(y-1)*w<=1000) (hx:0<=x/\x<=1000) (hy:0<=y/\y<=1000)
include hpl hp hyw hyw1 hx hy
theorem NR(hE:bq prog 119 [.one (.ptr 0 0),.one (.int .i64 mb),.one (.int .i64 k),.one (.int .i64 q)] (bI cols rows A B C) (.tup [.one (.int .u8 0),.one (.int .i64 n)]) (bI cols rows A B C)) :
 bq prog 121 [.one (.ptr 0 0),.one (.int .i64 mb),.one (.int .i64 k),.one (.int .i64 q)] (bI cols rows A B C) (.agg (ti .i64 64 iY)) (bI cols rows A B C):=by
 refine cO Tryz.func121 ?_
 repeat' (first
  |(refine qz ?_;first
   |refine ax (aC hE 0 1 2 3 (by decide) rfl rfl rfl rfl rfl rfl rfl) rfl rfl rfl rfl rfl rfl (by kernel_rfl) rfl ?_)
  |refine zz ?_|refine zx (fun _=>?_) (fun _=>?_)|fail)
 show aE _ _ _ _ _ _ _ _;refine bN (junk:=_) (.inr rfl) (fE.one rfl (.cell rfl rfl (bO rfl) .nil)) ?_ (vj _ _ _ _) rfl (dh _ _ _ _ _);rfl
def BJ(n:Nat):aN:=[(19,.one (.int .i64 ((n+1:Nat)))),(8,.one (.ptr 4 0)),(9,.one (.ptr 5 0)),(16,.one (.int .i64 8)),(17,.one (.ptr 6 0))]
theorem NS(b:Kn)(ha:cf (bK A B C p) w (x-1) y=some b)(hE:bq prog 119 [.one (.ptr 0 0),.one (.int .i64 mb),.one (.int .i64 k),.one (.int .i64 q)] (bI cols rows A B C) (.tup [.one (.int .u8 1),.one (.int .i64 n)]) (bI cols rows A B C)) :
 bq prog 121 [.one (.ptr 0 0),.one (.int .i64 mb),.one (.int .i64 k),.one (.int .i64 q)] (bI cols rows A B C) (.agg (ti .i64 64 (if b.qp=q then em b 8 7 else iY))) (bI cols rows A B C):=by
 by_cases hq:b.qp=q
 ·rw [if_pos hq];refine cO Tryz.func121 ?_
  repeat' (first
   |(refine qz ?_;first
    |refine ax (aC hE 0 1 2 3 (by decide) rfl rfl rfl rfl rfl rfl rfl) rfl rfl rfl rfl rfl rfl (by kernel_rfl) rfl ?_
    |refine ax (aC hpl 0 1 2 3 (by decide) rfl rfl rfl rfl rfl rfl rfl) rfl rfl rfl rfl rfl rfl (by kernel_rfl) rfl ?_
    |refine ax (aC (eE ha hp (by omega) (by omega)) 0 1 2 3 (by decide) rfl rfl rfl rfl rfl (by simp[XV.shut,X1.shut,XC.shut,bd]) rfl) rfl rfl rfl rfl rfl rfl (by kernel_rfl) rfl ?_
    |refine fQ rfl rfl rfl rfl rfl rfl (uk _) ?_)
   |refine zz ?_|refine zx (fun _=>?_) (fun _=>?_)|fail)
  refine WX.loop ?_;refine WX.at (al':=BJ 0) (hs':=bI cols rows A B C++[.cells (ti .i64 64 iY) 104 false false,.cells (ti .i64 64 (em b 8 0)) 104 false false,.cells (dk b) 242 false false]) (bW rfl (bW rfl (bW rfl (bW rfl (bW rfl (qv _)))))) rfl ?_;refine WX.count BJ (fun n=>bI cols rows A B C++[.cells (ti .i64 64 iY) 104 false false,.cells (ti .i64 64 (em b 8 n)) 104 false false,.cells (dk b) 242 false false]) (fun _=>True) 7 trivial ?_;intro n hn _ ih;refine WX.round ?_;unfold BJ
  by_cases hlt:n<7
  ·have hj:(((n+1:Nat):Int)*8).toNat=(n+1)*8:=by omega
   repeat' (first
    |(refine qz ?_;first
     |refine fQ rfl rfl rfl rfl rfl rfl (zF _ _ (by omega)) ?_
     |refine kC rfl rfl rfl rfl rfl rfl (by rw[aT];omega) (rX _ _ _ _ _) hS ?_)
    |refine zz ?_|refine zx (fun _=>?_) (fun _=>?_)|fail)
   refine WX.at ?_ ?_ (ih hlt trivial)
   ·exact bW rfl (bW rfl (bW rfl (bW rfl (bW rfl (qv _)))))
   ·rw[xU,<-hj];rfl
  ·obtain rfl:n=7:=by omega
   clear ih
   repeat' (first|refine zz ?_|refine zx (fun _=>?_) (fun _=>?_)|fail)
   show aE _ _ _ _ _ _ _ _;refine bN (junk:=_) (.inr rfl) (fE.one rfl (.cell rfl rfl (bO rfl) .nil)) ?_ (vj _ _ _ _) rfl (dh _ _ _ _ _);rfl
 ·rw[if_neg hq];refine cO Tryz.func121 ?_
  repeat' (first
   |(refine qz ?_;first
    |refine ax (aC hE 0 1 2 3 (by decide) rfl rfl rfl rfl rfl rfl rfl) rfl rfl rfl rfl rfl rfl (by kernel_rfl) rfl ?_
    |refine ax (aC hpl 0 1 2 3 (by decide) rfl rfl rfl rfl rfl rfl rfl) rfl rfl rfl rfl rfl rfl (by kernel_rfl) rfl ?_
    |refine ax (aC (eE ha hp (by omega) (by omega)) 0 1 2 3 (by decide) rfl rfl rfl rfl rfl (by simp[XV.shut,X1.shut,XC.shut,bd]) rfl) rfl rfl rfl rfl rfl rfl (by kernel_rfl) rfl ?_
    |refine fQ rfl rfl rfl rfl rfl rfl (uk _) ?_)
   |refine zz ?_|refine zx (fun _=>?_) (fun _=>?_)|fail)
  show aE _ _ _ _ _ _ _ _;refine bN (junk:=_) (.inr rfl) (fE.one rfl (.cell rfl rfl (bO rfl) .nil)) ?_ (vj _ _ _ _) rfl (dh _ _ _ _ _);rfl
def BK(n:Nat):aN:=[(19,.one (.int .i64 ((n+1:Nat)))),(8,.one (.ptr 4 0)),(9,.one (.ptr 5 0)),(16,.one (.int .i64 1)),(17,.one (.ptr 6 0))]
theorem NT(b:Kn)(ha:cf (bK A B C p) w x (y-1)=some b)(hE:bq prog 119 [.one (.ptr 0 0),.one (.int .i64 mb),.one (.int .i64 k),.one (.int .i64 q)] (bI cols rows A B C) (.tup [.one (.int .u8 2),.one (.int .i64 n)]) (bI cols rows A B C)) :
 bq prog 121 [.one (.ptr 0 0),.one (.int .i64 mb),.one (.int .i64 k),.one (.int .i64 q)] (bI cols rows A B C) (.agg (ti .i64 64 (if b.qp=q then em b 1 7 else iY))) (bI cols rows A B C):=by
 by_cases hq:b.qp=q
 ·rw [if_pos hq];refine cO Tryz.func121 ?_
  repeat' (first
   |(refine qz ?_;first
    |refine ax (aC hE 0 1 2 3 (by decide) rfl rfl rfl rfl rfl rfl rfl) rfl rfl rfl rfl rfl rfl (by kernel_rfl) rfl ?_
    |refine ax (aC hpl 0 1 2 3 (by decide) rfl rfl rfl rfl rfl rfl rfl) rfl rfl rfl rfl rfl rfl (by kernel_rfl) rfl ?_
    |refine ax (aC (eE ha hp (by omega) (by omega)) 0 1 2 3 (by decide) rfl rfl rfl rfl rfl (by simp[XV.shut,X1.shut,XC.shut,bd]) rfl) rfl rfl rfl rfl rfl rfl (by kernel_rfl) rfl ?_
    |refine fQ rfl rfl rfl rfl rfl rfl (uk _) ?_)
   |refine zz ?_|refine zx (fun _=>?_) (fun _=>?_)|fail)
  refine WX.loop ?_;refine WX.at (al':=BK 0) (hs':=bI cols rows A B C++[.cells (ti .i64 64 iY) 104 false false,.cells (ti .i64 64 (em b 1 0)) 104 false false,.cells (dk b) 242 false false]) (bW rfl (bW rfl (bW rfl (bW rfl (bW rfl (qv _)))))) rfl ?_;refine WX.count BK (fun n=>bI cols rows A B C++[.cells (ti .i64 64 iY) 104 false false,.cells (ti .i64 64 (em b 1 n)) 104 false false,.cells (dk b) 242 false false]) (fun _=>True) 7 trivial ?_;intro n hn _ ih;refine WX.round ?_;unfold BK
  by_cases hlt:n<7
  ·have hj:(((n+1:Nat):Int)*1).toNat=(n+1)*1:=by omega
   repeat' (first
    |(refine qz ?_;first
     |refine fQ rfl rfl rfl rfl rfl rfl (zF _ _ (by omega)) ?_
     |refine kC rfl rfl rfl rfl rfl rfl (by rw[aT];omega) (rX _ _ _ _ _) hS ?_)
    |refine zz ?_|refine zx (fun _=>?_) (fun _=>?_)|fail)
   refine WX.at ?_ ?_ (ih hlt trivial)
   ·exact bW rfl (bW rfl (bW rfl (bW rfl (bW rfl (qv _)))))
   ·rw[xU,<-hj];rfl
  ·obtain rfl:n=7:=by omega
   clear ih
   repeat' (first|refine zz ?_|refine zx (fun _=>?_) (fun _=>?_)|fail)
   show aE _ _ _ _ _ _ _ _;refine bN (junk:=_) (.inr rfl) (fE.one rfl (.cell rfl rfl (bO rfl) .nil)) ?_ (vj _ _ _ _) rfl (dh _ _ _ _ _);rfl
 ·rw[if_neg hq];refine cO Tryz.func121 ?_
  repeat' (first
   |(refine qz ?_;first
    |refine ax (aC hE 0 1 2 3 (by decide) rfl rfl rfl rfl rfl rfl rfl) rfl rfl rfl rfl rfl rfl (by kernel_rfl) rfl ?_
    |refine ax (aC hpl 0 1 2 3 (by decide) rfl rfl rfl rfl rfl rfl rfl) rfl rfl rfl rfl rfl rfl (by kernel_rfl) rfl ?_
    |refine ax (aC (eE ha hp (by omega) (by omega)) 0 1 2 3 (by decide) rfl rfl rfl rfl rfl (by simp[XV.shut,X1.shut,XC.shut,bd]) rfl) rfl rfl rfl rfl rfl rfl (by kernel_rfl) rfl ?_
    |refine fQ rfl rfl rfl rfl rfl rfl (uk _) ?_)
   |refine zz ?_|refine zx (fun _=>?_) (fun _=>?_)|fail)
  show aE _ _ _ _ _ _ _ _;refine bN (junk:=_) (.inr rfl) (fE.one rfl (.cell rfl rfl (bO rfl) .nil)) ?_ (vj _ _ _ _) rfl (dh _ _ _ _ _);rfl
end
end Go.Proofs.YthdciapjllppjaaGreat
namespace Go.Proofs.YthdciapjllppjaaGreat
open Go.Xm
variable [ak]
def cC(cols p:Int):Int:=if p=0 then 2*cols else cols
def bD(A B C:nq)(cols p x y:Int):Option Kn:=cf (bK A B C p) (cC cols p) x y
structure KH(cols p x y:Int):Prop where
 pp:p=0\/p=1\/p=2
 x0:0<=x
 x1:x<cC cols p
 yy:0<=y/\y<=200
 m:0<=y*cC cols p/\y*cC cols p<=400
 ww:1<=cC cols p/\cC cols p<=16
theorem uP{cols rows mb k:Int}(hc:1<=cols/\cols<=8)(hr:0<=rows/\rows<=8)(hm:0<=mb/\mb<cols*rows)(hk:0<=k/\k<6):KH cols (placeOf cols mb k).1 (placeOf cols mb k).2.1 (placeOf cols mb k).2.2:=by
 have h1:cols=1\/cols=2\/cols=3\/cols=4\/cols=5\/cols=6\/cols=7\/cols=8:=by omega
 by_cases h4:k<4
 ·have e:placeOf cols mb k=(0,2*(mb%cols)+k%2,2*(mb/cols)+k/2):=by unfold placeOf;rw[if_pos h4]
  rw[e];have ew:cC cols 0=2*cols:=by simp[cC]
  refine⟨.inl rfl,?_,?_,?_,?_,?_⟩<;>simp only[ew]<;>rcases h1 with rfl|rfl|rfl|rfl|rfl|rfl|rfl|rfl<;>omega
 ·have e:placeOf cols mb k=(k-3,mb%cols,mb/cols):=by unfold placeOf;rw[if_neg h4]
  rw[e];have ew:cC cols (k-3)=cols:=by unfold cC;rw[if_neg (by omega)]
  refine⟨by show k-3=0\/k-3=1\/k-3=2;omega,?_,?_,?_,?_,?_⟩<;>simp only[ew]<;>rcases h1 with rfl|rfl|rfl|rfl|rfl|rfl|rfl|rfl<;>omega
theorem MC(cols mb k:Int)(hk:0<=k):(if k<4 then 2*cols else cols)=cC cols (placeOf cols mb k).1:=by
 unfold cC placeOf
 by_cases h4:k<4
 ·simp[h4]
 ·rw[if_neg h4,if_neg h4,if_neg];show¬k-3=0;omega
theorem jt{cols rows mb k:Int}:gR cols rows mb k=true↔0<=mb/\mb<cols*rows/\0<=k/\k<6:=by simp[gR]
theorem xT{cols rows:Int}(hc:1<=cols/\cols<=8)(hr:0<=rows/\rows<=8):0<=cols*rows/\cols*rows<=64:=by
 have h1:cols=1\/cols=2\/cols=3\/cols=4\/cols=5\/cols=6\/cols=7\/cols=8:=by omega
 rcases h1 with rfl|rfl|rfl|rfl|rfl|rfl|rfl|rfl<;>omega
section
variable {cols rows mb k q:Int} {A B C:nq}
theorem uO(hc:1<=cols/\cols<=8)(hr:0<=rows/\rows<=8)(hin:gR cols rows mb k=true) :
 bq prog 140 [.one (.ptr 0 0),.one (.int .i64 mb),.one (.int .i64 k)] (bI cols rows A B C) (.tup [.one (.int .i64 (placeOf cols mb k).1),.one (.int .i64 (cC cols (placeOf cols mb k).1)),.one (.int .i64 (placeOf cols mb k).2.1),.one (.int .i64 (placeOf cols mb k).2.2)]) (bI cols rows A B C):=by
 have hi:=jt.1 hin;have hcr:=xT hc hr;have:=Fu cols rows mb k A B C hc ⟨hi.1,by omega⟩ ⟨hi.2.2.1,by omega⟩;unfold rN at this;rw[MC cols mb k hi.2.2.1]at this;exact this
theorem qh(hc:1<=cols/\cols<=8)(hr:0<=rows/\rows<=8)(hin:gR cols rows mb k=true){p x y:Int}(hpl:placeOf cols mb k=(p,x,y)){la lb lc:Option Kn}(ha:bD A B C cols p (x-1) y=la)(hb:bD A B C cols p x (y-1)=lb)(hcc:bD A B C cols p (x-1) (y-1)=lc) :
 bq prog 119 [.one (.ptr 0 0),.one (.int .i64 mb),.one (.int .i64 k),.one (.int .i64 q)] (bI cols rows A B C) (jT (kn la lb lc q)) (bI cols rows A B C):=by
 have hi:=jt.1 hin;have hcr:=xT hc hr;have ok:=uP hc hr ⟨hi.1,hi.2.1⟩ hi.2.2;have hP:=uO (A:=A) (B:=B) (C:=C) hc hr hin;rw[hpl]at ok hP;have hm:=ok.m;have hw:=ok.ww;have hm1:(y-1)*cC cols p=y*cC cols p-cC cols p:=by rw[Int.sub_mul,Int.one_mul]
 have e1 : -1000<=y*cC cols p/\y*cC cols p<=1000:=by simp only at hm;omega
 have e2 : -1000<=(y-1)*cC cols p/\(y-1)*cC cols p<=1000:=by simp only at hm hw;rw[hm1];omega
 have e3:0<=x/\x<=1000:=by have:=ok.x0;have:=ok.x1;simp only at *;omega
 have e4:0<=y/\y<=1000:=by have:=ok.yy;simp only at *;omega
 unfold bD at ha hb hcc
 cases la with
 | some a=>cases lb with
   | some b=>cases lc with
     | some c=>exact K7 cols rows mb k p _ x y q A B C hin hcr hP ok.pp e1 e2 e3 e4 a b c ha hb hcc
     | none=>exact K6 cols rows mb k p _ x y q A B C hin hcr hP ok.pp e1 e2 e3 e4 a b ha hb hcc
   | none=>cases lc with
     | some c=>exact K5 cols rows mb k p _ x y q A B C hin hcr hP ok.pp e1 e2 e3 e4 a c ha hb hcc
     | none=>exact K4 cols rows mb k p _ x y q A B C hin hcr hP ok.pp e1 e2 e3 e4 a ha hb hcc
 | none=>cases lb with
   | some b=>cases lc with
     | some c=>exact K3 cols rows mb k p _ x y q A B C hin hcr hP ok.pp e1 e2 e3 e4 b c ha hb hcc
     | none=>exact K2 cols rows mb k p _ x y q A B C hin hcr hP ok.pp e1 e2 e3 e4 b ha hb hcc
   | none=>cases lc with
     | some c=>exact K1 cols rows mb k p _ x y q A B C hin hcr hP ok.pp e1 e2 e3 e4 c ha hb hcc
     | none=>exact K0 cols rows mb k p _ x y q A B C hin hcr hP ok.pp e1 e2 e3 e4 ha hb hcc
def jo(o:Option Kn)(s:Nat)(q:Int):Nat->Int:=match o with
 | some b=>if b.qp=q then em b s 7 else iY
 | none=>iY
def zm(la lb lc:Option Kn)(q:Int):Nat->Int:=
 if(kn la lb lc q).1=1 then jo la 8 q else if(kn la lb lc q).1=2 then jo lb 1 q else iY
theorem EW(la lb lc:Option Kn)(q:Int):((kn la lb lc q).1=0/\la=none/\lb=none)\/((kn la lb lc q).1=1/\∃a,la=some a)\/((kn la lb lc q).1=2/\∃b,lb=some b):=by
 cases la with
 | some a=>cases lb with
   | some b=>
     have h:(kn (some a) (some b) lc q).1=1\/(kn (some a) (some b) lc q).1=2:=by
      cases lc<;>simp only[kn]<;>split<;>simp
     rcases h with h|h
     ·exact .inr (.inl ⟨h,_,rfl⟩)
     ·exact .inr (.inr ⟨h,_,rfl⟩)
   | none=>exact .inr (.inl ⟨rfl,_,rfl⟩)
 | none=>cases lb with
   | some b=>exact .inr (.inr ⟨rfl,_,rfl⟩)
   | none=>exact .inl ⟨rfl,rfl,rfl⟩
theorem Hs(hc:1<=cols/\cols<=8)(hr:0<=rows/\rows<=8)(hin:gR cols rows mb k=true){p x y:Int}(hpl:placeOf cols mb k=(p,x,y)){la lb lc:Option Kn}(ha:bD A B C cols p (x-1) y=la)(hb:bD A B C cols p x (y-1)=lb)(hcc:bD A B C cols p (x-1) (y-1)=lc) :
 bq prog 121 [.one (.ptr 0 0),.one (.int .i64 mb),.one (.int .i64 k),.one (.int .i64 q)] (bI cols rows A B C) (.agg (ti .i64 64 (zm la lb lc q))) (bI cols rows A B C):=by
 have hE:=qh (q:=q) hc hr hin hpl ha hb hcc;have hi:=jt.1 hin;have ok:=uP hc hr ⟨hi.1,hi.2.1⟩ hi.2.2;have hP:=uO (A:=A) (B:=B) (C:=C) hc hr hin;rw[hpl]at ok hP;have hm:=ok.m;have hw:=ok.ww;have hm1:(y-1)*cC cols p=y*cC cols p-cC cols p:=by rw[Int.sub_mul,Int.one_mul]
 have e1 : -1000<=y*cC cols p/\y*cC cols p<=1000:=by simp only at hm;omega
 have e2 : -1000<=(y-1)*cC cols p/\(y-1)*cC cols p<=1000:=by simp only at hm hw;rw[hm1];omega
 have e3:0<=x/\x<=1000:=by have:=ok.x0;have:=ok.x1;simp only at *;omega
 have e4:0<=y/\y<=1000:=by have:=ok.yy;simp only at *;omega
 unfold bD at ha hb hcc;unfold zm
 rcases EW la lb lc q with⟨h0,rfl,rfl⟩|⟨h1,a,rfl⟩|⟨h2,b,rfl⟩
 ·rw[h0,if_neg (by decide),if_neg (by decide)];unfold jT at hE;rw[h0]at hE;exact NR cols rows mb k p _ x y q _ A B C hP ok.pp e1 e2 e3 e4 hE
 ·rw[if_pos h1];unfold jT at hE;rw[h1]at hE;exact NS cols rows mb k p _ x y q _ A B C hP ok.pp e1 e2 e3 e4 a ha hE
 ·rw[h2,if_neg (by decide),if_pos rfl];unfold jT at hE;rw[h2]at hE;exact NT cols rows mb k p _ x y q _ A B C hP ok.pp e1 e2 e3 e4 b hb hE
theorem L7(hc:1<=cols/\cols<=8)(hr:0<=rows/\rows<=8)(hin:gR cols rows mb k=true){p x y:Int}(hpl:placeOf cols mb k=(p,x,y))(b:Kn) :
 bq prog 123 [.one (.ptr 0 0),.one (.int .i64 mb),.one (.int .i64 k),.agg (dk b)] (bI cols rows A B C) (.tup []) (bI cols rows (rS p 0 A (y*cC cols p+x) b) (rS p 1 B (y*cC cols p+x) b) (rS p 2 C (y*cC cols p+x) b)):=by
 have hi:=jt.1 hin;have hcr:=xT hc hr;have ok:=uP hc hr ⟨hi.1,hi.2.1⟩ hi.2.2;have hP:=uO (A:=A) (B:=B) (C:=C) hc hr hin;rw[hpl]at ok hP;have hm:=ok.m;have hw:=ok.ww;exact Ji cols rows mb k p _ x y b A B C hin hcr hP ok.pp (by simp only at hm;omega) (by have:=ok.x0;have:=ok.x1;simp only at *;omega)
end
theorem HQ{cols rows:Int}{HS HS':ah}(hc:0<=cols/\cols<=8)(hr:0<=rows/\rows<=8){n:Nat}(hn:HS.length=n)(hh:HS++[.cells [.int .i64 cols,.int .i64 rows,.map (n+1),.map (n+2),.map (n+3)] 220 false false,.map (aq []),.map (aq []),.map (aq [])]=HS')(hb:Nat.blt HS'.length Mem.bound=true) :
 az.Sound prog ⟨84,[.one (.int .i64 cols),.one (.int .i64 rows)],HS,.one (.ptr n 0),HS',[]⟩:=by
 subst hn hh;refine s7 (JM cols rows hc hr) (ρ:=id) (Nat.zero_le _) (vq _ _) (fun x hx=>?_) (lD (fun x hx=>?_) _) ?_ ⟨by simp,fun j o h=>?_,fun i hi _=>?_⟩ (fun j o h hl ho=>?_) (fun i hi _=>?_) hb rfl
 ·simp only[List.mem_cons,List.not_mem_nil,or_false]at hx
  rcases hx with rfl|rfl<;>trivial
 ·simp only[List.mem_cons,List.not_mem_nil,or_false]at hx
  rcases hx with rfl|rfl<;>rfl
 ·simp[XV.aB,XC.aB,beyond]
 ·match j,h with
  | 0,h=>cases h;simp[beyond,aj.aB,XC.aB]
  | 1,h=>cases h;simp[beyond,aj.aB,iy]
  | 2,h=>cases h;simp[beyond,aj.aB,iy]
  | 3,h=>cases h;simp[beyond,aj.aB,iy]
  | j+4,h=>simp[bI]at h
 ·rw[List.getElem?_append_left hi]
 ·match j,h with
  | 0,h=>cases h;cases ho
  | 1,h=>cases h;cases ho
  | 2,h=>cases h;cases ho
  | 3,h=>cases h;cases ho
  | j+4,h=>simp[bI]at h
 ·rw[List.getElem?_append_left hi]
theorem HR{cols rows mb k:Int}{A B C A2 B2 C2:nq}{HS HS':ah}{b:Kn}(hcon:bq prog 123 [.one (.ptr 0 0),.one (.int .i64 mb),.one (.int .i64 k),.agg (dk b)] (bI cols rows A B C) (.tup []) (bI cols rows A2 B2 C2))
 (a e c d:Nat) (hd : [a,e,c,d].Nodup) (ha:HS[a]? = some (.cells [.int .i64 cols,.int .i64 rows,.map e,.map c,.map d] 220 false false)) (he:HS[e]? = some (.map (aq A))) (hc:HS[c]? = some (.map (aq B))) (hdd:HS[d]? = some (.map (aq C)))
 (hh:((HS.set e (.map (aq A2))).set c (.map (aq B2))).set d (.map (aq C2))=HS') (hb:Nat.blt HS'.length Mem.bound=true) :
 az.Sound prog ⟨123,[.one (.ptr a 0),.one (.int .i64 mb),.one (.int .i64 k),.agg (dk b)],HS,.tup [],HS',[e,c,d]⟩:=by
 subst hh;have hla:=(List.getElem?_eq_some_iff.1 ha).1;have hle:=(List.getElem?_eq_some_iff.1 he).1;have hlc:=(List.getElem?_eq_some_iff.1 hc).1;have hld:=(List.getElem?_eq_some_iff.1 hdd).1;simp only[List.nodup_cons,List.mem_cons,List.not_mem_nil,or_false,not_or,not_false_eq_true,List.nodup_nil,and_true]at hd;obtain⟨⟨d1,d2,d3⟩,⟨d4,d5⟩,d6⟩:=hd;refine s7 hcon (ρ:=nth [a,e,c,d]) (Nat.le_refl _) (xk a e c d (by simp[d1,d2,d3,d4,d5,d6]) ha he hc hdd) (fun x hx=>?_) ?_ rfl ⟨by simp,fun j o h=>?_,fun i hi hne=>?_⟩ (fun j o h hl ho=>?_) (fun i hi hne=>?_) hb rfl
 ·simp only[List.mem_cons,List.not_mem_nil,or_false]at hx
  rcases hx with rfl|rfl|rfl|rfl
  ·show 0<4;omega
  ·trivial
  ·trivial
  ·exact XV.ky (x := .agg (dk b)) (bd b) _
 ·simp only[List.map_cons,List.map_nil,XV.aB,XC.aB,fW (bd b)];rfl
 ·match j,h with
  | 0,h=>
    cases h;show(((HS.set e _).set c _).set d _)[a]? = _;rw[List.getElem?_set_ne (Ne.symm d3),List.getElem?_set_ne (Ne.symm d2),List.getElem?_set_ne (Ne.symm d1),ha];rfl
  | 1,h=>
    cases h;show(((HS.set e _).set c _).set d _)[e]? = _;rw[List.getElem?_set_ne (Ne.symm d5),List.getElem?_set_ne (Ne.symm d4),List.getElem?_set_self hle];simp only[aj.aB,iy]
  | 2,h=>
    cases h;show(((HS.set e _).set c _).set d _)[c]? = _;rw[List.getElem?_set_ne (Ne.symm d6),List.getElem?_set_self (by simpa using hlc)];simp only[aj.aB,iy]
  | 3,h=>
    cases h;show(((HS.set e _).set c _).set d _)[d]? = _;rw[List.getElem?_set_self (by simpa using hld)];simp only[aj.aB,iy]
  | j+4,h=>simp[bI]at h
 ·have n1:=hne 1 (show 1<4 by omega);have n2:=hne 2 (show 2<4 by omega);have n3:=hne 3 (show 3<4 by omega);rw[List.getElem?_set_ne (show d≠i from n3),List.getElem?_set_ne (show c≠i from n2),List.getElem?_set_ne (show e≠i from n1)]
 ·match j,h with
  | 0,h=>cases h;cases ho
  | 1,h=>cases h;cases ho
  | 2,h=>cases h;cases ho
  | 3,h=>cases h;cases ho
  | j+4,h=>simp[bI]at h
 ·simp only[List.mem_cons,List.not_mem_nil,or_false,not_or]at hne;rw[List.getElem?_set_ne (Ne.symm hne.2.2),List.getElem?_set_ne (Ne.symm hne.2.1),List.getElem?_set_ne (Ne.symm hne.1)]
end Go.Proofs.YthdciapjllppjaaGreat
