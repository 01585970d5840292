/-
  A part of the proof: PrSet, PrEdge, PrFacts.
-/
import Derived.Test.YtagpkhindehcbaaGreatKeD
import Derived.Test.YtagpkhindehcbaaGreatKeI
import Derived.Test.YtagpkhindehcbaaGreatKeJ
import Derived.Test.YtagpkhindehcbaaGreatKeK
set_option maxRecDepth 10000
set_option maxHeartbeats 8000000
set_option linter.unusedVariables false
set_option linter.unusedSectionVars false
set_option linter.unusedSimpArgs false
namespace Go.Proofs.YtagpkhindehcbaaGreat
open Go.Xm
variable [ax]
theorem KG(cols rows:Int)(hc:0<=cols/\cols<=8)(hr:0<=rows/\rows<=8):bh Tryz.prog 48 [.one (.int .i64 cols),.one (.int .i64 rows)] [] (.one (.ptr 0 0)) (bX cols rows [] [] []):=by
 refine cO Tryz.func48 ?_
 repeat' (first|refine zz ?_|refine zx (fun _=>?_) (fun _=>?_)|fail)
 show aB _ _ _ _ _ _ _ _
 refine EE (nth [3,0,1,2]) (.inr rfl) (fun m hm=>rfl) rfl (show 0<4 by omega) ?_ (fun j hj=>absurd hj (Nat.not_lt_zero j))
 refine Ob [3,0,1,2] rfl (by decide) (dL _ _ _ _ _) fun j o hj=>?_
 match j,hj with
 | 0,hj=>cases hj;rfl
 | 1,hj=>cases hj;rfl
 | 2,hj=>cases hj;rfl
 | 3,hj=>cases hj;rfl
 | j+4,hj=>simp[bX]at hj
def jt(p q:Int)(T:oH)(key:Int)(b:Kn):oH:=if p=q then oE T key b else T
theorem J6(cols rows mb k p w x y:Int)(b:Kn)(A B C:oH)(hin:iH cols rows mb k=true)(hcr:0<=cols*rows/\cols*rows<=64)
 (hpl:bh Tryz.prog 100 [.one (.ptr 0 0),.one (.int .i64 mb),.one (.int .i64 k)] (bX cols rows A B C) (.tup [.one (.int .i64 p),.one (.int .i64 w),.one (.int .i64 x),.one (.int .i64 y)]) (bX cols rows A B C))
 (hp:p=0\/p=1\/p=2) (hyw:0<=y*w/\y*w<=10000) (hx:0<=x/\x<=10000) :
 bh Tryz.prog 74 [.one (.ptr 0 0),.one (.int .i64 mb),.one (.int .i64 k),.agg (dQ b)] (bX cols rows A B C) (.tup []) (bX cols rows (jt p 0 A (y*w+x) b) (jt p 1 B (y*w+x) b) (jt p 2 C (y*w+x) b)):=by
 have hI:=fJ cols rows mb k A B C hcr
 rw[hin]at hI
 rcases hp with rfl|rfl|rfl
 all_goals
  refine cO Tryz.func74 ?_
  repeat' (first
   |(refine qz ?_;first
    |refine aE (aJ hI 0 1 2 3 (by decide) rfl rfl rfl rfl rfl rfl rfl) rfl rfl rfl rfl rfl rfl (by kernel_rfl) rfl ?_
    |refine aE (aJ hpl 0 1 2 3 (by decide) rfl rfl rfl rfl rfl rfl rfl) rfl rfl rfl rfl rfl rfl (by kernel_rfl) rfl ?_
    |refine BR (vc:=Dc) rfl rfl rfl uc rfl rfl rfl rfl hS ?_)
   |refine zz ?_|refine zx (fun _=>?_) (fun _=>?_)|fail)
  show aB _ _ _ _ _ _ _ _
  refine b9 (junk:=_) (by first|exact .inr rfl|exact .inl rfl) (ig.zero rfl .nil) rfl (fun _ h=>by cases h) rfl (dL _ _ _ _ _)
end Go.Proofs.YtagpkhindehcbaaGreat
namespace Go.Proofs.YtagpkhindehcbaaGreat
open Go.Xm
variable [ax]
def em(b:Kn)(s:Nat):Nat->Nat->Int
 | 0=>fun _=>0
 | n+1=>cn (em b s n) ((n+1)*s) (b.lv ((n+1)*s))
theorem nH(b:Kn)(s n:Nat):em b s (n+1)=cn (em b s n) ((n+1)*s) (b.lv ((n+1)*s)):=rfl
def jM:Nat->Int:=fun _=>0
theorem wm(k:IntKind)(n:Nat)(f:Nat->Int)(m:Nat):(XV.agg (ti k n f)).ca m:=by
 intro c hc
 obtain⟨i,_,rfl⟩:=List.mem_map.1 hc
 trivial
section
variable (cols rows mb k p w x y q n:Int) (A B C:oH)
 (hpl:bh Tryz.prog 100 [.one (.ptr 0 0),.one (.int .i64 mb),.one (.int .i64 k)] (bX cols rows A B C) (.tup [.one (.int .i64 p),.one (.int .i64 w),.one (.int .i64 x),.one (.int .i64 y)]) (bX cols rows A B C))
 (hp:p=0\/p=1\/p=2) (hyw : -1000<=y*w/\y*w<=1000) (hyw1 : -1000<=(y-1)*w/\(y-1)*w<=1000) (hx:0<=x/\x<=1000) (hy:0<=y/\y<=1000)
include hpl hp hyw hyw1 hx hy
theorem OD(hE:bh Tryz.prog 70 [.one (.ptr 0 0),.one (.int .i64 mb),.one (.int .i64 k),.one (.int .i64 q)] (bX cols rows A B C) (.tup [.one (.int .u8 0),.one (.int .i64 n)]) (bX cols rows A B C)) :
 bh Tryz.prog 73 [.one (.ptr 0 0),.one (.int .i64 mb),.one (.int .i64 k),.one (.int .i64 q)] (bX cols rows A B C) (.agg (ti .i64 64 jM)) (bX cols rows A B C):=by
 refine cO Tryz.func73 ?_
 repeat' (first
  |(refine qz ?_;first
   |refine aE (aJ hE 0 1 2 3 (by decide) rfl rfl rfl rfl rfl rfl rfl) rfl rfl rfl rfl rfl rfl (by kernel_rfl) rfl ?_)
  |refine zz ?_|refine zx (fun _=>?_) (fun _=>?_)|fail)
 show aB _ _ _ _ _ _ _ _
 refine b9 (junk:=_) (.inr rfl) (ig.one rfl (.cell rfl rfl (cj rfl) .nil)) ?_ (wm _ _ _ _) rfl (dL _ _ _ _ _)
 rfl
def CY(n:Nat):bn:=[(19,.one (.int .i64 ((n+1:Nat)))),(8,.one (.ptr 4 0)),(9,.one (.ptr 5 0)),(16,.one (.int .i64 8)),(17,.one (.ptr 6 0))]
theorem OE(b:Kn)(ha:cD (bU A B C p) w (x-1) y=some b)(hE:bh Tryz.prog 70 [.one (.ptr 0 0),.one (.int .i64 mb),.one (.int .i64 k),.one (.int .i64 q)] (bX cols rows A B C) (.tup [.one (.int .u8 1),.one (.int .i64 n)]) (bX cols rows A B C)) :
 bh Tryz.prog 73 [.one (.ptr 0 0),.one (.int .i64 mb),.one (.int .i64 k),.one (.int .i64 q)] (bX cols rows A B C) (.agg (ti .i64 64 (if b.qp=q then em b 8 7 else jM))) (bX cols rows A B C):=by
 by_cases hq:b.qp=q
 ·rw [if_pos hq]
  refine cO Tryz.func73 ?_
  repeat' (first
   |(refine qz ?_;first
    |refine aE (aJ hE 0 1 2 3 (by decide) rfl rfl rfl rfl rfl rfl rfl) rfl rfl rfl rfl rfl rfl (by kernel_rfl) rfl ?_
    |refine aE (aJ hpl 0 1 2 3 (by decide) rfl rfl rfl rfl rfl rfl rfl) rfl rfl rfl rfl rfl rfl (by kernel_rfl) rfl ?_
    |refine aE (aJ (fh ha hp (by omega) (by omega)) 0 1 2 3 (by decide) rfl rfl rfl rfl rfl (by simp[XV.shut,X1.shut,XC.shut,bq]) rfl) rfl rfl rfl rfl rfl rfl (by kernel_rfl) rfl ?_
    |refine gl rfl rfl rfl rfl rfl rfl (vd _) ?_)
   |refine zz ?_|refine zx (fun _=>?_) (fun _=>?_)|fail)
  refine WX.loop ?_
  refine WX.at (al':=CY 0) (hs':=bX cols rows A B C++[.cells (ti .i64 64 jM) 50 false false,.cells (ti .i64 64 (em b 8 0)) 50 false false,.cells (dQ b) 156 false false]) (cw rfl (cw rfl (cw rfl (cw rfl (cw rfl (rL _)))))) rfl ?_
  refine WX.count CY (fun n=>bX cols rows A B C++[.cells (ti .i64 64 jM) 50 false false,.cells (ti .i64 64 (em b 8 n)) 50 false false,.cells (dQ b) 156 false false]) (fun _=>True) 7 trivial ?_
  intro n hn _ ih
  refine WX.round ?_
  unfold CY
  by_cases hlt:n<7
  ·have hj:(((n+1:Nat):Int)*8).toNat=(n+1)*8:=by omega
   repeat' (first
    |(refine qz ?_;first
     |refine gl rfl rfl rfl rfl rfl rfl (Bf _ _ (by omega)) ?_
     |refine lG rfl rfl rfl rfl rfl rfl (by rw[aD];omega) (tb _ _ _ _ _) hS ?_)
    |refine zz ?_|refine zx (fun _=>?_) (fun _=>?_)|fail)
   refine WX.at ?_ ?_ (ih hlt trivial)
   ·exact cw rfl (cw rfl (cw rfl (cw rfl (cw rfl (rL _)))))
   ·rw[nH,<-hj]
    rfl
  ·obtain rfl:n=7:=by omega
   clear ih
   repeat' (first|refine zz ?_|refine zx (fun _=>?_) (fun _=>?_)|fail)
   show aB _ _ _ _ _ _ _ _
   refine b9 (junk:=_) (.inr rfl) (ig.one rfl (.cell rfl rfl (cj rfl) .nil)) ?_ (wm _ _ _ _) rfl (dL _ _ _ _ _)
   rfl
 ·rw[if_neg hq]
  refine cO Tryz.func73 ?_
  repeat' (first
   |(refine qz ?_;first
    |refine aE (aJ hE 0 1 2 3 (by decide) rfl rfl rfl rfl rfl rfl rfl) rfl rfl rfl rfl rfl rfl (by kernel_rfl) rfl ?_
    |refine aE (aJ hpl 0 1 2 3 (by decide) rfl rfl rfl rfl rfl rfl rfl) rfl rfl rfl rfl rfl rfl (by kernel_rfl) rfl ?_
    |refine aE (aJ (fh ha hp (by omega) (by omega)) 0 1 2 3 (by decide) rfl rfl rfl rfl rfl (by simp[XV.shut,X1.shut,XC.shut,bq]) rfl) rfl rfl rfl rfl rfl rfl (by kernel_rfl) rfl ?_
    |refine gl rfl rfl rfl rfl rfl rfl (vd _) ?_)
   |refine zz ?_|refine zx (fun _=>?_) (fun _=>?_)|fail)
  show aB _ _ _ _ _ _ _ _
  refine b9 (junk:=_) (.inr rfl) (ig.one rfl (.cell rfl rfl (cj rfl) .nil)) ?_ (wm _ _ _ _) rfl (dL _ _ _ _ _)
  rfl
def CZ(n:Nat):bn:=[(19,.one (.int .i64 ((n+1:Nat)))),(8,.one (.ptr 4 0)),(9,.one (.ptr 5 0)),(16,.one (.int .i64 1)),(17,.one (.ptr 6 0))]
theorem OF(b:Kn)(ha:cD (bU A B C p) w x (y-1)=some b)(hE:bh Tryz.prog 70 [.one (.ptr 0 0),.one (.int .i64 mb),.one (.int .i64 k),.one (.int .i64 q)] (bX cols rows A B C) (.tup [.one (.int .u8 2),.one (.int .i64 n)]) (bX cols rows A B C)) :
 bh Tryz.prog 73 [.one (.ptr 0 0),.one (.int .i64 mb),.one (.int .i64 k),.one (.int .i64 q)] (bX cols rows A B C) (.agg (ti .i64 64 (if b.qp=q then em b 1 7 else jM))) (bX cols rows A B C):=by
 by_cases hq:b.qp=q
 ·rw [if_pos hq]
  refine cO Tryz.func73 ?_
  repeat' (first
   |(refine qz ?_;first
    |refine aE (aJ hE 0 1 2 3 (by decide) rfl rfl rfl rfl rfl rfl rfl) rfl rfl rfl rfl rfl rfl (by kernel_rfl) rfl ?_
    |refine aE (aJ hpl 0 1 2 3 (by decide) rfl rfl rfl rfl rfl rfl rfl) rfl rfl rfl rfl rfl rfl (by kernel_rfl) rfl ?_
    |refine aE (aJ (fh ha hp (by omega) (by omega)) 0 1 2 3 (by decide) rfl rfl rfl rfl rfl (by simp[XV.shut,X1.shut,XC.shut,bq]) rfl) rfl rfl rfl rfl rfl rfl (by kernel_rfl) rfl ?_
    |refine gl rfl rfl rfl rfl rfl rfl (vd _) ?_)
   |refine zz ?_|refine zx (fun _=>?_) (fun _=>?_)|fail)
  refine WX.loop ?_
  refine WX.at (al':=CZ 0) (hs':=bX cols rows A B C++[.cells (ti .i64 64 jM) 50 false false,.cells (ti .i64 64 (em b 1 0)) 50 false false,.cells (dQ b) 156 false false]) (cw rfl (cw rfl (cw rfl (cw rfl (cw rfl (rL _)))))) rfl ?_
  refine WX.count CZ (fun n=>bX cols rows A B C++[.cells (ti .i64 64 jM) 50 false false,.cells (ti .i64 64 (em b 1 n)) 50 false false,.cells (dQ b) 156 false false]) (fun _=>True) 7 trivial ?_
  intro n hn _ ih
  refine WX.round ?_
  unfold CZ
  by_cases hlt:n<7
  ·have hj:(((n+1:Nat):Int)*1).toNat=(n+1)*1:=by omega
   repeat' (first
    |(refine qz ?_;first
     |refine gl rfl rfl rfl rfl rfl rfl (Bf _ _ (by omega)) ?_
     |refine lG rfl rfl rfl rfl rfl rfl (by rw[aD];omega) (tb _ _ _ _ _) hS ?_)
    |refine zz ?_|refine zx (fun _=>?_) (fun _=>?_)|fail)
   refine WX.at ?_ ?_ (ih hlt trivial)
   ·exact cw rfl (cw rfl (cw rfl (cw rfl (cw rfl (rL _)))))
   ·rw[nH,<-hj]
    rfl
  ·obtain rfl:n=7:=by omega
   clear ih
   repeat' (first|refine zz ?_|refine zx (fun _=>?_) (fun _=>?_)|fail)
   show aB _ _ _ _ _ _ _ _
   refine b9 (junk:=_) (.inr rfl) (ig.one rfl (.cell rfl rfl (cj rfl) .nil)) ?_ (wm _ _ _ _) rfl (dL _ _ _ _ _)
   rfl
 ·rw[if_neg hq]
  refine cO Tryz.func73 ?_
  repeat' (first
   |(refine qz ?_;first
    |refine aE (aJ hE 0 1 2 3 (by decide) rfl rfl rfl rfl rfl rfl rfl) rfl rfl rfl rfl rfl rfl (by kernel_rfl) rfl ?_
    |refine aE (aJ hpl 0 1 2 3 (by decide) rfl rfl rfl rfl rfl rfl rfl) rfl rfl rfl rfl rfl rfl (by kernel_rfl) rfl ?_
    |refine aE (aJ (fh ha hp (by omega) (by omega)) 0 1 2 3 (by decide) rfl rfl rfl rfl rfl (by simp[XV.shut,X1.shut,XC.shut,bq]) rfl) rfl rfl rfl rfl rfl rfl (by kernel_rfl) rfl ?_
    |refine gl rfl rfl rfl rfl rfl rfl (vd _) ?_)
   |refine zz ?_|refine zx (fun _=>?_) (fun _=>?_)|fail)
  show aB _ _ _ _ _ _ _ _
  refine b9 (junk:=_) (.inr rfl) (ig.one rfl (.cell rfl rfl (cj rfl) .nil)) ?_ (wm _ _ _ _) rfl (dL _ _ _ _ _)
  rfl
end
end Go.Proofs.YtagpkhindehcbaaGreat
namespace Go.Proofs.YtagpkhindehcbaaGreat
open Go.Xm
variable [ax]
def da(cols p:Int):Int:=if p=0 then 2*cols else cols
def dm(A B C:oH)(cols p x y:Int):Option Kn:=cD (bU A B C p) (da cols p) x y
structure Ls(cols p x y:Int):Prop where
 pp:p=0\/p=1\/p=2
 x0:0<=x
 x1:x<da cols p
 yy:0<=y/\y<=200
 m:0<=y*da cols p/\y*da cols p<=400
 ww:1<=da cols p/\da cols p<=16
theorem vN{cols rows mb k:Int}(hc:1<=cols/\cols<=8)(hr:0<=rows/\rows<=8)(hm:0<=mb/\mb<cols*rows)(hk:0<=k/\k<6):Ls cols (placeOf cols mb k).1 (placeOf cols mb k).2.1 (placeOf cols mb k).2.2:=by
 have h1:cols=1\/cols=2\/cols=3\/cols=4\/cols=5\/cols=6\/cols=7\/cols=8:=by omega
 by_cases h4:k<4
 ·have e:placeOf cols mb k=(0,2*(mb%cols)+k%2,2*(mb/cols)+k/2):=by unfold placeOf;rw[if_pos h4]
  rw[e]
  have ew:da cols 0=2*cols:=by simp[da]
  refine⟨.inl rfl,?_,?_,?_,?_,?_⟩<;>simp only[ew]<;>rcases h1 with rfl|rfl|rfl|rfl|rfl|rfl|rfl|rfl<;>omega
 ·have e:placeOf cols mb k=(k-3,mb%cols,mb/cols):=by unfold placeOf;rw[if_neg h4]
  rw[e]
  have ew:da cols (k-3)=cols:=by unfold da;rw[if_neg (by omega)]
  refine⟨by show k-3=0\/k-3=1\/k-3=2;omega,?_,?_,?_,?_,?_⟩<;>simp only[ew]<;>rcases h1 with rfl|rfl|rfl|rfl|rfl|rfl|rfl|rfl<;>omega
theorem Ny(cols mb k:Int)(hk:0<=k):(if k<4 then 2*cols else cols)=da cols (placeOf cols mb k).1:=by
 unfold da placeOf
 by_cases h4:k<4
 ·simp[h4]
 ·rw[if_neg h4,if_neg h4,if_neg]
  show¬k-3=0
  omega
theorem kg{cols rows mb k:Int}:iH cols rows mb k=true↔0<=mb/\mb<cols*rows/\0<=k/\k<6:=by simp[iH]
theorem zf{cols rows:Int}(hc:1<=cols/\cols<=8)(hr:0<=rows/\rows<=8):0<=cols*rows/\cols*rows<=64:=by
 have h1:cols=1\/cols=2\/cols=3\/cols=4\/cols=5\/cols=6\/cols=7\/cols=8:=by omega
 rcases h1 with rfl|rfl|rfl|rfl|rfl|rfl|rfl|rfl<;>omega
section
variable {cols rows mb k q:Int} {A B C:oH}
theorem vM(hc:1<=cols/\cols<=8)(hr:0<=rows/\rows<=8)(hin:iH cols rows mb k=true) :
 bh Tryz.prog 100 [.one (.ptr 0 0),.one (.int .i64 mb),.one (.int .i64 k)] (bX cols rows A B C) (.tup [.one (.int .i64 (placeOf cols mb k).1),.one (.int .i64 (da cols (placeOf cols mb k).1)),.one (.int .i64 (placeOf cols mb k).2.1),.one (.int .i64 (placeOf cols mb k).2.2)]) (bX cols rows A B C):=by
 have hi:=kg.1 hin
 have hcr:=zf hc hr
 have:=Gp cols rows mb k A B C hc ⟨hi.1,by omega⟩ ⟨hi.2.2.1,by omega⟩
 unfold sS at this
 rw[Ny cols mb k hi.2.2.1]at this
 exact this
theorem rC(hc:1<=cols/\cols<=8)(hr:0<=rows/\rows<=8)(hin:iH cols rows mb k=true){p x y:Int}(hpl:placeOf cols mb k=(p,x,y)){la lb lc:Option Kn}(ha:dm A B C cols p (x-1) y=la)(hb:dm A B C cols p x (y-1)=lb)(hcc:dm A B C cols p (x-1) (y-1)=lc) :
 bh Tryz.prog 70 [.one (.ptr 0 0),.one (.int .i64 mb),.one (.int .i64 k),.one (.int .i64 q)] (bX cols rows A B C) (kQ (j9 la lb lc q)) (bX cols rows A B C):=by
 have hi:=kg.1 hin
 have hcr:=zf hc hr
 have ok:=vN hc hr ⟨hi.1,hi.2.1⟩ hi.2.2
 have hP:=vM (A:=A) (B:=B) (C:=C) hc hr hin
 rw[hpl]at ok hP
 have hm:=ok.m
 have hw:=ok.ww
 have hm1:(y-1)*da cols p=y*da cols p-da cols p:=by rw[Int.sub_mul,Int.one_mul]
 have e1 : -1000<=y*da cols p/\y*da cols p<=1000:=by simp only at hm;omega
 have e2 : -1000<=(y-1)*da cols p/\(y-1)*da cols p<=1000:=by simp only at hm hw;rw[hm1];omega
 have e3:0<=x/\x<=1000:=by have:=ok.x0;have:=ok.x1;simp only at *;omega
 have e4:0<=y/\y<=1000:=by have:=ok.yy;simp only at *;omega
 unfold dm at ha hb hcc
 cases la with
 | some a=>cases lb with
   | some b=>cases lc with
     | some c=>exact L4 cols rows mb k p _ x y q A B C hin hcr hP ok.pp e1 e2 e3 e4 a b c ha hb hcc
     | none=>exact L3 cols rows mb k p _ x y q A B C hin hcr hP ok.pp e1 e2 e3 e4 a b ha hb hcc
   | none=>cases lc with
     | some c=>exact L2 cols rows mb k p _ x y q A B C hin hcr hP ok.pp e1 e2 e3 e4 a c ha hb hcc
     | none=>exact L0 cols rows mb k p _ x y q A B C hin hcr hP ok.pp e1 e2 e3 e4 a ha hb hcc
 | none=>cases lb with
   | some b=>cases lc with
     | some c=>exact LZ cols rows mb k p _ x y q A B C hin hcr hP ok.pp e1 e2 e3 e4 b c ha hb hcc
     | none=>exact LY cols rows mb k p _ x y q A B C hin hcr hP ok.pp e1 e2 e3 e4 b ha hb hcc
   | none=>cases lc with
     | some c=>exact LX cols rows mb k p _ x y q A B C hin hcr hP ok.pp e1 e2 e3 e4 c ha hb hcc
     | none=>exact LW cols rows mb k p _ x y q A B C hin hcr hP ok.pp e1 e2 e3 e4 ha hb hcc
def fq(o:Option Kn)(s:Nat)(q:Int):Nat->Int:=match o with
 | some b=>if b.qp=q then em b s 7 else jM
 | none=>jM
def uU(la lb lc:Option Kn)(q:Int):Nat->Int:=
 if(j9 la lb lc q).1=1 then fq la 8 q else if(j9 la lb lc q).1=2 then fq lb 1 q else jM
theorem FX(la lb lc:Option Kn)(q:Int):((j9 la lb lc q).1=0/\la=none/\lb=none)\/((j9 la lb lc q).1=1/\∃a,la=some a)\/((j9 la lb lc q).1=2/\∃b,lb=some b):=by
 cases la with
 | some a=>cases lb with
   | some b=>
     have h:(j9 (some a) (some b) lc q).1=1\/(j9 (some a) (some b) lc q).1=2:=by
      cases lc<;>simp only[j9]<;>split<;>simp
     rcases h with h|h
     ·exact .inr (.inl ⟨h,_,rfl⟩)
     ·exact .inr (.inr ⟨h,_,rfl⟩)
   | none=>exact .inr (.inl ⟨rfl,_,rfl⟩)
 | none=>cases lb with
   | some b=>exact .inr (.inr ⟨rfl,_,rfl⟩)
   | none=>exact .inl ⟨rfl,rfl,rfl⟩
theorem Ix(hc:1<=cols/\cols<=8)(hr:0<=rows/\rows<=8)(hin:iH cols rows mb k=true){p x y:Int}(hpl:placeOf cols mb k=(p,x,y)){la lb lc:Option Kn}(ha:dm A B C cols p (x-1) y=la)(hb:dm A B C cols p x (y-1)=lb)(hcc:dm A B C cols p (x-1) (y-1)=lc) :
 bh Tryz.prog 73 [.one (.ptr 0 0),.one (.int .i64 mb),.one (.int .i64 k),.one (.int .i64 q)] (bX cols rows A B C) (.agg (ti .i64 64 (uU la lb lc q))) (bX cols rows A B C):=by
 have hE:=rC (q:=q) hc hr hin hpl ha hb hcc
 have hi:=kg.1 hin
 have ok:=vN hc hr ⟨hi.1,hi.2.1⟩ hi.2.2
 have hP:=vM (A:=A) (B:=B) (C:=C) hc hr hin
 rw[hpl]at ok hP
 have hm:=ok.m
 have hw:=ok.ww
 have hm1:(y-1)*da cols p=y*da cols p-da cols p:=by rw[Int.sub_mul,Int.one_mul]
 have e1 : -1000<=y*da cols p/\y*da cols p<=1000:=by simp only at hm;omega
 have e2 : -1000<=(y-1)*da cols p/\(y-1)*da cols p<=1000:=by simp only at hm hw;rw[hm1];omega
 have e3:0<=x/\x<=1000:=by have:=ok.x0;have:=ok.x1;simp only at *;omega
 have e4:0<=y/\y<=1000:=by have:=ok.yy;simp only at *;omega
 unfold dm at ha hb hcc
 unfold uU
 rcases FX la lb lc q with⟨h0,rfl,rfl⟩|⟨h1,a,rfl⟩|⟨h2,b,rfl⟩
 ·rw[h0,if_neg (by decide),if_neg (by decide)]
  unfold kQ at hE
  rw[h0]at hE
  exact OD cols rows mb k p _ x y q _ A B C hP ok.pp e1 e2 e3 e4 hE
 ·rw[if_pos h1]
  unfold kQ at hE
  rw[h1]at hE
  exact OE cols rows mb k p _ x y q _ A B C hP ok.pp e1 e2 e3 e4 a ha hE
 ·rw[h2,if_neg (by decide),if_pos rfl]
  unfold kQ at hE
  rw[h2]at hE
  exact OF cols rows mb k p _ x y q _ A B C hP ok.pp e1 e2 e3 e4 b hb hE
theorem MX(hc:1<=cols/\cols<=8)(hr:0<=rows/\rows<=8)(hin:iH cols rows mb k=true){p x y:Int}(hpl:placeOf cols mb k=(p,x,y))(b:Kn) :
 bh Tryz.prog 74 [.one (.ptr 0 0),.one (.int .i64 mb),.one (.int .i64 k),.agg (dQ b)] (bX cols rows A B C) (.tup []) (bX cols rows (jt p 0 A (y*da cols p+x) b) (jt p 1 B (y*da cols p+x) b) (jt p 2 C (y*da cols p+x) b)):=by
 have hi:=kg.1 hin
 have hcr:=zf hc hr
 have ok:=vN hc hr ⟨hi.1,hi.2.1⟩ hi.2.2
 have hP:=vM (A:=A) (B:=B) (C:=C) hc hr hin
 rw[hpl]at ok hP
 have hm:=ok.m
 have hw:=ok.ww
 exact J6 cols rows mb k p _ x y b A B C hin hcr hP ok.pp (by simp only at hm;omega) (by have:=ok.x0;have:=ok.x1;simp only at *;omega)
end
theorem IV{cols rows:Int}{HS HS':aj}(hc:0<=cols/\cols<=8)(hr:0<=rows/\rows<=8){n:Nat}(hn:HS.length=n)(hh:HS++[.cells [.int .i64 cols,.int .i64 rows,.map (n+1),.map (n+2),.map (n+3)] 171 false false,.map (ag []),.map (ag []),.map (ag [])]=HS')(hb:Nat.blt HS'.length Mem.bound=true) :
 aG.Sound Tryz.prog ⟨48,[.one (.int .i64 cols),.one (.int .i64 rows)],HS,.one (.ptr n 0),HS',[]⟩:=by
 subst hn hh
 refine ud (KG cols rows hc hr) (ρ:=id) (Nat.zero_le _) (wu _ _) (fun x hx=>?_) (mo (fun x hx=>?_) _) ?_ ⟨by simp,fun j o h=>?_,fun i hi _=>?_⟩ (fun j o h hl ho=>?_) (fun i hi _=>?_) hb rfl
 ·simp only[List.mem_cons,List.not_mem_nil,or_false]at hx
  rcases hx with rfl|rfl<;>trivial
 ·simp only[List.mem_cons,List.not_mem_nil,or_false]at hx
  rcases hx with rfl|rfl<;>rfl
 ·simp[XV.ay,XC.ay,beyond]
 ·match j,h with
  | 0,h=>cases h;simp[beyond,ak.ay,XC.ay]
  | 1,h=>cases h;simp[beyond,ak.ay,jg]
  | 2,h=>cases h;simp[beyond,ak.ay,jg]
  | 3,h=>cases h;simp[beyond,ak.ay,jg]
  | j+4,h=>simp[bX]at h
 ·rw[List.getElem?_append_left hi]
 ·match j,h with
  | 0,h=>cases h;cases ho
  | 1,h=>cases h;cases ho
  | 2,h=>cases h;cases ho
  | 3,h=>cases h;cases ho
  | j+4,h=>simp[bX]at h
 ·rw[List.getElem?_append_left hi]
theorem IW{cols rows mb k:Int}{A B C A2 B2 C2:oH}{HS HS':aj}{b:Kn}(hcon:bh Tryz.prog 74 [.one (.ptr 0 0),.one (.int .i64 mb),.one (.int .i64 k),.agg (dQ b)] (bX cols rows A B C) (.tup []) (bX cols rows A2 B2 C2))
 (a e c d:Nat) (hd : [a,e,c,d].Nodup) (ha:HS[a]? = some (.cells [.int .i64 cols,.int .i64 rows,.map e,.map c,.map d] 171 false false)) (he:HS[e]? = some (.map (ag A))) (hc:HS[c]? = some (.map (ag B))) (hdd:HS[d]? = some (.map (ag C)))
 (hh:((HS.set e (.map (ag A2))).set c (.map (ag B2))).set d (.map (ag C2))=HS') (hb:Nat.blt HS'.length Mem.bound=true) :
 aG.Sound Tryz.prog ⟨74,[.one (.ptr a 0),.one (.int .i64 mb),.one (.int .i64 k),.agg (dQ b)],HS,.tup [],HS',[e,c,d]⟩:=by
 subst hh
 have hla:=(List.getElem?_eq_some_iff.1 ha).1
 have hle:=(List.getElem?_eq_some_iff.1 he).1
 have hlc:=(List.getElem?_eq_some_iff.1 hc).1
 have hld:=(List.getElem?_eq_some_iff.1 hdd).1
 simp only[List.nodup_cons,List.mem_cons,List.not_mem_nil,or_false,not_or,not_false_eq_true,List.nodup_nil,and_true]at hd
 obtain⟨⟨d1,d2,d3⟩,⟨d4,d5⟩,d6⟩:=hd
 refine ud hcon (ρ:=nth [a,e,c,d]) (Nat.le_refl _) (yx a e c d (by simp[d1,d2,d3,d4,d5,d6]) ha he hc hdd) (fun x hx=>?_) ?_ rfl ⟨by simp,fun j o h=>?_,fun i hi hne=>?_⟩ (fun j o h hl ho=>?_) (fun i hi hne=>?_) hb rfl
 ·simp only[List.mem_cons,List.not_mem_nil,or_false]at hx
  rcases hx with rfl|rfl|rfl|rfl
  ·show 0<4;omega
  ·trivial
  ·trivial
  ·exact XV.eZ (x := .agg (dQ b)) (bq b) _
 ·simp only[List.map_cons,List.map_nil,XV.ay,XC.ay,fm (bq b)]
  rfl
 ·match j,h with
  | 0,h=>
    cases h
    show(((HS.set e _).set c _).set d _)[a]? = _
    rw[List.getElem?_set_ne (Ne.symm d3),List.getElem?_set_ne (Ne.symm d2),List.getElem?_set_ne (Ne.symm d1),ha]
    rfl
  | 1,h=>
    cases h
    show(((HS.set e _).set c _).set d _)[e]? = _
    rw[List.getElem?_set_ne (Ne.symm d5),List.getElem?_set_ne (Ne.symm d4),List.getElem?_set_self hle]
    simp only[ak.ay,jg]
  | 2,h=>
    cases h
    show(((HS.set e _).set c _).set d _)[c]? = _
    rw[List.getElem?_set_ne (Ne.symm d6),List.getElem?_set_self (by simpa using hlc)]
    simp only[ak.ay,jg]
  | 3,h=>
    cases h
    show(((HS.set e _).set c _).set d _)[d]? = _
    rw[List.getElem?_set_self (by simpa using hld)]
    simp only[ak.ay,jg]
  | j+4,h=>simp[bX]at h
 ·have n1:=hne 1 (show 1<4 by omega)
  have n2:=hne 2 (show 2<4 by omega)
  have n3:=hne 3 (show 3<4 by omega)
  rw[List.getElem?_set_ne (show d≠i from n3),List.getElem?_set_ne (show c≠i from n2),List.getElem?_set_ne (show e≠i from n1)]
 ·match j,h with
  | 0,h=>cases h;cases ho
  | 1,h=>cases h;cases ho
  | 2,h=>cases h;cases ho
  | 3,h=>cases h;cases ho
  | j+4,h=>simp[bX]at h
 ·simp only[List.mem_cons,List.not_mem_nil,or_false,not_or]at hne
  rw[List.getElem?_set_ne (Ne.symm hne.2.2),List.getElem?_set_ne (Ne.symm hne.2.1),List.getElem?_set_ne (Ne.symm hne.1)]
end Go.Proofs.YtagpkhindehcbaaGreat
