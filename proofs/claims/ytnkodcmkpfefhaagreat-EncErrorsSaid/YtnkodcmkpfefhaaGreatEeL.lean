/-
  A part of the proof: PrSet, PrEdge, PrFacts.
-/
import Derived.Test.YtnkodcmkpfefhaaGreatEeD
import Derived.Test.YtnkodcmkpfefhaaGreatEeI
import Derived.Test.YtnkodcmkpfefhaaGreatEeJ
import Derived.Test.YtnkodcmkpfefhaaGreatEeK
set_option maxRecDepth 10000
set_option maxHeartbeats 8000000
set_option linter.unusedVariables false
set_option linter.unusedSectionVars false
set_option linter.unusedSimpArgs false
namespace Go.Proofs.YtnkodcmkpfefhaaGreat
open Go.Xm
variable [aw]
theorem FL(cols rows:Int)(hc:0<=cols/\cols<=8)(hr:0<=rows/\rows<=8):aW Tryz.prog 56 [.one (.int .i64 cols),.one (.int .i64 rows)] [] (.one (.ptr 0 0)) (bt cols rows [] [] []):=by
 refine cO Tryz.func56 ?_
 repeat' (first|refine zz ?_|refine zx (fun _=>?_) (fun _=>?_)|fail)
 show aD _ _ _ _ _ _ _ _
 refine Af (nth [3,0,1,2]) (.inr rfl) (fun m hm=>rfl) rfl (show 0<4 by omega) ?_ (fun j hj=>absurd hj (Nat.not_lt_zero j))
 refine IH [3,0,1,2] rfl (by decide) (cL _ _ _ _ _) fun j o hj=>?_
 match j,hj with
 | 0,hj=>cases hj;rfl
 | 1,hj=>cases hj;rfl
 | 2,hj=>cases hj;rfl
 | 3,hj=>cases hj;rfl
 | j+4,hj=>simp[bt]at hj
def r_(p q:Int)(T:mS)(key:Int)(b:Kn):mS:=if p=q then sX T key b else T
theorem Fj(cols rows mb k p w x y:Int)(b:Kn)(A B C:mS)(hin:fQ cols rows mb k=true)(hcr:0<=cols*rows/\cols*rows<=64)
 (hpl:aW Tryz.prog 128 [.one (.ptr 0 0),.one (.int .i64 mb),.one (.int .i64 k)] (bt cols rows A B C) (.tup [.one (.int .i64 p),.one (.int .i64 w),.one (.int .i64 x),.one (.int .i64 y)]) (bt cols rows A B C))
 (hp:p=0\/p=1\/p=2) (hyw:0<=y*w/\y*w<=10000) (hx:0<=x/\x<=10000) :
 aW Tryz.prog 99 [.one (.ptr 0 0),.one (.int .i64 mb),.one (.int .i64 k),.agg (cU b)] (bt cols rows A B C) (.tup []) (bt cols rows (r_ p 0 A (y*w+x) b) (r_ p 1 B (y*w+x) b) (r_ p 2 C (y*w+x) b)):=by
 have hI:=d8 cols rows mb k A B C hcr
 rw[hin]at hI
 rcases hp with rfl|rfl|rfl
 all_goals
  refine cO Tryz.func99 ?_
  repeat' (first
   |(refine qz ?_;first
    |refine aA (aF hI 0 1 2 3 (by decide) rfl rfl rfl rfl rfl rfl rfl) rfl rfl rfl rfl rfl rfl (by kernel_rfl) rfl ?_
    |refine aA (aF hpl 0 1 2 3 (by decide) rfl rfl rfl rfl rfl rfl rfl) rfl rfl rfl rfl rfl rfl (by kernel_rfl) rfl ?_
    |refine w9 (vc:=yC) rfl rfl rfl qC rfl rfl rfl rfl hS ?_)
   |refine zz ?_|refine zx (fun _=>?_) (fun _=>?_)|fail)
  show aD _ _ _ _ _ _ _ _
  refine bD (junk:=_) (by first|exact .inr rfl|exact .inl rfl) (ez.zero rfl .nil) rfl (fun _ h=>by cases h) rfl (cL _ _ _ _ _)
def em(b:Kn)(s:Nat):Nat->Nat->Int
 | 0=>fun _=>0
 | n+1=>gM (em b s n) ((n+1)*s) (b.lv ((n+1)*s))
theorem uk(b:Kn)(s n:Nat):em b s (n+1)=gM (em b s n) ((n+1)*s) (b.lv ((n+1)*s)):=rfl
def gX:Nat->Int:=fun _=>0
theorem sg(k:IntKind)(n:Nat)(f:Nat->Int)(m:Nat):(XV.agg (ti k n f)).bl m:=by
 intro c hc
 obtain⟨i,_,rfl⟩:=List.mem_map.1 hc
 trivial
section
variable (cols rows mb k p w x y q n:Int) (A B C:mS)
 (hpl:aW Tryz.prog 128 [.one (.ptr 0 0),.one (.int .i64 mb),.one (.int .i64 k)] (bt cols rows A B C) (.tup [.one (.int .i64 p),.one (.int .i64 w),.one (.int .i64 x),.one (.int .i64 y)]) (bt cols rows A B C))
 (hp:p=0\/p=1\/p=2) (hyw : -1000<=y*w/\y*w<=1000) (hyw1 : -1000<=(y-1)*w/\(y-1)*w<=1000) (hx:0<=x/\x<=1000) (hy:0<=y/\y<=1000)
include hpl hp hyw hyw1 hx hy
theorem I1(hE:aW Tryz.prog 127 [.one (.ptr 0 0),.one (.int .i64 mb),.one (.int .i64 k),.one (.int .i64 q)] (bt cols rows A B C) (.tup [.one (.int .u8 0),.one (.int .i64 n)]) (bt cols rows A B C)) :
 aW Tryz.prog 98 [.one (.ptr 0 0),.one (.int .i64 mb),.one (.int .i64 k),.one (.int .i64 q)] (bt cols rows A B C) (.agg (ti .i64 64 gX)) (bt cols rows A B C):=by
 refine cO Tryz.func98 ?_
 repeat' (first
  |(refine qz ?_;first
   |refine aA (aF hE 0 1 2 3 (by decide) rfl rfl rfl rfl rfl rfl rfl) rfl rfl rfl rfl rfl rfl (by kernel_rfl) rfl ?_)
  |refine zz ?_|refine zx (fun _=>?_) (fun _=>?_)|fail)
 show aD _ _ _ _ _ _ _ _
 refine bD (junk:=_) (.inr rfl) (ez.one rfl (.cell rfl rfl (bq rfl) .nil)) ?_ (sg _ _ _ _) rfl (cL _ _ _ _ _)
 rfl
def yl(n:Nat):bc:=[(19,.one (.int .i64 ((n+1:Nat)))),(8,.one (.ptr 4 0)),(9,.one (.ptr 5 0)),(16,.one (.int .i64 8)),(17,.one (.ptr 6 0))]
theorem I2(b:Kn)(ha:b8 (bE A B C p) w (x-1) y=some b)(hE:aW Tryz.prog 127 [.one (.ptr 0 0),.one (.int .i64 mb),.one (.int .i64 k),.one (.int .i64 q)] (bt cols rows A B C) (.tup [.one (.int .u8 1),.one (.int .i64 n)]) (bt cols rows A B C)) :
 aW Tryz.prog 98 [.one (.ptr 0 0),.one (.int .i64 mb),.one (.int .i64 k),.one (.int .i64 q)] (bt cols rows A B C) (.agg (ti .i64 64 (if b.qp=q then em b 8 7 else gX))) (bt cols rows A B C):=by
 by_cases hq:b.qp=q
 ·rw [if_pos hq]
  refine cO Tryz.func98 ?_
  repeat' (first
   |(refine qz ?_;first
    |refine aA (aF hE 0 1 2 3 (by decide) rfl rfl rfl rfl rfl rfl rfl) rfl rfl rfl rfl rfl rfl (by kernel_rfl) rfl ?_
    |refine aA (aF hpl 0 1 2 3 (by decide) rfl rfl rfl rfl rfl rfl rfl) rfl rfl rfl rfl rfl rfl (by kernel_rfl) rfl ?_
    |refine aA (aF (dM ha hp (by omega) (by omega)) 0 1 2 3 (by decide) rfl rfl rfl rfl rfl (by simp[XV.shut,X1.shut,XC.shut,aY]) rfl) rfl rfl rfl rfl rfl rfl (by kernel_rfl) rfl ?_
    |refine fh rfl rfl rfl rfl rfl rfl (rB _) ?_)
   |refine zz ?_|refine zx (fun _=>?_) (fun _=>?_)|fail)
  refine WX.loop ?_
  refine WX.at (al':=yl 0) (hs':=bt cols rows A B C++[.cells (ti .i64 64 gX) 65 false false,.cells (ti .i64 64 (em b 8 0)) 65 false false,.cells (cU b) 181 false false]) (bR rfl (bR rfl (bR rfl (bR rfl (bR rfl (ou _)))))) rfl ?_
  refine WX.count yl (fun n=>bt cols rows A B C++[.cells (ti .i64 64 gX) 65 false false,.cells (ti .i64 64 (em b 8 n)) 65 false false,.cells (cU b) 181 false false]) (fun _=>True) 7 trivial ?_
  intro n hn _ ih
  refine WX.round ?_
  unfold yl
  by_cases hlt:n<7
  ·have hj:(((n+1:Nat):Int)*8).toNat=(n+1)*8:=by omega
   repeat' (first
    |(refine qz ?_;first
     |refine fh rfl rfl rfl rfl rfl rfl (wm _ _ (by omega)) ?_
     |refine jk rfl rfl rfl rfl rfl rfl (by rw[aL];omega) (uX _ _ _ _ _) hS ?_)
    |refine zz ?_|refine zx (fun _=>?_) (fun _=>?_)|fail)
   refine WX.at ?_ ?_ (ih hlt trivial)
   ·exact bR rfl (bR rfl (bR rfl (bR rfl (bR rfl (ou _)))))
   ·rw[uk,<-hj]
    rfl
  ·obtain rfl:n=7:=by omega
   clear ih
   repeat' (first|refine zz ?_|refine zx (fun _=>?_) (fun _=>?_)|fail)
   show aD _ _ _ _ _ _ _ _
   refine bD (junk:=_) (.inr rfl) (ez.one rfl (.cell rfl rfl (bq rfl) .nil)) ?_ (sg _ _ _ _) rfl (cL _ _ _ _ _)
   rfl
 ·rw[if_neg hq]
  refine cO Tryz.func98 ?_
  repeat' (first
   |(refine qz ?_;first
    |refine aA (aF hE 0 1 2 3 (by decide) rfl rfl rfl rfl rfl rfl rfl) rfl rfl rfl rfl rfl rfl (by kernel_rfl) rfl ?_
    |refine aA (aF hpl 0 1 2 3 (by decide) rfl rfl rfl rfl rfl rfl rfl) rfl rfl rfl rfl rfl rfl (by kernel_rfl) rfl ?_
    |refine aA (aF (dM ha hp (by omega) (by omega)) 0 1 2 3 (by decide) rfl rfl rfl rfl rfl (by simp[XV.shut,X1.shut,XC.shut,aY]) rfl) rfl rfl rfl rfl rfl rfl (by kernel_rfl) rfl ?_
    |refine fh rfl rfl rfl rfl rfl rfl (rB _) ?_)
   |refine zz ?_|refine zx (fun _=>?_) (fun _=>?_)|fail)
  show aD _ _ _ _ _ _ _ _
  refine bD (junk:=_) (.inr rfl) (ez.one rfl (.cell rfl rfl (bq rfl) .nil)) ?_ (sg _ _ _ _) rfl (cL _ _ _ _ _)
  rfl
def ym(n:Nat):bc:=[(19,.one (.int .i64 ((n+1:Nat)))),(8,.one (.ptr 4 0)),(9,.one (.ptr 5 0)),(16,.one (.int .i64 1)),(17,.one (.ptr 6 0))]
theorem I3(b:Kn)(ha:b8 (bE A B C p) w x (y-1)=some b)(hE:aW Tryz.prog 127 [.one (.ptr 0 0),.one (.int .i64 mb),.one (.int .i64 k),.one (.int .i64 q)] (bt cols rows A B C) (.tup [.one (.int .u8 2),.one (.int .i64 n)]) (bt cols rows A B C)) :
 aW Tryz.prog 98 [.one (.ptr 0 0),.one (.int .i64 mb),.one (.int .i64 k),.one (.int .i64 q)] (bt cols rows A B C) (.agg (ti .i64 64 (if b.qp=q then em b 1 7 else gX))) (bt cols rows A B C):=by
 by_cases hq:b.qp=q
 ·rw [if_pos hq]
  refine cO Tryz.func98 ?_
  repeat' (first
   |(refine qz ?_;first
    |refine aA (aF hE 0 1 2 3 (by decide) rfl rfl rfl rfl rfl rfl rfl) rfl rfl rfl rfl rfl rfl (by kernel_rfl) rfl ?_
    |refine aA (aF hpl 0 1 2 3 (by decide) rfl rfl rfl rfl rfl rfl rfl) rfl rfl rfl rfl rfl rfl (by kernel_rfl) rfl ?_
    |refine aA (aF (dM ha hp (by omega) (by omega)) 0 1 2 3 (by decide) rfl rfl rfl rfl rfl (by simp[XV.shut,X1.shut,XC.shut,aY]) rfl) rfl rfl rfl rfl rfl rfl (by kernel_rfl) rfl ?_
    |refine fh rfl rfl rfl rfl rfl rfl (rB _) ?_)
   |refine zz ?_|refine zx (fun _=>?_) (fun _=>?_)|fail)
  refine WX.loop ?_
  refine WX.at (al':=ym 0) (hs':=bt cols rows A B C++[.cells (ti .i64 64 gX) 65 false false,.cells (ti .i64 64 (em b 1 0)) 65 false false,.cells (cU b) 181 false false]) (bR rfl (bR rfl (bR rfl (bR rfl (bR rfl (ou _)))))) rfl ?_
  refine WX.count ym (fun n=>bt cols rows A B C++[.cells (ti .i64 64 gX) 65 false false,.cells (ti .i64 64 (em b 1 n)) 65 false false,.cells (cU b) 181 false false]) (fun _=>True) 7 trivial ?_
  intro n hn _ ih
  refine WX.round ?_
  unfold ym
  by_cases hlt:n<7
  ·have hj:(((n+1:Nat):Int)*1).toNat=(n+1)*1:=by omega
   repeat' (first
    |(refine qz ?_;first
     |refine fh rfl rfl rfl rfl rfl rfl (wm _ _ (by omega)) ?_
     |refine jk rfl rfl rfl rfl rfl rfl (by rw[aL];omega) (uX _ _ _ _ _) hS ?_)
    |refine zz ?_|refine zx (fun _=>?_) (fun _=>?_)|fail)
   refine WX.at ?_ ?_ (ih hlt trivial)
   ·exact bR rfl (bR rfl (bR rfl (bR rfl (bR rfl (ou _)))))
   ·rw[uk,<-hj]
    rfl
  ·obtain rfl:n=7:=by omega
   clear ih
   repeat' (first|refine zz ?_|refine zx (fun _=>?_) (fun _=>?_)|fail)
   show aD _ _ _ _ _ _ _ _
   refine bD (junk:=_) (.inr rfl) (ez.one rfl (.cell rfl rfl (bq rfl) .nil)) ?_ (sg _ _ _ _) rfl (cL _ _ _ _ _)
   rfl
 ·rw[if_neg hq]
  refine cO Tryz.func98 ?_
  repeat' (first
   |(refine qz ?_;first
    |refine aA (aF hE 0 1 2 3 (by decide) rfl rfl rfl rfl rfl rfl rfl) rfl rfl rfl rfl rfl rfl (by kernel_rfl) rfl ?_
    |refine aA (aF hpl 0 1 2 3 (by decide) rfl rfl rfl rfl rfl rfl rfl) rfl rfl rfl rfl rfl rfl (by kernel_rfl) rfl ?_
    |refine aA (aF (dM ha hp (by omega) (by omega)) 0 1 2 3 (by decide) rfl rfl rfl rfl rfl (by simp[XV.shut,X1.shut,XC.shut,aY]) rfl) rfl rfl rfl rfl rfl rfl (by kernel_rfl) rfl ?_
    |refine fh rfl rfl rfl rfl rfl rfl (rB _) ?_)
   |refine zz ?_|refine zx (fun _=>?_) (fun _=>?_)|fail)
  show aD _ _ _ _ _ _ _ _
  refine bD (junk:=_) (.inr rfl) (ez.one rfl (.cell rfl rfl (bq rfl) .nil)) ?_ (sg _ _ _ _) rfl (cL _ _ _ _ _)
  rfl
end
end Go.Proofs.YtnkodcmkpfefhaaGreat
namespace Go.Proofs.YtnkodcmkpfefhaaGreat
open Go.Xm
variable [aw]
def ch(cols p:Int):Int:=if p=0 then 2*cols else cols
def cx(A B C:mS)(cols p x y:Int):Option Kn:=b8 (bE A B C p) (ch cols p) x y
structure Gw(cols p x y:Int):Prop where
 pp:p=0\/p=1\/p=2
 x0:0<=x
 x1:x<ch cols p
 yy:0<=y/\y<=200
 m:0<=y*ch cols p/\y*ch cols p<=400
 ww:1<=ch cols p/\ch cols p<=16
theorem rR{cols rows mb k:Int}(hc:1<=cols/\cols<=8)(hr:0<=rows/\rows<=8)(hm:0<=mb/\mb<cols*rows)(hk:0<=k/\k<6):Gw cols (placeOf cols mb k).1 (placeOf cols mb k).2.1 (placeOf cols mb k).2.2:=by
 have h1:cols=1\/cols=2\/cols=3\/cols=4\/cols=5\/cols=6\/cols=7\/cols=8:=by omega
 by_cases h4:k<4
 ·have e:placeOf cols mb k=(0,2*(mb%cols)+k%2,2*(mb/cols)+k/2):=by unfold placeOf;rw[if_pos h4]
  rw[e]
  have ew:ch cols 0=2*cols:=by simp[ch]
  refine⟨.inl rfl,?_,?_,?_,?_,?_⟩<;>simp only[ew]<;>rcases h1 with rfl|rfl|rfl|rfl|rfl|rfl|rfl|rfl<;>omega
 ·have e:placeOf cols mb k=(k-3,mb%cols,mb/cols):=by unfold placeOf;rw[if_neg h4]
  rw[e]
  have ew:ch cols (k-3)=cols:=by unfold ch;rw[if_neg (by omega)]
  refine⟨by show k-3=0\/k-3=1\/k-3=2;omega,?_,?_,?_,?_,?_⟩<;>simp only[ew]<;>rcases h1 with rfl|rfl|rfl|rfl|rfl|rfl|rfl|rfl<;>omega
theorem H8(cols mb k:Int)(hk:0<=k):(if k<4 then 2*cols else cols)=ch cols (placeOf cols mb k).1:=by
 unfold ch placeOf
 by_cases h4:k<4
 ·simp[h4]
 ·rw[if_neg h4,if_neg h4,if_neg]
  show¬k-3=0
  omega
theorem iy{cols rows mb k:Int}:fQ cols rows mb k=true↔0<=mb/\mb<cols*rows/\0<=k/\k<6:=by simp[fQ]
theorem uj{cols rows:Int}(hc:1<=cols/\cols<=8)(hr:0<=rows/\rows<=8):0<=cols*rows/\cols*rows<=64:=by
 have h1:cols=1\/cols=2\/cols=3\/cols=4\/cols=5\/cols=6\/cols=7\/cols=8:=by omega
 rcases h1 with rfl|rfl|rfl|rfl|rfl|rfl|rfl|rfl<;>omega
section
variable {cols rows mb k q:Int} {A B C:mS}
theorem rQ(hc:1<=cols/\cols<=8)(hr:0<=rows/\rows<=8)(hin:fQ cols rows mb k=true) :
 aW Tryz.prog 128 [.one (.ptr 0 0),.one (.int .i64 mb),.one (.int .i64 k)] (bt cols rows A B C) (.tup [.one (.int .i64 (placeOf cols mb k).1),.one (.int .i64 (ch cols (placeOf cols mb k).1)),.one (.int .i64 (placeOf cols mb k).2.1),.one (.int .i64 (placeOf cols mb k).2.2)]) (bt cols rows A B C):=by
 have hi:=iy.1 hin
 have hcr:=uj hc hr
 have:=B6 cols rows mb k A B C hc ⟨hi.1,by omega⟩ ⟨hi.2.2.1,by omega⟩
 unfold pg at this
 rw[H8 cols mb k hi.2.2.1]at this
 exact this
theorem oc(hc:1<=cols/\cols<=8)(hr:0<=rows/\rows<=8)(hin:fQ cols rows mb k=true){p x y:Int}(hpl:placeOf cols mb k=(p,x,y)){la lb lc:Option Kn}(ha:cx A B C cols p (x-1) y=la)(hb:cx A B C cols p x (y-1)=lb)(hcc:cx A B C cols p (x-1) (y-1)=lc) :
 aW Tryz.prog 127 [.one (.ptr 0 0),.one (.int .i64 mb),.one (.int .i64 k),.one (.int .i64 q)] (bt cols rows A B C) (iU (jb la lb lc q)) (bt cols rows A B C):=by
 have hi:=iy.1 hin
 have hcr:=uj hc hr
 have ok:=rR hc hr ⟨hi.1,hi.2.1⟩ hi.2.2
 have hP:=rQ (A:=A) (B:=B) (C:=C) hc hr hin
 rw[hpl]at ok hP
 have hm:=ok.m
 have hw:=ok.ww
 have hm1:(y-1)*ch cols p=y*ch cols p-ch cols p:=by rw[Int.sub_mul,Int.one_mul]
 have e1 : -1000<=y*ch cols p/\y*ch cols p<=1000:=by simp only at hm;omega
 have e2 : -1000<=(y-1)*ch cols p/\(y-1)*ch cols p<=1000:=by simp only at hm hw;rw[hm1];omega
 have e3:0<=x/\x<=1000:=by have:=ok.x0;have:=ok.x1;simp only at *;omega
 have e4:0<=y/\y<=1000:=by have:=ok.yy;simp only at *;omega
 unfold cx at ha hb hcc
 cases la with
 | some a=>cases lb with
   | some b=>cases lc with
     | some c=>exact GZ cols rows mb k p _ x y q A B C hin hcr hP ok.pp e1 e2 e3 e4 a b c ha hb hcc
     | none=>exact GY cols rows mb k p _ x y q A B C hin hcr hP ok.pp e1 e2 e3 e4 a b ha hb hcc
   | none=>cases lc with
     | some c=>exact GX cols rows mb k p _ x y q A B C hin hcr hP ok.pp e1 e2 e3 e4 a c ha hb hcc
     | none=>exact GW cols rows mb k p _ x y q A B C hin hcr hP ok.pp e1 e2 e3 e4 a ha hb hcc
 | none=>cases lb with
   | some b=>cases lc with
     | some c=>exact GV cols rows mb k p _ x y q A B C hin hcr hP ok.pp e1 e2 e3 e4 b c ha hb hcc
     | none=>exact GU cols rows mb k p _ x y q A B C hin hcr hP ok.pp e1 e2 e3 e4 b ha hb hcc
   | none=>cases lc with
     | some c=>exact GS cols rows mb k p _ x y q A B C hin hcr hP ok.pp e1 e2 e3 e4 c ha hb hcc
     | none=>exact GR cols rows mb k p _ x y q A B C hin hcr hP ok.pp e1 e2 e3 e4 ha hb hcc
def kf(o:Option Kn)(s:Nat)(q:Int):Nat->Int:=match o with
 | some b=>if b.qp=q then em b s 7 else gX
 | none=>gX
def z7(la lb lc:Option Kn)(q:Int):Nat->Int:=
 if(jb la lb lc q).1=1 then kf la 8 q else if(jb la lb lc q).1=2 then kf lb 1 q else gX
theorem Bw(la lb lc:Option Kn)(q:Int):((jb la lb lc q).1=0/\la=none/\lb=none)\/((jb la lb lc q).1=1/\∃a,la=some a)\/((jb la lb lc q).1=2/\∃b,lb=some b):=by
 cases la with
 | some a=>cases lb with
   | some b=>
     have h:(jb (some a) (some b) lc q).1=1\/(jb (some a) (some b) lc q).1=2:=by
      cases lc<;>simp only[jb]<;>split<;>simp
     rcases h with h|h
     ·exact .inr (.inl ⟨h,_,rfl⟩)
     ·exact .inr (.inr ⟨h,_,rfl⟩)
   | none=>exact .inr (.inl ⟨rfl,_,rfl⟩)
 | none=>cases lb with
   | some b=>exact .inr (.inr ⟨rfl,_,rfl⟩)
   | none=>exact .inl ⟨rfl,rfl,rfl⟩
theorem DU(hc:1<=cols/\cols<=8)(hr:0<=rows/\rows<=8)(hin:fQ cols rows mb k=true){p x y:Int}(hpl:placeOf cols mb k=(p,x,y)){la lb lc:Option Kn}(ha:cx A B C cols p (x-1) y=la)(hb:cx A B C cols p x (y-1)=lb)(hcc:cx A B C cols p (x-1) (y-1)=lc) :
 aW Tryz.prog 98 [.one (.ptr 0 0),.one (.int .i64 mb),.one (.int .i64 k),.one (.int .i64 q)] (bt cols rows A B C) (.agg (ti .i64 64 (z7 la lb lc q))) (bt cols rows A B C):=by
 have hE:=oc (q:=q) hc hr hin hpl ha hb hcc
 have hi:=iy.1 hin
 have ok:=rR hc hr ⟨hi.1,hi.2.1⟩ hi.2.2
 have hP:=rQ (A:=A) (B:=B) (C:=C) hc hr hin
 rw[hpl]at ok hP
 have hm:=ok.m
 have hw:=ok.ww
 have hm1:(y-1)*ch cols p=y*ch cols p-ch cols p:=by rw[Int.sub_mul,Int.one_mul]
 have e1 : -1000<=y*ch cols p/\y*ch cols p<=1000:=by simp only at hm;omega
 have e2 : -1000<=(y-1)*ch cols p/\(y-1)*ch cols p<=1000:=by simp only at hm hw;rw[hm1];omega
 have e3:0<=x/\x<=1000:=by have:=ok.x0;have:=ok.x1;simp only at *;omega
 have e4:0<=y/\y<=1000:=by have:=ok.yy;simp only at *;omega
 unfold cx at ha hb hcc
 unfold z7
 rcases Bw la lb lc q with⟨h0,rfl,rfl⟩|⟨h1,a,rfl⟩|⟨h2,b,rfl⟩
 ·rw[h0,if_neg (by decide),if_neg (by decide)]
  unfold iU at hE
  rw[h0]at hE
  exact I1 cols rows mb k p _ x y q _ A B C hP ok.pp e1 e2 e3 e4 hE
 ·rw[if_pos h1]
  unfold iU at hE
  rw[h1]at hE
  exact I2 cols rows mb k p _ x y q _ A B C hP ok.pp e1 e2 e3 e4 a ha hE
 ·rw[h2,if_neg (by decide),if_pos rfl]
  unfold iU at hE
  rw[h2]at hE
  exact I3 cols rows mb k p _ x y q _ A B C hP ok.pp e1 e2 e3 e4 b hb hE
theorem HI(hc:1<=cols/\cols<=8)(hr:0<=rows/\rows<=8)(hin:fQ cols rows mb k=true){p x y:Int}(hpl:placeOf cols mb k=(p,x,y))(b:Kn) :
 aW Tryz.prog 99 [.one (.ptr 0 0),.one (.int .i64 mb),.one (.int .i64 k),.agg (cU b)] (bt cols rows A B C) (.tup []) (bt cols rows (r_ p 0 A (y*ch cols p+x) b) (r_ p 1 B (y*ch cols p+x) b) (r_ p 2 C (y*ch cols p+x) b)):=by
 have hi:=iy.1 hin
 have hcr:=uj hc hr
 have ok:=rR hc hr ⟨hi.1,hi.2.1⟩ hi.2.2
 have hP:=rQ (A:=A) (B:=B) (C:=C) hc hr hin
 rw[hpl]at ok hP
 have hm:=ok.m
 have hw:=ok.ww
 exact Fj cols rows mb k p _ x y b A B C hin hcr hP ok.pp (by simp only at hm;omega) (by have:=ok.x0;have:=ok.x1;simp only at *;omega)
end
theorem wj{cols rows:Int}{HS HS':ai}(hc:0<=cols/\cols<=8)(hr:0<=rows/\rows<=8){n:Nat}(hn:HS.length=n)(hh:HS++[.cells [.int .i64 cols,.int .i64 rows,.map (n+1),.map (n+2),.map (n+3)] 142 false false,.map (aj []),.map (aj []),.map (aj [])]=HS')(hb:Nat.blt HS'.length Mem.bound=true) :
 aC.Sound Tryz.prog ⟨56,[.one (.int .i64 cols),.one (.int .i64 rows)],HS,.one (.ptr n 0),HS',[]⟩:=by
 subst hn hh
 refine oo (FL cols rows hc hr) (ρ:=id) (Nat.zero_le _) (si _ _) (fun x hx=>?_) (jT (fun x hx=>?_) _) ?_ ⟨by simp,fun j o h=>?_,fun i hi _=>?_⟩ (fun j o h hl ho=>?_) (fun i hi _=>?_) hb rfl
 ·simp only[List.mem_cons,List.not_mem_nil,or_false]at hx
  rcases hx with rfl|rfl<;>trivial
 ·simp only[List.mem_cons,List.not_mem_nil,or_false]at hx
  rcases hx with rfl|rfl<;>rfl
 ·simp[XV.ax,XC.ax,beyond]
 ·match j,h with
  | 0,h=>cases h;simp[beyond,ah.ax,XC.ax]
  | 1,h=>cases h;simp[beyond,ah.ax,gq]
  | 2,h=>cases h;simp[beyond,ah.ax,gq]
  | 3,h=>cases h;simp[beyond,ah.ax,gq]
  | j+4,h=>simp[bt]at h
 ·rw[List.getElem?_append_left hi]
 ·match j,h with
  | 0,h=>cases h;cases ho
  | 1,h=>cases h;cases ho
  | 2,h=>cases h;cases ho
  | 3,h=>cases h;cases ho
  | j+4,h=>simp[bt]at h
 ·rw[List.getElem?_append_left hi]
theorem wk{cols rows mb k:Int}{A B C A2 B2 C2:mS}{HS HS':ai}{b:Kn}(hcon:aW Tryz.prog 99 [.one (.ptr 0 0),.one (.int .i64 mb),.one (.int .i64 k),.agg (cU b)] (bt cols rows A B C) (.tup []) (bt cols rows A2 B2 C2))
 (a e c d:Nat) (hd : [a,e,c,d].Nodup) (ha:HS[a]? = some (.cells [.int .i64 cols,.int .i64 rows,.map e,.map c,.map d] 142 false false)) (he:HS[e]? = some (.map (aj A))) (hc:HS[c]? = some (.map (aj B))) (hdd:HS[d]? = some (.map (aj C)))
 (hh:((HS.set e (.map (aj A2))).set c (.map (aj B2))).set d (.map (aj C2))=HS') (hb:Nat.blt HS'.length Mem.bound=true) :
 aC.Sound Tryz.prog ⟨99,[.one (.ptr a 0),.one (.int .i64 mb),.one (.int .i64 k),.agg (cU b)],HS,.tup [],HS',[e,c,d]⟩:=by
 subst hh
 have hla:=(List.getElem?_eq_some_iff.1 ha).1
 have hle:=(List.getElem?_eq_some_iff.1 he).1
 have hlc:=(List.getElem?_eq_some_iff.1 hc).1
 have hld:=(List.getElem?_eq_some_iff.1 hdd).1
 simp only[List.nodup_cons,List.mem_cons,List.not_mem_nil,or_false,not_or,not_false_eq_true,List.nodup_nil,and_true]at hd
 obtain⟨⟨d1,d2,d3⟩,⟨d4,d5⟩,d6⟩:=hd
 refine oo hcon (ρ:=nth [a,e,c,d]) (Nat.le_refl _) (tM a e c d (by simp[d1,d2,d3,d4,d5,d6]) ha he hc hdd) (fun x hx=>?_) ?_ rfl ⟨by simp,fun j o h=>?_,fun i hi hne=>?_⟩ (fun j o h hl ho=>?_) (fun i hi hne=>?_) hb rfl
 ·simp only[List.mem_cons,List.not_mem_nil,or_false]at hx
  rcases hx with rfl|rfl|rfl|rfl
  ·show 0<4;omega
  ·trivial
  ·trivial
  ·exact XV.dS (x := .agg (cU b)) (aY b) _
 ·simp only[List.map_cons,List.map_nil,XV.ax,XC.ax,eK (aY b)]
  rfl
 ·match j,h with
  | 0,h=>
    cases h
    show(((HS.set e _).set c _).set d _)[a]? = _
    rw[List.getElem?_set_ne (Ne.symm d3),List.getElem?_set_ne (Ne.symm d2),List.getElem?_set_ne (Ne.symm d1),ha]
    rfl
  | 1,h=>
    cases h
    show(((HS.set e _).set c _).set d _)[e]? = _
    rw[List.getElem?_set_ne (Ne.symm d5),List.getElem?_set_ne (Ne.symm d4),List.getElem?_set_self hle]
    simp only[ah.ax,gq]
  | 2,h=>
    cases h
    show(((HS.set e _).set c _).set d _)[c]? = _
    rw[List.getElem?_set_ne (Ne.symm d6),List.getElem?_set_self (by simpa using hlc)]
    simp only[ah.ax,gq]
  | 3,h=>
    cases h
    show(((HS.set e _).set c _).set d _)[d]? = _
    rw[List.getElem?_set_self (by simpa using hld)]
    simp only[ah.ax,gq]
  | j+4,h=>simp[bt]at h
 ·have n1:=hne 1 (show 1<4 by omega)
  have n2:=hne 2 (show 2<4 by omega)
  have n3:=hne 3 (show 3<4 by omega)
  rw[List.getElem?_set_ne (show d≠i from n3),List.getElem?_set_ne (show c≠i from n2),List.getElem?_set_ne (show e≠i from n1)]
 ·match j,h with
  | 0,h=>cases h;cases ho
  | 1,h=>cases h;cases ho
  | 2,h=>cases h;cases ho
  | 3,h=>cases h;cases ho
  | j+4,h=>simp[bt]at h
 ·simp only[List.mem_cons,List.not_mem_nil,or_false,not_or]at hne
  rw[List.getElem?_set_ne (Ne.symm hne.2.2),List.getElem?_set_ne (Ne.symm hne.2.1),List.getElem?_set_ne (Ne.symm hne.1)]
end Go.Proofs.YtnkodcmkpfefhaaGreat
