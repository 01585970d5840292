/-
  A part of the proof: PrSet, PrEdge, PrFacts.
-/
import Derived.Test.YtagpkhindehcbaaGreatKfD
import Derived.Test.YtagpkhindehcbaaGreatKfI
import Derived.Test.YtagpkhindehcbaaGreatKfJ
import Derived.Test.YtagpkhindehcbaaGreatKfK
set_option maxRecDepth 10000
set_option maxHeartbeats 8000000
set_option linter.unusedVariables false
set_option linter.unusedSectionVars false
set_option linter.unusedSimpArgs false
namespace Go.Proofs.YtagpkhindehcbaaGreat
open Go.Xm
variable [ax]
theorem Kt(cols rows:Int)(hc:0<=cols/\cols<=8)(hr:0<=rows/\rows<=8):bh Tryz.prog 48 [.one (.int .i64 cols),.one (.int .i64 rows)] [] (.one (.ptr 0 0)) (bX cols rows [] [] []):=by
 refine cO Tryz.func48 ?_
 repeat' (first|refine zz ?_|refine zx (fun _=>?_) (fun _=>?_)|fail)
 show aC _ _ _ _ _ _ _ _
 refine Et (nth [3,0,1,2]) (.inr rfl) (fun m hm=>rfl) rfl (show 0<4 by omega) ?_ (fun j hj=>absurd hj (Nat.not_lt_zero j))
 refine NV [3,0,1,2] rfl (by decide) (dK _ _ _ _ _) fun j o hj=>?_
 match j,hj with
 | 0,hj=>cases hj;rfl
 | 1,hj=>cases hj;rfl
 | 2,hj=>cases hj;rfl
 | 3,hj=>cases hj;rfl
 | j+4,hj=>simp[bX]at hj
def jt(p q:Int)(T:oJ)(key:Int)(b:Kn):oJ:=if p=q then oH T key b else T
theorem JR(cols rows mb k p w x y:Int)(b:Kn)(A B C:oJ)(hin:iG cols rows mb k=true)(hcr:0<=cols*rows/\cols*rows<=64)
 (hpl:bh Tryz.prog 100 [.one (.ptr 0 0),.one (.int .i64 mb),.one (.int .i64 k)] (bX cols rows A B C) (.tup [.one (.int .i64 p),.one (.int .i64 w),.one (.int .i64 x),.one (.int .i64 y)]) (bX cols rows A B C))
 (hp:p=0\/p=1\/p=2) (hyw:0<=y*w/\y*w<=10000) (hx:0<=x/\x<=10000) :
 bh Tryz.prog 74 [.one (.ptr 0 0),.one (.int .i64 mb),.one (.int .i64 k),.agg (dO b)] (bX cols rows A B C) (.tup []) (bX cols rows (jt p 0 A (y*w+x) b) (jt p 1 B (y*w+x) b) (jt p 2 C (y*w+x) b)):=by
 have hI:=fM cols rows mb k A B C hcr
 rw[hin]at hI
 rcases hp with rfl|rfl|rfl
 all_goals
  refine cO Tryz.func74 ?_
  repeat' (first
   |(refine qz ?_;first
    |refine aD (aJ hI 0 1 2 3 (by decide) rfl rfl rfl rfl rfl rfl rfl) rfl rfl rfl rfl rfl rfl (by kernel_rfl) rfl ?_
    |refine aD (aJ hpl 0 1 2 3 (by decide) rfl rfl rfl rfl rfl rfl rfl) rfl rfl rfl rfl rfl rfl (by kernel_rfl) rfl ?_
    |refine BI (vc:=C1) rfl rfl rfl t6 rfl rfl rfl rfl hS ?_)
   |refine zz ?_|refine zx (fun _=>?_) (fun _=>?_)|fail)
  show aC _ _ _ _ _ _ _ _
  refine b8 (junk:=_) (by first|exact .inr rfl|exact .inl rfl) (ib.zero rfl .nil) rfl (fun _ h=>by cases h) rfl (dK _ _ _ _ _)
def em(b:Kn)(s:Nat):Nat->Nat->Int
 | 0=>fun _=>0
 | n+1=>cw (em b s n) ((n+1)*s) (b.lv ((n+1)*s))
theorem nD(b:Kn)(s n:Nat):em b s (n+1)=cw (em b s n) ((n+1)*s) (b.lv ((n+1)*s)):=rfl
def jG:Nat->Int:=fun _=>0
theorem v8(k:IntKind)(n:Nat)(f:Nat->Int)(m:Nat):(XV.agg (ti k n f)).b7 m:=by
 intro c hc
 obtain⟨i,_,rfl⟩:=List.mem_map.1 hc
 trivial
section
variable (cols rows mb k p w x y q n:Int) (A B C:oJ)
 (hpl:bh Tryz.prog 100 [.one (.ptr 0 0),.one (.int .i64 mb),.one (.int .i64 k)] (bX cols rows A B C) (.tup [.one (.int .i64 p),.one (.int .i64 w),.one (.int .i64 x),.one (.int .i64 y)]) (bX cols rows A B C))
 (hp:p=0\/p=1\/p=2) (hyw : -1000<=y*w/\y*w<=1000) (hyw1 : -1000<=(y-1)*w/\(y-1)*w<=1000) (hx:0<=x/\x<=1000) (hy:0<=y/\y<=1000)
include hpl hp hyw hyw1 hx hy
theorem Ok(hE:bh Tryz.prog 70 [.one (.ptr 0 0),.one (.int .i64 mb),.one (.int .i64 k),.one (.int .i64 q)] (bX cols rows A B C) (.tup [.one (.int .u8 0),.one (.int .i64 n)]) (bX cols rows A B C)) :
 bh Tryz.prog 73 [.one (.ptr 0 0),.one (.int .i64 mb),.one (.int .i64 k),.one (.int .i64 q)] (bX cols rows A B C) (.agg (ti .i64 64 jG)) (bX cols rows A B C):=by
 refine cO Tryz.func73 ?_
 repeat' (first
  |(refine qz ?_;first
   |refine aD (aJ hE 0 1 2 3 (by decide) rfl rfl rfl rfl rfl rfl rfl) rfl rfl rfl rfl rfl rfl (by kernel_rfl) rfl ?_)
  |refine zz ?_|refine zx (fun _=>?_) (fun _=>?_)|fail)
 show aC _ _ _ _ _ _ _ _
 refine b8 (junk:=_) (.inr rfl) (ib.one rfl (.cell rfl rfl (cg rfl) .nil)) ?_ (v8 _ _ _ _) rfl (dK _ _ _ _ _)
 rfl
def CO(n:Nat):bl:=[(19,.one (.int .i64 ((n+1:Nat)))),(8,.one (.ptr 4 0)),(9,.one (.ptr 5 0)),(16,.one (.int .i64 8)),(17,.one (.ptr 6 0))]
theorem Om(b:Kn)(ha:cI (bU A B C p) w (x-1) y=some b)(hE:bh Tryz.prog 70 [.one (.ptr 0 0),.one (.int .i64 mb),.one (.int .i64 k),.one (.int .i64 q)] (bX cols rows A B C) (.tup [.one (.int .u8 1),.one (.int .i64 n)]) (bX cols rows A B C)) :
 bh Tryz.prog 73 [.one (.ptr 0 0),.one (.int .i64 mb),.one (.int .i64 k),.one (.int .i64 q)] (bX cols rows A B C) (.agg (ti .i64 64 (if b.qp=q then em b 8 7 else jG))) (bX cols rows A B C):=by
 by_cases hq:b.qp=q
 ·rw [if_pos hq]
  refine cO Tryz.func73 ?_
  repeat' (first
   |(refine qz ?_;first
    |refine aD (aJ hE 0 1 2 3 (by decide) rfl rfl rfl rfl rfl rfl rfl) rfl rfl rfl rfl rfl rfl (by kernel_rfl) rfl ?_
    |refine aD (aJ hpl 0 1 2 3 (by decide) rfl rfl rfl rfl rfl rfl rfl) rfl rfl rfl rfl rfl rfl (by kernel_rfl) rfl ?_
    |refine aD (aJ (fk ha hp (by omega) (by omega)) 0 1 2 3 (by decide) rfl rfl rfl rfl rfl (by simp[XV.shut,X1.shut,XC.shut,bn]) rfl) rfl rfl rfl rfl rfl rfl (by kernel_rfl) rfl ?_
    |refine gk rfl rfl rfl rfl rfl rfl (u6 _) ?_)
   |refine zz ?_|refine zx (fun _=>?_) (fun _=>?_)|fail)
  refine WX.loop ?_
  refine WX.at (al':=CO 0) (hs':=bX cols rows A B C++[.cells (ti .i64 64 jG) 50 false false,.cells (ti .i64 64 (em b 8 0)) 50 false false,.cells (dO b) 156 false false]) (ct rfl (ct rfl (ct rfl (ct rfl (ct rfl (rK _)))))) rfl ?_
  refine WX.count CO (fun n=>bX cols rows A B C++[.cells (ti .i64 64 jG) 50 false false,.cells (ti .i64 64 (em b 8 n)) 50 false false,.cells (dO b) 156 false false]) (fun _=>True) 7 trivial ?_
  intro n hn _ ih
  refine WX.round ?_
  unfold CO
  by_cases hlt:n<7
  ·have hj:(((n+1:Nat):Int)*8).toNat=(n+1)*8:=by omega
   repeat' (first
    |(refine qz ?_;first
     |refine gk rfl rfl rfl rfl rfl rfl (A4 _ _ (by omega)) ?_
     |refine lC rfl rfl rfl rfl rfl rfl (by rw[aE];omega) (s4 _ _ _ _ _) hS ?_)
    |refine zz ?_|refine zx (fun _=>?_) (fun _=>?_)|fail)
   refine WX.at ?_ ?_ (ih hlt trivial)
   ·exact ct rfl (ct rfl (ct rfl (ct rfl (ct rfl (rK _)))))
   ·rw[nD,<-hj]
    rfl
  ·obtain rfl:n=7:=by omega
   clear ih
   repeat' (first|refine zz ?_|refine zx (fun _=>?_) (fun _=>?_)|fail)
   show aC _ _ _ _ _ _ _ _
   refine b8 (junk:=_) (.inr rfl) (ib.one rfl (.cell rfl rfl (cg rfl) .nil)) ?_ (v8 _ _ _ _) rfl (dK _ _ _ _ _)
   rfl
 ·rw[if_neg hq]
  refine cO Tryz.func73 ?_
  repeat' (first
   |(refine qz ?_;first
    |refine aD (aJ hE 0 1 2 3 (by decide) rfl rfl rfl rfl rfl rfl rfl) rfl rfl rfl rfl rfl rfl (by kernel_rfl) rfl ?_
    |refine aD (aJ hpl 0 1 2 3 (by decide) rfl rfl rfl rfl rfl rfl rfl) rfl rfl rfl rfl rfl rfl (by kernel_rfl) rfl ?_
    |refine aD (aJ (fk ha hp (by omega) (by omega)) 0 1 2 3 (by decide) rfl rfl rfl rfl rfl (by simp[XV.shut,X1.shut,XC.shut,bn]) rfl) rfl rfl rfl rfl rfl rfl (by kernel_rfl) rfl ?_
    |refine gk rfl rfl rfl rfl rfl rfl (u6 _) ?_)
   |refine zz ?_|refine zx (fun _=>?_) (fun _=>?_)|fail)
  show aC _ _ _ _ _ _ _ _
  refine b8 (junk:=_) (.inr rfl) (ib.one rfl (.cell rfl rfl (cg rfl) .nil)) ?_ (v8 _ _ _ _) rfl (dK _ _ _ _ _)
  rfl
def CP(n:Nat):bl:=[(19,.one (.int .i64 ((n+1:Nat)))),(8,.one (.ptr 4 0)),(9,.one (.ptr 5 0)),(16,.one (.int .i64 1)),(17,.one (.ptr 6 0))]
theorem On(b:Kn)(ha:cI (bU A B C p) w x (y-1)=some b)(hE:bh Tryz.prog 70 [.one (.ptr 0 0),.one (.int .i64 mb),.one (.int .i64 k),.one (.int .i64 q)] (bX cols rows A B C) (.tup [.one (.int .u8 2),.one (.int .i64 n)]) (bX cols rows A B C)) :
 bh Tryz.prog 73 [.one (.ptr 0 0),.one (.int .i64 mb),.one (.int .i64 k),.one (.int .i64 q)] (bX cols rows A B C) (.agg (ti .i64 64 (if b.qp=q then em b 1 7 else jG))) (bX cols rows A B C):=by
 by_cases hq:b.qp=q
 ·rw [if_pos hq]
  refine cO Tryz.func73 ?_
  repeat' (first
   |(refine qz ?_;first
    |refine aD (aJ hE 0 1 2 3 (by decide) rfl rfl rfl rfl rfl rfl rfl) rfl rfl rfl rfl rfl rfl (by kernel_rfl) rfl ?_
    |refine aD (aJ hpl 0 1 2 3 (by decide) rfl rfl rfl rfl rfl rfl rfl) rfl rfl rfl rfl rfl rfl (by kernel_rfl) rfl ?_
    |refine aD (aJ (fk ha hp (by omega) (by omega)) 0 1 2 3 (by decide) rfl rfl rfl rfl rfl (by simp[XV.shut,X1.shut,XC.shut,bn]) rfl) rfl rfl rfl rfl rfl rfl (by kernel_rfl) rfl ?_
    |refine gk rfl rfl rfl rfl rfl rfl (u6 _) ?_)
   |refine zz ?_|refine zx (fun _=>?_) (fun _=>?_)|fail)
  refine WX.loop ?_
  refine WX.at (al':=CP 0) (hs':=bX cols rows A B C++[.cells (ti .i64 64 jG) 50 false false,.cells (ti .i64 64 (em b 1 0)) 50 false false,.cells (dO b) 156 false false]) (ct rfl (ct rfl (ct rfl (ct rfl (ct rfl (rK _)))))) rfl ?_
  refine WX.count CP (fun n=>bX cols rows A B C++[.cells (ti .i64 64 jG) 50 false false,.cells (ti .i64 64 (em b 1 n)) 50 false false,.cells (dO b) 156 false false]) (fun _=>True) 7 trivial ?_
  intro n hn _ ih
  refine WX.round ?_
  unfold CP
  by_cases hlt:n<7
  ·have hj:(((n+1:Nat):Int)*1).toNat=(n+1)*1:=by omega
   repeat' (first
    |(refine qz ?_;first
     |refine gk rfl rfl rfl rfl rfl rfl (A4 _ _ (by omega)) ?_
     |refine lC rfl rfl rfl rfl rfl rfl (by rw[aE];omega) (s4 _ _ _ _ _) hS ?_)
    |refine zz ?_|refine zx (fun _=>?_) (fun _=>?_)|fail)
   refine WX.at ?_ ?_ (ih hlt trivial)
   ·exact ct rfl (ct rfl (ct rfl (ct rfl (ct rfl (rK _)))))
   ·rw[nD,<-hj]
    rfl
  ·obtain rfl:n=7:=by omega
   clear ih
   repeat' (first|refine zz ?_|refine zx (fun _=>?_) (fun _=>?_)|fail)
   show aC _ _ _ _ _ _ _ _
   refine b8 (junk:=_) (.inr rfl) (ib.one rfl (.cell rfl rfl (cg rfl) .nil)) ?_ (v8 _ _ _ _) rfl (dK _ _ _ _ _)
   rfl
 ·rw[if_neg hq]
  refine cO Tryz.func73 ?_
  repeat' (first
   |(refine qz ?_;first
    |refine aD (aJ hE 0 1 2 3 (by decide) rfl rfl rfl rfl rfl rfl rfl) rfl rfl rfl rfl rfl rfl (by kernel_rfl) rfl ?_
    |refine aD (aJ hpl 0 1 2 3 (by decide) rfl rfl rfl rfl rfl rfl rfl) rfl rfl rfl rfl rfl rfl (by kernel_rfl) rfl ?_
    |refine aD (aJ (fk ha hp (by omega) (by omega)) 0 1 2 3 (by decide) rfl rfl rfl rfl rfl (by simp[XV.shut,X1.shut,XC.shut,bn]) rfl) rfl rfl rfl rfl rfl rfl (by kernel_rfl) rfl ?_
    |refine gk rfl rfl rfl rfl rfl rfl (u6 _) ?_)
   |refine zz ?_|refine zx (fun _=>?_) (fun _=>?_)|fail)
  show aC _ _ _ _ _ _ _ _
  refine b8 (junk:=_) (.inr rfl) (ib.one rfl (.cell rfl rfl (cg rfl) .nil)) ?_ (v8 _ _ _ _) rfl (dK _ _ _ _ _)
  rfl
end
end Go.Proofs.YtagpkhindehcbaaGreat
namespace Go.Proofs.YtagpkhindehcbaaGreat
open Go.Xm
variable [ax]
def df(cols p:Int):Int:=if p=0 then 2*cols else cols
def dt(A B C:oJ)(cols p x y:Int):Option Kn:=cI (bU A B C p) (df cols p) x y
structure Li(cols p x y:Int):Prop where
 pp:p=0\/p=1\/p=2
 x0:0<=x
 x1:x<df cols p
 yy:0<=y/\y<=200
 m:0<=y*df cols p/\y*df cols p<=400
 ww:1<=df cols p/\df cols p<=16
theorem vE{cols rows mb k:Int}(hc:1<=cols/\cols<=8)(hr:0<=rows/\rows<=8)(hm:0<=mb/\mb<cols*rows)(hk:0<=k/\k<6):Li cols (placeOf cols mb k).1 (placeOf cols mb k).2.1 (placeOf cols mb k).2.2:=by
 have h1:cols=1\/cols=2\/cols=3\/cols=4\/cols=5\/cols=6\/cols=7\/cols=8:=by omega
 by_cases h4:k<4
 ·have e:placeOf cols mb k=(0,2*(mb%cols)+k%2,2*(mb/cols)+k/2):=by unfold placeOf;rw[if_pos h4]
  rw[e]
  have ew:df cols 0=2*cols:=by simp[df]
  refine⟨.inl rfl,?_,?_,?_,?_,?_⟩<;>simp only[ew]<;>rcases h1 with rfl|rfl|rfl|rfl|rfl|rfl|rfl|rfl<;>omega
 ·have e:placeOf cols mb k=(k-3,mb%cols,mb/cols):=by unfold placeOf;rw[if_neg h4]
  rw[e]
  have ew:df cols (k-3)=cols:=by unfold df;rw[if_neg (by omega)]
  refine⟨by show k-3=0\/k-3=1\/k-3=2;omega,?_,?_,?_,?_,?_⟩<;>simp only[ew]<;>rcases h1 with rfl|rfl|rfl|rfl|rfl|rfl|rfl|rfl<;>omega
theorem Nm(cols mb k:Int)(hk:0<=k):(if k<4 then 2*cols else cols)=df cols (placeOf cols mb k).1:=by
 unfold df placeOf
 by_cases h4:k<4
 ·simp[h4]
 ·rw[if_neg h4,if_neg h4,if_neg]
  show¬k-3=0
  omega
theorem j7{cols rows mb k:Int}:iG cols rows mb k=true↔0<=mb/\mb<cols*rows/\0<=k/\k<6:=by simp[iG]
theorem yX{cols rows:Int}(hc:1<=cols/\cols<=8)(hr:0<=rows/\rows<=8):0<=cols*rows/\cols*rows<=64:=by
 have h1:cols=1\/cols=2\/cols=3\/cols=4\/cols=5\/cols=6\/cols=7\/cols=8:=by omega
 rcases h1 with rfl|rfl|rfl|rfl|rfl|rfl|rfl|rfl<;>omega
section
variable {cols rows mb k q:Int} {A B C:oJ}
theorem vD(hc:1<=cols/\cols<=8)(hr:0<=rows/\rows<=8)(hin:iG cols rows mb k=true) :
 bh Tryz.prog 100 [.one (.ptr 0 0),.one (.int .i64 mb),.one (.int .i64 k)] (bX cols rows A B C) (.tup [.one (.int .i64 (placeOf cols mb k).1),.one (.int .i64 (df cols (placeOf cols mb k).1)),.one (.int .i64 (placeOf cols mb k).2.1),.one (.int .i64 (placeOf cols mb k).2.2)]) (bX cols rows A B C):=by
 have hi:=j7.1 hin
 have hcr:=yX hc hr
 have:=Gc cols rows mb k A B C hc ⟨hi.1,by omega⟩ ⟨hi.2.2.1,by omega⟩
 unfold sP at this
 rw[Nm cols mb k hi.2.2.1]at this
 exact this
theorem rB(hc:1<=cols/\cols<=8)(hr:0<=rows/\rows<=8)(hin:iG cols rows mb k=true){p x y:Int}(hpl:placeOf cols mb k=(p,x,y)){la lb lc:Option Kn}(ha:dt A B C cols p (x-1) y=la)(hb:dt A B C cols p x (y-1)=lb)(hcc:dt A B C cols p (x-1) (y-1)=lc) :
 bh Tryz.prog 70 [.one (.ptr 0 0),.one (.int .i64 mb),.one (.int .i64 k),.one (.int .i64 q)] (bX cols rows A B C) (kN (j5 la lb lc q)) (bX cols rows A B C):=by
 have hi:=j7.1 hin
 have hcr:=yX hc hr
 have ok:=vE hc hr ⟨hi.1,hi.2.1⟩ hi.2.2
 have hP:=vD (A:=A) (B:=B) (C:=C) hc hr hin
 rw[hpl]at ok hP
 have hm:=ok.m
 have hw:=ok.ww
 have hm1:(y-1)*df cols p=y*df cols p-df cols p:=by rw[Int.sub_mul,Int.one_mul]
 have e1 : -1000<=y*df cols p/\y*df cols p<=1000:=by simp only at hm;omega
 have e2 : -1000<=(y-1)*df cols p/\(y-1)*df cols p<=1000:=by simp only at hm hw;rw[hm1];omega
 have e3:0<=x/\x<=1000:=by have:=ok.x0;have:=ok.x1;simp only at *;omega
 have e4:0<=y/\y<=1000:=by have:=ok.yy;simp only at *;omega
 unfold dt at ha hb hcc
 cases la with
 | some a=>cases lb with
   | some b=>cases lc with
     | some c=>exact LP cols rows mb k p _ x y q A B C hin hcr hP ok.pp e1 e2 e3 e4 a b c ha hb hcc
     | none=>exact LO cols rows mb k p _ x y q A B C hin hcr hP ok.pp e1 e2 e3 e4 a b ha hb hcc
   | none=>cases lc with
     | some c=>exact LN cols rows mb k p _ x y q A B C hin hcr hP ok.pp e1 e2 e3 e4 a c ha hb hcc
     | none=>exact LM cols rows mb k p _ x y q A B C hin hcr hP ok.pp e1 e2 e3 e4 a ha hb hcc
 | none=>cases lb with
   | some b=>cases lc with
     | some c=>exact LL cols rows mb k p _ x y q A B C hin hcr hP ok.pp e1 e2 e3 e4 b c ha hb hcc
     | none=>exact LK cols rows mb k p _ x y q A B C hin hcr hP ok.pp e1 e2 e3 e4 b ha hb hcc
   | none=>cases lc with
     | some c=>exact LJ cols rows mb k p _ x y q A B C hin hcr hP ok.pp e1 e2 e3 e4 c ha hb hcc
     | none=>exact LI cols rows mb k p _ x y q A B C hin hcr hP ok.pp e1 e2 e3 e4 ha hb hcc
def fv(o:Option Kn)(s:Nat)(q:Int):Nat->Int:=match o with
 | some b=>if b.qp=q then em b s 7 else jG
 | none=>jG
def uQ(la lb lc:Option Kn)(q:Int):Nat->Int:=
 if(j5 la lb lc q).1=1 then fv la 8 q else if(j5 la lb lc q).1=2 then fv lb 1 q else jG
theorem FH(la lb lc:Option Kn)(q:Int):((j5 la lb lc q).1=0/\la=none/\lb=none)\/((j5 la lb lc q).1=1/\∃a,la=some a)\/((j5 la lb lc q).1=2/\∃b,lb=some b):=by
 cases la with
 | some a=>cases lb with
   | some b=>
     have h:(j5 (some a) (some b) lc q).1=1\/(j5 (some a) (some b) lc q).1=2:=by
      cases lc<;>simp only[j5]<;>split<;>simp
     rcases h with h|h
     ·exact .inr (.inl ⟨h,_,rfl⟩)
     ·exact .inr (.inr ⟨h,_,rfl⟩)
   | none=>exact .inr (.inl ⟨rfl,_,rfl⟩)
 | none=>cases lb with
   | some b=>exact .inr (.inr ⟨rfl,_,rfl⟩)
   | none=>exact .inl ⟨rfl,rfl,rfl⟩
theorem Im(hc:1<=cols/\cols<=8)(hr:0<=rows/\rows<=8)(hin:iG cols rows mb k=true){p x y:Int}(hpl:placeOf cols mb k=(p,x,y)){la lb lc:Option Kn}(ha:dt A B C cols p (x-1) y=la)(hb:dt A B C cols p x (y-1)=lb)(hcc:dt A B C cols p (x-1) (y-1)=lc) :
 bh Tryz.prog 73 [.one (.ptr 0 0),.one (.int .i64 mb),.one (.int .i64 k),.one (.int .i64 q)] (bX cols rows A B C) (.agg (ti .i64 64 (uQ la lb lc q))) (bX cols rows A B C):=by
 have hE:=rB (q:=q) hc hr hin hpl ha hb hcc
 have hi:=j7.1 hin
 have ok:=vE hc hr ⟨hi.1,hi.2.1⟩ hi.2.2
 have hP:=vD (A:=A) (B:=B) (C:=C) hc hr hin
 rw[hpl]at ok hP
 have hm:=ok.m
 have hw:=ok.ww
 have hm1:(y-1)*df cols p=y*df cols p-df cols p:=by rw[Int.sub_mul,Int.one_mul]
 have e1 : -1000<=y*df cols p/\y*df cols p<=1000:=by simp only at hm;omega
 have e2 : -1000<=(y-1)*df cols p/\(y-1)*df cols p<=1000:=by simp only at hm hw;rw[hm1];omega
 have e3:0<=x/\x<=1000:=by have:=ok.x0;have:=ok.x1;simp only at *;omega
 have e4:0<=y/\y<=1000:=by have:=ok.yy;simp only at *;omega
 unfold dt at ha hb hcc
 unfold uQ
 rcases FH la lb lc q with⟨h0,rfl,rfl⟩|⟨h1,a,rfl⟩|⟨h2,b,rfl⟩
 ·rw[h0,if_neg (by decide),if_neg (by decide)]
  unfold kN at hE
  rw[h0]at hE
  exact Ok cols rows mb k p _ x y q _ A B C hP ok.pp e1 e2 e3 e4 hE
 ·rw[if_pos h1]
  unfold kN at hE
  rw[h1]at hE
  exact Om cols rows mb k p _ x y q _ A B C hP ok.pp e1 e2 e3 e4 a ha hE
 ·rw[h2,if_neg (by decide),if_pos rfl]
  unfold kN at hE
  rw[h2]at hE
  exact On cols rows mb k p _ x y q _ A B C hP ok.pp e1 e2 e3 e4 b hb hE
theorem MJ(hc:1<=cols/\cols<=8)(hr:0<=rows/\rows<=8)(hin:iG cols rows mb k=true){p x y:Int}(hpl:placeOf cols mb k=(p,x,y))(b:Kn) :
 bh Tryz.prog 74 [.one (.ptr 0 0),.one (.int .i64 mb),.one (.int .i64 k),.agg (dO b)] (bX cols rows A B C) (.tup []) (bX cols rows (jt p 0 A (y*df cols p+x) b) (jt p 1 B (y*df cols p+x) b) (jt p 2 C (y*df cols p+x) b)):=by
 have hi:=j7.1 hin
 have hcr:=yX hc hr
 have ok:=vE hc hr ⟨hi.1,hi.2.1⟩ hi.2.2
 have hP:=vD (A:=A) (B:=B) (C:=C) hc hr hin
 rw[hpl]at ok hP
 have hm:=ok.m
 have hw:=ok.ww
 exact JR cols rows mb k p _ x y b A B C hin hcr hP ok.pp (by simp only at hm;omega) (by have:=ok.x0;have:=ok.x1;simp only at *;omega)
end
theorem II{cols rows:Int}{HS HS':aj}(hc:0<=cols/\cols<=8)(hr:0<=rows/\rows<=8){n:Nat}(hn:HS.length=n)(hh:HS++[.cells [.int .i64 cols,.int .i64 rows,.map (n+1),.map (n+2),.map (n+3)] 171 false false,.map (ag []),.map (ag []),.map (ag [])]=HS')(hb:Nat.blt HS'.length Mem.bound=true) :
 aG.Sound Tryz.prog ⟨48,[.one (.int .i64 cols),.one (.int .i64 rows)],HS,.one (.ptr n 0),HS',[]⟩:=by
 subst hn hh
 refine t8 (Kt cols rows hc hr) (ρ:=id) (Nat.zero_le _) (wh _ _) (fun x hx=>?_) (mn (fun x hx=>?_) _) ?_ ⟨by simp,fun j o h=>?_,fun i hi _=>?_⟩ (fun j o h hl ho=>?_) (fun i hi _=>?_) hb rfl
 ·simp only[List.mem_cons,List.not_mem_nil,or_false]at hx
  rcases hx with rfl|rfl<;>trivial
 ·simp only[List.mem_cons,List.not_mem_nil,or_false]at hx
  rcases hx with rfl|rfl<;>rfl
 ·simp[XV.ay,XC.ay,beyond]
 ·match j,h with
  | 0,h=>cases h;simp[beyond,ak.ay,XC.ay]
  | 1,h=>cases h;simp[beyond,ak.ay,jh]
  | 2,h=>cases h;simp[beyond,ak.ay,jh]
  | 3,h=>cases h;simp[beyond,ak.ay,jh]
  | j+4,h=>simp[bX]at h
 ·rw[List.getElem?_append_left hi]
 ·match j,h with
  | 0,h=>cases h;cases ho
  | 1,h=>cases h;cases ho
  | 2,h=>cases h;cases ho
  | 3,h=>cases h;cases ho
  | j+4,h=>simp[bX]at h
 ·rw[List.getElem?_append_left hi]
theorem IJ{cols rows mb k:Int}{A B C A2 B2 C2:oJ}{HS HS':aj}{b:Kn}(hcon:bh Tryz.prog 74 [.one (.ptr 0 0),.one (.int .i64 mb),.one (.int .i64 k),.agg (dO b)] (bX cols rows A B C) (.tup []) (bX cols rows A2 B2 C2))
 (a e c d:Nat) (hd : [a,e,c,d].Nodup) (ha:HS[a]? = some (.cells [.int .i64 cols,.int .i64 rows,.map e,.map c,.map d] 171 false false)) (he:HS[e]? = some (.map (ag A))) (hc:HS[c]? = some (.map (ag B))) (hdd:HS[d]? = some (.map (ag C)))
 (hh:((HS.set e (.map (ag A2))).set c (.map (ag B2))).set d (.map (ag C2))=HS') (hb:Nat.blt HS'.length Mem.bound=true) :
 aG.Sound Tryz.prog ⟨74,[.one (.ptr a 0),.one (.int .i64 mb),.one (.int .i64 k),.agg (dO b)],HS,.tup [],HS',[e,c,d]⟩:=by
 subst hh
 have hla:=(List.getElem?_eq_some_iff.1 ha).1
 have hle:=(List.getElem?_eq_some_iff.1 he).1
 have hlc:=(List.getElem?_eq_some_iff.1 hc).1
 have hld:=(List.getElem?_eq_some_iff.1 hdd).1
 simp only[List.nodup_cons,List.mem_cons,List.not_mem_nil,or_false,not_or,not_false_eq_true,List.nodup_nil,and_true]at hd
 obtain⟨⟨d1,d2,d3⟩,⟨d4,d5⟩,d6⟩:=hd
 refine t8 hcon (ρ:=nth [a,e,c,d]) (Nat.le_refl _) (yj a e c d (by simp[d1,d2,d3,d4,d5,d6]) ha he hc hdd) (fun x hx=>?_) ?_ rfl ⟨by simp,fun j o h=>?_,fun i hi hne=>?_⟩ (fun j o h hl ho=>?_) (fun i hi hne=>?_) hb rfl
 ·simp only[List.mem_cons,List.not_mem_nil,or_false]at hx
  rcases hx with rfl|rfl|rfl|rfl
  ·show 0<4;omega
  ·trivial
  ·trivial
  ·exact XV.e9 (x := .agg (dO b)) (bn b) _
 ·simp only[List.map_cons,List.map_nil,XV.ay,XC.ay,fu (bn b)]
  rfl
 ·match j,h with
  | 0,h=>
    cases h
    show(((HS.set e _).set c _).set d _)[a]? = _
    rw[List.getElem?_set_ne (Ne.symm d3),List.getElem?_set_ne (Ne.symm d2),List.getElem?_set_ne (Ne.symm d1),ha]
    rfl
  | 1,h=>
    cases h
    show(((HS.set e _).set c _).set d _)[e]? = _
    rw[List.getElem?_set_ne (Ne.symm d5),List.getElem?_set_ne (Ne.symm d4),List.getElem?_set_self hle]
    simp only[ak.ay,jh]
  | 2,h=>
    cases h
    show(((HS.set e _).set c _).set d _)[c]? = _
    rw[List.getElem?_set_ne (Ne.symm d6),List.getElem?_set_self (by simpa using hlc)]
    simp only[ak.ay,jh]
  | 3,h=>
    cases h
    show(((HS.set e _).set c _).set d _)[d]? = _
    rw[List.getElem?_set_self (by simpa using hld)]
    simp only[ak.ay,jh]
  | j+4,h=>simp[bX]at h
 ·have n1:=hne 1 (show 1<4 by omega)
  have n2:=hne 2 (show 2<4 by omega)
  have n3:=hne 3 (show 3<4 by omega)
  rw[List.getElem?_set_ne (show d≠i from n3),List.getElem?_set_ne (show c≠i from n2),List.getElem?_set_ne (show e≠i from n1)]
 ·match j,h with
  | 0,h=>cases h;cases ho
  | 1,h=>cases h;cases ho
  | 2,h=>cases h;cases ho
  | 3,h=>cases h;cases ho
  | j+4,h=>simp[bX]at h
 ·simp only[List.mem_cons,List.not_mem_nil,or_false,not_or]at hne
  rw[List.getElem?_set_ne (Ne.symm hne.2.2),List.getElem?_set_ne (Ne.symm hne.2.1),List.getElem?_set_ne (Ne.symm hne.1)]
end Go.Proofs.YtagpkhindehcbaaGreat
