/-
  A part of the proof: PrExpB.
-/
import Derived.Test.YtagpkhindehcbaaGreatKfI
set_option maxRecDepth 10000
set_option maxHeartbeats 8000000
set_option linter.unusedVariables false
set_option linter.unusedSectionVars false
set_option linter.unusedSimpArgs false
namespace Go.Proofs.YtagpkhindehcbaaGreat
open Go.Xm
variable [ax]
section
variable (cols rows mb k p w x y q:Int) (A B C:oJ) (hin:iG cols rows mb k=true) (hcr:0<=cols*rows/\cols*rows<=64)
 (hpl:bh Tryz.prog 100 [.one (.ptr 0 0),.one (.int .i64 mb),.one (.int .i64 k)] (bX cols rows A B C) (.tup [.one (.int .i64 p),.one (.int .i64 w),.one (.int .i64 x),.one (.int .i64 y)]) (bX cols rows A B C))
 (hp:p=0\/p=1\/p=2) (hyw : -1000<=y*w/\y*w<=1000) (hyw1 : -1000<=(y-1)*w/\(y-1)*w<=1000) (hx:0<=x/\x<=1000) (hy:0<=y/\y<=1000)
include hin hcr hpl hp hyw hyw1 hx hy
theorem LL(b:Kn)(c:Kn)(ha:cI (bU A B C p) w (x-1) y=none)(hb:cI (bU A B C p) w x (y-1)=some b)(hc:cI (bU A B C p) w (x-1) (y-1)=some c) :
 bh Tryz.prog 70 [.one (.ptr 0 0),.one (.int .i64 mb),.one (.int .i64 k),.one (.int .i64 q)] (bX cols rows A B C) (kN (j5 (none) (some b) (some c) q)) (bX cols rows A B C):=by
 have hI:=fM cols rows mb k A B C hcr
 rw[hin]at hI
 have hbb:=fX b;unfold iw at hbb;have hcb:=fX c;unfold iw at hcb;
 refine cO Tryz.func70 ?_
 repeat' (first
  |(refine qz ?_;first
   |refine aD (aJ hI 0 1 2 3 (by decide) rfl rfl rfl rfl rfl rfl rfl) rfl rfl rfl rfl rfl rfl (by kernel_rfl) rfl ?_
   |refine aD (aJ hpl 0 1 2 3 (by decide) rfl rfl rfl rfl rfl rfl rfl) rfl rfl rfl rfl rfl rfl (by kernel_rfl) rfl ?_
   |refine aD (aJ (iF ha hp (by omega) (by omega)) 0 1 2 3 (by decide) rfl rfl rfl rfl rfl (by simp[XV.shut,X1.shut,XC.shut,bn]) rfl) rfl rfl rfl rfl rfl rfl (by kernel_rfl) rfl ?_
   |refine aD (aJ (fk hb hp (by omega) (by omega)) 0 1 2 3 (by decide) rfl rfl rfl rfl rfl (by simp[XV.shut,X1.shut,XC.shut,bn]) rfl) rfl rfl rfl rfl rfl rfl (by kernel_rfl) rfl ?_
   |refine aD (aJ (fk hc hp (by omega) (by omega)) 0 1 2 3 (by decide) rfl rfl rfl rfl rfl (by simp[XV.shut,X1.shut,XC.shut,bn]) rfl) rfl rfl rfl rfl rfl rfl (by kernel_rfl) rfl ?_
   |refine aD (aA (gE _) (by simp[XV.shut,bn]) rfl rfl) rfl rfl rfl rfl rfl rfl (by kernel_rfl) rfl ?_
   |refine aD (aA (jX _ _ (by omega) (by omega)) rfl rfl rfl) rfl rfl rfl rfl rfl rfl (by kernel_rfl) rfl ?_
   |refine aD (aA (dN _ _ (by omega)) rfl rfl rfl) rfl rfl rfl rfl rfl rfl (by kernel_rfl) rfl ?_)
  |refine zz ?_|refine zx (fun _=>?_) (fun _=>?_)|refine bp (by first|exact af.nil|exact af.one _|exact af.mD (by repeat' (first|exact True.intro|refine And.intro ?_ ?_|exact Compat.ne rfl|exact bT id|exact cf id))) ⟨by kernel_rfl,?_⟩|refine bp (by first|exact af.nil|exact af.one _|exact af.mD (by repeat' (first|exact True.intro|refine And.intro ?_ ?_|exact Compat.ne rfl|exact bT id|exact cf id))) ?_|fail)
 all_goals
  show aC _ _ _ _ _ _ _ _
  refine b8 (junk:=_) (.inr rfl) (fun m hm=>rfl) ?_ (lX _ _) rfl (dK _ _ _ _ _)
  rfl
theorem LK(b:Kn)(ha:cI (bU A B C p) w (x-1) y=none)(hb:cI (bU A B C p) w x (y-1)=some b)(hc:cI (bU A B C p) w (x-1) (y-1)=none) :
 bh Tryz.prog 70 [.one (.ptr 0 0),.one (.int .i64 mb),.one (.int .i64 k),.one (.int .i64 q)] (bX cols rows A B C) (kN (j5 (none) (some b) (none) q)) (bX cols rows A B C):=by
 have hI:=fM cols rows mb k A B C hcr
 rw[hin]at hI
 have hbb:=fX b;unfold iw at hbb;
 refine cO Tryz.func70 ?_
 repeat' (first
  |(refine qz ?_;first
   |refine aD (aJ hI 0 1 2 3 (by decide) rfl rfl rfl rfl rfl rfl rfl) rfl rfl rfl rfl rfl rfl (by kernel_rfl) rfl ?_
   |refine aD (aJ hpl 0 1 2 3 (by decide) rfl rfl rfl rfl rfl rfl rfl) rfl rfl rfl rfl rfl rfl (by kernel_rfl) rfl ?_
   |refine aD (aJ (iF ha hp (by omega) (by omega)) 0 1 2 3 (by decide) rfl rfl rfl rfl rfl (by simp[XV.shut,X1.shut,XC.shut,bn]) rfl) rfl rfl rfl rfl rfl rfl (by kernel_rfl) rfl ?_
   |refine aD (aJ (fk hb hp (by omega) (by omega)) 0 1 2 3 (by decide) rfl rfl rfl rfl rfl (by simp[XV.shut,X1.shut,XC.shut,bn]) rfl) rfl rfl rfl rfl rfl rfl (by kernel_rfl) rfl ?_
   |refine aD (aJ (iF hc hp (by omega) (by omega)) 0 1 2 3 (by decide) rfl rfl rfl rfl rfl (by simp[XV.shut,X1.shut,XC.shut,bn]) rfl) rfl rfl rfl rfl rfl rfl (by kernel_rfl) rfl ?_
   |refine aD (aA (gE _) (by simp[XV.shut,bn]) rfl rfl) rfl rfl rfl rfl rfl rfl (by kernel_rfl) rfl ?_
   |refine aD (aA (jX _ _ (by omega) (by omega)) rfl rfl rfl) rfl rfl rfl rfl rfl rfl (by kernel_rfl) rfl ?_
   |refine aD (aA (dN _ _ (by omega)) rfl rfl rfl) rfl rfl rfl rfl rfl rfl (by kernel_rfl) rfl ?_)
  |refine zz ?_|refine zx (fun _=>?_) (fun _=>?_)|refine bp (by first|exact af.nil|exact af.one _|exact af.mD (by repeat' (first|exact True.intro|refine And.intro ?_ ?_|exact Compat.ne rfl|exact bT id|exact cf id))) ⟨by kernel_rfl,?_⟩|refine bp (by first|exact af.nil|exact af.one _|exact af.mD (by repeat' (first|exact True.intro|refine And.intro ?_ ?_|exact Compat.ne rfl|exact bT id|exact cf id))) ?_|fail)
 all_goals
  show aC _ _ _ _ _ _ _ _
  refine b8 (junk:=_) (.inr rfl) (fun m hm=>rfl) ?_ (lX _ _) rfl (dK _ _ _ _ _)
  rfl
theorem LJ(c:Kn)(ha:cI (bU A B C p) w (x-1) y=none)(hb:cI (bU A B C p) w x (y-1)=none)(hc:cI (bU A B C p) w (x-1) (y-1)=some c) :
 bh Tryz.prog 70 [.one (.ptr 0 0),.one (.int .i64 mb),.one (.int .i64 k),.one (.int .i64 q)] (bX cols rows A B C) (kN (j5 (none) (none) (some c) q)) (bX cols rows A B C):=by
 have hI:=fM cols rows mb k A B C hcr
 rw[hin]at hI
 have hcb:=fX c;unfold iw at hcb;
 refine cO Tryz.func70 ?_
 repeat' (first
  |(refine qz ?_;first
   |refine aD (aJ hI 0 1 2 3 (by decide) rfl rfl rfl rfl rfl rfl rfl) rfl rfl rfl rfl rfl rfl (by kernel_rfl) rfl ?_
   |refine aD (aJ hpl 0 1 2 3 (by decide) rfl rfl rfl rfl rfl rfl rfl) rfl rfl rfl rfl rfl rfl (by kernel_rfl) rfl ?_
   |refine aD (aJ (iF ha hp (by omega) (by omega)) 0 1 2 3 (by decide) rfl rfl rfl rfl rfl (by simp[XV.shut,X1.shut,XC.shut,bn]) rfl) rfl rfl rfl rfl rfl rfl (by kernel_rfl) rfl ?_
   |refine aD (aJ (iF hb hp (by omega) (by omega)) 0 1 2 3 (by decide) rfl rfl rfl rfl rfl (by simp[XV.shut,X1.shut,XC.shut,bn]) rfl) rfl rfl rfl rfl rfl rfl (by kernel_rfl) rfl ?_
   |refine aD (aJ (fk hc hp (by omega) (by omega)) 0 1 2 3 (by decide) rfl rfl rfl rfl rfl (by simp[XV.shut,X1.shut,XC.shut,bn]) rfl) rfl rfl rfl rfl rfl rfl (by kernel_rfl) rfl ?_
   |refine aD (aA (gE _) (by simp[XV.shut,bn]) rfl rfl) rfl rfl rfl rfl rfl rfl (by kernel_rfl) rfl ?_
   |refine aD (aA (jX _ _ (by omega) (by omega)) rfl rfl rfl) rfl rfl rfl rfl rfl rfl (by kernel_rfl) rfl ?_
   |refine aD (aA (dN _ _ (by omega)) rfl rfl rfl) rfl rfl rfl rfl rfl rfl (by kernel_rfl) rfl ?_)
  |refine zz ?_|refine zx (fun _=>?_) (fun _=>?_)|refine bp (by first|exact af.nil|exact af.one _|exact af.mD (by repeat' (first|exact True.intro|refine And.intro ?_ ?_|exact Compat.ne rfl|exact bT id|exact cf id))) ⟨by kernel_rfl,?_⟩|refine bp (by first|exact af.nil|exact af.one _|exact af.mD (by repeat' (first|exact True.intro|refine And.intro ?_ ?_|exact Compat.ne rfl|exact bT id|exact cf id))) ?_|fail)
 all_goals
  show aC _ _ _ _ _ _ _ _
  refine b8 (junk:=_) (.inr rfl) (fun m hm=>rfl) ?_ (lX _ _) rfl (dK _ _ _ _ _)
  rfl
theorem LI(ha:cI (bU A B C p) w (x-1) y=none)(hb:cI (bU A B C p) w x (y-1)=none)(hc:cI (bU A B C p) w (x-1) (y-1)=none) :
 bh Tryz.prog 70 [.one (.ptr 0 0),.one (.int .i64 mb),.one (.int .i64 k),.one (.int .i64 q)] (bX cols rows A B C) (kN (j5 (none) (none) (none) q)) (bX cols rows A B C):=by
 have hI:=fM cols rows mb k A B C hcr
 rw[hin]at hI
 skip
 refine cO Tryz.func70 ?_
 repeat' (first
  |(refine qz ?_;first
   |refine aD (aJ hI 0 1 2 3 (by decide) rfl rfl rfl rfl rfl rfl rfl) rfl rfl rfl rfl rfl rfl (by kernel_rfl) rfl ?_
   |refine aD (aJ hpl 0 1 2 3 (by decide) rfl rfl rfl rfl rfl rfl rfl) rfl rfl rfl rfl rfl rfl (by kernel_rfl) rfl ?_
   |refine aD (aJ (iF ha hp (by omega) (by omega)) 0 1 2 3 (by decide) rfl rfl rfl rfl rfl (by simp[XV.shut,X1.shut,XC.shut,bn]) rfl) rfl rfl rfl rfl rfl rfl (by kernel_rfl) rfl ?_
   |refine aD (aJ (iF hb hp (by omega) (by omega)) 0 1 2 3 (by decide) rfl rfl rfl rfl rfl (by simp[XV.shut,X1.shut,XC.shut,bn]) rfl) rfl rfl rfl rfl rfl rfl (by kernel_rfl) rfl ?_
   |refine aD (aJ (iF hc hp (by omega) (by omega)) 0 1 2 3 (by decide) rfl rfl rfl rfl rfl (by simp[XV.shut,X1.shut,XC.shut,bn]) rfl) rfl rfl rfl rfl rfl rfl (by kernel_rfl) rfl ?_
   |refine aD (aA (gE _) (by simp[XV.shut,bn]) rfl rfl) rfl rfl rfl rfl rfl rfl (by kernel_rfl) rfl ?_
   |refine aD (aA (jX _ _ (by omega) (by omega)) rfl rfl rfl) rfl rfl rfl rfl rfl rfl (by kernel_rfl) rfl ?_
   |refine aD (aA (dN _ _ (by omega)) rfl rfl rfl) rfl rfl rfl rfl rfl rfl (by kernel_rfl) rfl ?_)
  |refine zz ?_|refine zx (fun _=>?_) (fun _=>?_)|refine bp (by first|exact af.nil|exact af.one _|exact af.mD (by repeat' (first|exact True.intro|refine And.intro ?_ ?_|exact Compat.ne rfl|exact bT id|exact cf id))) ⟨by kernel_rfl,?_⟩|refine bp (by first|exact af.nil|exact af.one _|exact af.mD (by repeat' (first|exact True.intro|refine And.intro ?_ ?_|exact Compat.ne rfl|exact bT id|exact cf id))) ?_|fail)
 all_goals
  show aC _ _ _ _ _ _ _ _
  refine b8 (junk:=_) (.inr rfl) (fun m hm=>rfl) ?_ (lX _ _) rfl (dK _ _ _ _ _)
  rfl
end
end Go.Proofs.YtagpkhindehcbaaGreat
