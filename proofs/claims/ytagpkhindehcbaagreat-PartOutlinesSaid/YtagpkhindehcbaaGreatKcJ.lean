/-
  A part of the proof: PrExpA.
-/
import Derived.Test.YtagpkhindehcbaaGreatKcI
set_option maxRecDepth 10000
set_option maxHeartbeats 8000000
set_option linter.unusedVariables false
set_option linter.unusedSectionVars false
set_option linter.unusedSimpArgs false
namespace Go.Proofs.YtagpkhindehcbaaGreat
open Go.Xm
variable [az]
section
variable (cols rows mb k p w x y q:Int) (A B C:nr) (hin:hU cols rows mb k=true) (hcr:0≤cols*rows∧cols*rows≤64)
 (hpl:bt Tryz.prog 100 [.one (.ptr 0 0),.one (.int .i64 mb),.one (.int .i64 k)] (bW cols rows A B C) (.tup [.one (.int .i64 p),.one (.int .i64 w),.one (.int .i64 x),.one (.int .i64 y)]) (bW cols rows A B C))
 (hp:p=0∨p=1∨p=2) (hyw : -1000≤y*w∧y*w≤1000) (hyw1 : -1000≤(y-1)*w∧(y-1)*w≤1000) (hx:0≤x∧x≤1000) (hy:0≤y∧y≤1000)
include hin hcr hpl hp hyw hyw1 hx hy
theorem I4 (a:Kn) (b:Kn) (c:Kn) (ha:cu (bU A B C p) w (x-1) y=some a) (hb:cu (bU A B C p) w x (y-1)=some b) (hc:cu (bU A B C p) w (x-1) (y-1)=some c) :
 bt Tryz.prog 70 [.one (.ptr 0 0),.one (.int .i64 mb),.one (.int .i64 k),.one (.int .i64 q)] (bW cols rows A B C) (jW (jE (some a) (some b) (some c) q)) (bW cols rows A B C):=by
 have hI:=fi cols rows mb k A B C hcr
 rw [hin]at hI
 have hab:=fC a;unfold gV at hab;have hbb:=fC b;unfold gV at hbb;have hcb:=fC c;unfold gV at hcb;
 refine cO Tryz.func70 ?_
 repeat' (first
  |(refine qz ?_;first
   |refine aD (aK hI 0 1 2 3 (by decide) rfl rfl rfl rfl rfl rfl rfl) rfl rfl rfl rfl rfl rfl (by kernel_rfl) rfl ?_
   |refine aD (aK hpl 0 1 2 3 (by decide) rfl rfl rfl rfl rfl rfl rfl) rfl rfl rfl rfl rfl rfl (by kernel_rfl) rfl ?_
   |refine aD (aK (eQ ha hp (by omega) (by omega)) 0 1 2 3 (by decide) rfl rfl rfl rfl rfl (by simp [XV.shut,X1.shut,XC.shut,bq]) rfl) rfl rfl rfl rfl rfl rfl (by kernel_rfl) rfl ?_
   |refine aD (aK (eQ hb hp (by omega) (by omega)) 0 1 2 3 (by decide) rfl rfl rfl rfl rfl (by simp [XV.shut,X1.shut,XC.shut,bq]) rfl) rfl rfl rfl rfl rfl rfl (by kernel_rfl) rfl ?_
   |refine aD (aK (eQ hc hp (by omega) (by omega)) 0 1 2 3 (by decide) rfl rfl rfl rfl rfl (by simp [XV.shut,X1.shut,XC.shut,bq]) rfl) rfl rfl rfl rfl rfl rfl (by kernel_rfl) rfl ?_
   |refine aD (aB (f_ _) (by simp [XV.shut,bq]) rfl rfl) rfl rfl rfl rfl rfl rfl (by kernel_rfl) rfl ?_
   |refine aD (aB (jA _ _ (by omega) (by omega)) rfl rfl rfl) rfl rfl rfl rfl rfl rfl (by kernel_rfl) rfl ?_
   |refine aD (aB (dA _ _ (by omega)) rfl rfl rfl) rfl rfl rfl rfl rfl rfl (by kernel_rfl) rfl ?_)
  |refine zz ?_|refine zx (fun _=>?_) (fun _=>?_)|refine br (by first|exact ag.nil|exact ag.one _|exact ag.lK (by repeat' (first|exact True.intro|refine And.intro ?_ ?_|exact Compat.ne rfl|exact bT id|exact ca id))) ⟨by kernel_rfl,?_⟩|refine br (by first|exact ag.nil|exact ag.one _|exact ag.lK (by repeat' (first|exact True.intro|refine And.intro ?_ ?_|exact Compat.ne rfl|exact bT id|exact ca id))) ?_|fail)
 all_goals
  show aH _ _ _ _ _ _ _ _
  refine b6 (junk:=_) (.inr rfl) (fun m hm=>rfl) ?_ (lf _ _) rfl (dz _ _ _ _ _)
  rename_i hcmp
  first
   | exact(show jW (2,dq (gV b) q)=_ from congrArg jW (if_pos hcmp).symm)
   | exact(show jW (1,dq (gV a) q)=_ from congrArg jW (if_neg hcmp).symm)
theorem I3 (a:Kn) (b:Kn) (ha:cu (bU A B C p) w (x-1) y=some a) (hb:cu (bU A B C p) w x (y-1)=some b) (hc:cu (bU A B C p) w (x-1) (y-1)=none) :
 bt Tryz.prog 70 [.one (.ptr 0 0),.one (.int .i64 mb),.one (.int .i64 k),.one (.int .i64 q)] (bW cols rows A B C) (jW (jE (some a) (some b) (none) q)) (bW cols rows A B C):=by
 have hI:=fi cols rows mb k A B C hcr
 rw [hin]at hI
 have hab:=fC a;unfold gV at hab;have hbb:=fC b;unfold gV at hbb;
 refine cO Tryz.func70 ?_
 repeat' (first
  |(refine qz ?_;first
   |refine aD (aK hI 0 1 2 3 (by decide) rfl rfl rfl rfl rfl rfl rfl) rfl rfl rfl rfl rfl rfl (by kernel_rfl) rfl ?_
   |refine aD (aK hpl 0 1 2 3 (by decide) rfl rfl rfl rfl rfl rfl rfl) rfl rfl rfl rfl rfl rfl (by kernel_rfl) rfl ?_
   |refine aD (aK (eQ ha hp (by omega) (by omega)) 0 1 2 3 (by decide) rfl rfl rfl rfl rfl (by simp [XV.shut,X1.shut,XC.shut,bq]) rfl) rfl rfl rfl rfl rfl rfl (by kernel_rfl) rfl ?_
   |refine aD (aK (eQ hb hp (by omega) (by omega)) 0 1 2 3 (by decide) rfl rfl rfl rfl rfl (by simp [XV.shut,X1.shut,XC.shut,bq]) rfl) rfl rfl rfl rfl rfl rfl (by kernel_rfl) rfl ?_
   |refine aD (aK (hJ hc hp (by omega) (by omega)) 0 1 2 3 (by decide) rfl rfl rfl rfl rfl (by simp [XV.shut,X1.shut,XC.shut,bq]) rfl) rfl rfl rfl rfl rfl rfl (by kernel_rfl) rfl ?_
   |refine aD (aB (f_ _) (by simp [XV.shut,bq]) rfl rfl) rfl rfl rfl rfl rfl rfl (by kernel_rfl) rfl ?_
   |refine aD (aB (jA _ _ (by omega) (by omega)) rfl rfl rfl) rfl rfl rfl rfl rfl rfl (by kernel_rfl) rfl ?_
   |refine aD (aB (dA _ _ (by omega)) rfl rfl rfl) rfl rfl rfl rfl rfl rfl (by kernel_rfl) rfl ?_)
  |refine zz ?_|refine zx (fun _=>?_) (fun _=>?_)|refine br (by first|exact ag.nil|exact ag.one _|exact ag.lK (by repeat' (first|exact True.intro|refine And.intro ?_ ?_|exact Compat.ne rfl|exact bT id|exact ca id))) ⟨by kernel_rfl,?_⟩|refine br (by first|exact ag.nil|exact ag.one _|exact ag.lK (by repeat' (first|exact True.intro|refine And.intro ?_ ?_|exact Compat.ne rfl|exact bT id|exact ca id))) ?_|fail)
 all_goals
  show aH _ _ _ _ _ _ _ _
  refine b6 (junk:=_) (.inr rfl) (fun m hm=>rfl) ?_ (lf _ _) rfl (dz _ _ _ _ _)
  rename_i hcmp
  first
   | exact(show jW (2,dq (gV b) q)=_ from congrArg jW (if_pos hcmp).symm)
   | exact(show jW (1,dq (gV a) q)=_ from congrArg jW (if_neg hcmp).symm)
theorem I2 (a:Kn) (c:Kn) (ha:cu (bU A B C p) w (x-1) y=some a) (hb:cu (bU A B C p) w x (y-1)=none) (hc:cu (bU A B C p) w (x-1) (y-1)=some c) :
 bt Tryz.prog 70 [.one (.ptr 0 0),.one (.int .i64 mb),.one (.int .i64 k),.one (.int .i64 q)] (bW cols rows A B C) (jW (jE (some a) (none) (some c) q)) (bW cols rows A B C):=by
 have hI:=fi cols rows mb k A B C hcr
 rw [hin]at hI
 have hab:=fC a;unfold gV at hab;have hcb:=fC c;unfold gV at hcb;
 refine cO Tryz.func70 ?_
 repeat' (first
  |(refine qz ?_;first
   |refine aD (aK hI 0 1 2 3 (by decide) rfl rfl rfl rfl rfl rfl rfl) rfl rfl rfl rfl rfl rfl (by kernel_rfl) rfl ?_
   |refine aD (aK hpl 0 1 2 3 (by decide) rfl rfl rfl rfl rfl rfl rfl) rfl rfl rfl rfl rfl rfl (by kernel_rfl) rfl ?_
   |refine aD (aK (eQ ha hp (by omega) (by omega)) 0 1 2 3 (by decide) rfl rfl rfl rfl rfl (by simp [XV.shut,X1.shut,XC.shut,bq]) rfl) rfl rfl rfl rfl rfl rfl (by kernel_rfl) rfl ?_
   |refine aD (aK (hJ hb hp (by omega) (by omega)) 0 1 2 3 (by decide) rfl rfl rfl rfl rfl (by simp [XV.shut,X1.shut,XC.shut,bq]) rfl) rfl rfl rfl rfl rfl rfl (by kernel_rfl) rfl ?_
   |refine aD (aK (eQ hc hp (by omega) (by omega)) 0 1 2 3 (by decide) rfl rfl rfl rfl rfl (by simp [XV.shut,X1.shut,XC.shut,bq]) rfl) rfl rfl rfl rfl rfl rfl (by kernel_rfl) rfl ?_
   |refine aD (aB (f_ _) (by simp [XV.shut,bq]) rfl rfl) rfl rfl rfl rfl rfl rfl (by kernel_rfl) rfl ?_
   |refine aD (aB (jA _ _ (by omega) (by omega)) rfl rfl rfl) rfl rfl rfl rfl rfl rfl (by kernel_rfl) rfl ?_
   |refine aD (aB (dA _ _ (by omega)) rfl rfl rfl) rfl rfl rfl rfl rfl rfl (by kernel_rfl) rfl ?_)
  |refine zz ?_|refine zx (fun _=>?_) (fun _=>?_)|refine br (by first|exact ag.nil|exact ag.one _|exact ag.lK (by repeat' (first|exact True.intro|refine And.intro ?_ ?_|exact Compat.ne rfl|exact bT id|exact ca id))) ⟨by kernel_rfl,?_⟩|refine br (by first|exact ag.nil|exact ag.one _|exact ag.lK (by repeat' (first|exact True.intro|refine And.intro ?_ ?_|exact Compat.ne rfl|exact bT id|exact ca id))) ?_|fail)
 all_goals
  show aH _ _ _ _ _ _ _ _
  refine b6 (junk:=_) (.inr rfl) (fun m hm=>rfl) ?_ (lf _ _) rfl (dz _ _ _ _ _)
  rfl
theorem I1 (a:Kn) (ha:cu (bU A B C p) w (x-1) y=some a) (hb:cu (bU A B C p) w x (y-1)=none) (hc:cu (bU A B C p) w (x-1) (y-1)=none) :
 bt Tryz.prog 70 [.one (.ptr 0 0),.one (.int .i64 mb),.one (.int .i64 k),.one (.int .i64 q)] (bW cols rows A B C) (jW (jE (some a) (none) (none) q)) (bW cols rows A B C):=by
 have hI:=fi cols rows mb k A B C hcr
 rw [hin]at hI
 have hab:=fC a;unfold gV at hab;
 refine cO Tryz.func70 ?_
 repeat' (first
  |(refine qz ?_;first
   |refine aD (aK hI 0 1 2 3 (by decide) rfl rfl rfl rfl rfl rfl rfl) rfl rfl rfl rfl rfl rfl (by kernel_rfl) rfl ?_
   |refine aD (aK hpl 0 1 2 3 (by decide) rfl rfl rfl rfl rfl rfl rfl) rfl rfl rfl rfl rfl rfl (by kernel_rfl) rfl ?_
   |refine aD (aK (eQ ha hp (by omega) (by omega)) 0 1 2 3 (by decide) rfl rfl rfl rfl rfl (by simp [XV.shut,X1.shut,XC.shut,bq]) rfl) rfl rfl rfl rfl rfl rfl (by kernel_rfl) rfl ?_
   |refine aD (aK (hJ hb hp (by omega) (by omega)) 0 1 2 3 (by decide) rfl rfl rfl rfl rfl (by simp [XV.shut,X1.shut,XC.shut,bq]) rfl) rfl rfl rfl rfl rfl rfl (by kernel_rfl) rfl ?_
   |refine aD (aK (hJ hc hp (by omega) (by omega)) 0 1 2 3 (by decide) rfl rfl rfl rfl rfl (by simp [XV.shut,X1.shut,XC.shut,bq]) rfl) rfl rfl rfl rfl rfl rfl (by kernel_rfl) rfl ?_
   |refine aD (aB (f_ _) (by simp [XV.shut,bq]) rfl rfl) rfl rfl rfl rfl rfl rfl (by kernel_rfl) rfl ?_
   |refine aD (aB (jA _ _ (by omega) (by omega)) rfl rfl rfl) rfl rfl rfl rfl rfl rfl (by kernel_rfl) rfl ?_
   |refine aD (aB (dA _ _ (by omega)) rfl rfl rfl) rfl rfl rfl rfl rfl rfl (by kernel_rfl) rfl ?_)
  |refine zz ?_|refine zx (fun _=>?_) (fun _=>?_)|refine br (by first|exact ag.nil|exact ag.one _|exact ag.lK (by repeat' (first|exact True.intro|refine And.intro ?_ ?_|exact Compat.ne rfl|exact bT id|exact ca id))) ⟨by kernel_rfl,?_⟩|refine br (by first|exact ag.nil|exact ag.one _|exact ag.lK (by repeat' (first|exact True.intro|refine And.intro ?_ ?_|exact Compat.ne rfl|exact bT id|exact ca id))) ?_|fail)
 all_goals
  show aH _ _ _ _ _ _ _ _
  refine b6 (junk:=_) (.inr rfl) (fun m hm=>rfl) ?_ (lf _ _) rfl (dz _ _ _ _ _)
  rfl
end
end Go.Proofs.YtagpkhindehcbaaGreat
