/-
  A part of the proof: PrExpB.
-/
import Derived.Test.YtagpkhindehcbaaGreatKbJ
set_option linter.unusedVariables false
set_option linter.unusedSectionVars false
set_option linter.unusedSimpArgs false
namespace Go.Proofs.YtagpkhindehcbaaGreat
open Go.Xm
variable [aC]
section
variable (cols rows mb k p w x y q:Int) (A B C:nD) (hin:gD cols rows mb k=true) (hcr:0≤cols*rows∧cols*rows≤64)
 (hpl:bq Tryz.prog 100 [.one (.ptr 0 0),.one (.int .i64 mb),.one (.int .i64 k)] (bP cols rows A B C) (.tup [.one (.int .i64 p),.one (.int .i64 w),.one (.int .i64 x),.one (.int .i64 y)]) (bP cols rows A B C))
 (hp:p=0∨p=1∨p=2) (hyw : -1000≤y*w∧y*w≤1000) (hyw1 : -1000≤(y-1)*w∧(y-1)*w≤1000) (hx:0≤x∧x≤1000) (hy:0≤y∧y≤1000)
include hin hcr hpl hp hyw hyw1 hx hy
set_option maxRecDepth 10000 in
set_option maxHeartbeats 2000000 in
theorem Gq (b:Kn) (c:Kn) (ha:cu (bQ A B C p) w (x-1) y=none) (hb:cu (bQ A B C p) w x (y-1)=some b) (hc:cu (bQ A B C p) w (x-1) (y-1)=some c) :
 bq Tryz.prog 70 [.one (.ptr 0 0),.one (.int .i64 mb),.one (.int .i64 k),.one (.int .i64 q)] (bP cols rows A B C) (ju (jc (none) (some b) (some c) q)) (bP cols rows A B C):=by
 have hI:=eU cols rows mb k A B C hcr
 rw [hin]at hI
 have hbb:=fg b;unfold gv at hbb;have hcb:=fg c;unfold gv at hcb;
 refine cO Tryz.func70 ?_
 repeat' (first
  |(refine qz ?_;first
   |refine aB (aH hI 0 1 2 3 (by decide) rfl rfl rfl rfl rfl rfl rfl) rfl rfl rfl rfl rfl rfl (by kernel_rfl) rfl ?_
   |refine aB (aH hpl 0 1 2 3 (by decide) rfl rfl rfl rfl rfl rfl rfl) rfl rfl rfl rfl rfl rfl (by kernel_rfl) rfl ?_
   |refine aB (aH (gB ha hp (by omega) (by omega)) 0 1 2 3 (by decide) rfl rfl rfl rfl rfl (by simp [XV.shut,X1.shut,XC.shut,bl]) rfl) rfl rfl rfl rfl rfl rfl (by kernel_rfl) rfl ?_
   |refine aB (aH (ep hb hp (by omega) (by omega)) 0 1 2 3 (by decide) rfl rfl rfl rfl rfl (by simp [XV.shut,X1.shut,XC.shut,bl]) rfl) rfl rfl rfl rfl rfl rfl (by kernel_rfl) rfl ?_
   |refine aB (aH (ep hc hp (by omega) (by omega)) 0 1 2 3 (by decide) rfl rfl rfl rfl rfl (by simp [XV.shut,X1.shut,XC.shut,bl]) rfl) rfl rfl rfl rfl rfl rfl (by kernel_rfl) rfl ?_
   |refine aB (az (fR _) (by simp [XV.shut,bl]) rfl rfl) rfl rfl rfl rfl rfl rfl (by kernel_rfl) rfl ?_
   |refine aB (az (i9 _ _ (by omega) (by omega)) rfl rfl rfl) rfl rfl rfl rfl rfl rfl (by kernel_rfl) rfl ?_
   |refine aB (az (dk _ _ (by omega)) rfl rfl rfl) rfl rfl rfl rfl rfl rfl (by kernel_rfl) rfl ?_)
  |refine zG ?_|refine zA ?_|refine cX (fun _=>?_) (fun _=>?_)|refine aS (fun _=>?_) (fun _=>?_)|refine bL (by first|exact ai.nil|exact ai.one _|exact ai.nN (by repeat' (first|exact True.intro|refine And.intro ?_ ?_|exact Compat.ne rfl|exact bN id|exact b9 id))) ⟨by kernel_rfl,?_⟩|refine bL (by first|exact ai.nil|exact ai.one _|exact ai.nN (by repeat' (first|exact True.intro|refine And.intro ?_ ?_|exact Compat.ne rfl|exact bN id|exact b9 id))) ?_|refine zF ?_|fail)
 all_goals
  show aF _ _ _ _ _ _ _ _
  refine bV (junk:=_) (.inr rfl) (fun m hm=>rfl) ?_ (kn _ _) rfl (dj _ _ _ _ _)
  rfl
set_option maxRecDepth 10000 in
set_option maxHeartbeats 2000000 in
theorem Gp (b:Kn) (ha:cu (bQ A B C p) w (x-1) y=none) (hb:cu (bQ A B C p) w x (y-1)=some b) (hc:cu (bQ A B C p) w (x-1) (y-1)=none) :
 bq Tryz.prog 70 [.one (.ptr 0 0),.one (.int .i64 mb),.one (.int .i64 k),.one (.int .i64 q)] (bP cols rows A B C) (ju (jc (none) (some b) (none) q)) (bP cols rows A B C):=by
 have hI:=eU cols rows mb k A B C hcr
 rw [hin]at hI
 have hbb:=fg b;unfold gv at hbb;
 refine cO Tryz.func70 ?_
 repeat' (first
  |(refine qz ?_;first
   |refine aB (aH hI 0 1 2 3 (by decide) rfl rfl rfl rfl rfl rfl rfl) rfl rfl rfl rfl rfl rfl (by kernel_rfl) rfl ?_
   |refine aB (aH hpl 0 1 2 3 (by decide) rfl rfl rfl rfl rfl rfl rfl) rfl rfl rfl rfl rfl rfl (by kernel_rfl) rfl ?_
   |refine aB (aH (gB ha hp (by omega) (by omega)) 0 1 2 3 (by decide) rfl rfl rfl rfl rfl (by simp [XV.shut,X1.shut,XC.shut,bl]) rfl) rfl rfl rfl rfl rfl rfl (by kernel_rfl) rfl ?_
   |refine aB (aH (ep hb hp (by omega) (by omega)) 0 1 2 3 (by decide) rfl rfl rfl rfl rfl (by simp [XV.shut,X1.shut,XC.shut,bl]) rfl) rfl rfl rfl rfl rfl rfl (by kernel_rfl) rfl ?_
   |refine aB (aH (gB hc hp (by omega) (by omega)) 0 1 2 3 (by decide) rfl rfl rfl rfl rfl (by simp [XV.shut,X1.shut,XC.shut,bl]) rfl) rfl rfl rfl rfl rfl rfl (by kernel_rfl) rfl ?_
   |refine aB (az (fR _) (by simp [XV.shut,bl]) rfl rfl) rfl rfl rfl rfl rfl rfl (by kernel_rfl) rfl ?_
   |refine aB (az (i9 _ _ (by omega) (by omega)) rfl rfl rfl) rfl rfl rfl rfl rfl rfl (by kernel_rfl) rfl ?_
   |refine aB (az (dk _ _ (by omega)) rfl rfl rfl) rfl rfl rfl rfl rfl rfl (by kernel_rfl) rfl ?_)
  |refine zG ?_|refine zA ?_|refine cX (fun _=>?_) (fun _=>?_)|refine aS (fun _=>?_) (fun _=>?_)|refine bL (by first|exact ai.nil|exact ai.one _|exact ai.nN (by repeat' (first|exact True.intro|refine And.intro ?_ ?_|exact Compat.ne rfl|exact bN id|exact b9 id))) ⟨by kernel_rfl,?_⟩|refine bL (by first|exact ai.nil|exact ai.one _|exact ai.nN (by repeat' (first|exact True.intro|refine And.intro ?_ ?_|exact Compat.ne rfl|exact bN id|exact b9 id))) ?_|refine zF ?_|fail)
 all_goals
  show aF _ _ _ _ _ _ _ _
  refine bV (junk:=_) (.inr rfl) (fun m hm=>rfl) ?_ (kn _ _) rfl (dj _ _ _ _ _)
  rfl
set_option maxRecDepth 10000 in
set_option maxHeartbeats 2000000 in
theorem Gn (c:Kn) (ha:cu (bQ A B C p) w (x-1) y=none) (hb:cu (bQ A B C p) w x (y-1)=none) (hc:cu (bQ A B C p) w (x-1) (y-1)=some c) :
 bq Tryz.prog 70 [.one (.ptr 0 0),.one (.int .i64 mb),.one (.int .i64 k),.one (.int .i64 q)] (bP cols rows A B C) (ju (jc (none) (none) (some c) q)) (bP cols rows A B C):=by
 have hI:=eU cols rows mb k A B C hcr
 rw [hin]at hI
 have hcb:=fg c;unfold gv at hcb;
 refine cO Tryz.func70 ?_
 repeat' (first
  |(refine qz ?_;first
   |refine aB (aH hI 0 1 2 3 (by decide) rfl rfl rfl rfl rfl rfl rfl) rfl rfl rfl rfl rfl rfl (by kernel_rfl) rfl ?_
   |refine aB (aH hpl 0 1 2 3 (by decide) rfl rfl rfl rfl rfl rfl rfl) rfl rfl rfl rfl rfl rfl (by kernel_rfl) rfl ?_
   |refine aB (aH (gB ha hp (by omega) (by omega)) 0 1 2 3 (by decide) rfl rfl rfl rfl rfl (by simp [XV.shut,X1.shut,XC.shut,bl]) rfl) rfl rfl rfl rfl rfl rfl (by kernel_rfl) rfl ?_
   |refine aB (aH (gB hb hp (by omega) (by omega)) 0 1 2 3 (by decide) rfl rfl rfl rfl rfl (by simp [XV.shut,X1.shut,XC.shut,bl]) rfl) rfl rfl rfl rfl rfl rfl (by kernel_rfl) rfl ?_
   |refine aB (aH (ep hc hp (by omega) (by omega)) 0 1 2 3 (by decide) rfl rfl rfl rfl rfl (by simp [XV.shut,X1.shut,XC.shut,bl]) rfl) rfl rfl rfl rfl rfl rfl (by kernel_rfl) rfl ?_
   |refine aB (az (fR _) (by simp [XV.shut,bl]) rfl rfl) rfl rfl rfl rfl rfl rfl (by kernel_rfl) rfl ?_
   |refine aB (az (i9 _ _ (by omega) (by omega)) rfl rfl rfl) rfl rfl rfl rfl rfl rfl (by kernel_rfl) rfl ?_
   |refine aB (az (dk _ _ (by omega)) rfl rfl rfl) rfl rfl rfl rfl rfl rfl (by kernel_rfl) rfl ?_)
  |refine zG ?_|refine zA ?_|refine cX (fun _=>?_) (fun _=>?_)|refine aS (fun _=>?_) (fun _=>?_)|refine bL (by first|exact ai.nil|exact ai.one _|exact ai.nN (by repeat' (first|exact True.intro|refine And.intro ?_ ?_|exact Compat.ne rfl|exact bN id|exact b9 id))) ⟨by kernel_rfl,?_⟩|refine bL (by first|exact ai.nil|exact ai.one _|exact ai.nN (by repeat' (first|exact True.intro|refine And.intro ?_ ?_|exact Compat.ne rfl|exact bN id|exact b9 id))) ?_|refine zF ?_|fail)
 all_goals
  show aF _ _ _ _ _ _ _ _
  refine bV (junk:=_) (.inr rfl) (fun m hm=>rfl) ?_ (kn _ _) rfl (dj _ _ _ _ _)
  rfl
set_option maxRecDepth 10000 in
set_option maxHeartbeats 2000000 in
theorem Gm (ha:cu (bQ A B C p) w (x-1) y=none) (hb:cu (bQ A B C p) w x (y-1)=none) (hc:cu (bQ A B C p) w (x-1) (y-1)=none) :
 bq Tryz.prog 70 [.one (.ptr 0 0),.one (.int .i64 mb),.one (.int .i64 k),.one (.int .i64 q)] (bP cols rows A B C) (ju (jc (none) (none) (none) q)) (bP cols rows A B C):=by
 have hI:=eU cols rows mb k A B C hcr
 rw [hin]at hI
 skip
 refine cO Tryz.func70 ?_
 repeat' (first
  |(refine qz ?_;first
   |refine aB (aH hI 0 1 2 3 (by decide) rfl rfl rfl rfl rfl rfl rfl) rfl rfl rfl rfl rfl rfl (by kernel_rfl) rfl ?_
   |refine aB (aH hpl 0 1 2 3 (by decide) rfl rfl rfl rfl rfl rfl rfl) rfl rfl rfl rfl rfl rfl (by kernel_rfl) rfl ?_
   |refine aB (aH (gB ha hp (by omega) (by omega)) 0 1 2 3 (by decide) rfl rfl rfl rfl rfl (by simp [XV.shut,X1.shut,XC.shut,bl]) rfl) rfl rfl rfl rfl rfl rfl (by kernel_rfl) rfl ?_
   |refine aB (aH (gB hb hp (by omega) (by omega)) 0 1 2 3 (by decide) rfl rfl rfl rfl rfl (by simp [XV.shut,X1.shut,XC.shut,bl]) rfl) rfl rfl rfl rfl rfl rfl (by kernel_rfl) rfl ?_
   |refine aB (aH (gB hc hp (by omega) (by omega)) 0 1 2 3 (by decide) rfl rfl rfl rfl rfl (by simp [XV.shut,X1.shut,XC.shut,bl]) rfl) rfl rfl rfl rfl rfl rfl (by kernel_rfl) rfl ?_
   |refine aB (az (fR _) (by simp [XV.shut,bl]) rfl rfl) rfl rfl rfl rfl rfl rfl (by kernel_rfl) rfl ?_
   |refine aB (az (i9 _ _ (by omega) (by omega)) rfl rfl rfl) rfl rfl rfl rfl rfl rfl (by kernel_rfl) rfl ?_
   |refine aB (az (dk _ _ (by omega)) rfl rfl rfl) rfl rfl rfl rfl rfl rfl (by kernel_rfl) rfl ?_)
  |refine zG ?_|refine zA ?_|refine cX (fun _=>?_) (fun _=>?_)|refine aS (fun _=>?_) (fun _=>?_)|refine bL (by first|exact ai.nil|exact ai.one _|exact ai.nN (by repeat' (first|exact True.intro|refine And.intro ?_ ?_|exact Compat.ne rfl|exact bN id|exact b9 id))) ⟨by kernel_rfl,?_⟩|refine bL (by first|exact ai.nil|exact ai.one _|exact ai.nN (by repeat' (first|exact True.intro|refine And.intro ?_ ?_|exact Compat.ne rfl|exact bN id|exact b9 id))) ?_|refine zF ?_|fail)
 all_goals
  show aF _ _ _ _ _ _ _ _
  refine bV (junk:=_) (.inr rfl) (fun m hm=>rfl) ?_ (kn _ _) rfl (dj _ _ _ _ _)
  rfl
end
end Go.Proofs.YtagpkhindehcbaaGreat
