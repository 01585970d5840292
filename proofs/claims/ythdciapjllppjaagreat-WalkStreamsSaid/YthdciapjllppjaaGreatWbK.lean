/-
  A part of the proof: PrExpB.
-/
import Derived.Test.YthdciapjllppjaaGreatWbI
set_option maxRecDepth 10000
set_option maxHeartbeats 8000000
set_option linter.unusedVariables false
set_option linter.unusedSectionVars false
set_option linter.unusedSimpArgs false
open Go.Proofs.Tryz (prog)
namespace Go.Proofs.YthdciapjllppjaaGreat
open Go.Xm
variable [aq]
section
variable (cols rows mb k p w x y q:Int) (A B C:nF) (hin:gU cols rows mb k=true) (hcr:0<=cols*rows/\cols*rows<=64)
 (hpl:bt prog 140 [.one (.ptr 0 0),.one (.int .i64 mb),.one (.int .i64 k)] (bL cols rows A B C) (.tup [.one (.int .i64 p),.one (.int .i64 w),.one (.int .i64 x),.one (.int .i64 y)]) (bL cols rows A B C))
 (hp:p=0\/p=1\/p=2) (hyw : -1000<=y*w/\y*w<=1000) (hyw1 : -1000<=(y-1)*w/\(y-1)*w<=1000) (hx:0<=x/\x<=1000) (hy:0<=y/\y<=1000)
include hin hcr hpl hp hyw hyw1 hx hy
theorem Lp(b:Kn)(c:Kn)(ha:cq (bN A B C p) w (x-1) y=none)(hb:cq (bN A B C p) w x (y-1)=some b)(hc:cq (bN A B C p) w (x-1) (y-1)=some c) :
 bt prog 119 [.one (.ptr 0 0),.one (.int .i64 mb),.one (.int .i64 k),.one (.int .i64 q)] (bL cols rows A B C) (jW (kx (none) (some b) (some c) q)) (bL cols rows A B C):=by
 have hI:=fh cols rows mb k A B C hcr;rw[hin]at hI;have hbb:=fz b;unfold iY at hbb;have hcb:=fz c;unfold iY at hcb;
 refine cO Tryz.func119 ?_
 repeat' (first
  |(refine qz ?_;first
   |refine ay (aD hI 0 1 2 3 (by decide) rfl rfl rfl rfl rfl rfl rfl) rfl rfl rfl rfl rfl rfl (by kernel_rfl) rfl ?_
   |refine ay (aD hpl 0 1 2 3 (by decide) rfl rfl rfl rfl rfl rfl rfl) rfl rfl rfl rfl rfl rfl (by kernel_rfl) rfl ?_
   |refine ay (aD (gS ha hp (by omega) (by omega)) 0 1 2 3 (by decide) rfl rfl rfl rfl rfl (by simp[XV.shut,X1.shut,XC.shut,bl]) rfl) rfl rfl rfl rfl rfl rfl (by kernel_rfl) rfl ?_
   |refine ay (aD (eH hb hp (by omega) (by omega)) 0 1 2 3 (by decide) rfl rfl rfl rfl rfl (by simp[XV.shut,X1.shut,XC.shut,bl]) rfl) rfl rfl rfl rfl rfl rfl (by kernel_rfl) rfl ?_
   |refine ay (aD (eH hc hp (by omega) (by omega)) 0 1 2 3 (by decide) rfl rfl rfl rfl rfl (by simp[XV.shut,X1.shut,XC.shut,bl]) rfl) rfl rfl rfl rfl rfl rfl (by kernel_rfl) rfl ?_
   |refine ay (az (f9 _) (by simp[XV.shut,bl]) rfl rfl) rfl rfl rfl rfl rfl rfl (by kernel_rfl) rfl ?_
   |refine ay (az (jl _ _ (by omega) (by omega)) rfl rfl rfl) rfl rfl rfl rfl rfl rfl (by kernel_rfl) rfl ?_
   |refine ay (az (du _ _ (by omega)) rfl rfl rfl) rfl rfl rfl rfl rfl rfl (by kernel_rfl) rfl ?_)
  |refine zz ?_|refine zx (fun _=>?_) (fun _=>?_)|refine bp (by first|exact ag.nil|exact ag.one _|exact ag.my (by repeat' (first|exact True.intro|refine And.intro ?_ ?_|exact Compat.ne rfl|exact bH id|exact bV id))) ⟨by kernel_rfl,?_⟩|refine bp (by first|exact ag.nil|exact ag.one _|exact ag.my (by repeat' (first|exact True.intro|refine And.intro ?_ ?_|exact Compat.ne rfl|exact bH id|exact bV id))) ?_|fail)
 all_goals
  show aE _ _ _ _ _ _ _ _;refine bQ (junk:=_) (.inr rfl) (fun m hm=>rfl) ?_ (ln _ _) rfl (dt _ _ _ _ _);rfl
theorem Lo(b:Kn)(ha:cq (bN A B C p) w (x-1) y=none)(hb:cq (bN A B C p) w x (y-1)=some b)(hc:cq (bN A B C p) w (x-1) (y-1)=none) :
 bt prog 119 [.one (.ptr 0 0),.one (.int .i64 mb),.one (.int .i64 k),.one (.int .i64 q)] (bL cols rows A B C) (jW (kx (none) (some b) (none) q)) (bL cols rows A B C):=by
 have hI:=fh cols rows mb k A B C hcr;rw[hin]at hI;have hbb:=fz b;unfold iY at hbb;
 refine cO Tryz.func119 ?_
 repeat' (first
  |(refine qz ?_;first
   |refine ay (aD hI 0 1 2 3 (by decide) rfl rfl rfl rfl rfl rfl rfl) rfl rfl rfl rfl rfl rfl (by kernel_rfl) rfl ?_
   |refine ay (aD hpl 0 1 2 3 (by decide) rfl rfl rfl rfl rfl rfl rfl) rfl rfl rfl rfl rfl rfl (by kernel_rfl) rfl ?_
   |refine ay (aD (gS ha hp (by omega) (by omega)) 0 1 2 3 (by decide) rfl rfl rfl rfl rfl (by simp[XV.shut,X1.shut,XC.shut,bl]) rfl) rfl rfl rfl rfl rfl rfl (by kernel_rfl) rfl ?_
   |refine ay (aD (eH hb hp (by omega) (by omega)) 0 1 2 3 (by decide) rfl rfl rfl rfl rfl (by simp[XV.shut,X1.shut,XC.shut,bl]) rfl) rfl rfl rfl rfl rfl rfl (by kernel_rfl) rfl ?_
   |refine ay (aD (gS hc hp (by omega) (by omega)) 0 1 2 3 (by decide) rfl rfl rfl rfl rfl (by simp[XV.shut,X1.shut,XC.shut,bl]) rfl) rfl rfl rfl rfl rfl rfl (by kernel_rfl) rfl ?_
   |refine ay (az (f9 _) (by simp[XV.shut,bl]) rfl rfl) rfl rfl rfl rfl rfl rfl (by kernel_rfl) rfl ?_
   |refine ay (az (jl _ _ (by omega) (by omega)) rfl rfl rfl) rfl rfl rfl rfl rfl rfl (by kernel_rfl) rfl ?_
   |refine ay (az (du _ _ (by omega)) rfl rfl rfl) rfl rfl rfl rfl rfl rfl (by kernel_rfl) rfl ?_)
  |refine zz ?_|refine zx (fun _=>?_) (fun _=>?_)|refine bp (by first|exact ag.nil|exact ag.one _|exact ag.my (by repeat' (first|exact True.intro|refine And.intro ?_ ?_|exact Compat.ne rfl|exact bH id|exact bV id))) ⟨by kernel_rfl,?_⟩|refine bp (by first|exact ag.nil|exact ag.one _|exact ag.my (by repeat' (first|exact True.intro|refine And.intro ?_ ?_|exact Compat.ne rfl|exact bH id|exact bV id))) ?_|fail)
 all_goals
  show aE _ _ _ _ _ _ _ _;refine bQ (junk:=_) (.inr rfl) (fun m hm=>rfl) ?_ (ln _ _) rfl (dt _ _ _ _ _);rfl
theorem Ln(c:Kn)(ha:cq (bN A B C p) w (x-1) y=none)(hb:cq (bN A B C p) w x (y-1)=none)(hc:cq (bN A B C p) w (x-1) (y-1)=some c) :
 bt prog 119 [.one (.ptr 0 0),.one (.int .i64 mb),.one (.int .i64 k),.one (.int .i64 q)] (bL cols rows A B C) (jW (kx (none) (none) (some c) q)) (bL cols rows A B C):=by
 have hI:=fh cols rows mb k A B C hcr;rw[hin]at hI;have hcb:=fz c;unfold iY at hcb;
 refine cO Tryz.func119 ?_
 repeat' (first
  |(refine qz ?_;first
   |refine ay (aD hI 0 1 2 3 (by decide) rfl rfl rfl rfl rfl rfl rfl) rfl rfl rfl rfl rfl rfl (by kernel_rfl) rfl ?_
   |refine ay (aD hpl 0 1 2 3 (by decide) rfl rfl rfl rfl rfl rfl rfl) rfl rfl rfl rfl rfl rfl (by kernel_rfl) rfl ?_
   |refine ay (aD (gS ha hp (by omega) (by omega)) 0 1 2 3 (by decide) rfl rfl rfl rfl rfl (by simp[XV.shut,X1.shut,XC.shut,bl]) rfl) rfl rfl rfl rfl rfl rfl (by kernel_rfl) rfl ?_
   |refine ay (aD (gS hb hp (by omega) (by omega)) 0 1 2 3 (by decide) rfl rfl rfl rfl rfl (by simp[XV.shut,X1.shut,XC.shut,bl]) rfl) rfl rfl rfl rfl rfl rfl (by kernel_rfl) rfl ?_
   |refine ay (aD (eH hc hp (by omega) (by omega)) 0 1 2 3 (by decide) rfl rfl rfl rfl rfl (by simp[XV.shut,X1.shut,XC.shut,bl]) rfl) rfl rfl rfl rfl rfl rfl (by kernel_rfl) rfl ?_
   |refine ay (az (f9 _) (by simp[XV.shut,bl]) rfl rfl) rfl rfl rfl rfl rfl rfl (by kernel_rfl) rfl ?_
   |refine ay (az (jl _ _ (by omega) (by omega)) rfl rfl rfl) rfl rfl rfl rfl rfl rfl (by kernel_rfl) rfl ?_
   |refine ay (az (du _ _ (by omega)) rfl rfl rfl) rfl rfl rfl rfl rfl rfl (by kernel_rfl) rfl ?_)
  |refine zz ?_|refine zx (fun _=>?_) (fun _=>?_)|refine bp (by first|exact ag.nil|exact ag.one _|exact ag.my (by repeat' (first|exact True.intro|refine And.intro ?_ ?_|exact Compat.ne rfl|exact bH id|exact bV id))) ⟨by kernel_rfl,?_⟩|refine bp (by first|exact ag.nil|exact ag.one _|exact ag.my (by repeat' (first|exact True.intro|refine And.intro ?_ ?_|exact Compat.ne rfl|exact bH id|exact bV id))) ?_|fail)
 all_goals
  show aE _ _ _ _ _ _ _ _;refine bQ (junk:=_) (.inr rfl) (fun m hm=>rfl) ?_ (ln _ _) rfl (dt _ _ _ _ _);rfl
theorem Lm(ha:cq (bN A B C p) w (x-1) y=none)(hb:cq (bN A B C p) w x (y-1)=none)(hc:cq (bN A B C p) w (x-1) (y-1)=none) :
 bt prog 119 [.one (.ptr 0 0),.one (.int .i64 mb),.one (.int .i64 k),.one (.int .i64 q)] (bL cols rows A B C) (jW (kx (none) (none) (none) q)) (bL cols rows A B C):=by
 have hI:=fh cols rows mb k A B C hcr;rw[hin]at hI
 skip
 refine cO Tryz.func119 ?_
 repeat' (first
  |(refine qz ?_;first
   |refine ay (aD hI 0 1 2 3 (by decide) rfl rfl rfl rfl rfl rfl rfl) rfl rfl rfl rfl rfl rfl (by kernel_rfl) rfl ?_
   |refine ay (aD hpl 0 1 2 3 (by decide) rfl rfl rfl rfl rfl rfl rfl) rfl rfl rfl rfl rfl rfl (by kernel_rfl) rfl ?_
   |refine ay (aD (gS ha hp (by omega) (by omega)) 0 1 2 3 (by decide) rfl rfl rfl rfl rfl (by simp[XV.shut,X1.shut,XC.shut,bl]) rfl) rfl rfl rfl rfl rfl rfl (by kernel_rfl) rfl ?_
   |refine ay (aD (gS hb hp (by omega) (by omega)) 0 1 2 3 (by decide) rfl rfl rfl rfl rfl (by simp[XV.shut,X1.shut,XC.shut,bl]) rfl) rfl rfl rfl rfl rfl rfl (by kernel_rfl) rfl ?_
   |refine ay (aD (gS hc hp (by omega) (by omega)) 0 1 2 3 (by decide) rfl rfl rfl rfl rfl (by simp[XV.shut,X1.shut,XC.shut,bl]) rfl) rfl rfl rfl rfl rfl rfl (by kernel_rfl) rfl ?_
   |refine ay (az (f9 _) (by simp[XV.shut,bl]) rfl rfl) rfl rfl rfl rfl rfl rfl (by kernel_rfl) rfl ?_
   |refine ay (az (jl _ _ (by omega) (by omega)) rfl rfl rfl) rfl rfl rfl rfl rfl rfl (by kernel_rfl) rfl ?_
   |refine ay (az (du _ _ (by omega)) rfl rfl rfl) rfl rfl rfl rfl rfl rfl (by kernel_rfl) rfl ?_)
  |refine zz ?_|refine zx (fun _=>?_) (fun _=>?_)|refine bp (by first|exact ag.nil|exact ag.one _|exact ag.my (by repeat' (first|exact True.intro|refine And.intro ?_ ?_|exact Compat.ne rfl|exact bH id|exact bV id))) ⟨by kernel_rfl,?_⟩|refine bp (by first|exact ag.nil|exact ag.one _|exact ag.my (by repeat' (first|exact True.intro|refine And.intro ?_ ?_|exact Compat.ne rfl|exact bH id|exact bV id))) ?_|fail)
 all_goals
  show aE _ _ _ _ _ _ _ _;refine bQ (junk:=_) (.inr rfl) (fun m hm=>rfl) ?_ (ln _ _) rfl (dt _ _ _ _ _);rfl
end
end Go.Proofs.YthdciapjllppjaaGreat
