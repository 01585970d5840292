/-
  A part of the proof: PrExpA.
-/
import Derived.Test.YthdciapjllppjaaGreatFaI
set_option maxRecDepth 10000
set_option maxHeartbeats 8000000
set_option linter.unusedVariables false
set_option linter.unusedSectionVars false
set_option linter.unusedSimpArgs false
open Go.Proofs.Tryz (prog)
namespace Go.Proofs.YthdciapjllppjaaGreat
open Go.Xm
variable [av]
section
variable (cols rows mb k p w x y q:Int) (A B C:nW) (hin:gM cols rows mb k=true) (hcr:0<=cols*rows/\cols*rows<=64)
 (hpl:bm prog 140 [.one (.ptr 0 0),.one (.int .i64 mb),.one (.int .i64 k)] (bL cols rows A B C) (.tup [.one (.int .i64 p),.one (.int .i64 w),.one (.int .i64 x),.one (.int .i64 y)]) (bL cols rows A B C))
 (hp:p=0\/p=1\/p=2) (hyw : -1000<=y*w/\y*w<=1000) (hyw1 : -1000<=(y-1)*w/\(y-1)*w<=1000) (hx:0<=x/\x<=1000) (hy:0<=y/\y<=1000)
include hin hcr hpl hp hyw hyw1 hx hy
theorem Mn(a:Kn)(b:Kn)(c:Kn)(ha:cn (bO A B C p) w (x-1) y=some a)(hb:cn (bO A B C p) w x (y-1)=some b)(hc:cn (bO A B C p) w (x-1) (y-1)=some c) :
 bm prog 119 [.one (.ptr 0 0),.one (.int .i64 mb),.one (.int .i64 k),.one (.int .i64 q)] (bL cols rows A B C) (jO (kh (some a) (some b) (some c) q)) (bL cols rows A B C):=by
 have hI:=fh cols rows mb k A B C hcr;rw[hin]at hI;have hab:=fz a;unfold iV at hab;have hbb:=fz b;unfold iV at hbb;have hcb:=fz c;unfold iV at hcb;
 refine cO Tryz.func119 ?_
 repeat' (first
  |(refine qz ?_;first
   |refine ax (aD hI 0 1 2 3 (by decide) rfl rfl rfl rfl rfl rfl rfl) rfl rfl rfl rfl rfl rfl (by kernel_rfl) rfl ?_
   |refine ax (aD hpl 0 1 2 3 (by decide) rfl rfl rfl rfl rfl rfl rfl) rfl rfl rfl rfl rfl rfl (by kernel_rfl) rfl ?_
   |refine ax (aD (eH ha hp (by omega) (by omega)) 0 1 2 3 (by decide) rfl rfl rfl rfl rfl (by simp[XV.shut,X1.shut,XC.shut,a_]) rfl) rfl rfl rfl rfl rfl rfl (by kernel_rfl) rfl ?_
   |refine ax (aD (eH hb hp (by omega) (by omega)) 0 1 2 3 (by decide) rfl rfl rfl rfl rfl (by simp[XV.shut,X1.shut,XC.shut,a_]) rfl) rfl rfl rfl rfl rfl rfl (by kernel_rfl) rfl ?_
   |refine ax (aD (eH hc hp (by omega) (by omega)) 0 1 2 3 (by decide) rfl rfl rfl rfl rfl (by simp[XV.shut,X1.shut,XC.shut,a_]) rfl) rfl rfl rfl rfl rfl rfl (by kernel_rfl) rfl ?_
   |refine ax (ay (fW _) (by simp[XV.shut,a_]) rfl rfl) rfl rfl rfl rfl rfl rfl (by kernel_rfl) rfl ?_
   |refine ax (ay (jd _ _ (by omega) (by omega)) rfl rfl rfl) rfl rfl rfl rfl rfl rfl (by kernel_rfl) rfl ?_
   |refine ax (ay (dq _ _ (by omega)) rfl rfl rfl) rfl rfl rfl rfl rfl rfl (by kernel_rfl) rfl ?_)
  |refine zz ?_|refine zx (fun _=>?_) (fun _=>?_)|refine bP (by first|exact ai.nil|exact ai.one _|exact ai.pC (by repeat' (first|exact True.intro|refine And.intro ?_ ?_|exact Compat.ne rfl|exact bI id|exact bV id))) ⟨by kernel_rfl,?_⟩|refine bP (by first|exact ai.nil|exact ai.one _|exact ai.pC (by repeat' (first|exact True.intro|refine And.intro ?_ ?_|exact Compat.ne rfl|exact bI id|exact bV id))) ?_|fail)
 all_goals
  show aE _ _ _ _ _ _ _ _;refine bT (junk:=_) (.inr rfl) (fun m hm=>rfl) ?_ (k_ _ _) rfl (dj _ _ _ _ _);rename_i hcmp
  first
   | exact(show jO (2,dc (iV b) q)=_ from congrArg jO (if_pos hcmp).symm)
   | exact(show jO (1,dc (iV a) q)=_ from congrArg jO (if_neg hcmp).symm)
theorem Mm(a:Kn)(b:Kn)(ha:cn (bO A B C p) w (x-1) y=some a)(hb:cn (bO A B C p) w x (y-1)=some b)(hc:cn (bO A B C p) w (x-1) (y-1)=none) :
 bm prog 119 [.one (.ptr 0 0),.one (.int .i64 mb),.one (.int .i64 k),.one (.int .i64 q)] (bL cols rows A B C) (jO (kh (some a) (some b) (none) q)) (bL cols rows A B C):=by
 have hI:=fh cols rows mb k A B C hcr;rw[hin]at hI;have hab:=fz a;unfold iV at hab;have hbb:=fz b;unfold iV at hbb;
 refine cO Tryz.func119 ?_
 repeat' (first
  |(refine qz ?_;first
   |refine ax (aD hI 0 1 2 3 (by decide) rfl rfl rfl rfl rfl rfl rfl) rfl rfl rfl rfl rfl rfl (by kernel_rfl) rfl ?_
   |refine ax (aD hpl 0 1 2 3 (by decide) rfl rfl rfl rfl rfl rfl rfl) rfl rfl rfl rfl rfl rfl (by kernel_rfl) rfl ?_
   |refine ax (aD (eH ha hp (by omega) (by omega)) 0 1 2 3 (by decide) rfl rfl rfl rfl rfl (by simp[XV.shut,X1.shut,XC.shut,a_]) rfl) rfl rfl rfl rfl rfl rfl (by kernel_rfl) rfl ?_
   |refine ax (aD (eH hb hp (by omega) (by omega)) 0 1 2 3 (by decide) rfl rfl rfl rfl rfl (by simp[XV.shut,X1.shut,XC.shut,a_]) rfl) rfl rfl rfl rfl rfl rfl (by kernel_rfl) rfl ?_
   |refine ax (aD (gK hc hp (by omega) (by omega)) 0 1 2 3 (by decide) rfl rfl rfl rfl rfl (by simp[XV.shut,X1.shut,XC.shut,a_]) rfl) rfl rfl rfl rfl rfl rfl (by kernel_rfl) rfl ?_
   |refine ax (ay (fW _) (by simp[XV.shut,a_]) rfl rfl) rfl rfl rfl rfl rfl rfl (by kernel_rfl) rfl ?_
   |refine ax (ay (jd _ _ (by omega) (by omega)) rfl rfl rfl) rfl rfl rfl rfl rfl rfl (by kernel_rfl) rfl ?_
   |refine ax (ay (dq _ _ (by omega)) rfl rfl rfl) rfl rfl rfl rfl rfl rfl (by kernel_rfl) rfl ?_)
  |refine zz ?_|refine zx (fun _=>?_) (fun _=>?_)|refine bP (by first|exact ai.nil|exact ai.one _|exact ai.pC (by repeat' (first|exact True.intro|refine And.intro ?_ ?_|exact Compat.ne rfl|exact bI id|exact bV id))) ⟨by kernel_rfl,?_⟩|refine bP (by first|exact ai.nil|exact ai.one _|exact ai.pC (by repeat' (first|exact True.intro|refine And.intro ?_ ?_|exact Compat.ne rfl|exact bI id|exact bV id))) ?_|fail)
 all_goals
  show aE _ _ _ _ _ _ _ _;refine bT (junk:=_) (.inr rfl) (fun m hm=>rfl) ?_ (k_ _ _) rfl (dj _ _ _ _ _);rename_i hcmp
  first
   | exact(show jO (2,dc (iV b) q)=_ from congrArg jO (if_pos hcmp).symm)
   | exact(show jO (1,dc (iV a) q)=_ from congrArg jO (if_neg hcmp).symm)
theorem Ml(a:Kn)(c:Kn)(ha:cn (bO A B C p) w (x-1) y=some a)(hb:cn (bO A B C p) w x (y-1)=none)(hc:cn (bO A B C p) w (x-1) (y-1)=some c) :
 bm prog 119 [.one (.ptr 0 0),.one (.int .i64 mb),.one (.int .i64 k),.one (.int .i64 q)] (bL cols rows A B C) (jO (kh (some a) (none) (some c) q)) (bL cols rows A B C):=by
 have hI:=fh cols rows mb k A B C hcr;rw[hin]at hI;have hab:=fz a;unfold iV at hab;have hcb:=fz c;unfold iV at hcb;
 refine cO Tryz.func119 ?_
 repeat' (first
  |(refine qz ?_;first
   |refine ax (aD hI 0 1 2 3 (by decide) rfl rfl rfl rfl rfl rfl rfl) rfl rfl rfl rfl rfl rfl (by kernel_rfl) rfl ?_
   |refine ax (aD hpl 0 1 2 3 (by decide) rfl rfl rfl rfl rfl rfl rfl) rfl rfl rfl rfl rfl rfl (by kernel_rfl) rfl ?_
   |refine ax (aD (eH ha hp (by omega) (by omega)) 0 1 2 3 (by decide) rfl rfl rfl rfl rfl (by simp[XV.shut,X1.shut,XC.shut,a_]) rfl) rfl rfl rfl rfl rfl rfl (by kernel_rfl) rfl ?_
   |refine ax (aD (gK hb hp (by omega) (by omega)) 0 1 2 3 (by decide) rfl rfl rfl rfl rfl (by simp[XV.shut,X1.shut,XC.shut,a_]) rfl) rfl rfl rfl rfl rfl rfl (by kernel_rfl) rfl ?_
   |refine ax (aD (eH hc hp (by omega) (by omega)) 0 1 2 3 (by decide) rfl rfl rfl rfl rfl (by simp[XV.shut,X1.shut,XC.shut,a_]) rfl) rfl rfl rfl rfl rfl rfl (by kernel_rfl) rfl ?_
   |refine ax (ay (fW _) (by simp[XV.shut,a_]) rfl rfl) rfl rfl rfl rfl rfl rfl (by kernel_rfl) rfl ?_
   |refine ax (ay (jd _ _ (by omega) (by omega)) rfl rfl rfl) rfl rfl rfl rfl rfl rfl (by kernel_rfl) rfl ?_
   |refine ax (ay (dq _ _ (by omega)) rfl rfl rfl) rfl rfl rfl rfl rfl rfl (by kernel_rfl) rfl ?_)
  |refine zz ?_|refine zx (fun _=>?_) (fun _=>?_)|refine bP (by first|exact ai.nil|exact ai.one _|exact ai.pC (by repeat' (first|exact True.intro|refine And.intro ?_ ?_|exact Compat.ne rfl|exact bI id|exact bV id))) ⟨by kernel_rfl,?_⟩|refine bP (by first|exact ai.nil|exact ai.one _|exact ai.pC (by repeat' (first|exact True.intro|refine And.intro ?_ ?_|exact Compat.ne rfl|exact bI id|exact bV id))) ?_|fail)
 all_goals
  show aE _ _ _ _ _ _ _ _;refine bT (junk:=_) (.inr rfl) (fun m hm=>rfl) ?_ (k_ _ _) rfl (dj _ _ _ _ _);rfl
theorem Mj(a:Kn)(ha:cn (bO A B C p) w (x-1) y=some a)(hb:cn (bO A B C p) w x (y-1)=none)(hc:cn (bO A B C p) w (x-1) (y-1)=none) :
 bm prog 119 [.one (.ptr 0 0),.one (.int .i64 mb),.one (.int .i64 k),.one (.int .i64 q)] (bL cols rows A B C) (jO (kh (some a) (none) (none) q)) (bL cols rows A B C):=by
 have hI:=fh cols rows mb k A B C hcr;rw[hin]at hI;have hab:=fz a;unfold iV at hab;
 refine cO Tryz.func119 ?_
 repeat' (first
  |(refine qz ?_;first
   |refine ax (aD hI 0 1 2 3 (by decide) rfl rfl rfl rfl rfl rfl rfl) rfl rfl rfl rfl rfl rfl (by kernel_rfl) rfl ?_
   |refine ax (aD hpl 0 1 2 3 (by decide) rfl rfl rfl rfl rfl rfl rfl) rfl rfl rfl rfl rfl rfl (by kernel_rfl) rfl ?_
   |refine ax (aD (eH ha hp (by omega) (by omega)) 0 1 2 3 (by decide) rfl rfl rfl rfl rfl (by simp[XV.shut,X1.shut,XC.shut,a_]) rfl) rfl rfl rfl rfl rfl rfl (by kernel_rfl) rfl ?_
   |refine ax (aD (gK hb hp (by omega) (by omega)) 0 1 2 3 (by decide) rfl rfl rfl rfl rfl (by simp[XV.shut,X1.shut,XC.shut,a_]) rfl) rfl rfl rfl rfl rfl rfl (by kernel_rfl) rfl ?_
   |refine ax (aD (gK hc hp (by omega) (by omega)) 0 1 2 3 (by decide) rfl rfl rfl rfl rfl (by simp[XV.shut,X1.shut,XC.shut,a_]) rfl) rfl rfl rfl rfl rfl rfl (by kernel_rfl) rfl ?_
   |refine ax (ay (fW _) (by simp[XV.shut,a_]) rfl rfl) rfl rfl rfl rfl rfl rfl (by kernel_rfl) rfl ?_
   |refine ax (ay (jd _ _ (by omega) (by omega)) rfl rfl rfl) rfl rfl rfl rfl rfl rfl (by kernel_rfl) rfl ?_
   |refine ax (ay (dq _ _ (by omega)) rfl rfl rfl) rfl rfl rfl rfl rfl rfl (by kernel_rfl) rfl ?_)
  |refine zz ?_|refine zx (fun _=>?_) (fun _=>?_)|refine bP (by first|exact ai.nil|exact ai.one _|exact ai.pC (by repeat' (first|exact True.intro|refine And.intro ?_ ?_|exact Compat.ne rfl|exact bI id|exact bV id))) ⟨by kernel_rfl,?_⟩|refine bP (by first|exact ai.nil|exact ai.one _|exact ai.pC (by repeat' (first|exact True.intro|refine And.intro ?_ ?_|exact Compat.ne rfl|exact bI id|exact bV id))) ?_|fail)
 all_goals
  show aE _ _ _ _ _ _ _ _;refine bT (junk:=_) (.inr rfl) (fun m hm=>rfl) ?_ (k_ _ _) rfl (dj _ _ _ _ _);rfl
end
end Go.Proofs.YthdciapjllppjaaGreat
