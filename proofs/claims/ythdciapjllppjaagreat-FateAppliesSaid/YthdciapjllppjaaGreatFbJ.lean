/-
  A part of the proof: PrExpA.
-/
import Derived.Test.YthdciapjllppjaaGreatFbI
set_option maxRecDepth 10000
set_option maxHeartbeats 8000000
set_option linter.unusedVariables false
set_option linter.unusedSectionVars false
set_option linter.unusedSimpArgs false
open Go.Proofs.Tryz (prog)
namespace Go.Proofs.YthdciapjllppjaaGreat
open Go.Xm
variable [av]
section
variable (cols rows mb k p w x y q:Int) (A B C:nB) (hin:gz cols rows mb k=true) (hcr:0<=cols*rows/\cols*rows<=64)
 (hpl:bm prog 140 [.one (.ptr 0 0),.one (.int .i64 mb),.one (.int .i64 k)] (bJ cols rows A B C) (.tup [.one (.int .i64 p),.one (.int .i64 w),.one (.int .i64 x),.one (.int .i64 y)]) (bJ cols rows A B C))
 (hp:p=0\/p=1\/p=2) (hyw : -1000<=y*w/\y*w<=1000) (hyw1 : -1000<=(y-1)*w/\(y-1)*w<=1000) (hx:0<=x/\x<=1000) (hy:0<=y/\y<=1000)
include hin hcr hpl hp hyw hyw1 hx hy
theorem Le(a:Kn)(b:Kn)(c:Kn)(ha:cf (bL A B C p) w (x-1) y=some a)(hb:cf (bL A B C p) w x (y-1)=some b)(hc:cf (bL A B C p) w (x-1) (y-1)=some c) :
 bm prog 119 [.one (.ptr 0 0),.one (.int .i64 mb),.one (.int .i64 k),.one (.int .i64 q)] (bJ cols rows A B C) (jB (jW (some a) (some b) (some c) q)) (bJ cols rows A B C):=by
 have hI:=eT cols rows mb k A B C hcr;rw[hin]at hI;have hab:=fe a;unfold iD at hab;have hbb:=fe b;unfold iD at hbb;have hcb:=fe c;unfold iD at hcb;
 refine cO Tryz.func119 ?_
 repeat' (first
  |(refine qz ?_;first
   |refine ax (aD hI 0 1 2 3 (by decide) rfl rfl rfl rfl rfl rfl rfl) rfl rfl rfl rfl rfl rfl (by kernel_rfl) rfl ?_
   |refine ax (aD hpl 0 1 2 3 (by decide) rfl rfl rfl rfl rfl rfl rfl) rfl rfl rfl rfl rfl rfl (by kernel_rfl) rfl ?_
   |refine ax (aD (ej ha hp (by omega) (by omega)) 0 1 2 3 (by decide) rfl rfl rfl rfl rfl (by simp[XV.shut,X1.shut,XC.shut,aZ]) rfl) rfl rfl rfl rfl rfl rfl (by kernel_rfl) rfl ?_
   |refine ax (aD (ej hb hp (by omega) (by omega)) 0 1 2 3 (by decide) rfl rfl rfl rfl rfl (by simp[XV.shut,X1.shut,XC.shut,aZ]) rfl) rfl rfl rfl rfl rfl rfl (by kernel_rfl) rfl ?_
   |refine ax (aD (ej hc hp (by omega) (by omega)) 0 1 2 3 (by decide) rfl rfl rfl rfl rfl (by simp[XV.shut,X1.shut,XC.shut,aZ]) rfl) rfl rfl rfl rfl rfl rfl (by kernel_rfl) rfl ?_
   |refine ax (ay (fK _) (by simp[XV.shut,aZ]) rfl rfl) rfl rfl rfl rfl rfl rfl (by kernel_rfl) rfl ?_
   |refine ax (ay (iV _ _ (by omega) (by omega)) rfl rfl rfl) rfl rfl rfl rfl rfl rfl (by kernel_rfl) rfl ?_
   |refine ax (ay (dc _ _ (by omega)) rfl rfl rfl) rfl rfl rfl rfl rfl rfl (by kernel_rfl) rfl ?_)
  |refine zz ?_|refine zx (fun _=>?_) (fun _=>?_)|refine bM (by first|exact ai.nil|exact ai.one _|exact ai.pf (by repeat' (first|exact True.intro|refine And.intro ?_ ?_|exact Compat.ne rfl|exact bE id|exact bR id))) ⟨by kernel_rfl,?_⟩|refine bM (by first|exact ai.nil|exact ai.one _|exact ai.pf (by repeat' (first|exact True.intro|refine And.intro ?_ ?_|exact Compat.ne rfl|exact bE id|exact bR id))) ?_|fail)
 all_goals
  show aE _ _ _ _ _ _ _ _;refine bP (junk:=_) (.inr rfl) (fun m hm=>rfl) ?_ (kJ _ _) rfl (c7 _ _ _ _ _);rename_i hcmp
  first
   | exact(show jB (2,cW (iD b) q)=_ from congrArg jB (if_pos hcmp).symm)
   | exact(show jB (1,cW (iD a) q)=_ from congrArg jB (if_neg hcmp).symm)
theorem Ld(a:Kn)(b:Kn)(ha:cf (bL A B C p) w (x-1) y=some a)(hb:cf (bL A B C p) w x (y-1)=some b)(hc:cf (bL A B C p) w (x-1) (y-1)=none) :
 bm prog 119 [.one (.ptr 0 0),.one (.int .i64 mb),.one (.int .i64 k),.one (.int .i64 q)] (bJ cols rows A B C) (jB (jW (some a) (some b) (none) q)) (bJ cols rows A B C):=by
 have hI:=eT cols rows mb k A B C hcr;rw[hin]at hI;have hab:=fe a;unfold iD at hab;have hbb:=fe b;unfold iD at hbb;
 refine cO Tryz.func119 ?_
 repeat' (first
  |(refine qz ?_;first
   |refine ax (aD hI 0 1 2 3 (by decide) rfl rfl rfl rfl rfl rfl rfl) rfl rfl rfl rfl rfl rfl (by kernel_rfl) rfl ?_
   |refine ax (aD hpl 0 1 2 3 (by decide) rfl rfl rfl rfl rfl rfl rfl) rfl rfl rfl rfl rfl rfl (by kernel_rfl) rfl ?_
   |refine ax (aD (ej ha hp (by omega) (by omega)) 0 1 2 3 (by decide) rfl rfl rfl rfl rfl (by simp[XV.shut,X1.shut,XC.shut,aZ]) rfl) rfl rfl rfl rfl rfl rfl (by kernel_rfl) rfl ?_
   |refine ax (aD (ej hb hp (by omega) (by omega)) 0 1 2 3 (by decide) rfl rfl rfl rfl rfl (by simp[XV.shut,X1.shut,XC.shut,aZ]) rfl) rfl rfl rfl rfl rfl rfl (by kernel_rfl) rfl ?_
   |refine ax (aD (gx hc hp (by omega) (by omega)) 0 1 2 3 (by decide) rfl rfl rfl rfl rfl (by simp[XV.shut,X1.shut,XC.shut,aZ]) rfl) rfl rfl rfl rfl rfl rfl (by kernel_rfl) rfl ?_
   |refine ax (ay (fK _) (by simp[XV.shut,aZ]) rfl rfl) rfl rfl rfl rfl rfl rfl (by kernel_rfl) rfl ?_
   |refine ax (ay (iV _ _ (by omega) (by omega)) rfl rfl rfl) rfl rfl rfl rfl rfl rfl (by kernel_rfl) rfl ?_
   |refine ax (ay (dc _ _ (by omega)) rfl rfl rfl) rfl rfl rfl rfl rfl rfl (by kernel_rfl) rfl ?_)
  |refine zz ?_|refine zx (fun _=>?_) (fun _=>?_)|refine bM (by first|exact ai.nil|exact ai.one _|exact ai.pf (by repeat' (first|exact True.intro|refine And.intro ?_ ?_|exact Compat.ne rfl|exact bE id|exact bR id))) ⟨by kernel_rfl,?_⟩|refine bM (by first|exact ai.nil|exact ai.one _|exact ai.pf (by repeat' (first|exact True.intro|refine And.intro ?_ ?_|exact Compat.ne rfl|exact bE id|exact bR id))) ?_|fail)
 all_goals
  show aE _ _ _ _ _ _ _ _;refine bP (junk:=_) (.inr rfl) (fun m hm=>rfl) ?_ (kJ _ _) rfl (c7 _ _ _ _ _);rename_i hcmp
  first
   | exact(show jB (2,cW (iD b) q)=_ from congrArg jB (if_pos hcmp).symm)
   | exact(show jB (1,cW (iD a) q)=_ from congrArg jB (if_neg hcmp).symm)
theorem Lc(a:Kn)(c:Kn)(ha:cf (bL A B C p) w (x-1) y=some a)(hb:cf (bL A B C p) w x (y-1)=none)(hc:cf (bL A B C p) w (x-1) (y-1)=some c) :
 bm prog 119 [.one (.ptr 0 0),.one (.int .i64 mb),.one (.int .i64 k),.one (.int .i64 q)] (bJ cols rows A B C) (jB (jW (some a) (none) (some c) q)) (bJ cols rows A B C):=by
 have hI:=eT cols rows mb k A B C hcr;rw[hin]at hI;have hab:=fe a;unfold iD at hab;have hcb:=fe c;unfold iD at hcb;
 refine cO Tryz.func119 ?_
 repeat' (first
  |(refine qz ?_;first
   |refine ax (aD hI 0 1 2 3 (by decide) rfl rfl rfl rfl rfl rfl rfl) rfl rfl rfl rfl rfl rfl (by kernel_rfl) rfl ?_
   |refine ax (aD hpl 0 1 2 3 (by decide) rfl rfl rfl rfl rfl rfl rfl) rfl rfl rfl rfl rfl rfl (by kernel_rfl) rfl ?_
   |refine ax (aD (ej ha hp (by omega) (by omega)) 0 1 2 3 (by decide) rfl rfl rfl rfl rfl (by simp[XV.shut,X1.shut,XC.shut,aZ]) rfl) rfl rfl rfl rfl rfl rfl (by kernel_rfl) rfl ?_
   |refine ax (aD (gx hb hp (by omega) (by omega)) 0 1 2 3 (by decide) rfl rfl rfl rfl rfl (by simp[XV.shut,X1.shut,XC.shut,aZ]) rfl) rfl rfl rfl rfl rfl rfl (by kernel_rfl) rfl ?_
   |refine ax (aD (ej hc hp (by omega) (by omega)) 0 1 2 3 (by decide) rfl rfl rfl rfl rfl (by simp[XV.shut,X1.shut,XC.shut,aZ]) rfl) rfl rfl rfl rfl rfl rfl (by kernel_rfl) rfl ?_
   |refine ax (ay (fK _) (by simp[XV.shut,aZ]) rfl rfl) rfl rfl rfl rfl rfl rfl (by kernel_rfl) rfl ?_
   |refine ax (ay (iV _ _ (by omega) (by omega)) rfl rfl rfl) rfl rfl rfl rfl rfl rfl (by kernel_rfl) rfl ?_
   |refine ax (ay (dc _ _ (by omega)) rfl rfl rfl) rfl rfl rfl rfl rfl rfl (by kernel_rfl) rfl ?_)
  |refine zz ?_|refine zx (fun _=>?_) (fun _=>?_)|refine bM (by first|exact ai.nil|exact ai.one _|exact ai.pf (by repeat' (first|exact True.intro|refine And.intro ?_ ?_|exact Compat.ne rfl|exact bE id|exact bR id))) ⟨by kernel_rfl,?_⟩|refine bM (by first|exact ai.nil|exact ai.one _|exact ai.pf (by repeat' (first|exact True.intro|refine And.intro ?_ ?_|exact Compat.ne rfl|exact bE id|exact bR id))) ?_|fail)
 all_goals
  show aE _ _ _ _ _ _ _ _;refine bP (junk:=_) (.inr rfl) (fun m hm=>rfl) ?_ (kJ _ _) rfl (c7 _ _ _ _ _);rfl
theorem Lb(a:Kn)(ha:cf (bL A B C p) w (x-1) y=some a)(hb:cf (bL A B C p) w x (y-1)=none)(hc:cf (bL A B C p) w (x-1) (y-1)=none) :
 bm prog 119 [.one (.ptr 0 0),.one (.int .i64 mb),.one (.int .i64 k),.one (.int .i64 q)] (bJ cols rows A B C) (jB (jW (some a) (none) (none) q)) (bJ cols rows A B C):=by
 have hI:=eT cols rows mb k A B C hcr;rw[hin]at hI;have hab:=fe a;unfold iD at hab;
 refine cO Tryz.func119 ?_
 repeat' (first
  |(refine qz ?_;first
   |refine ax (aD hI 0 1 2 3 (by decide) rfl rfl rfl rfl rfl rfl rfl) rfl rfl rfl rfl rfl rfl (by kernel_rfl) rfl ?_
   |refine ax (aD hpl 0 1 2 3 (by decide) rfl rfl rfl rfl rfl rfl rfl) rfl rfl rfl rfl rfl rfl (by kernel_rfl) rfl ?_
   |refine ax (aD (ej ha hp (by omega) (by omega)) 0 1 2 3 (by decide) rfl rfl rfl rfl rfl (by simp[XV.shut,X1.shut,XC.shut,aZ]) rfl) rfl rfl rfl rfl rfl rfl (by kernel_rfl) rfl ?_
   |refine ax (aD (gx hb hp (by omega) (by omega)) 0 1 2 3 (by decide) rfl rfl rfl rfl rfl (by simp[XV.shut,X1.shut,XC.shut,aZ]) rfl) rfl rfl rfl rfl rfl rfl (by kernel_rfl) rfl ?_
   |refine ax (aD (gx hc hp (by omega) (by omega)) 0 1 2 3 (by decide) rfl rfl rfl rfl rfl (by simp[XV.shut,X1.shut,XC.shut,aZ]) rfl) rfl rfl rfl rfl rfl rfl (by kernel_rfl) rfl ?_
   |refine ax (ay (fK _) (by simp[XV.shut,aZ]) rfl rfl) rfl rfl rfl rfl rfl rfl (by kernel_rfl) rfl ?_
   |refine ax (ay (iV _ _ (by omega) (by omega)) rfl rfl rfl) rfl rfl rfl rfl rfl rfl (by kernel_rfl) rfl ?_
   |refine ax (ay (dc _ _ (by omega)) rfl rfl rfl) rfl rfl rfl rfl rfl rfl (by kernel_rfl) rfl ?_)
  |refine zz ?_|refine zx (fun _=>?_) (fun _=>?_)|refine bM (by first|exact ai.nil|exact ai.one _|exact ai.pf (by repeat' (first|exact True.intro|refine And.intro ?_ ?_|exact Compat.ne rfl|exact bE id|exact bR id))) ⟨by kernel_rfl,?_⟩|refine bM (by first|exact ai.nil|exact ai.one _|exact ai.pf (by repeat' (first|exact True.intro|refine And.intro ?_ ?_|exact Compat.ne rfl|exact bE id|exact bR id))) ?_|fail)
 all_goals
  show aE _ _ _ _ _ _ _ _;refine bP (junk:=_) (.inr rfl) (fun m hm=>rfl) ?_ (kJ _ _) rfl (c7 _ _ _ _ _);rfl
end
end Go.Proofs.YthdciapjllppjaaGreat
