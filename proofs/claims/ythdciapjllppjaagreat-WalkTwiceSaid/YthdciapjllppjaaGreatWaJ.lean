/-
  A part of the proof: PrExpA.
-/
import Derived.Test.YthdciapjllppjaaGreatWaI
set_option maxRecDepth 10000
set_option maxHeartbeats 8000000
set_option linter.unusedVariables false
set_option linter.unusedSectionVars false
set_option linter.unusedSimpArgs false
open Go.Proofs.Tryz (prog)
namespace Go.Proofs.YthdciapjllppjaaGreat
open Go.Xm
variable [ak]
section
variable (cols rows mb k p w x y q:Int) (A B C:nq) (hin:gR cols rows mb k=true) (hcr:0<=cols*rows/\cols*rows<=64)
 (hpl:bq prog 140 [.one (.ptr 0 0),.one (.int .i64 mb),.one (.int .i64 k)] (bI cols rows A B C) (.tup [.one (.int .i64 p),.one (.int .i64 w),.one (.int .i64 x),.one (.int .i64 y)]) (bI cols rows A B C))
 (hp:p=0\/p=1\/p=2) (hyw : -1000<=y*w/\y*w<=1000) (hyw1 : -1000<=(y-1)*w/\(y-1)*w<=1000) (hx:0<=x/\x<=1000) (hy:0<=y/\y<=1000)
include hin hcr hpl hp hyw hyw1 hx hy
theorem K7(a:Kn)(b:Kn)(c:Kn)(ha:cf (bK A B C p) w (x-1) y=some a)(hb:cf (bK A B C p) w x (y-1)=some b)(hc:cf (bK A B C p) w (x-1) (y-1)=some c) :
 bq prog 119 [.one (.ptr 0 0),.one (.int .i64 mb),.one (.int .i64 k),.one (.int .i64 q)] (bI cols rows A B C) (jT (kn (some a) (some b) (some c) q)) (bI cols rows A B C):=by
 have hI:=fe cols rows mb k A B C hcr;rw[hin]at hI;have hab:=fw a;unfold iW at hab;have hbb:=fw b;unfold iW at hbb;have hcb:=fw c;unfold iW at hcb;
 refine cO Tryz.func119 ?_
 repeat' (first
  |(refine qz ?_;first
   |refine ax (aC hI 0 1 2 3 (by decide) rfl rfl rfl rfl rfl rfl rfl) rfl rfl rfl rfl rfl rfl (by kernel_rfl) rfl ?_
   |refine ax (aC hpl 0 1 2 3 (by decide) rfl rfl rfl rfl rfl rfl rfl) rfl rfl rfl rfl rfl rfl (by kernel_rfl) rfl ?_
   |refine ax (aC (eE ha hp (by omega) (by omega)) 0 1 2 3 (by decide) rfl rfl rfl rfl rfl (by simp[XV.shut,X1.shut,XC.shut,bd]) rfl) rfl rfl rfl rfl rfl rfl (by kernel_rfl) rfl ?_
   |refine ax (aC (eE hb hp (by omega) (by omega)) 0 1 2 3 (by decide) rfl rfl rfl rfl rfl (by simp[XV.shut,X1.shut,XC.shut,bd]) rfl) rfl rfl rfl rfl rfl rfl (by kernel_rfl) rfl ?_
   |refine ax (aC (eE hc hp (by omega) (by omega)) 0 1 2 3 (by decide) rfl rfl rfl rfl rfl (by simp[XV.shut,X1.shut,XC.shut,bd]) rfl) rfl rfl rfl rfl rfl rfl (by kernel_rfl) rfl ?_
   |refine ax (ay (f6 _) (by simp[XV.shut,bd]) rfl rfl) rfl rfl rfl rfl rfl rfl (by kernel_rfl) rfl ?_
   |refine ax (ay (jj _ _ (by omega) (by omega)) rfl rfl rfl) rfl rfl rfl rfl rfl rfl (by kernel_rfl) rfl ?_
   |refine ax (ay (dj _ _ (by omega)) rfl rfl rfl) rfl rfl rfl rfl rfl rfl (by kernel_rfl) rfl ?_)
  |refine zz ?_|refine zx (fun _=>?_) (fun _=>?_)|refine bm (by first|exact ag.nil|exact ag.one _|exact ag.mh (by repeat' (first|exact True.intro|refine And.intro ?_ ?_|exact Compat.ne rfl|exact bG id|exact bQ id))) ⟨by kernel_rfl,?_⟩|refine bm (by first|exact ag.nil|exact ag.one _|exact ag.mh (by repeat' (first|exact True.intro|refine And.intro ?_ ?_|exact Compat.ne rfl|exact bG id|exact bQ id))) ?_|fail)
 all_goals
  show aE _ _ _ _ _ _ _ _;refine bN (junk:=_) (.inr rfl) (fun m hm=>rfl) ?_ (lg _ _) rfl (dh _ _ _ _ _);rename_i hcmp
  first
   | exact(show jT (2,df (iW b) q)=_ from congrArg jT (if_pos hcmp).symm)
   | exact(show jT (1,df (iW a) q)=_ from congrArg jT (if_neg hcmp).symm)
theorem K6(a:Kn)(b:Kn)(ha:cf (bK A B C p) w (x-1) y=some a)(hb:cf (bK A B C p) w x (y-1)=some b)(hc:cf (bK A B C p) w (x-1) (y-1)=none) :
 bq prog 119 [.one (.ptr 0 0),.one (.int .i64 mb),.one (.int .i64 k),.one (.int .i64 q)] (bI cols rows A B C) (jT (kn (some a) (some b) (none) q)) (bI cols rows A B C):=by
 have hI:=fe cols rows mb k A B C hcr;rw[hin]at hI;have hab:=fw a;unfold iW at hab;have hbb:=fw b;unfold iW at hbb;
 refine cO Tryz.func119 ?_
 repeat' (first
  |(refine qz ?_;first
   |refine ax (aC hI 0 1 2 3 (by decide) rfl rfl rfl rfl rfl rfl rfl) rfl rfl rfl rfl rfl rfl (by kernel_rfl) rfl ?_
   |refine ax (aC hpl 0 1 2 3 (by decide) rfl rfl rfl rfl rfl rfl rfl) rfl rfl rfl rfl rfl rfl (by kernel_rfl) rfl ?_
   |refine ax (aC (eE ha hp (by omega) (by omega)) 0 1 2 3 (by decide) rfl rfl rfl rfl rfl (by simp[XV.shut,X1.shut,XC.shut,bd]) rfl) rfl rfl rfl rfl rfl rfl (by kernel_rfl) rfl ?_
   |refine ax (aC (eE hb hp (by omega) (by omega)) 0 1 2 3 (by decide) rfl rfl rfl rfl rfl (by simp[XV.shut,X1.shut,XC.shut,bd]) rfl) rfl rfl rfl rfl rfl rfl (by kernel_rfl) rfl ?_
   |refine ax (aC (gP hc hp (by omega) (by omega)) 0 1 2 3 (by decide) rfl rfl rfl rfl rfl (by simp[XV.shut,X1.shut,XC.shut,bd]) rfl) rfl rfl rfl rfl rfl rfl (by kernel_rfl) rfl ?_
   |refine ax (ay (f6 _) (by simp[XV.shut,bd]) rfl rfl) rfl rfl rfl rfl rfl rfl (by kernel_rfl) rfl ?_
   |refine ax (ay (jj _ _ (by omega) (by omega)) rfl rfl rfl) rfl rfl rfl rfl rfl rfl (by kernel_rfl) rfl ?_
   |refine ax (ay (dj _ _ (by omega)) rfl rfl rfl) rfl rfl rfl rfl rfl rfl (by kernel_rfl) rfl ?_)
  |refine zz ?_|refine zx (fun _=>?_) (fun _=>?_)|refine bm (by first|exact ag.nil|exact ag.one _|exact ag.mh (by repeat' (first|exact True.intro|refine And.intro ?_ ?_|exact Compat.ne rfl|exact bG id|exact bQ id))) ⟨by kernel_rfl,?_⟩|refine bm (by first|exact ag.nil|exact ag.one _|exact ag.mh (by repeat' (first|exact True.intro|refine And.intro ?_ ?_|exact Compat.ne rfl|exact bG id|exact bQ id))) ?_|fail)
 all_goals
  show aE _ _ _ _ _ _ _ _;refine bN (junk:=_) (.inr rfl) (fun m hm=>rfl) ?_ (lg _ _) rfl (dh _ _ _ _ _);rename_i hcmp
  first
   | exact(show jT (2,df (iW b) q)=_ from congrArg jT (if_pos hcmp).symm)
   | exact(show jT (1,df (iW a) q)=_ from congrArg jT (if_neg hcmp).symm)
theorem K5(a:Kn)(c:Kn)(ha:cf (bK A B C p) w (x-1) y=some a)(hb:cf (bK A B C p) w x (y-1)=none)(hc:cf (bK A B C p) w (x-1) (y-1)=some c) :
 bq prog 119 [.one (.ptr 0 0),.one (.int .i64 mb),.one (.int .i64 k),.one (.int .i64 q)] (bI cols rows A B C) (jT (kn (some a) (none) (some c) q)) (bI cols rows A B C):=by
 have hI:=fe cols rows mb k A B C hcr;rw[hin]at hI;have hab:=fw a;unfold iW at hab;have hcb:=fw c;unfold iW at hcb;
 refine cO Tryz.func119 ?_
 repeat' (first
  |(refine qz ?_;first
   |refine ax (aC hI 0 1 2 3 (by decide) rfl rfl rfl rfl rfl rfl rfl) rfl rfl rfl rfl rfl rfl (by kernel_rfl) rfl ?_
   |refine ax (aC hpl 0 1 2 3 (by decide) rfl rfl rfl rfl rfl rfl rfl) rfl rfl rfl rfl rfl rfl (by kernel_rfl) rfl ?_
   |refine ax (aC (eE ha hp (by omega) (by omega)) 0 1 2 3 (by decide) rfl rfl rfl rfl rfl (by simp[XV.shut,X1.shut,XC.shut,bd]) rfl) rfl rfl rfl rfl rfl rfl (by kernel_rfl) rfl ?_
   |refine ax (aC (gP hb hp (by omega) (by omega)) 0 1 2 3 (by decide) rfl rfl rfl rfl rfl (by simp[XV.shut,X1.shut,XC.shut,bd]) rfl) rfl rfl rfl rfl rfl rfl (by kernel_rfl) rfl ?_
   |refine ax (aC (eE hc hp (by omega) (by omega)) 0 1 2 3 (by decide) rfl rfl rfl rfl rfl (by simp[XV.shut,X1.shut,XC.shut,bd]) rfl) rfl rfl rfl rfl rfl rfl (by kernel_rfl) rfl ?_
   |refine ax (ay (f6 _) (by simp[XV.shut,bd]) rfl rfl) rfl rfl rfl rfl rfl rfl (by kernel_rfl) rfl ?_
   |refine ax (ay (jj _ _ (by omega) (by omega)) rfl rfl rfl) rfl rfl rfl rfl rfl rfl (by kernel_rfl) rfl ?_
   |refine ax (ay (dj _ _ (by omega)) rfl rfl rfl) rfl rfl rfl rfl rfl rfl (by kernel_rfl) rfl ?_)
  |refine zz ?_|refine zx (fun _=>?_) (fun _=>?_)|refine bm (by first|exact ag.nil|exact ag.one _|exact ag.mh (by repeat' (first|exact True.intro|refine And.intro ?_ ?_|exact Compat.ne rfl|exact bG id|exact bQ id))) ⟨by kernel_rfl,?_⟩|refine bm (by first|exact ag.nil|exact ag.one _|exact ag.mh (by repeat' (first|exact True.intro|refine And.intro ?_ ?_|exact Compat.ne rfl|exact bG id|exact bQ id))) ?_|fail)
 all_goals
  show aE _ _ _ _ _ _ _ _;refine bN (junk:=_) (.inr rfl) (fun m hm=>rfl) ?_ (lg _ _) rfl (dh _ _ _ _ _);rfl
theorem K4(a:Kn)(ha:cf (bK A B C p) w (x-1) y=some a)(hb:cf (bK A B C p) w x (y-1)=none)(hc:cf (bK A B C p) w (x-1) (y-1)=none) :
 bq prog 119 [.one (.ptr 0 0),.one (.int .i64 mb),.one (.int .i64 k),.one (.int .i64 q)] (bI cols rows A B C) (jT (kn (some a) (none) (none) q)) (bI cols rows A B C):=by
 have hI:=fe cols rows mb k A B C hcr;rw[hin]at hI;have hab:=fw a;unfold iW at hab;
 refine cO Tryz.func119 ?_
 repeat' (first
  |(refine qz ?_;first
   |refine ax (aC hI 0 1 2 3 (by decide) rfl rfl rfl rfl rfl rfl rfl) rfl rfl rfl rfl rfl rfl (by kernel_rfl) rfl ?_
   |refine ax (aC hpl 0 1 2 3 (by decide) rfl rfl rfl rfl rfl rfl rfl) rfl rfl rfl rfl rfl rfl (by kernel_rfl) rfl ?_
   |refine ax (aC (eE ha hp (by omega) (by omega)) 0 1 2 3 (by decide) rfl rfl rfl rfl rfl (by simp[XV.shut,X1.shut,XC.shut,bd]) rfl) rfl rfl rfl rfl rfl rfl (by kernel_rfl) rfl ?_
   |refine ax (aC (gP hb hp (by omega) (by omega)) 0 1 2 3 (by decide) rfl rfl rfl rfl rfl (by simp[XV.shut,X1.shut,XC.shut,bd]) rfl) rfl rfl rfl rfl rfl rfl (by kernel_rfl) rfl ?_
   |refine ax (aC (gP hc hp (by omega) (by omega)) 0 1 2 3 (by decide) rfl rfl rfl rfl rfl (by simp[XV.shut,X1.shut,XC.shut,bd]) rfl) rfl rfl rfl rfl rfl rfl (by kernel_rfl) rfl ?_
   |refine ax (ay (f6 _) (by simp[XV.shut,bd]) rfl rfl) rfl rfl rfl rfl rfl rfl (by kernel_rfl) rfl ?_
   |refine ax (ay (jj _ _ (by omega) (by omega)) rfl rfl rfl) rfl rfl rfl rfl rfl rfl (by kernel_rfl) rfl ?_
   |refine ax (ay (dj _ _ (by omega)) rfl rfl rfl) rfl rfl rfl rfl rfl rfl (by kernel_rfl) rfl ?_)
  |refine zz ?_|refine zx (fun _=>?_) (fun _=>?_)|refine bm (by first|exact ag.nil|exact ag.one _|exact ag.mh (by repeat' (first|exact True.intro|refine And.intro ?_ ?_|exact Compat.ne rfl|exact bG id|exact bQ id))) ⟨by kernel_rfl,?_⟩|refine bm (by first|exact ag.nil|exact ag.one _|exact ag.mh (by repeat' (first|exact True.intro|refine And.intro ?_ ?_|exact Compat.ne rfl|exact bG id|exact bQ id))) ?_|fail)
 all_goals
  show aE _ _ _ _ _ _ _ _;refine bN (junk:=_) (.inr rfl) (fun m hm=>rfl) ?_ (lg _ _) rfl (dh _ _ _ _ _);rfl
end
end Go.Proofs.YthdciapjllppjaaGreat
