/-
  A part of the proof: PrExpA.
-/
import Derived.Test.YtagpkhindehcbaaGreatKdI
set_option maxRecDepth 10000
set_option maxHeartbeats 8000000
set_option linter.unusedVariables false
set_option linter.unusedSectionVars false
set_option linter.unusedSimpArgs false
namespace Go.Proofs.YtagpkhindehcbaaGreat
open Go.Xm
variable [az]
section
variable (cols rows mb k p w x y q:Int) (A B C:nF) (hin:hY cols rows mb k=true) (hcr:0≤cols*rows∧cols*rows≤64)
 (hpl:bn Tryz.prog 100 [.one (.ptr 0 0),.one (.int .i64 mb),.one (.int .i64 k)] (bU cols rows A B C) (.tup [.one (.int .i64 p),.one (.int .i64 w),.one (.int .i64 x),.one (.int .i64 y)]) (bU cols rows A B C))
 (hp:p=0∨p=1∨p=2) (hyw : -1000≤y*w∧y*w≤1000) (hyw1 : -1000≤(y-1)*w∧(y-1)*w≤1000) (hx:0≤x∧x≤1000) (hy:0≤y∧y≤1000)
include hin hcr hpl hp hyw hyw1 hx hy
theorem JS (a:Kn) (b:Kn) (c:Kn) (ha:cw (bP A B C p) w (x-1) y=some a) (hb:cw (bP A B C p) w x (y-1)=some b) (hc:cw (bP A B C p) w (x-1) (y-1)=some c) :
 bn Tryz.prog 70 [.one (.ptr 0 0),.one (.int .i64 mb),.one (.int .i64 k),.one (.int .i64 q)] (bU cols rows A B C) (j4 (jG (some a) (some b) (some c) q)) (bU cols rows A B C):=by
 have hI:=fv cols rows mb k A B C hcr
 rw [hin]at hI
 have hab:=fF a;unfold gW at hab;have hbb:=fF b;unfold gW at hbb;have hcb:=fF c;unfold gW at hcb;
 refine cO Tryz.func70 ?_
 repeat' (first
  |(refine qz ?_;first
   |refine aD (aK hI 0 1 2 3 (by decide) rfl rfl rfl rfl rfl rfl rfl) rfl rfl rfl rfl rfl rfl (by kernel_rfl) rfl ?_
   |refine aD (aK hpl 0 1 2 3 (by decide) rfl rfl rfl rfl rfl rfl rfl) rfl rfl rfl rfl rfl rfl (by kernel_rfl) rfl ?_
   |refine aD (aK (eT ha hp (by omega) (by omega)) 0 1 2 3 (by decide) rfl rfl rfl rfl rfl (by simp [XV.shut,X1.shut,XC.shut,bp]) rfl) rfl rfl rfl rfl rfl rfl (by kernel_rfl) rfl ?_
   |refine aD (aK (eT hb hp (by omega) (by omega)) 0 1 2 3 (by decide) rfl rfl rfl rfl rfl (by simp [XV.shut,X1.shut,XC.shut,bp]) rfl) rfl rfl rfl rfl rfl rfl (by kernel_rfl) rfl ?_
   |refine aD (aK (eT hc hp (by omega) (by omega)) 0 1 2 3 (by decide) rfl rfl rfl rfl rfl (by simp [XV.shut,X1.shut,XC.shut,bp]) rfl) rfl rfl rfl rfl rfl rfl (by kernel_rfl) rfl ?_
   |refine aD (aA (gh _) (by simp [XV.shut,bp]) rfl rfl) rfl rfl rfl rfl rfl rfl (by kernel_rfl) rfl ?_
   |refine aD (aA (jA _ _ (by omega) (by omega)) rfl rfl rfl) rfl rfl rfl rfl rfl rfl (by kernel_rfl) rfl ?_
   |refine aD (aA (dA _ _ (by omega)) rfl rfl rfl) rfl rfl rfl rfl rfl rfl (by kernel_rfl) rfl ?_)
  |refine zz ?_|refine zx (fun _=>?_) (fun _=>?_)|refine bq (by first|exact ag.nil|exact ag.one _|exact ag.lI (by repeat' (first|exact True.intro|refine And.intro ?_ ?_|exact Compat.ne rfl|exact bO id|exact ca id))) ⟨by kernel_rfl,?_⟩|refine bq (by first|exact ag.nil|exact ag.one _|exact ag.lI (by repeat' (first|exact True.intro|refine And.intro ?_ ?_|exact Compat.ne rfl|exact bO id|exact ca id))) ?_|fail)
 all_goals
  show aC _ _ _ _ _ _ _ _
  refine b6 (junk:=_) (.inr rfl) (fun m hm=>rfl) ?_ (kU _ _) rfl (dw _ _ _ _ _)
  rename_i hcmp
  first
   | exact(show j4 (2,dm (gW b) q)=_ from congrArg j4 (if_pos hcmp).symm)
   | exact(show j4 (1,dm (gW a) q)=_ from congrArg j4 (if_neg hcmp).symm)
theorem JR (a:Kn) (b:Kn) (ha:cw (bP A B C p) w (x-1) y=some a) (hb:cw (bP A B C p) w x (y-1)=some b) (hc:cw (bP A B C p) w (x-1) (y-1)=none) :
 bn Tryz.prog 70 [.one (.ptr 0 0),.one (.int .i64 mb),.one (.int .i64 k),.one (.int .i64 q)] (bU cols rows A B C) (j4 (jG (some a) (some b) (none) q)) (bU cols rows A B C):=by
 have hI:=fv cols rows mb k A B C hcr
 rw [hin]at hI
 have hab:=fF a;unfold gW at hab;have hbb:=fF b;unfold gW at hbb;
 refine cO Tryz.func70 ?_
 repeat' (first
  |(refine qz ?_;first
   |refine aD (aK hI 0 1 2 3 (by decide) rfl rfl rfl rfl rfl rfl rfl) rfl rfl rfl rfl rfl rfl (by kernel_rfl) rfl ?_
   |refine aD (aK hpl 0 1 2 3 (by decide) rfl rfl rfl rfl rfl rfl rfl) rfl rfl rfl rfl rfl rfl (by kernel_rfl) rfl ?_
   |refine aD (aK (eT ha hp (by omega) (by omega)) 0 1 2 3 (by decide) rfl rfl rfl rfl rfl (by simp [XV.shut,X1.shut,XC.shut,bp]) rfl) rfl rfl rfl rfl rfl rfl (by kernel_rfl) rfl ?_
   |refine aD (aK (eT hb hp (by omega) (by omega)) 0 1 2 3 (by decide) rfl rfl rfl rfl rfl (by simp [XV.shut,X1.shut,XC.shut,bp]) rfl) rfl rfl rfl rfl rfl rfl (by kernel_rfl) rfl ?_
   |refine aD (aK (hU hc hp (by omega) (by omega)) 0 1 2 3 (by decide) rfl rfl rfl rfl rfl (by simp [XV.shut,X1.shut,XC.shut,bp]) rfl) rfl rfl rfl rfl rfl rfl (by kernel_rfl) rfl ?_
   |refine aD (aA (gh _) (by simp [XV.shut,bp]) rfl rfl) rfl rfl rfl rfl rfl rfl (by kernel_rfl) rfl ?_
   |refine aD (aA (jA _ _ (by omega) (by omega)) rfl rfl rfl) rfl rfl rfl rfl rfl rfl (by kernel_rfl) rfl ?_
   |refine aD (aA (dA _ _ (by omega)) rfl rfl rfl) rfl rfl rfl rfl rfl rfl (by kernel_rfl) rfl ?_)
  |refine zz ?_|refine zx (fun _=>?_) (fun _=>?_)|refine bq (by first|exact ag.nil|exact ag.one _|exact ag.lI (by repeat' (first|exact True.intro|refine And.intro ?_ ?_|exact Compat.ne rfl|exact bO id|exact ca id))) ⟨by kernel_rfl,?_⟩|refine bq (by first|exact ag.nil|exact ag.one _|exact ag.lI (by repeat' (first|exact True.intro|refine And.intro ?_ ?_|exact Compat.ne rfl|exact bO id|exact ca id))) ?_|fail)
 all_goals
  show aC _ _ _ _ _ _ _ _
  refine b6 (junk:=_) (.inr rfl) (fun m hm=>rfl) ?_ (kU _ _) rfl (dw _ _ _ _ _)
  rename_i hcmp
  first
   | exact(show j4 (2,dm (gW b) q)=_ from congrArg j4 (if_pos hcmp).symm)
   | exact(show j4 (1,dm (gW a) q)=_ from congrArg j4 (if_neg hcmp).symm)
theorem JQ (a:Kn) (c:Kn) (ha:cw (bP A B C p) w (x-1) y=some a) (hb:cw (bP A B C p) w x (y-1)=none) (hc:cw (bP A B C p) w (x-1) (y-1)=some c) :
 bn Tryz.prog 70 [.one (.ptr 0 0),.one (.int .i64 mb),.one (.int .i64 k),.one (.int .i64 q)] (bU cols rows A B C) (j4 (jG (some a) (none) (some c) q)) (bU cols rows A B C):=by
 have hI:=fv cols rows mb k A B C hcr
 rw [hin]at hI
 have hab:=fF a;unfold gW at hab;have hcb:=fF c;unfold gW at hcb;
 refine cO Tryz.func70 ?_
 repeat' (first
  |(refine qz ?_;first
   |refine aD (aK hI 0 1 2 3 (by decide) rfl rfl rfl rfl rfl rfl rfl) rfl rfl rfl rfl rfl rfl (by kernel_rfl) rfl ?_
   |refine aD (aK hpl 0 1 2 3 (by decide) rfl rfl rfl rfl rfl rfl rfl) rfl rfl rfl rfl rfl rfl (by kernel_rfl) rfl ?_
   |refine aD (aK (eT ha hp (by omega) (by omega)) 0 1 2 3 (by decide) rfl rfl rfl rfl rfl (by simp [XV.shut,X1.shut,XC.shut,bp]) rfl) rfl rfl rfl rfl rfl rfl (by kernel_rfl) rfl ?_
   |refine aD (aK (hU hb hp (by omega) (by omega)) 0 1 2 3 (by decide) rfl rfl rfl rfl rfl (by simp [XV.shut,X1.shut,XC.shut,bp]) rfl) rfl rfl rfl rfl rfl rfl (by kernel_rfl) rfl ?_
   |refine aD (aK (eT hc hp (by omega) (by omega)) 0 1 2 3 (by decide) rfl rfl rfl rfl rfl (by simp [XV.shut,X1.shut,XC.shut,bp]) rfl) rfl rfl rfl rfl rfl rfl (by kernel_rfl) rfl ?_
   |refine aD (aA (gh _) (by simp [XV.shut,bp]) rfl rfl) rfl rfl rfl rfl rfl rfl (by kernel_rfl) rfl ?_
   |refine aD (aA (jA _ _ (by omega) (by omega)) rfl rfl rfl) rfl rfl rfl rfl rfl rfl (by kernel_rfl) rfl ?_
   |refine aD (aA (dA _ _ (by omega)) rfl rfl rfl) rfl rfl rfl rfl rfl rfl (by kernel_rfl) rfl ?_)
  |refine zz ?_|refine zx (fun _=>?_) (fun _=>?_)|refine bq (by first|exact ag.nil|exact ag.one _|exact ag.lI (by repeat' (first|exact True.intro|refine And.intro ?_ ?_|exact Compat.ne rfl|exact bO id|exact ca id))) ⟨by kernel_rfl,?_⟩|refine bq (by first|exact ag.nil|exact ag.one _|exact ag.lI (by repeat' (first|exact True.intro|refine And.intro ?_ ?_|exact Compat.ne rfl|exact bO id|exact ca id))) ?_|fail)
 all_goals
  show aC _ _ _ _ _ _ _ _
  refine b6 (junk:=_) (.inr rfl) (fun m hm=>rfl) ?_ (kU _ _) rfl (dw _ _ _ _ _)
  rfl
theorem JP (a:Kn) (ha:cw (bP A B C p) w (x-1) y=some a) (hb:cw (bP A B C p) w x (y-1)=none) (hc:cw (bP A B C p) w (x-1) (y-1)=none) :
 bn Tryz.prog 70 [.one (.ptr 0 0),.one (.int .i64 mb),.one (.int .i64 k),.one (.int .i64 q)] (bU cols rows A B C) (j4 (jG (some a) (none) (none) q)) (bU cols rows A B C):=by
 have hI:=fv cols rows mb k A B C hcr
 rw [hin]at hI
 have hab:=fF a;unfold gW at hab;
 refine cO Tryz.func70 ?_
 repeat' (first
  |(refine qz ?_;first
   |refine aD (aK hI 0 1 2 3 (by decide) rfl rfl rfl rfl rfl rfl rfl) rfl rfl rfl rfl rfl rfl (by kernel_rfl) rfl ?_
   |refine aD (aK hpl 0 1 2 3 (by decide) rfl rfl rfl rfl rfl rfl rfl) rfl rfl rfl rfl rfl rfl (by kernel_rfl) rfl ?_
   |refine aD (aK (eT ha hp (by omega) (by omega)) 0 1 2 3 (by decide) rfl rfl rfl rfl rfl (by simp [XV.shut,X1.shut,XC.shut,bp]) rfl) rfl rfl rfl rfl rfl rfl (by kernel_rfl) rfl ?_
   |refine aD (aK (hU hb hp (by omega) (by omega)) 0 1 2 3 (by decide) rfl rfl rfl rfl rfl (by simp [XV.shut,X1.shut,XC.shut,bp]) rfl) rfl rfl rfl rfl rfl rfl (by kernel_rfl) rfl ?_
   |refine aD (aK (hU hc hp (by omega) (by omega)) 0 1 2 3 (by decide) rfl rfl rfl rfl rfl (by simp [XV.shut,X1.shut,XC.shut,bp]) rfl) rfl rfl rfl rfl rfl rfl (by kernel_rfl) rfl ?_
   |refine aD (aA (gh _) (by simp [XV.shut,bp]) rfl rfl) rfl rfl rfl rfl rfl rfl (by kernel_rfl) rfl ?_
   |refine aD (aA (jA _ _ (by omega) (by omega)) rfl rfl rfl) rfl rfl rfl rfl rfl rfl (by kernel_rfl) rfl ?_
   |refine aD (aA (dA _ _ (by omega)) rfl rfl rfl) rfl rfl rfl rfl rfl rfl (by kernel_rfl) rfl ?_)
  |refine zz ?_|refine zx (fun _=>?_) (fun _=>?_)|refine bq (by first|exact ag.nil|exact ag.one _|exact ag.lI (by repeat' (first|exact True.intro|refine And.intro ?_ ?_|exact Compat.ne rfl|exact bO id|exact ca id))) ⟨by kernel_rfl,?_⟩|refine bq (by first|exact ag.nil|exact ag.one _|exact ag.lI (by repeat' (first|exact True.intro|refine And.intro ?_ ?_|exact Compat.ne rfl|exact bO id|exact ca id))) ?_|fail)
 all_goals
  show aC _ _ _ _ _ _ _ _
  refine b6 (junk:=_) (.inr rfl) (fun m hm=>rfl) ?_ (kU _ _) rfl (dw _ _ _ _ _)
  rfl
end
end Go.Proofs.YtagpkhindehcbaaGreat
