/-
  A part of the proof: PrExpB.
-/
import Derived.Test.YtagpkhindehcbaaGreatKdI
set_option maxRecDepth 10000
set_option maxHeartbeats 8000000
set_option linter.unusedVariables false
set_option linter.unusedSectionVars false
set_option linter.unusedSimpArgs false
namespace Go.Proofs.YtagpkhindehcbaaGreat
open Go.Xm
variable [az]
section
variable (cols rows mb k p w x y q:Int) (A B C:nF) (hin:hY cols rows mb k=true) (hcr:0≤cols*rows∧cols*rows≤64)
 (hpl:bn Tryz.prog 100 [.one (.ptr 0 0),.one (.int .i64 mb),.one (.int .i64 k)] (bU cols rows A B C) (.tup [.one (.int .i64 p),.one (.int .i64 w),.one (.int .i64 x),.one (.int .i64 y)]) (bU cols rows A B C))
 (hp:p=0∨p=1∨p=2) (hyw : -1000≤y*w∧y*w≤1000) (hyw1 : -1000≤(y-1)*w∧(y-1)*w≤1000) (hx:0≤x∧x≤1000) (hy:0≤y∧y≤1000)
include hin hcr hpl hp hyw hyw1 hx hy
theorem JO (b:Kn) (c:Kn) (ha:cw (bP A B C p) w (x-1) y=none) (hb:cw (bP A B C p) w x (y-1)=some b) (hc:cw (bP A B C p) w (x-1) (y-1)=some c) :
 bn Tryz.prog 70 [.one (.ptr 0 0),.one (.int .i64 mb),.one (.int .i64 k),.one (.int .i64 q)] (bU cols rows A B C) (j4 (jG (none) (some b) (some c) q)) (bU cols rows A B C):=by
 have hI:=fv cols rows mb k A B C hcr
 rw [hin]at hI
 have hbb:=fF b;unfold gW at hbb;have hcb:=fF c;unfold gW at hcb;
 refine cO Tryz.func70 ?_
 repeat' (first
  |(refine qz ?_;first
   |refine aD (aK hI 0 1 2 3 (by decide) rfl rfl rfl rfl rfl rfl rfl) rfl rfl rfl rfl rfl rfl (by kernel_rfl) rfl ?_
   |refine aD (aK hpl 0 1 2 3 (by decide) rfl rfl rfl rfl rfl rfl rfl) rfl rfl rfl rfl rfl rfl (by kernel_rfl) rfl ?_
   |refine aD (aK (hU ha hp (by omega) (by omega)) 0 1 2 3 (by decide) rfl rfl rfl rfl rfl (by simp [XV.shut,X1.shut,XC.shut,bp]) rfl) rfl rfl rfl rfl rfl rfl (by kernel_rfl) rfl ?_
   |refine aD (aK (eT hb hp (by omega) (by omega)) 0 1 2 3 (by decide) rfl rfl rfl rfl rfl (by simp [XV.shut,X1.shut,XC.shut,bp]) rfl) rfl rfl rfl rfl rfl rfl (by kernel_rfl) rfl ?_
   |refine aD (aK (eT hc hp (by omega) (by omega)) 0 1 2 3 (by decide) rfl rfl rfl rfl rfl (by simp [XV.shut,X1.shut,XC.shut,bp]) rfl) rfl rfl rfl rfl rfl rfl (by kernel_rfl) rfl ?_
   |refine aD (aA (gh _) (by simp [XV.shut,bp]) rfl rfl) rfl rfl rfl rfl rfl rfl (by kernel_rfl) rfl ?_
   |refine aD (aA (jA _ _ (by omega) (by omega)) rfl rfl rfl) rfl rfl rfl rfl rfl rfl (by kernel_rfl) rfl ?_
   |refine aD (aA (dA _ _ (by omega)) rfl rfl rfl) rfl rfl rfl rfl rfl rfl (by kernel_rfl) rfl ?_)
  |refine zz ?_|refine zx (fun _=>?_) (fun _=>?_)|refine bq (by first|exact ag.nil|exact ag.one _|exact ag.lI (by repeat' (first|exact True.intro|refine And.intro ?_ ?_|exact Compat.ne rfl|exact bO id|exact ca id))) ⟨by kernel_rfl,?_⟩|refine bq (by first|exact ag.nil|exact ag.one _|exact ag.lI (by repeat' (first|exact True.intro|refine And.intro ?_ ?_|exact Compat.ne rfl|exact bO id|exact ca id))) ?_|fail)
 all_goals
  show aC _ _ _ _ _ _ _ _
  refine b6 (junk:=_) (.inr rfl) (fun m hm=>rfl) ?_ (kU _ _) rfl (dw _ _ _ _ _)
  rfl
theorem JN (b:Kn) (ha:cw (bP A B C p) w (x-1) y=none) (hb:cw (bP A B C p) w x (y-1)=some b) (hc:cw (bP A B C p) w (x-1) (y-1)=none) :
 bn Tryz.prog 70 [.one (.ptr 0 0),.one (.int .i64 mb),.one (.int .i64 k),.one (.int .i64 q)] (bU cols rows A B C) (j4 (jG (none) (some b) (none) q)) (bU cols rows A B C):=by
 have hI:=fv cols rows mb k A B C hcr
 rw [hin]at hI
 have hbb:=fF b;unfold gW at hbb;
 refine cO Tryz.func70 ?_
 repeat' (first
  |(refine qz ?_;first
   |refine aD (aK hI 0 1 2 3 (by decide) rfl rfl rfl rfl rfl rfl rfl) rfl rfl rfl rfl rfl rfl (by kernel_rfl) rfl ?_
   |refine aD (aK hpl 0 1 2 3 (by decide) rfl rfl rfl rfl rfl rfl rfl) rfl rfl rfl rfl rfl rfl (by kernel_rfl) rfl ?_
   |refine aD (aK (hU ha hp (by omega) (by omega)) 0 1 2 3 (by decide) rfl rfl rfl rfl rfl (by simp [XV.shut,X1.shut,XC.shut,bp]) rfl) rfl rfl rfl rfl rfl rfl (by kernel_rfl) rfl ?_
   |refine aD (aK (eT hb hp (by omega) (by omega)) 0 1 2 3 (by decide) rfl rfl rfl rfl rfl (by simp [XV.shut,X1.shut,XC.shut,bp]) rfl) rfl rfl rfl rfl rfl rfl (by kernel_rfl) rfl ?_
   |refine aD (aK (hU hc hp (by omega) (by omega)) 0 1 2 3 (by decide) rfl rfl rfl rfl rfl (by simp [XV.shut,X1.shut,XC.shut,bp]) rfl) rfl rfl rfl rfl rfl rfl (by kernel_rfl) rfl ?_
   |refine aD (aA (gh _) (by simp [XV.shut,bp]) rfl rfl) rfl rfl rfl rfl rfl rfl (by kernel_rfl) rfl ?_
   |refine aD (aA (jA _ _ (by omega) (by omega)) rfl rfl rfl) rfl rfl rfl rfl rfl rfl (by kernel_rfl) rfl ?_
   |refine aD (aA (dA _ _ (by omega)) rfl rfl rfl) rfl rfl rfl rfl rfl rfl (by kernel_rfl) rfl ?_)
  |refine zz ?_|refine zx (fun _=>?_) (fun _=>?_)|refine bq (by first|exact ag.nil|exact ag.one _|exact ag.lI (by repeat' (first|exact True.intro|refine And.intro ?_ ?_|exact Compat.ne rfl|exact bO id|exact ca id))) ⟨by kernel_rfl,?_⟩|refine bq (by first|exact ag.nil|exact ag.one _|exact ag.lI (by repeat' (first|exact True.intro|refine And.intro ?_ ?_|exact Compat.ne rfl|exact bO id|exact ca id))) ?_|fail)
 all_goals
  show aC _ _ _ _ _ _ _ _
  refine b6 (junk:=_) (.inr rfl) (fun m hm=>rfl) ?_ (kU _ _) rfl (dw _ _ _ _ _)
  rfl
theorem JM (c:Kn) (ha:cw (bP A B C p) w (x-1) y=none) (hb:cw (bP A B C p) w x (y-1)=none) (hc:cw (bP A B C p) w (x-1) (y-1)=some c) :
 bn Tryz.prog 70 [.one (.ptr 0 0),.one (.int .i64 mb),.one (.int .i64 k),.one (.int .i64 q)] (bU cols rows A B C) (j4 (jG (none) (none) (some c) q)) (bU cols rows A B C):=by
 have hI:=fv cols rows mb k A B C hcr
 rw [hin]at hI
 have hcb:=fF c;unfold gW at hcb;
 refine cO Tryz.func70 ?_
 repeat' (first
  |(refine qz ?_;first
   |refine aD (aK hI 0 1 2 3 (by decide) rfl rfl rfl rfl rfl rfl rfl) rfl rfl rfl rfl rfl rfl (by kernel_rfl) rfl ?_
   |refine aD (aK hpl 0 1 2 3 (by decide) rfl rfl rfl rfl rfl rfl rfl) rfl rfl rfl rfl rfl rfl (by kernel_rfl) rfl ?_
   |refine aD (aK (hU ha hp (by omega) (by omega)) 0 1 2 3 (by decide) rfl rfl rfl rfl rfl (by simp [XV.shut,X1.shut,XC.shut,bp]) rfl) rfl rfl rfl rfl rfl rfl (by kernel_rfl) rfl ?_
   |refine aD (aK (hU hb hp (by omega) (by omega)) 0 1 2 3 (by decide) rfl rfl rfl rfl rfl (by simp [XV.shut,X1.shut,XC.shut,bp]) rfl) rfl rfl rfl rfl rfl rfl (by kernel_rfl) rfl ?_
   |refine aD (aK (eT hc hp (by omega) (by omega)) 0 1 2 3 (by decide) rfl rfl rfl rfl rfl (by simp [XV.shut,X1.shut,XC.shut,bp]) rfl) rfl rfl rfl rfl rfl rfl (by kernel_rfl) rfl ?_
   |refine aD (aA (gh _) (by simp [XV.shut,bp]) rfl rfl) rfl rfl rfl rfl rfl rfl (by kernel_rfl) rfl ?_
   |refine aD (aA (jA _ _ (by omega) (by omega)) rfl rfl rfl) rfl rfl rfl rfl rfl rfl (by kernel_rfl) rfl ?_
   |refine aD (aA (dA _ _ (by omega)) rfl rfl rfl) rfl rfl rfl rfl rfl rfl (by kernel_rfl) rfl ?_)
  |refine zz ?_|refine zx (fun _=>?_) (fun _=>?_)|refine bq (by first|exact ag.nil|exact ag.one _|exact ag.lI (by repeat' (first|exact True.intro|refine And.intro ?_ ?_|exact Compat.ne rfl|exact bO id|exact ca id))) ⟨by kernel_rfl,?_⟩|refine bq (by first|exact ag.nil|exact ag.one _|exact ag.lI (by repeat' (first|exact True.intro|refine And.intro ?_ ?_|exact Compat.ne rfl|exact bO id|exact ca id))) ?_|fail)
 all_goals
  show aC _ _ _ _ _ _ _ _
  refine b6 (junk:=_) (.inr rfl) (fun m hm=>rfl) ?_ (kU _ _) rfl (dw _ _ _ _ _)
  rfl
theorem JL (ha:cw (bP A B C p) w (x-1) y=none) (hb:cw (bP A B C p) w x (y-1)=none) (hc:cw (bP A B C p) w (x-1) (y-1)=none) :
 bn Tryz.prog 70 [.one (.ptr 0 0),.one (.int .i64 mb),.one (.int .i64 k),.one (.int .i64 q)] (bU cols rows A B C) (j4 (jG (none) (none) (none) q)) (bU cols rows A B C):=by
 have hI:=fv cols rows mb k A B C hcr
 rw [hin]at hI
 skip
 refine cO Tryz.func70 ?_
 repeat' (first
  |(refine qz ?_;first
   |refine aD (aK hI 0 1 2 3 (by decide) rfl rfl rfl rfl rfl rfl rfl) rfl rfl rfl rfl rfl rfl (by kernel_rfl) rfl ?_
   |refine aD (aK hpl 0 1 2 3 (by decide) rfl rfl rfl rfl rfl rfl rfl) rfl rfl rfl rfl rfl rfl (by kernel_rfl) rfl ?_
   |refine aD (aK (hU ha hp (by omega) (by omega)) 0 1 2 3 (by decide) rfl rfl rfl rfl rfl (by simp [XV.shut,X1.shut,XC.shut,bp]) rfl) rfl rfl rfl rfl rfl rfl (by kernel_rfl) rfl ?_
   |refine aD (aK (hU hb hp (by omega) (by omega)) 0 1 2 3 (by decide) rfl rfl rfl rfl rfl (by simp [XV.shut,X1.shut,XC.shut,bp]) rfl) rfl rfl rfl rfl rfl rfl (by kernel_rfl) rfl ?_
   |refine aD (aK (hU hc hp (by omega) (by omega)) 0 1 2 3 (by decide) rfl rfl rfl rfl rfl (by simp [XV.shut,X1.shut,XC.shut,bp]) rfl) rfl rfl rfl rfl rfl rfl (by kernel_rfl) rfl ?_
   |refine aD (aA (gh _) (by simp [XV.shut,bp]) rfl rfl) rfl rfl rfl rfl rfl rfl (by kernel_rfl) rfl ?_
   |refine aD (aA (jA _ _ (by omega) (by omega)) rfl rfl rfl) rfl rfl rfl rfl rfl rfl (by kernel_rfl) rfl ?_
   |refine aD (aA (dA _ _ (by omega)) rfl rfl rfl) rfl rfl rfl rfl rfl rfl (by kernel_rfl) rfl ?_)
  |refine zz ?_|refine zx (fun _=>?_) (fun _=>?_)|refine bq (by first|exact ag.nil|exact ag.one _|exact ag.lI (by repeat' (first|exact True.intro|refine And.intro ?_ ?_|exact Compat.ne rfl|exact bO id|exact ca id))) ⟨by kernel_rfl,?_⟩|refine bq (by first|exact ag.nil|exact ag.one _|exact ag.lI (by repeat' (first|exact True.intro|refine And.intro ?_ ?_|exact Compat.ne rfl|exact bO id|exact ca id))) ?_|fail)
 all_goals
  show aC _ _ _ _ _ _ _ _
  refine b6 (junk:=_) (.inr rfl) (fun m hm=>rfl) ?_ (kU _ _) rfl (dw _ _ _ _ _)
  rfl
end
end Go.Proofs.YtagpkhindehcbaaGreat
