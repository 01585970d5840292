/-
  A part of the proof: PrExpB.
-/
import Derived.Test.YtnkodcmkpfefhaaGreatEeI
set_option maxRecDepth 10000
set_option maxHeartbeats 8000000
set_option linter.unusedVariables false
set_option linter.unusedSectionVars false
set_option linter.unusedSimpArgs false
namespace Go.Proofs.YtnkodcmkpfefhaaGreat
open Go.Xm
variable [aw]
section
variable (cols rows mb k p w x y q:Int) (A B C:mS) (hin:fQ cols rows mb k=true) (hcr:0<=cols*rows/\cols*rows<=64)
 (hpl:aW Tryz.prog 128 [.one (.ptr 0 0),.one (.int .i64 mb),.one (.int .i64 k)] (bt cols rows A B C) (.tup [.one (.int .i64 p),.one (.int .i64 w),.one (.int .i64 x),.one (.int .i64 y)]) (bt cols rows A B C))
 (hp:p=0\/p=1\/p=2) (hyw : -1000<=y*w/\y*w<=1000) (hyw1 : -1000<=(y-1)*w/\(y-1)*w<=1000) (hx:0<=x/\x<=1000) (hy:0<=y/\y<=1000)
include hin hcr hpl hp hyw hyw1 hx hy
theorem GV(b:Kn)(c:Kn)(ha:b8 (bE A B C p) w (x-1) y=none)(hb:b8 (bE A B C p) w x (y-1)=some b)(hc:b8 (bE A B C p) w (x-1) (y-1)=some c) :
 aW Tryz.prog 127 [.one (.ptr 0 0),.one (.int .i64 mb),.one (.int .i64 k),.one (.int .i64 q)] (bt cols rows A B C) (iU (jb (none) (some b) (some c) q)) (bt cols rows A B C):=by
 have hI:=d8 cols rows mb k A B C hcr
 rw[hin]at hI
 have hbb:=ee b;unfold gU at hbb;have hcb:=ee c;unfold gU at hcb;
 refine cO Tryz.func127 ?_
 repeat' (first
  |(refine qz ?_;first
   |refine aA (aF hI 0 1 2 3 (by decide) rfl rfl rfl rfl rfl rfl rfl) rfl rfl rfl rfl rfl rfl (by kernel_rfl) rfl ?_
   |refine aA (aF hpl 0 1 2 3 (by decide) rfl rfl rfl rfl rfl rfl rfl) rfl rfl rfl rfl rfl rfl (by kernel_rfl) rfl ?_
   |refine aA (aF (fN ha hp (by omega) (by omega)) 0 1 2 3 (by decide) rfl rfl rfl rfl rfl (by simp[XV.shut,X1.shut,XC.shut,aY]) rfl) rfl rfl rfl rfl rfl rfl (by kernel_rfl) rfl ?_
   |refine aA (aF (dM hb hp (by omega) (by omega)) 0 1 2 3 (by decide) rfl rfl rfl rfl rfl (by simp[XV.shut,X1.shut,XC.shut,aY]) rfl) rfl rfl rfl rfl rfl rfl (by kernel_rfl) rfl ?_
   |refine aA (aF (dM hc hp (by omega) (by omega)) 0 1 2 3 (by decide) rfl rfl rfl rfl rfl (by simp[XV.shut,X1.shut,XC.shut,aY]) rfl) rfl rfl rfl rfl rfl rfl (by kernel_rfl) rfl ?_
   |refine aA (au (eU _) (by simp[XV.shut,aY]) rfl rfl) rfl rfl rfl rfl rfl rfl (by kernel_rfl) rfl ?_
   |refine aA (au (ik _ _ (by omega) (by omega)) rfl rfl rfl) rfl rfl rfl rfl rfl rfl (by kernel_rfl) rfl ?_
   |refine aA (au (cS _ _ (by omega)) rfl rfl rfl) rfl rfl rfl rfl rfl rfl (by kernel_rfl) rfl ?_)
  |refine zz ?_|refine zx (fun _=>?_) (fun _=>?_)|refine aS (by first|exact af.nil|exact af.one _|exact af.i3 (by repeat' (first|exact True.intro|refine And.intro ?_ ?_|exact Compat.ne rfl|exact bp id|exact bM id))) ⟨by kernel_rfl,?_⟩|refine aS (by first|exact af.nil|exact af.one _|exact af.i3 (by repeat' (first|exact True.intro|refine And.intro ?_ ?_|exact Compat.ne rfl|exact bp id|exact bM id))) ?_|fail)
 all_goals
  show aD _ _ _ _ _ _ _ _
  refine bD (junk:=_) (.inr rfl) (fun m hm=>rfl) ?_ (jE _ _) rfl (cL _ _ _ _ _)
  rfl
theorem GU(b:Kn)(ha:b8 (bE A B C p) w (x-1) y=none)(hb:b8 (bE A B C p) w x (y-1)=some b)(hc:b8 (bE A B C p) w (x-1) (y-1)=none) :
 aW Tryz.prog 127 [.one (.ptr 0 0),.one (.int .i64 mb),.one (.int .i64 k),.one (.int .i64 q)] (bt cols rows A B C) (iU (jb (none) (some b) (none) q)) (bt cols rows A B C):=by
 have hI:=d8 cols rows mb k A B C hcr
 rw[hin]at hI
 have hbb:=ee b;unfold gU at hbb;
 refine cO Tryz.func127 ?_
 repeat' (first
  |(refine qz ?_;first
   |refine aA (aF hI 0 1 2 3 (by decide) rfl rfl rfl rfl rfl rfl rfl) rfl rfl rfl rfl rfl rfl (by kernel_rfl) rfl ?_
   |refine aA (aF hpl 0 1 2 3 (by decide) rfl rfl rfl rfl rfl rfl rfl) rfl rfl rfl rfl rfl rfl (by kernel_rfl) rfl ?_
   |refine aA (aF (fN ha hp (by omega) (by omega)) 0 1 2 3 (by decide) rfl rfl rfl rfl rfl (by simp[XV.shut,X1.shut,XC.shut,aY]) rfl) rfl rfl rfl rfl rfl rfl (by kernel_rfl) rfl ?_
   |refine aA (aF (dM hb hp (by omega) (by omega)) 0 1 2 3 (by decide) rfl rfl rfl rfl rfl (by simp[XV.shut,X1.shut,XC.shut,aY]) rfl) rfl rfl rfl rfl rfl rfl (by kernel_rfl) rfl ?_
   |refine aA (aF (fN hc hp (by omega) (by omega)) 0 1 2 3 (by decide) rfl rfl rfl rfl rfl (by simp[XV.shut,X1.shut,XC.shut,aY]) rfl) rfl rfl rfl rfl rfl rfl (by kernel_rfl) rfl ?_
   |refine aA (au (eU _) (by simp[XV.shut,aY]) rfl rfl) rfl rfl rfl rfl rfl rfl (by kernel_rfl) rfl ?_
   |refine aA (au (ik _ _ (by omega) (by omega)) rfl rfl rfl) rfl rfl rfl rfl rfl rfl (by kernel_rfl) rfl ?_
   |refine aA (au (cS _ _ (by omega)) rfl rfl rfl) rfl rfl rfl rfl rfl rfl (by kernel_rfl) rfl ?_)
  |refine zz ?_|refine zx (fun _=>?_) (fun _=>?_)|refine aS (by first|exact af.nil|exact af.one _|exact af.i3 (by repeat' (first|exact True.intro|refine And.intro ?_ ?_|exact Compat.ne rfl|exact bp id|exact bM id))) ⟨by kernel_rfl,?_⟩|refine aS (by first|exact af.nil|exact af.one _|exact af.i3 (by repeat' (first|exact True.intro|refine And.intro ?_ ?_|exact Compat.ne rfl|exact bp id|exact bM id))) ?_|fail)
 all_goals
  show aD _ _ _ _ _ _ _ _
  refine bD (junk:=_) (.inr rfl) (fun m hm=>rfl) ?_ (jE _ _) rfl (cL _ _ _ _ _)
  rfl
theorem GS(c:Kn)(ha:b8 (bE A B C p) w (x-1) y=none)(hb:b8 (bE A B C p) w x (y-1)=none)(hc:b8 (bE A B C p) w (x-1) (y-1)=some c) :
 aW Tryz.prog 127 [.one (.ptr 0 0),.one (.int .i64 mb),.one (.int .i64 k),.one (.int .i64 q)] (bt cols rows A B C) (iU (jb (none) (none) (some c) q)) (bt cols rows A B C):=by
 have hI:=d8 cols rows mb k A B C hcr
 rw[hin]at hI
 have hcb:=ee c;unfold gU at hcb;
 refine cO Tryz.func127 ?_
 repeat' (first
  |(refine qz ?_;first
   |refine aA (aF hI 0 1 2 3 (by decide) rfl rfl rfl rfl rfl rfl rfl) rfl rfl rfl rfl rfl rfl (by kernel_rfl) rfl ?_
   |refine aA (aF hpl 0 1 2 3 (by decide) rfl rfl rfl rfl rfl rfl rfl) rfl rfl rfl rfl rfl rfl (by kernel_rfl) rfl ?_
   |refine aA (aF (fN ha hp (by omega) (by omega)) 0 1 2 3 (by decide) rfl rfl rfl rfl rfl (by simp[XV.shut,X1.shut,XC.shut,aY]) rfl) rfl rfl rfl rfl rfl rfl (by kernel_rfl) rfl ?_
   |refine aA (aF (fN hb hp (by omega) (by omega)) 0 1 2 3 (by decide) rfl rfl rfl rfl rfl (by simp[XV.shut,X1.shut,XC.shut,aY]) rfl) rfl rfl rfl rfl rfl rfl (by kernel_rfl) rfl ?_
   |refine aA (aF (dM hc hp (by omega) (by omega)) 0 1 2 3 (by decide) rfl rfl rfl rfl rfl (by simp[XV.shut,X1.shut,XC.shut,aY]) rfl) rfl rfl rfl rfl rfl rfl (by kernel_rfl) rfl ?_
   |refine aA (au (eU _) (by simp[XV.shut,aY]) rfl rfl) rfl rfl rfl rfl rfl rfl (by kernel_rfl) rfl ?_
   |refine aA (au (ik _ _ (by omega) (by omega)) rfl rfl rfl) rfl rfl rfl rfl rfl rfl (by kernel_rfl) rfl ?_
   |refine aA (au (cS _ _ (by omega)) rfl rfl rfl) rfl rfl rfl rfl rfl rfl (by kernel_rfl) rfl ?_)
  |refine zz ?_|refine zx (fun _=>?_) (fun _=>?_)|refine aS (by first|exact af.nil|exact af.one _|exact af.i3 (by repeat' (first|exact True.intro|refine And.intro ?_ ?_|exact Compat.ne rfl|exact bp id|exact bM id))) ⟨by kernel_rfl,?_⟩|refine aS (by first|exact af.nil|exact af.one _|exact af.i3 (by repeat' (first|exact True.intro|refine And.intro ?_ ?_|exact Compat.ne rfl|exact bp id|exact bM id))) ?_|fail)
 all_goals
  show aD _ _ _ _ _ _ _ _
  refine bD (junk:=_) (.inr rfl) (fun m hm=>rfl) ?_ (jE _ _) rfl (cL _ _ _ _ _)
  rfl
theorem GR(ha:b8 (bE A B C p) w (x-1) y=none)(hb:b8 (bE A B C p) w x (y-1)=none)(hc:b8 (bE A B C p) w (x-1) (y-1)=none) :
 aW Tryz.prog 127 [.one (.ptr 0 0),.one (.int .i64 mb),.one (.int .i64 k),.one (.int .i64 q)] (bt cols rows A B C) (iU (jb (none) (none) (none) q)) (bt cols rows A B C):=by
 have hI:=d8 cols rows mb k A B C hcr
 rw[hin]at hI
 skip
 refine cO Tryz.func127 ?_
 repeat' (first
  |(refine qz ?_;first
   |refine aA (aF hI 0 1 2 3 (by decide) rfl rfl rfl rfl rfl rfl rfl) rfl rfl rfl rfl rfl rfl (by kernel_rfl) rfl ?_
   |refine aA (aF hpl 0 1 2 3 (by decide) rfl rfl rfl rfl rfl rfl rfl) rfl rfl rfl rfl rfl rfl (by kernel_rfl) rfl ?_
   |refine aA (aF (fN ha hp (by omega) (by omega)) 0 1 2 3 (by decide) rfl rfl rfl rfl rfl (by simp[XV.shut,X1.shut,XC.shut,aY]) rfl) rfl rfl rfl rfl rfl rfl (by kernel_rfl) rfl ?_
   |refine aA (aF (fN hb hp (by omega) (by omega)) 0 1 2 3 (by decide) rfl rfl rfl rfl rfl (by simp[XV.shut,X1.shut,XC.shut,aY]) rfl) rfl rfl rfl rfl rfl rfl (by kernel_rfl) rfl ?_
   |refine aA (aF (fN hc hp (by omega) (by omega)) 0 1 2 3 (by decide) rfl rfl rfl rfl rfl (by simp[XV.shut,X1.shut,XC.shut,aY]) rfl) rfl rfl rfl rfl rfl rfl (by kernel_rfl) rfl ?_
   |refine aA (au (eU _) (by simp[XV.shut,aY]) rfl rfl) rfl rfl rfl rfl rfl rfl (by kernel_rfl) rfl ?_
   |refine aA (au (ik _ _ (by omega) (by omega)) rfl rfl rfl) rfl rfl rfl rfl rfl rfl (by kernel_rfl) rfl ?_
   |refine aA (au (cS _ _ (by omega)) rfl rfl rfl) rfl rfl rfl rfl rfl rfl (by kernel_rfl) rfl ?_)
  |refine zz ?_|refine zx (fun _=>?_) (fun _=>?_)|refine aS (by first|exact af.nil|exact af.one _|exact af.i3 (by repeat' (first|exact True.intro|refine And.intro ?_ ?_|exact Compat.ne rfl|exact bp id|exact bM id))) ⟨by kernel_rfl,?_⟩|refine aS (by first|exact af.nil|exact af.one _|exact af.i3 (by repeat' (first|exact True.intro|refine And.intro ?_ ?_|exact Compat.ne rfl|exact bp id|exact bM id))) ?_|fail)
 all_goals
  show aD _ _ _ _ _ _ _ _
  refine bD (junk:=_) (.inr rfl) (fun m hm=>rfl) ?_ (jE _ _) rfl (cL _ _ _ _ _)
  rfl
end
end Go.Proofs.YtnkodcmkpfefhaaGreat
