/-
  ScanBack, run.
-/
import Derived.Test.YtghonmdgklbieaaRunsO
namespace Go.Proofs.Ytghonmdgklbieaa
open Go.Xm
noncomputable section

/-- Sixty-four numbers. -/
def block : List XC := (List.range 64).map fun i => .atom (i + 1)
def rowBack (x : XC) : Row1 := ⟨5, [.one x, .agg block], yes⟩
theorem runBack1 : ((ycall orcOther Try.prog 100000 60).call (rowBack (.int .u8 1)).f (rowBack (.int .u8 1)).args Mem.empty).map (·.1) = some yes := by kernel_rfl
theorem runBack2 : ((ycall orcOther Try.prog 100000 60).call (rowBack (.int .u8 2)).f (rowBack (.int .u8 2)).args Mem.empty).map (·.1) = some yes := by kernel_rfl
theorem runBackA : ((ycall orcOther Try.prog 100000 60).call (rowBack (.atom 0)).f (rowBack (.atom 0)).args Mem.empty).map (·.1) = some yes := by kernel_rfl
end
end Go.Proofs.Ytghonmdgklbieaa
