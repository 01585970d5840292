/-
  ScanOrders, run.
-/
import Derived.Test.YtghonmdgklbieaaRuns
namespace Go.Proofs.Ytghonmdgklbieaa
open Go.Xm
noncomputable section
def orcOther : Orc := ⟨xlook tab, atomOp other⟩
def rowOrders (x : XC) : Row1 := ⟨3, [.one x], yes⟩
theorem runOrders1 : ((ycall orcOther Try.prog 100000 60).call (rowOrders (.int .u8 1)).f (rowOrders (.int .u8 1)).args Mem.empty).map (·.1) = some yes := by kernel_rfl
theorem runOrders2 : ((ycall orcOther Try.prog 100000 60).call (rowOrders (.int .u8 2)).f (rowOrders (.int .u8 2)).args Mem.empty).map (·.1) = some yes := by kernel_rfl
theorem runOrdersA : ((ycall orcOther Try.prog 100000 60).call (rowOrders (.atom 0)).f (rowOrders (.atom 0)).args Mem.empty).map (·.1) = some yes := by kernel_rfl
end
end Go.Proofs.Ytghonmdgklbieaa
