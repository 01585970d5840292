/-
  scan.Order(k).Places() for any other k, run.
-/
import Derived.Test.YtghonmdgklbieaaProg
import Derived.Test.YtghonmdgklbieaaXmBridge
import Derived.KernelRfl
namespace Go.Proofs.Ytghonmdgklbieaa
open Go.Xm
noncomputable section
def listA : List Int := [0, 1, 8, 16, 9, 2, 3, 10, 17, 24, 32, 25, 18, 11, 4, 5, 12, 19, 26, 33, 40, 48, 41, 34, 27, 20, 13, 6, 7, 14, 21, 28, 35, 42, 49, 56, 57, 50, 43, 36, 29, 22, 15, 23, 30, 37, 44, 51, 58, 59, 52, 45, 38, 31, 39, 46, 53, 60, 61, 54, 47, 55, 62, 63]
/-- Number 0 is neither 1 nor 2. -/
def other : BinOp → Int → Option XC
  | .eql, 1 => some (.bool false)
  | .eql, 2 => some (.bool false)
  | _, _ => .none
def orcA : Orc := ⟨fun _ _ _ => .none, atomOp other⟩
def rowA : Row1 := ⟨7, [.one (.atom 0)], .agg (listA.map (.int .i64))⟩
theorem runA : ((ycall orcA Try.prog 100000 60).call rowA.f rowA.args Mem.empty).map (·.1) = some rowA.v := by kernel_rfl
end
end Go.Proofs.Ytghonmdgklbieaa
