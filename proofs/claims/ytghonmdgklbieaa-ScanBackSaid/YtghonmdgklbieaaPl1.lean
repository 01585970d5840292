/-
  scan.Order(1).Places(), run.
-/
import Derived.Test.YtghonmdgklbieaaProg
import Derived.Test.YtghonmdgklbieaaXmBridge
import Derived.KernelRfl
namespace Go.Proofs.Ytghonmdgklbieaa
open Go.Xm
noncomputable section
def list1 : List Int := [0, 1, 8, 2, 9, 3, 10, 4, 11, 5, 12, 6, 13, 7, 14, 15, 16, 17, 24, 18, 25, 19, 26, 20, 27, 21, 28, 22, 29, 23, 30, 31, 32, 33, 40, 34, 41, 35, 42, 36, 43, 37, 44, 38, 45, 39, 46, 47, 48, 49, 56, 50, 57, 51, 58, 52, 59, 53, 60, 54, 61, 55, 62, 63]
def row1 : Row1 := ⟨7, [.one (.int .u8 1)], .agg (list1.map (.int .i64))⟩
theorem run1 : ((ycall noOrc Try.prog 100000 60).call row1.f row1.args Mem.empty).map (·.1) = some row1.v := by kernel_rfl
end
end Go.Proofs.Ytghonmdgklbieaa
