/-
  scan.Order(2).Places(), run.
-/
import Derived.Test.YtghonmdgklbieaaProg
import Derived.Test.YtghonmdgklbieaaXmBridge
import Derived.KernelRfl
namespace Go.Proofs.Ytghonmdgklbieaa
open Go.Xm
noncomputable section
def list2 : List Int := [0, 8, 1, 16, 9, 24, 17, 32, 25, 40, 33, 48, 41, 56, 49, 57, 2, 10, 3, 18, 11, 26, 19, 34, 27, 42, 35, 50, 43, 58, 51, 59, 4, 12, 5, 20, 13, 28, 21, 36, 29, 44, 37, 52, 45, 60, 53, 61, 6, 14, 7, 22, 15, 30, 23, 38, 31, 46, 39, 54, 47, 62, 55, 63]
def row2 : Row1 := ⟨7, [.one (.int .u8 2)], .agg (list2.map (.int .i64))⟩
theorem run2 : ((ycall noOrc Try.prog 100000 60).call row2.f row2.args Mem.empty).map (·.1) = some row2.v := by kernel_rfl
end
end Go.Proofs.Ytghonmdgklbieaa
