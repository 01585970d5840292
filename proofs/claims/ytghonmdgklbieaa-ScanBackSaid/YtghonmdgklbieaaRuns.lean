/-
  The laws of kinescopelaw09, run with what scan.Order.Places was seen to give.
-/
import Derived.Test.YtghonmdgklbieaaPl0
import Derived.Test.YtghonmdgklbieaaPl1
import Derived.Test.YtghonmdgklbieaaPl2
import Derived.Test.YtghonmdgklbieaaPlA
namespace Go.Proofs.Ytghonmdgklbieaa
open Go.Xm
noncomputable section
def yes : XV := .one (.bool true)
def rowAwake : Row1 := ⟨6, [], yes⟩
def orcAwake : Orc := ⟨xlook [row0], fun _ _ => .none⟩
theorem runAwake : ((ycall orcAwake Try.prog 100000 60).call rowAwake.f rowAwake.args Mem.empty).map (·.1) = some rowAwake.v := by kernel_rfl

def tabN : List Row1 := [rowAwake, row0, row1, row2]
def tab : List Row1 := [rowAwake, row0, row1, row2, rowA]
/-- ScanNear: what is left of number 0 by three. -/
def rest (r : Int) : BinOp → Int → Option XC
  | .rem, 3 => some (.int .u8 r)
  | _, _ => .none
def rowNear : Row1 := ⟨4, [.one (.atom 0)], yes⟩
def orcNear (r : Int) : Orc := ⟨xlook tabN, atomOp (rest r)⟩
theorem runNear0 : ((ycall (orcNear 0) Try.prog 100000 60).call rowNear.f rowNear.args Mem.empty).map (·.1) = some rowNear.v := by kernel_rfl
theorem runNear1 : ((ycall (orcNear 1) Try.prog 100000 60).call rowNear.f rowNear.args Mem.empty).map (·.1) = some rowNear.v := by kernel_rfl
theorem runNear2 : ((ycall (orcNear 2) Try.prog 100000 60).call rowNear.f rowNear.args Mem.empty).map (·.1) = some rowNear.v := by kernel_rfl
end
end Go.Proofs.Ytghonmdgklbieaa
