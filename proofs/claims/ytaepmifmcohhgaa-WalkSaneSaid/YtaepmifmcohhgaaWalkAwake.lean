/-
  The chapter's example, run.
-/
import Derived.Test.YtaepmifmcohhgaaFacts
namespace Go.Proofs.Ytaepmifmcohhgaa
open Go.Xm
theorem mixed : Try.prog.follows .mixedOrders = true := by kernel_rfl
def rowAwake : Row1 := ⟨5, [], .one (.bool true)⟩
theorem runAwake : ((ycall noOrc Try.prog 100000 60).call rowAwake.f rowAwake.args Mem.empty).map (·.1) = some rowAwake.v := by kernel_rfl
variable [Atoms]
theorem awake_con : Con Try.prog 5 [] [] (.one (.bool true)) [] := con_of_fun (fun_of_ran (r := rowAwake) (ran (noOrc_sound _) mixed runAwake (by kernel_rfl)))
theorem awake_at {HS : Heap} (hb : Nat.blt HS.length Mem.bound = true) : Inst.Sound Try.prog ⟨5, [], HS, .one (.bool true), HS, []⟩ := inst_pure awake_con rfl rfl hb
end Go.Proofs.Ytaepmifmcohhgaa
