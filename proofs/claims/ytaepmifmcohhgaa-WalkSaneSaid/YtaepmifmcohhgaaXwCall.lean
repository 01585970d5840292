/-
  The second machine, with variables in its states: calls.
-/
import Derived.Test.YtaepmifmcohhgaaXwOps
namespace Go.Xm
set_option linter.unusedSectionVars false
variable [Atoms]

def argRegs : List XV → Nat → Regs
  | [], _ => []
  | x :: l, i => (i, x) :: argRegs l (i + 1)

theorem rg_argRegs : ∀ (l : List XV) (i j : Nat), rg (argRegs l i) j = if i ≤ j ∧ j < i + l.length then l.getD (j - i) .undef else .undef
  | [], i, j => by simp [argRegs, rg]
  | x :: l, i, j => by
    simp only [argRegs, rg, List.length_cons]
    by_cases h : j = i
    · subst h
      rw [if_pos rfl, if_pos (by omega)]
      simp
    · rw [if_neg h, rg_argRegs l (i + 1) j]
      by_cases h1 : i + 1 ≤ j ∧ j < i + 1 + l.length
      · rw [if_pos h1, if_pos (by omega)]
        obtain ⟨k, hk⟩ : ∃ k, j - i = k + 1 := ⟨j - i - 1, by omega⟩
        rw [hk, show j - (i + 1) = k by omega]
        rfl
      · rw [if_neg h1, if_neg (by omega)]

/-- What the function hands back, from these registers and objects. -/
def ResX (P : Program) (fn : Func) (al : Regs) (hs : Heap) (v : XV) : Prop := ∀ m, Holds m hs → xresults P fn (rg al) m = some v

/-- A function's run ends with this. -/
def KRet (P : Program) (fn : Func) (v : XV) (hs' : Heap) : Post1 := fun e al hs => (e = .normal ∨ e = .ret) ∧ ResX P fn al hs v ∧ hs = hs'

theorem holds_empty : Holds Mem.empty [] := ⟨rfl, Nat.zero_le _, fresh_empty, fun i hi => absurd hi (Nat.not_lt_zero i)⟩

def memOf : Heap → Mem
  | hs => hs.foldl (fun m o => (m.push o).getD m) Mem.empty

theorem holds_memOf (hs : Heap) (hb : hs.length < Mem.bound) : Holds (memOf hs) hs := by
  have : ∀ (l k : Heap) (m : Mem), Holds m k → k.length + l.length < Mem.bound → Holds (l.foldl (fun m o => (m.push o).getD m) m) (k ++ l) := by
    intro l
    induction l with
    | nil => intro k m hm _; simpa using hm
    | cons o l ih =>
      intro k m hm hlen
      simp only [List.length_cons] at hlen
      obtain ⟨m', h1, h2, _⟩ := hm.push o (by omega)
      simp only [List.foldl_cons, h1, Option.getD_some]
      have := ih (k ++ [o]) m' h2 (by simp; omega)
      simpa using this
  have h := this hs [] Mem.empty holds_empty (by simpa using hb)
  simpa [memOf] using h

/-- A function that is known: it leaves what was there. -/
def Fun (P : Program) (f : FuncId) (args : List XV) (v : XV) : Prop := ∀ m, CallSound P f args m v m

theorem fun_of_ran {P : Program} {r : Row1} (h : r.Ran P) : Fun P r.f r.args r.v := by
  obtain ⟨h1, m', h2⟩ := h
  simp only [Row1.shutB, Bool.and_eq_true, List.all_eq_true] at h1
  exact fun m => forget h2 h1.1 h1.2 m

/-- Calls that are known. -/
theorem fun_sound {P : Program} {S : FuncId → List XV → Option XV} (h : ∀ f args v, S f args = some v → Fun P f args v) : OrcSound P ⟨fun f args m => (S f args).map fun v => (v, m), fun _ _ => .none⟩ := by
  have main : ∀ (f : FuncId) (args : List XV) (m : Mem) (v : XV) (m' : Mem), (S f args).map (fun v => (v, m)) = some (v, m') → S f args = some v ∧ m' = m := by
    intro f args m v m' he
    obtain ⟨x, h1, h2⟩ := Option.map_eq_some_iff.1 he
    cases h2
    exact ⟨h1, rfl⟩
  refine ⟨fun f args m v m' he => ?_, fun f args m v m' he => ?_, fun _ _ _ he => (by cases he)⟩
  · obtain ⟨h1, rfl⟩ := main f args m v m' he
    exact h f args v h1 _
  · obtain ⟨_, rfl⟩ := main f args m v m' he
    exact .same _

/-- A call of such a function. -/
theorem OpStep.callf {P : Program} {S : FuncId → List XV → Option XV} {op' : Op → List XV → Option XV} {ops : Array Oper} {al : Regs} {hs : Heap} {o : Oper} (hw : xwanted ops (rg al) o = some true) {g : Operand} {args : Array Operand} {ts : Array TypeId} (ho : o.op = .call ⟨.value g, args, ts⟩) {f : FuncId} (hg : xeval (rg al) g = .one (.fn f)) (hcb : xcallable P f = true) {vs : List XV} (ha : args.toList.map (xeval (rg al)) = vs)
    {x : XV} (hc : S f vs = some x) : OpStep ⟨fun f args m => (S f args).map fun v => (v, m), op'⟩ P ops al hs o x hs ⟨true, .none, []⟩ :=
  OpStep.call hw ho hg hcb ha fun m hm => ⟨m, by simp only [hc, Option.map_some], hm, fun _ _ => rfl⟩

end Go.Xm
