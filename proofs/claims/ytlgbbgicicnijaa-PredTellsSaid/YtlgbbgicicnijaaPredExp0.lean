/-
  A contract: what a table expects of a block, and where from.
-/
import Derived.Test.YtlgbbgicicnijaaPredAt
namespace Go.Proofs.Ytlgbbgicicnijaa
open Go.Xm
set_option linter.unusedVariables false
set_option linter.unusedSectionVars false
set_option linter.unusedSimpArgs false
variable [Atoms]

def fbOf (b : Kn) : Int := firstBack (b.lv 0) b.qp
theorem fbOf_bnd (b : Kn) : 0 ≤ fbOf b ∧ fbOf b ≤ 121920 := firstBack_bnd _ _
/-- What is expected, by the block to the left, the one above, the one at the corner. -/
def expd (la lb lc : Option Kn) (q : Int) : Int × Int :=
  match la, lb with
  | some a, some b =>
    let m := match lc with
      | some c => fbOf c
      | none => 8192
    if max (fbOf a - m) (m - fbOf a) < max (m - fbOf b) (fbOf b - m) then (2, firstLevel (fbOf b) q) else (1, firstLevel (fbOf a) q)
  | some a, none => (1, firstLevel (fbOf a) q)
  | none, some b => (2, firstLevel (fbOf b) q)
  | none, none => (0, firstLevel 8192 q)
def expV (e : Int × Int) : XV := .tup [.one (.int .u8 e.1), .one (.int .i64 e.2)]
theorem expV_ok (e : Int × Int) (n : Nat) : (expV e).okN n := by simp [expV, XV.okN, X1.ok, XC.ok]

theorem at_some {cols rows p wide x y : Int} {A B C : Tab} {b : Kn} (h : lookAt (pickTab A B C p) wide x y = some b) (hp : p = 0 ∨ p = 1 ∨ p = 2) (hyw : -10000 ≤ y * wide ∧ y * wide ≤ 10000) (hx : -10000 ≤ x ∧ x ≤ 10000) :
    Con Try.prog 22 [.one (.ptr 0 0), .one (.int .i64 p), .one (.int .i64 wide), .one (.int .i64 x), .one (.int .i64 y)] (tabH cols rows A B C) (.tup [.agg (kcells b), .one (.bool true)]) (tabH cols rows A B C) := by
  have := at_con cols rows p wide x y A B C hp hyw hx
  rw [h] at this
  exact this
theorem at_none {cols rows p wide x y : Int} {A B C : Tab} (h : lookAt (pickTab A B C p) wide x y = none) (hp : p = 0 ∨ p = 1 ∨ p = 2) (hyw : -10000 ≤ y * wide ∧ y * wide ≤ 10000) (hx : -10000 ≤ x ∧ x ≤ 10000) :
    Con Try.prog 22 [.one (.ptr 0 0), .one (.int .i64 p), .one (.int .i64 wide), .one (.int .i64 x), .one (.int .i64 y)] (tabH cols rows A B C) (.tup [.agg (kcells noKn), .one (.bool false)]) (tabH cols rows A B C) := by
  have := at_con cols rows p wide x y A B C hp hyw hx
  rw [h] at this
  exact this

theorem kc_inj {a b : Kn} (h : kcells a = kcells b) : (∀ i, i < 64 → a.lv i = b.lv i) ∧ a.qp = b.qp := by
  refine ⟨fun i hi => ?_, ?_⟩
  · have e := kc_lv a i hi
    rw [h, kc_lv b i hi] at e
    simpa using e.symm
  · have e := kc_qp a
    rw [h, kc_qp b] at e
    simpa using e.symm
theorem compat_first {a b : Kn} {h h' g g' : Heap} (e : h = g → h' = g') : Compat ⟨23, [.agg (kcells a)], h, .one (.int .i64 (firstBack (a.lv 0) a.qp)), h', []⟩ ⟨23, [.agg (kcells b)], g, .one (.int .i64 (firstBack (b.lv 0) b.qp)), g', []⟩ := by
  intro _ h2 h3
  simp only [List.cons.injEq, XV.agg.injEq, and_true] at h2
  have := kc_inj h2
  exact ⟨by show XV.one _ = XV.one _; rw [this.1 0 (by omega), this.2], e h3, rfl⟩
theorem compat_away {a b c d : Int} {h h' g g' : Heap} (e : h = g → h' = g') : Compat ⟨24, [.one (.int .i64 a), .one (.int .i64 b)], h, .one (.int .i64 (max (a - b) (b - a))), h', []⟩ ⟨24, [.one (.int .i64 c), .one (.int .i64 d)], g, .one (.int .i64 (max (c - d) (d - c))), g', []⟩ := by
  intro _ h2 h3
  simp only [List.cons.injEq, XV.one.injEq, XC.int.injEq, true_and, and_true] at h2
  obtain ⟨rfl, rfl⟩ := h2
  exact ⟨rfl, e h3, rfl⟩
end Go.Proofs.Ytlgbbgicicnijaa
