/-
  Levels: lists of sixty-four numbers; what comes of two of them, one by one.
-/
import Derived.Test.YtlgbbgicicnijaaProg
import Derived.Test.YtlgbbgicicnijaaXwK
import Derived.KernelRfl
namespace Go.Proofs.Ytlgbbgicicnijaa
open Go.Xm
set_option linter.unusedVariables false
set_option linter.unusedSectionVars false
variable [Atoms]

def ints (l : List Int) : List XC := l.map (.int .i64)
theorem ints_len (l : List Int) : (ints l).length = l.length := by simp [ints]
theorem ints_at {l : List Int} {i : Nat} (h : i < l.length) : (ints l)[i]? = some (.int .i64 (l.getD i 0)) := by
  simp [ints, h, List.getD_eq_getElem?_getD]

theorem size25 : xsize Try.prog 25 = some 64 := by kernel_rfl
theorem size3 : xsize Try.prog 3 = some 1 := by kernel_rfl
theorem agg25 : xisAgg Try.prog 25 = some true := by kernel_rfl
theorem agg3 : xisAgg Try.prog 3 = some false := by kernel_rfl
theorem zero25 : xzero Try.prog 25 = some (ints (List.replicate 64 0)) := by kernel_rfl

def zeros : List Int := List.replicate 64 0

/-- Level i, less what is expected. -/
def mid (f : Nat → Int) (xs : List Int) (i : Nat) : List Int := (List.range 64).map fun k => if k < i then f k else xs.getD k 0
theorem mid_len (f : Nat → Int) (xs : List Int) (i : Nat) : (mid f xs i).length = 64 := by simp [mid]
theorem mid_at (f : Nat → Int) (xs : List Int) (i k : Nat) (hk : k < 64) : (mid f xs i).getD k 0 = if k < i then f k else xs.getD k 0 := by
  simp [mid, List.getD_eq_getElem?_getD, hk]
theorem mid_set (f : Nat → Int) (xs : List Int) (i : Nat) (hi : i < 64) : (ints (mid f xs i)).set i (.int .i64 (f i)) = ints (mid f xs (i + 1)) := by
  apply List.ext_getElem?
  intro k
  by_cases hk : k < 64
  · rw [List.getElem?_set]
    have h1 : (ints (mid f xs i)).length = 64 := by rw [ints_len, mid_len]
    by_cases hik : i = k
    · subst hik
      rw [if_pos rfl, if_pos (by omega), ints_at (by rw [mid_len]; exact hi), mid_at f xs _ _ hi, if_pos (by omega)]
    · rw [if_neg hik, ints_at (by rw [mid_len]; exact hk), ints_at (by rw [mid_len]; exact hk), mid_at f xs _ _ hk, mid_at f xs _ _ hk]
      by_cases h2 : k < i
      · rw [if_pos h2, if_pos (by omega)]
      · rw [if_neg h2, if_neg (by omega)]
  · rw [List.getElem?_eq_none (by rw [List.length_set, ints_len, mid_len]; omega), List.getElem?_eq_none (by rw [ints_len, mid_len]; omega)]
theorem mid_zero (f : Nat → Int) (xs : List Int) (h : xs.length = 64) : mid f xs 0 = xs := by
  apply List.ext_getElem?
  intro k
  by_cases hk : k < 64
  · simp [mid, hk, h]
  · rw [List.getElem?_eq_none (by rw [mid_len]; omega), List.getElem?_eq_none (by omega)]

/-- It is within the bounds. -/
def fits (n : Int) : Prop := -2047 ≤ n ∧ n ≤ 2047
instance (n : Int) : Decidable (fits n) := by unfold fits; infer_instance

def allFit (f : Nat → Int) : Bool := (List.range 64).all fun k => decide (fits (f k))
theorem allFit_true {f : Nat → Int} (h : ∀ k, k < 64 → fits (f k)) : allFit f = true := by
  unfold allFit
  rw [List.all_eq_true]
  intro k hk
  exact decide_eq_true (h k (List.mem_range.1 hk))
theorem allFit_false {f : Nat → Int} {k : Nat} (hk : k < 64) (h : ¬ fits (f k)) : allFit f = false := by
  cases hh : allFit f with
  | false => rfl
  | true => exact absurd (of_decide_eq_true (List.all_eq_true.1 hh k (List.mem_range.2 hk))) h

/-- What comes of levels, one by one. -/
def outcome (f : Nat → Int) : XV := if allFit f then .tup [.agg (ints ((List.range 64).map f)), .one (.bool true)] else .tup [.agg (ints zeros), .one (.bool false)]
theorem mid_all (f : Nat → Int) (xs : List Int) : mid f xs 64 = (List.range 64).map f := by
  unfold mid
  apply List.map_congr_left
  intro k hk
  rw [if_pos (List.mem_range.1 hk)]

theorem elems_same (l : List Int) : ∀ (k i : Nat), i + k ≤ l.length → xeqElems Try.prog (xequal Try.prog 39) 3 1 (ints l) (ints l) i k = some true
  | 0, i, _ => rfl
  | k + 1, i, h => by
    have h1 : (ints l)[i * 1]? = some (.int .i64 (l.getD i 0)) := by rw [Nat.mul_one]; exact ints_at (by omega)
    have h2 : xpart Try.prog 3 (ints l) (i * 1) = some (.one (.int .i64 (l.getD i 0))) := by
      unfold xpart; rw [agg3, h1]
    have h3 : xequal Try.prog 39 3 (.one (.int .i64 (l.getD i 0))) (.one (.int .i64 (l.getD i 0))) = some true := by
      unfold xequal
      rw [Try.underlying3]
      simp [xeqS]
    unfold xeqElems
    rw [h2]
    simp only [h3]
    exact elems_same l k (i + 1) (by omega)

theorem same_ints {l : List Int} (h : l.length = 64) : xeqV Try.prog 25 (.agg (ints l)) (.agg (ints l)) = some true := by
  have h1 : Try.prog.eqGuardType Try.prog.depth 25 = false := by kernel_rfl
  unfold xeqV
  simp only [h1, Bool.false_eq_true, if_false]
  unfold xequal
  rw [Try.underlying25]
  simp only [size3]
  exact elems_same l 64 0 (by omega)
theorem neq_ints {l : List Int} (h : l.length = 64) : xbin Try.prog .neq 25 (.agg (ints l)) (.agg (ints l)) = some (.one (.bool false)) := by
  simp only [xbin, same_ints h, Option.map_some, Bool.not_true]
theorem eql_ints {l : List Int} (h : l.length = 64) : xbin Try.prog .eql 25 (.agg (ints l)) (.agg (ints l)) = some (.one (.bool true)) := by
  simp only [xbin, same_ints h, Option.map_some]

/-- What comes back for levels. -/
def all64 (f : Nat → Int) : List Int := (List.range 64).map f
def res (f : Nat → Int) : List Int := if allFit f then all64 f else zeros
theorem res_len (f : Nat → Int) : (res f).length = 64 := by
  unfold res
  split <;> simp [all64, zeros]
theorem all64_len (f : Nat → Int) : (all64 f).length = 64 := by simp [all64]
theorem outcome_eq (f : Nat → Int) : outcome f = .tup [.agg (ints (res f)), .one (.bool (allFit f))] := by
  unfold outcome res all64
  cases allFit f <;> rfl
theorem all64_congr {f g : Nat → Int} (h : ∀ k, k < 64 → f k = g k) : all64 f = all64 g := List.map_congr_left fun k hk => h k (List.mem_range.1 hk)
theorem allFit_congr {f g : Nat → Int} (h : ∀ k, k < 64 → f k = g k) : allFit f = allFit g := by
  unfold allFit
  rw [Bool.eq_iff_iff, List.all_eq_true, List.all_eq_true]
  constructor
  · intro hh k hk; rw [← h k (List.mem_range.1 hk)]; exact hh k hk
  · intro hh k hk; rw [h k (List.mem_range.1 hk)]; exact hh k hk
theorem outcome_congr {f g : Nat → Int} (h : ∀ k, k < 64 → f k = g k) : outcome f = outcome g := by
  rw [outcome_eq, outcome_eq]
  unfold res
  rw [allFit_congr h, all64_congr h]
theorem all64_at (f : Nat → Int) (k : Nat) (h : k < 64) : (all64 f).getD k 0 = f k := by simp [all64, List.getD_eq_getElem?_getD, h]

theorem ints_shut (l : List Int) : ((XV.agg (ints l)).shut) = true := by
  simp [XV.shut, ints, XC.shut]
theorem outcome_shut (f : Nat → Int) : (outcome f).shut = true := by
  unfold outcome
  split <;> simp [XV.shut, X1.shut, ints, XC.shut]
end Go.Proofs.Ytlgbbgicicnijaa
