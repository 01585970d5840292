/-
  The second machine, with variables in its states: facts of types as instances, and rules that choose themselves by the operation.
-/
import Derived.Test.YtaepmifmcohhgaaXwK
namespace Go.Xm
set_option linter.unusedSectionVars false

class TSize (P : Program) (t : TypeId) (s : outParam Nat) : Prop where out : xsize P t = some s
class TScal (P : Program) (t : TypeId) : Prop where out : xisAgg P t = some false
class TAggr (P : Program) (t : TypeId) : Prop where out : xisAgg P t = some true
class TZero (P : Program) (t : TypeId) (zs : outParam (List XC)) : Prop where out : xzero P t = some zs
class TUnd (P : Program) (t : TypeId) (d : outParam TypeDesc) : Prop where out : P.underlying t = some d
class TPlaces (P : Program) (t : TypeId) (l : outParam (List (Nat × Nat))) : Prop where out : ∃ fs, P.underlying t = some (.struct fs) ∧ xplaces P fs.toList = some l
class TFld (P : Program) (s : TypeId) (f : Nat) (ft : outParam TypeId) (off : outParam Nat) : Prop where out : (xfieldOf P s f).map (fun fd => (fd.type, fd.offset)) = some (ft, off)
theorem TFld.ex {P : Program} {s : TypeId} {f : Nat} {ft : TypeId} {off : Nat} [h : TFld P s f ft off] : ∃ fd, xfieldOf P s f = some fd ∧ fd.type = ft ∧ fd.offset = off := by
  obtain ⟨fd, h1, h2⟩ := Option.map_eq_some_iff.1 h.out
  cases h2
  exact ⟨fd, h1, rfl, rfl⟩

/-- An array's cells: integers of one kind. -/
def ti (k : IntKind) (n : Nat) (f : Nat → Int) : List XC := (List.range n).map fun i => .int k (f i)
def rep (n : Nat) (l : List XC) : List XC := (List.replicate n l).flatten
def upd (f : Nat → Int) (j : Nat) (x : Int) (i : Nat) : Int := if i = j then x else f i
theorem ti_len (k : IntKind) (n : Nat) (f : Nat → Int) : (ti k n f).length = n := by simp [ti]
theorem ti_get {k : IntKind} {n : Nat} {f : Nat → Int} {j : Nat} (h : j < n) : (ti k n f)[j]? = some (.int k (f j)) := by simp [ti, h]
theorem ti_set (k : IntKind) (n : Nat) (f : Nat → Int) (j : Nat) (x : Int) : (ti k n f).set j (.int k x) = ti k n (upd f j x) := by
  apply List.ext_getElem?
  intro i
  rw [List.getElem?_set]
  by_cases hj : j = i
  · subst hj
    by_cases hn : j < n
    · rw [if_pos rfl, if_pos (by rw [ti_len]; exact hn), ti_get hn]; simp [upd]
    · rw [if_pos rfl, if_neg (by rw [ti_len]; exact hn), List.getElem?_eq_none (by rw [ti_len]; omega)]
  · rw [if_neg hj]
    by_cases hn : i < n
    · rw [ti_get hn, ti_get hn]; simp [upd, Ne.symm hj]
    · rw [List.getElem?_eq_none (by rw [ti_len]; omega), List.getElem?_eq_none (by rw [ti_len]; omega)]
theorem ti_congr {k : IntKind} {n : Nat} {f g : Nat → Int} (h : ∀ i, i < n → f i = g i) : ti k n f = ti k n g := by
  unfold ti
  exact List.map_congr_left fun i hi => by rw [h i (List.mem_range.1 hi)]

end Go.Xm
