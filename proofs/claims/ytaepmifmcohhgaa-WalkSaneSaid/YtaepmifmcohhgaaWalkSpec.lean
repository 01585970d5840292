/-
  Packets' places, as lists; those that may be of one stream: the plain law.
-/
import Derived.Test.YtaepmifmcohhgaaFacts
namespace Go.Proofs.Ytaepmifmcohhgaa
open Go.Xm
set_option linter.unusedVariables false
set_option linter.unusedSectionVars false
set_option linter.unusedSimpArgs false

/-- A packet found: its picture's number, its qp, its first macroblock, how many, where. -/
structure FI where
  id : Int
  qp : Int
  first : Int
  count : Int
  at_ : Int
  deriving Inhabited
def fcells (x : FI) : List XC := [.int .i64 x.id, .bool false, .bool false, .int .i64 x.qp, .int .i64 x.first, .int .i64 x.count, .nils, .nils, .int .i64 0, .bool false, .bool false, .int .i64 x.at_]
instance : FEnc fcells 12 := ⟨fun _ => rfl, fun _ => rfl, by omega⟩
structure FI.Ok (x : FI) : Prop where
  id : 0 ≤ x.id ∧ x.id < 20
  qp : 1 ≤ x.qp ∧ x.qp ≤ 2
  first : 0 ≤ x.first ∧ x.first < 9
  count : 1 ≤ x.count ∧ x.count ≤ 3
/-- The last one's number, qp, end. -/
def lastSt (out : List FI) : Int × Int × Int := if out.length = 0 then (-1, 0, 0) else ((out.getD ((out.length : Int) - 1).toNat default).id, (out.getD ((out.length : Int) - 1).toNat default).qp, (out.getD ((out.length : Int) - 1).toNat default).first + (out.getD ((out.length : Int) - 1).toNat default).count)
def keepB (fr : Int) (st : Int × Int × Int) (x : FI) : Bool := decide (x.id < min fr 16 ∧ ¬ x.id < st.1 ∧ ¬ (x.id = st.1 ∧ (x.qp ≠ st.2.1 ∨ x.first < st.2.2)))
theorem keep0 {out : List FI} (h : out.length = 0) (fr : Int) (x : FI) : keepB fr (lastSt out) x = decide (x.id < min fr 16 ∧ ¬ x.id < -1 ∧ ¬ (x.id = -1 ∧ (x.qp ≠ 0 ∨ x.first < 0))) := by
  unfold keepB lastSt; rw [if_pos h]
theorem keep1 {out : List FI} (h : ¬ out.length = 0) (fr : Int) (x : FI) : keepB fr (lastSt out) x = decide (x.id < min fr 16 ∧ ¬ x.id < (out.getD ((out.length : Int) - 1).toNat default).id ∧ ¬ (x.id = (out.getD ((out.length : Int) - 1).toNat default).id ∧ (x.qp ≠ (out.getD ((out.length : Int) - 1).toNat default).qp ∨ x.first < (out.getD ((out.length : Int) - 1).toNat default).first + (out.getD ((out.length : Int) - 1).toNat default).count))) := by
  unfold keepB lastSt; rw [if_neg h]
def saneL (l : List FI) (fr : Int) : Nat → List FI
  | 0 => []
  | j + 1 => if keepB fr (lastSt (saneL l fr j)) (l.getD j default) then saneL l fr j ++ [l.getD j default] else saneL l fr j
theorem saneL_len (l : List FI) (fr : Int) : ∀ j, (saneL l fr j).length ≤ j
  | 0 => Nat.le_refl _
  | j + 1 => by
    have ih := saneL_len l fr j
    unfold saneL
    split
    · simp; omega
    · omega
theorem saneL_ok {l : List FI} (hl : ∀ j, j < l.length → (l.getD j default).Ok) (fr : Int) : ∀ j, j ≤ l.length → ∀ k, k < (saneL l fr j).length → ((saneL l fr j).getD k default).Ok
  | 0, _, k, hk => by simp [saneL] at hk
  | j + 1, hj, k, hk => by
    have ih := saneL_ok hl fr j (by omega)
    unfold saneL at hk ⊢
    split
    · rename_i h
      rw [if_pos h, List.length_append] at hk
      rw [List.getD_eq_getElem?_getD]
      by_cases hkl : k < (saneL l fr j).length
      · rw [List.getElem?_append_left hkl, ← List.getD_eq_getElem?_getD]; exact ih k hkl
      · rw [List.getElem?_append_right (by omega), show k - (saneL l fr j).length = 0 by simp at hk; omega]
        exact hl j (by omega)
    · rename_i h
      rw [if_neg h] at hk
      exact ih k hk
theorem lastSt_app (out : List FI) (x : FI) : lastSt (out ++ [x]) = (x.id, x.qp, x.first + x.count) := by
  unfold lastSt
  rw [if_neg (by simp), show (((out ++ [x]).length : Int) - 1).toNat = out.length by simp]
  simp [List.getD_eq_getElem?_getD]
/-- What comes of an item. -/
structure IT where
  id : Int
  first : Int
  count : Int
  qp : Int
  deriving Inhabited
def icells (x : IT) : List XC := [.int .u8 x.id, .int .u8 x.first, .int .u8 x.count, .int .u8 x.qp]
instance : FEnc icells 4 := ⟨fun _ => rfl, fun _ => rfl, by omega⟩
structure IT.Ok (x : IT) : Prop where
  id : 0 ≤ x.id ∧ x.id < 256
  first : 0 ≤ x.first ∧ x.first < 256
  count : 0 ≤ x.count ∧ x.count < 256
  qp : 0 ≤ x.qp ∧ x.qp < 256
def fiOf (x : IT) (i : Nat) : FI := ⟨x.id % 20, 1 + x.qp % 2, x.first % 9, 1 + x.count % 3, i⟩
def allL (l : List IT) : Nat → List FI
  | 0 => []
  | i + 1 => allL l i ++ [fiOf (l.getD i default) i]
theorem allL_len (l : List IT) : ∀ n, (allL l n).length = n
  | 0 => rfl
  | n + 1 => by simp [allL, allL_len l n]
theorem allL_get (l : List IT) : ∀ n j, j < n → (allL l n).getD j default = fiOf (l.getD j default) j
  | 0, j, h => by omega
  | n + 1, j, h => by
    unfold allL
    rw [List.getD_eq_getElem?_getD]
    by_cases hj : j < n
    · rw [List.getElem?_append_left (by rw [allL_len]; exact hj), ← List.getD_eq_getElem?_getD]
      exact allL_get l n j hj
    · rw [List.getElem?_append_right (by rw [allL_len]; omega), allL_len, show j - n = 0 by omega, show j = n by omega]
      rfl
theorem fiOf_ok {x : IT} (h : x.Ok) (i : Nat) : (fiOf x i).Ok := by
  have h1 := h.id
  have h2 := h.qp
  have h3 := h.first
  have h4 := h.count
  exact ⟨by simp only [fiOf]; omega, by simp only [fiOf]; omega, by simp only [fiOf]; omega, by simp only [fiOf]; omega⟩
theorem allL_ok {l : List IT} (hl : ∀ j, j < l.length → (l.getD j default).Ok) : ∀ j, j < (allL l l.length).length → ((allL l l.length).getD j default).Ok := fun j hj => by
  rw [allL_len] at hj
  rw [allL_get l _ j hj]
  exact fiOf_ok (hl j hj) j
end Go.Proofs.Ytaepmifmcohhgaa
