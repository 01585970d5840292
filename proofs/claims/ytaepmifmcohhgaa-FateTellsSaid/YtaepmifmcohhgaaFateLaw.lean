/-
  The plain law: what the walks compute is the same; the sums tell the small fates' masks.
-/
import Derived.Test.YtaepmifmcohhgaaFateSix
namespace Go.Proofs.Ytaepmifmcohhgaa
open Go.Xm
set_option linter.unusedVariables false
set_option linter.unusedSectionVars false
set_option linter.unusedSimpArgs false
variable [Atoms]

theorem ats_one (b : Nat → Bool) : ∀ n, ((ats b n).length : Int) = (oneSt b n).2.2 ∧ ((ats b n).length = 0 → (oneSt b n).1 = -1) ∧ (0 < (ats b n).length → (ats b n).getD 0 0 = (oneSt b n).1 ∧ 0 ≤ (oneSt b n).1 ∧ (ats b n).getD ((ats b n).length - 1) 0 = (oneSt b n).2.1)
  | 0 => by simp [ats, oneSt]
  | n + 1 => by
    obtain ⟨h1, h2, h3⟩ := ats_one b n
    unfold ats oneSt
    split
    · rename_i hb
      refine ⟨?_, fun h => ?_, fun _ => ⟨?_, ?_, ?_⟩⟩
      · simp only [List.length_append, List.length_cons, List.length_nil]; omega
      · simp at h
      · simp only []
        by_cases h0 : (ats b n).length = 0
        · rw [List.length_eq_zero_iff.1 h0, if_pos (by have := h2 h0; omega)]; rfl
        · obtain ⟨k1, k2, _⟩ := h3 (by omega)
          rw [if_neg (by omega), ← k1, List.getD_eq_getElem?_getD, List.getElem?_append_left (by omega), ← List.getD_eq_getElem?_getD]
      · simp only []
        split
        · omega
        · by_cases h0 : (ats b n).length = 0
          · have := h2 h0; omega
          · exact (h3 (by omega)).2.1
      · simp
    · exact ⟨h1, h2, h3⟩
theorem tells_one (b : Nat → Bool) (n : Nat) : tellsB b n = oneB b n := by
  obtain ⟨h1, h2, h3⟩ := ats_one b n
  unfold tellsB oneB
  refine decide_eq_decide.2 ?_
  by_cases h0 : (ats b n).length = 0
  · have : (oneSt b n).2.2 = 0 := by omega
    simp [h0, this]
  · obtain ⟨k1, _, k3⟩ := h3 (by omega)
    rw [k1, k3]
    omega
theorem oneSt_congr {b c : Nat → Bool} : ∀ n, (∀ i, i < n → b i = c i) → oneSt b n = oneSt c n
  | 0, _ => rfl
  | n + 1, h => by
    unfold oneSt
    rw [oneSt_congr n fun i hi => h i (by omega), h n (by omega)]
theorem oneB_congr {b c : Nat → Bool} {n : Nat} (h : ∀ i, i < n → b i = c i) : oneB b n = oneB c n := by unfold oneB; rw [oneSt_congr n h]
/-- The document's answer of a part is the program's. -/
theorem tells_part (l : List Int) (p q : Nat) : tellsB (fun i => decide ((ofBits (l.drop p) (q - p)).getD i 0 = 1)) (8 * (q - p)) = partB l p q := by
  rw [tells_one]
  refine oneB_congr fun i hi => ?_
  rw [ofBits_get _ _ _ hi]
  unfold bitAt
  rw [show (8 * p + i) / 8 = p + i / 8 by omega, show (8 * p + i) % 8 = i % 8 by omega, List.getD_eq_getElem?_getD, List.getElem?_drop, ← List.getD_eq_getElem?_getD]

/-! ### Masks within sixteen bits -/
theorem oneSt_none {b : Nat → Bool} : ∀ n, (∀ i, i < n → b i = false) → oneSt b n = (-1, -1, 0)
  | 0, _ => rfl
  | n + 1, h => by
    unfold oneSt
    rw [if_neg (by rw [h n (by omega)]; decide)]
    exact oneSt_none n fun i hi => h i (by omega)
theorem oneB_none {b : Nat → Bool} {n : Nat} (h : ∀ i, i < n → b i = false) : oneB b n = true := by
  unfold oneB
  rw [oneSt_none n h]
  decide
/-- First and last are places of ones. -/
theorem oneSt_in {b : Nat → Bool} {lo hi : Int} : ∀ n, (∀ i, i < n → b i = true → lo ≤ (i : Int) ∧ (i : Int) < hi) → (oneSt b n).2.2 = 0 ∨ (lo ≤ (oneSt b n).1 ∧ (oneSt b n).2.1 < hi)
  | 0, _ => .inl rfl
  | n + 1, h => by
    have ih := oneSt_in n fun i hi => h i (by omega)
    have hb := oneSt_bnd b n
    unfold oneSt
    split
    · rename_i hbn
      obtain ⟨k1, k2⟩ := h n (by omega) hbn
      refine .inr ⟨?_, k2⟩
      simp only []
      split
      · exact k1
      · rcases ih with h0 | ⟨h1, _⟩
        · have := (ats_one b n)
          by_cases hz : (ats b n).length = 0
          · have := this.2.1 hz; omega
          · omega
        · exact h1
    · exact ih
theorem oneB_near {b : Nat → Bool} {n : Nat} (lo : Int) (h : ∀ i, i < n → b i = true → lo ≤ (i : Int) ∧ (i : Int) < lo + 16) : oneB b n = true := by
  unfold oneB
  refine decide_eq_true ?_
  rcases oneSt_in n h with h | ⟨h1, h2⟩
  · exact .inl h
  · exact .inr (.inr (by omega))
theorem rep_bit (n j : Nat) : bitAt (List.replicate n 0) j = false := by
  unfold bitAt
  rw [List.getD_eq_getElem?_getD, List.getElem?_replicate]
  split <;> simp
/-- Bits of a burst lie close. -/
theorem m5_bit (n fr sz : Nat) (at1 burst : Int) (h0 : 0 ≤ at1) (hn : fr + sz ≤ n) : ∀ k j, bitAt (m5 n fr sz at1 burst k) j = true → (8 * fr : Int) + at1 ≤ j ∧ (j : Int) < 8 * fr + at1 + k ∧ j < 8 * (fr + sz)
  | 0, j, h => by
    unfold m5 at h
    rw [rep_bit] at h; cases h
  | k + 1, j, h => by
    unfold m5 at h
    split at h
    · rename_i hc
      rw [turnL_bit (m5_byte _ _ _ _ _ _) _ _ (by rw [m5_len]; omega)] at h
      by_cases hj : j = 8 * fr + (at1 + (k : Nat)).toNat
      · omega
      · rw [decide_eq_false hj, Bool.xor_false] at h
        have := m5_bit n fr sz at1 burst h0 hn k j h
        omega
    · have := m5_bit n fr sz at1 burst h0 hn k j h
      omega
theorem told5 (a b : Nat) (at_ burst : Int) (ha : 1 ≤ a) (hb : 1 ≤ b) (hat : 0 ≤ at_) :
    toldB (m5 (a + b) (frOf at_ a) (szOf at_ a b) (at5 at_ a b) burst 16) a b = true := by
  have hsz : 1 ≤ szOf at_ a b ∧ frOf at_ a + szOf at_ a b ≤ a + b := by unfold szOf frOf; split <;> omega
  have hm0 : 0 ≤ at5 at_ a b := Int.emod_nonneg _ (by omega)
  have key := m5_bit (a + b) (frOf at_ a) (szOf at_ a b) (at5 at_ a b) burst hm0 hsz.2 16
  have hp : ∀ p q, partB (m5 (a + b) (frOf at_ a) (szOf at_ a b) (at5 at_ a b) burst 16) p q = true := fun p q => by
    unfold partB
    refine oneB_near ((8 * frOf at_ a : Int) + at5 at_ a b - 8 * p) fun i hi h => ?_
    have := key _ h
    omega
  unfold toldB
  rw [hp, hp]; rfl

/-! ### Bits odd in number -/
def cnt (b : Nat → Bool) : Nat → Nat
  | 0 => 0
  | n + 1 => cnt b n + (if b n then 1 else 0)
theorem oneSt_cnt (b : Nat → Bool) : ∀ n, (oneSt b n).2.2 = (cnt b n : Nat)
  | 0 => rfl
  | n + 1 => by
    have ih := oneSt_cnt b n
    unfold oneSt cnt
    split
    · simp only []; omega
    · omega
theorem cnt_congr {b c : Nat → Bool} : ∀ n, (∀ i, i < n → b i = c i) → cnt b n = cnt c n
  | 0, _ => rfl
  | n + 1, h => by
    unfold cnt
    rw [cnt_congr n fun i hi => h i (by omega), h n (by omega)]
theorem cnt_upd {b c : Nat → Bool} {k : Nat} (h0 : b k = false) (h1 : c k = true) (h : ∀ i, i ≠ k → c i = b i) : ∀ n, cnt c n = cnt b n + (if k < n then 1 else 0)
  | 0 => by simp [cnt]
  | n + 1 => by
    have ih := cnt_upd h0 h1 h n
    unfold cnt
    by_cases hk : n = k
    · subst hk
      rw [h0, h1, ih]
      simp
    · rw [h n hk, ih]
      by_cases h2 : k < n
      · simp only [h2, show k < n + 1 by omega, if_true]; omega
      · simp only [h2, show ¬ k < n + 1 by omega, if_false]; omega
theorem oneB_odd {b : Nat → Bool} {n : Nat} (h : cnt b n % 2 = 1) : oneB b n = true := by
  unfold oneB
  have := oneSt_cnt b n
  exact decide_eq_true (.inr (.inl (by omega)))
theorem sawM_put (M : List (Int × Bool)) (k z : Int) : sawM (putm M k true) z = if z = k then true else sawM M z := by
  unfold sawM
  rw [mlook_put]
  split <;> rfl
theorem seen6_cnt (q : List Int) (sz : Nat) (hs : 1 ≤ sz) : ∀ i, (seen6 q ((sz : Int) * 8) i).2 = (cnt (fun j => sawM (seen6 q ((sz : Int) * 8) i).1 j) (sz * 8) : Nat)
  | 0 => by
    have : ∀ n, cnt (fun j => sawM (seen6 q ((sz : Int) * 8) 0).1 j) n = 0 := fun n => by
      induction n with
      | zero => rfl
      | succ n ih => unfold cnt; rw [ih]; rfl
    rw [this]; rfl
  | i + 1 => by
    have ih := seen6_cnt q sz hs i
    unfold seen6
    split
    · exact ih
    · rename_i h
      have hm0 := Int.emod_nonneg (q.getD i 0) (show (sz : Int) * 8 ≠ 0 by omega)
      have hm1 := Int.emod_lt_of_pos (q.getD i 0) (show (0 : Int) < (sz : Int) * 8 by omega)
      obtain ⟨k, hk⟩ : ∃ k : Nat, q.getD i 0 % ((sz : Int) * 8) = (k : Nat) := ⟨(q.getD i 0 % ((sz : Int) * 8)).toNat, by omega⟩
      rw [hk] at h hm1 ⊢
      simp only []
      rw [cnt_upd (b := fun j => sawM (seen6 q ((sz : Int) * 8) i).1 j) (k := k) (by simpa using h) (by simp only [sawM_put, if_true]) (fun j hj => by simp only [sawM_put]; rw [if_neg (by omega)]), if_pos (by omega), ih]
      push_cast
      rfl
theorem seen6_at (x : Int) (q : List Int) (w : Int) : ∀ i, 1 ≤ i → sawM (seen6 (x :: q) w i).1 (x % w) = true
  | 0, h => absurd h (by omega)
  | i + 1, _ => by
    by_cases hi : i = 0
    · subst hi
      have e : (x :: q).getD 0 0 = x := rfl
      simp only [seen6, e]
      split
      · assumption
      · simp only [sawM_put, if_true]
    · have ih := seen6_at x q w i (by omega)
      unfold seen6
      split
      · exact ih
      · simp only [sawM_put]
        split
        · rfl
        · exact ih
theorem m6_bit (n fr : Nat) (M : List (Int × Bool)) (many at0 : Int) : ∀ k, fr * 8 + k ≤ n * 8 → ∀ j, bitAt (m6 n fr M many at0 k) j = (decide (8 * fr ≤ j ∧ j < 8 * fr + k) && turn6 M many at0 (j - 8 * fr))
  | 0, _, j => by
    unfold m6
    rw [rep_bit, decide_eq_false (by omega)]; rfl
  | k + 1, h, j => by
    have ih := m6_bit n fr M many at0 k (by omega) j
    unfold m6
    split
    · rename_i ht
      rw [turnL_bit (m6_byte _ _ _ _ _ _) _ _ (by rw [m6_len]; omega), ih]
      by_cases hj : j = 8 * fr + k
      · rw [decide_eq_true hj, decide_eq_false (by omega), decide_eq_true (by omega), show j - 8 * fr = k by omega, ht]; rfl
      · rw [decide_eq_false hj, Bool.xor_false]
        congr 1
        exact decide_eq_decide.2 (by omega)
    · rename_i ht
      rw [ih]
      by_cases hj : j = 8 * fr + k
      · rw [decide_eq_false (by omega), show j - 8 * fr = k by omega]
        simp only [Bool.not_eq_true] at ht
        rw [ht]; simp
      · congr 1
        exact decide_eq_decide.2 (by omega)
theorem turn6_odd (x : Int) (od : List Int) (sz : Nat) (hs : 1 ≤ sz) : cnt (turn6 (seen6 (x :: od) ((sz : Int) * 8) (1 + od.length)).1 (seen6 (x :: od) ((sz : Int) * 8) (1 + od.length)).2 (x % ((sz : Int) * 8))) (sz * 8) % 2 = 1 := by
  have hc := seen6_cnt (x :: od) sz hs (1 + od.length)
  have ha := seen6_at x od ((sz : Int) * 8) (1 + od.length) (by omega)
  generalize seen6 (x :: od) ((sz : Int) * 8) (1 + od.length) = S at hc ha ⊢
  by_cases ho : S.2 % 2 = 1
  · have : cnt (turn6 S.1 S.2 (x % ((sz : Int) * 8))) (sz * 8) = cnt (fun j => sawM S.1 j) (sz * 8) := cnt_congr _ fun i _ => by simp [turn6, ho]
    omega
  · have hm0 := Int.emod_nonneg x (show (sz : Int) * 8 ≠ 0 by omega)
    have hm1 := Int.emod_lt_of_pos x (show (0 : Int) < (sz : Int) * 8 by omega)
    obtain ⟨k, hk⟩ : ∃ k : Nat, x % ((sz : Int) * 8) = (k : Nat) := ⟨(x % ((sz : Int) * 8)).toNat, by omega⟩
    rw [hk] at ha hm1 ⊢
    have := cnt_upd (b := turn6 S.1 S.2 k) (c := fun j => sawM S.1 j) (k := k) (by simp [turn6, ho]) ha (fun i hi => by
      unfold turn6
      rw [decide_eq_false ho, decide_eq_true (show (i : Int) ≠ (k : Nat) by omega)]; simp) (sz * 8)
    rw [if_pos (by omega)] at this
    omega
theorem told6 (a b : Nat) (at_ : Int) (od : List Int) (ha : 1 ≤ a) (hb : 1 ≤ b) : toldB (f6 at_ od (a + b) (frOf at_ a) (szOf at_ a b)) a b = true := by
  have hsz : 1 ≤ szOf at_ a b ∧ ((frOf at_ a = 0 ∧ szOf at_ a b = a) ∨ (frOf at_ a = a ∧ szOf at_ a b = b)) := by unfold szOf frOf; split <;> simp_all
  have ho := turn6_odd at_ od (szOf at_ a b) hsz.1
  have hlen : (f6 at_ od (a + b) (frOf at_ a) (szOf at_ a b)).length = a + b := m6_len ..
  have hbit := m6_bit (a + b) (frOf at_ a) (seen6 (at_ :: od) ((szOf at_ a b : Int) * 8) (1 + od.length)).1 (seen6 (at_ :: od) ((szOf at_ a b : Int) * 8) (1 + od.length)).2 (at_ % ((szOf at_ a b : Int) * 8)) (szOf at_ a b * 8) (by omega)
  have h1 : partB (f6 at_ od (a + b) (frOf at_ a) (szOf at_ a b)) (frOf at_ a) (frOf at_ a + szOf at_ a b) = true := by
    unfold partB
    rw [show 8 * (frOf at_ a + szOf at_ a b - frOf at_ a) = szOf at_ a b * 8 by omega]
    refine oneB_odd ?_
    rw [cnt_congr (c := turn6 (seen6 (at_ :: od) ((szOf at_ a b : Int) * 8) (1 + od.length)).1 (seen6 (at_ :: od) ((szOf at_ a b : Int) * 8) (1 + od.length)).2 (at_ % ((szOf at_ a b : Int) * 8))) _ fun i hi => ?_]
    · exact ho
    · show bitAt (m6 _ _ _ _ _ _) _ = _
      rw [hbit, decide_eq_true (by omega), show 8 * frOf at_ a + i - 8 * frOf at_ a = i by omega, Bool.true_and]
  have h2 : ∀ p q, (q ≤ frOf at_ a ∨ frOf at_ a + szOf at_ a b ≤ p) → partB (f6 at_ od (a + b) (frOf at_ a) (szOf at_ a b)) p q = true := fun p q hpq => by
    unfold partB
    refine oneB_none fun i hi => ?_
    show bitAt (m6 _ _ _ _ _ _) _ = _
    rw [hbit, decide_eq_false (by omega), Bool.false_and]
  unfold toldB
  rw [hlen, Nat.min_eq_left (show a ≤ a + b by omega), Nat.min_self]
  rcases hsz.2 with ⟨e1, e2⟩ | ⟨e1, e2⟩
  · rw [show partB (f6 at_ od (a + b) (frOf at_ a) (szOf at_ a b)) 0 a = true by
      have := h1; rw [e1] at this ⊢; rw [e2, Nat.zero_add] at this; rw [e2]; exact this, h2 a (a + b) (by omega)]; rfl
  · rw [h2 0 a (by omega), show partB (f6 at_ od (a + b) (frOf at_ a) (szOf at_ a b)) a (a + b) = true by
      have := h1; rw [e1, e2] at this; rw [e1, e2]; exact this]; rfl
theorem told_nil (a b : Nat) : toldB [] a b = true := by
  unfold toldB partB
  simp only [List.length_nil, Nat.min_zero, Nat.sub_self, Nat.mul_zero]
  rfl
end Go.Proofs.Ytaepmifmcohhgaa
