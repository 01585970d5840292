/-
  A slice of acts that came in: its cells.
-/
import Derived.Test.YtlgbbgicicnijaaPredLocal0
import Derived.Test.YtlgbbgicicnijaaRows
import Derived.WalkKit
import Derived.ProofKit
import Derived.OpenShut
import Derived.ShutString
import Derived.ChangeOld
import Derived.Below
import Derived.Deep.Slices
import Derived.Deep.Fields
import Derived.ChangeSame
namespace Go.Proofs.Ytlgbbgicicnijaa
open Go.ChangeShapes Go.WideShapes Go.ChangeAt Go.RowKit Go.Xm Go.Deep
set_option linter.unusedVariables false
set_option linter.unusedSectionVars false

section
variable {H : Type} {enc : TypeId × Value → H} {P : Program} {w : World} {base : Nat} {spare : Nat → Bool} {held : Bool}
theorem open_slice_fields {t e : TypeId} {fs : Array Field} {fuel : Nat} {cs : List Value} {x : DataW H × List MemPlace} (ht : P.underlying t = some (.slice e)) (he : P.underlying e = some (.struct fs))
    (hone : oneCellFields P fs = true) (hC : P.cellsOf e = fs.size) (h : DataW.trod enc P w base spare held fuel t cs = some x) :
    (cs = [.slice none 0 0] ∧ x = (.nil, [])) ∨
    ∃ (a : Addr) (len cap m : Nat) (D : Nat → DataW H) (Pl : Nat → List MemPlace), cs = [.slice (some a) len cap] ∧ base ≤ a.block ∧ len ≤ cap ∧ cap ≤ maxLen ∧ m = (if spare a.block then cap else len) ∧
      x = (.slice ((List.range len).map D) ((List.range (m - len)).map fun j => D (len + j)), MemPlace.row a (m * fs.size) ++ (List.range m).flatMap Pl) ∧
      ∀ i, i < m → ∃ (ys : List (DataW H × List MemPlace)) (n : Nat), D i = .agg (ys.map (·.1)) ∧ Pl i = ys.flatMap (·.2) ∧ ys.length = fs.size ∧
        ∀ (j : Nat) (f : Field), fs[j]? = some f → ∃ (v : Value) (y : DataW H × List MemPlace), w.cell? (a.add (i * fs.size + j)) = some v ∧ ys[j]? = some y ∧ DataW.trod enc P w base spare held n f.type [v] = some y := by
  rcases open_slice ht h with h0 | ⟨a, len, cap, m, n, D, Pl, hcs, hb, hl, hm, hmm, hx, hi⟩
  · exact .inl h0
  · refine .inr ⟨a, len, cap, m, D, Pl, hcs, hb, hl, hm, hmm, by rw [hC] at hx; exact hx, fun i him => ?_⟩
    obtain ⟨cs', hc, ht'⟩ := hi i him
    rw [hC] at hc
    obtain ⟨ys, n', hn', hy, hlen, hyl, hf⟩ := DataW.trod_struct he ht'
    obtain ⟨_, hcl, hat⟩ := World.cells?_some hc
    simp only [Prod.mk.injEq] at hy
    refine ⟨ys, n', hy.1, hy.2, hyl, fun j f hj => ?_⟩
    obtain ⟨ho, hk⟩ := hone_of hone j f hj
    have hjl : j < fs.size := (Array.getElem?_eq_some_iff.1 hj).1
    have hcell := hat j hjl
    have hv : cs'[j]? = some (cs'[j]'(by omega)) := List.getElem?_eq_getElem (by omega)
    have h1 := hf j f hj
    rw [ho, hk] at h1
    have hone' : (cs'.drop j).take 1 = [cs'[j]'(by omega)] := by
      rw [List.drop_eq_getElem_cons (by omega)]
      rfl
    rw [hone'] at h1
    have hys : ys[j]? = some (ys[j]'(by omega)) := List.getElem?_eq_getElem (by omega)
    refine ⟨_, _, ?_, hys, h1.trans hys⟩
    rw [← Go.Deep.add_add, hcell, hv]
end

variable [Atoms]
theorem flat_get {α : Type} (f : α → List XC) (s : Nat) (hs : 0 < s) : ∀ (l : List α), (∀ a ∈ l, (f a).length = s) → ∀ j, (l.flatMap f)[j]? = (l[j / s]?).bind fun a => (f a)[j % s]?
  | [], _, j => by simp
  | x :: l, hl, j => by
    have hx := hl x (List.mem_cons_self ..)
    rw [List.flatMap_cons]
    by_cases hj : j < s
    · rw [List.getElem?_append_left (by omega), Nat.div_eq_of_lt hj, Nat.mod_eq_of_lt hj]
      rfl
    · rw [List.getElem?_append_right (by omega), flat_get f s hs l (fun b hb => hl b (List.mem_cons_of_mem _ hb)), hx]
      obtain ⟨q, rfl⟩ : ∃ q, j = q + s := ⟨j - s, by omega⟩
      rw [Nat.add_sub_cancel, Nat.add_div_right _ hs, Nat.add_mod_right]
      rfl

theorem add_spot {a : Addr} (h : a.spot = none) (n : Nat) : a.add n = ⟨a.block, a.off + n, none⟩ := by
  obtain ⟨b, o, s⟩ := a
  simp only at h
  subst h
  exact Addr.add_none b o n

def numC : Option Value → Int
  | some (.int _ z) => z
  | _ => 0

/-- The law's slices of acts. -/
theorem open_acts {H : Type} {enc : TypeId × Value → H} {w : World} {base b0 : Nat} {r : Reach} {spare : Nat → Bool} {held : Bool} {v : Value} {d : DataW H} {ps : List MemPlace} (hval : Value.okWide Try.prog w r b0 29 v) (hd : DataW.Trod enc Try.prog w base spare held 29 v d ps) :
    ∃ (l : List ActV), (∀ a ∈ l, a.Ok) ∧ l.length ≤ 9223372036854775807 ∧ ((v = .slice none 0 0 ∧ l = []) ∨ ∃ (b off cap : Nat), v = .slice (some ⟨b, off, none⟩) l.length cap ∧ ∀ (β : Env) (j : Nat) (c : XC), (flatActs l)[j]? = some c → w.cell? ⟨b, off + j, none⟩ = some (c.den β)) := by
  obtain ⟨fuel, hf⟩ := hd
  unfold Value.okWide at hval
  rw [Try.underlying29] at hval
  have hcell : Cell.okWide Try.prog w r b0 29 v := hval
  have hvc : v.cells.toList = [v] := by
    unfold Cell.okWide at hcell
    rw [Try.underlying29] at hcell
    have hck : Cell.ok Try.prog w r b0 29 v := hcell
    unfold Cell.ok at hck
    rw [Try.underlying29] at hck
    split at hck <;> first
      | rfl
      | (cases hck)
  rcases open_slice_fields Try.underlying29 Try.underlying35 (by kernel_rfl) (by kernel_rfl) hf with ⟨hcs, _⟩ | ⟨a, len, cap, m, D, Pl, hcs, _, hlc, hcm, hm, _, hall⟩
  · rw [hvc] at hcs
    simp only [List.cons.injEq, and_true] at hcs
    exact ⟨[], by simp, by simp, .inl ⟨hcs, rfl⟩⟩
  · rw [hvc] at hcs
    simp only [List.cons.injEq, and_true] at hcs
    subst hcs
    have hspot : a.spot = none := by
      unfold Cell.okWide at hcell
      rw [Try.underlying29] at hcell
      have hck : Cell.ok Try.prog w r b0 29 (.slice (some a) len cap) := hcell
      unfold Cell.ok at hck
      rw [Try.underlying29] at hck
      exact hck.2.2.2.1
    have hlm : len ≤ m := by rw [hm]; split <;> omega
    let g : Nat → Nat → Int := fun i j => numC (w.cell? ⟨a.block, a.off + (i * 5 + j), none⟩)
    have hg : ∀ i, i < len → w.cell? ⟨a.block, a.off + (i * 5 + 0), none⟩ = some (.int .u8 (g i 0)) ∧ w.cell? ⟨a.block, a.off + (i * 5 + 1), none⟩ = some (.int .u8 (g i 1)) ∧ w.cell? ⟨a.block, a.off + (i * 5 + 2), none⟩ = some (.int .u8 (g i 2)) ∧ w.cell? ⟨a.block, a.off + (i * 5 + 3), none⟩ = some (.int .u8 (g i 3)) ∧ w.cell? ⟨a.block, a.off + (i * 5 + 4), none⟩ = some (.int .u16 (g i 4)) ∧
        (0 ≤ g i 0 ∧ g i 0 < 256) ∧ (0 ≤ g i 1 ∧ g i 1 < 256) ∧ (0 ≤ g i 2 ∧ g i 2 < 256) ∧ (0 ≤ g i 3 ∧ g i 3 < 256) ∧ (0 ≤ g i 4 ∧ g i 4 < 65536) := by
      intro i hi
      obtain ⟨ys, n, _, _, _, hf5⟩ := hall i (by omega)
      have fin : ∀ (j : Nat) (k : IntKind) (t : TypeId), Try.prog.underlying t = some (.int k) → (∃ (v : Value) (y : DataW H × List MemPlace), w.cell? (a.add (i * 5 + j)) = some v ∧ ys[j]? = some y ∧ DataW.trod enc Try.prog w base spare held n t [v] = some y) → w.cell? ⟨a.block, a.off + (i * 5 + j), none⟩ = some (.int k (g i j)) ∧ (Lit.int k (g i j)).wf = true := fun j k t hu ⟨v, y, hc, _, ht⟩ => by
        rw [add_spot hspot] at hc
        obtain ⟨z, hz, _, hwf⟩ := DataW.trod_int hu ht
        simp only [List.cons.injEq, and_true] at hz
        subst hz
        have e2 : g i j = z := by show numC _ = z; rw [hc]; rfl
        rw [e2]
        exact ⟨hc, hwf⟩
      have f0 := fin 0 _ 5 Try.underlying5 (hf5 0 _ rfl)
      have f1 := fin 1 _ 5 Try.underlying5 (hf5 1 _ rfl)
      have f2 := fin 2 _ 5 Try.underlying5 (hf5 2 _ rfl)
      have f3 := fin 3 _ 5 Try.underlying5 (hf5 3 _ rfl)
      have f4 := fin 4 _ 33 Try.underlying33 (hf5 4 _ rfl)
      have b0 := bounds_u8 f0.2
      have b1 := bounds_u8 f1.2
      have b2 := bounds_u8 f2.2
      have b3 := bounds_u8 f3.2
      have b4 := bounds_u16 f4.2
      exact ⟨f0.1, f1.1, f2.1, f3.1, f4.1, by omega, by omega, by omega, by omega, by omega⟩
    let act : Nat → ActV := fun i => ⟨g i 0, g i 1, g i 2, g i 3, g i 4⟩
    refine ⟨(List.range len).map act, fun x hx => ?_, ?_, .inr ⟨a.block, a.off, cap, ?_, fun β j c hj => ?_⟩⟩
    · obtain ⟨i, hi, rfl⟩ := List.mem_map.1 hx
      obtain ⟨_, _, _, _, _, b0, b1, b2, b3, b4⟩ := hg i (List.mem_range.1 hi)
      exact ⟨b0, b1, b2, b3, b4⟩
    · unfold maxLen at hcm
      simp only [List.length_map, List.length_range]
      omega
    · simp only [List.length_map, List.length_range]
      obtain ⟨b, o, s⟩ := a
      simp only at hspot
      subst hspot
      rfl
    · have hj' := hj
      rw [flat_get actCells 5 (by omega) _ (fun _ _ => rfl)] at hj'
      obtain ⟨x, hx, hc⟩ := Option.bind_eq_some_iff.1 hj'
      have hlt : j / 5 < len := by
        have := (List.getElem?_eq_some_iff.1 hx).1
        simpa using this
      rw [List.getElem?_map, List.getElem?_range hlt] at hx
      simp only [Option.map_some, Option.some.injEq] at hx
      subst hx
      obtain ⟨c0, c1, c2, c3, c4, _⟩ := hg (j / 5) hlt
      have hjd : j = j / 5 * 5 + j % 5 := by omega
      have hm5 : j % 5 < 5 := Nat.mod_lt _ (by omega)
      rw [hjd]
      generalize j % 5 = q at hc hm5 ⊢
      generalize j / 5 = i at hc c0 c1 c2 c3 c4 ⊢
      match q, hm5, hc with
      | 0, _, hc => cases hc; exact c0
      | 1, _, hc => cases hc; exact c1
      | 2, _, hc => cases hc; exact c2
      | 3, _, hc => cases hc; exact c3
      | 4, _, hc => cases hc; exact c4
end Go.Proofs.Ytlgbbgicicnijaa
