/-
  The second machine: arguments as they come in: slices of numbers, as objects of their own.
-/
import Derived.Test.YtaepmifmcohhgaaXvAuto
import Derived.WalkKit
import Derived.ProofKit
import Derived.OpenShut
import Derived.ShutString
import Derived.ChangeOld
import Derived.Below
import Derived.Deep.Slices
import Derived.Deep.Fields
import Derived.ChangeSame
namespace Go.Xm
open Go.ChangeShapes Go.WideShapes Go.ChangeAt Go.RowKit Go.Deep
set_option linter.unusedVariables false
set_option linter.unusedSectionVars false
variable [Atoms]

/-- A slice that came in: its elements' cells. -/
def SliceIn (w : World) (v : Value) (vs : List XC) (n : Nat) : Prop :=
  (v = .slice none 0 0 ∧ n = 0 ∧ vs = []) ∨ ∃ b off cap : Nat, n ≤ cap ∧ v = .slice (some ⟨b, off, none⟩) n cap ∧ ∀ (j : Nat) (c : XC), vs[j]? = some c → ∀ β : Env, w.cell? ⟨b, off + j, none⟩ = some (c.den β)

theorem slice_spot {P : Program} {w : World} {r : Reach} {b0 : Nat} {t e : TypeId} {a : Addr} {len cap : Nat} (ht : P.underlying t = some (.slice e)) (h : Cell.okWide P w r b0 t (.slice (some a) len cap)) : a.spot = none := by
  unfold Cell.okWide at h
  rw [ht] at h
  have hck : Cell.ok P w r b0 t (.slice (some a) len cap) := h
  unfold Cell.ok at hck
  rw [ht] at hck
  exact hck.2.2.2.1
theorem add_spot' {a : Addr} (h : a.spot = none) (n : Nat) : a.add n = ⟨a.block, a.off + n, none⟩ := by
  obtain ⟨b, o, s⟩ := a
  simp only at h
  subst h
  exact Addr.add_none b o n
def numOf : Option Value → Int
  | some (.int _ z) => z
  | _ => 0

theorem ints_open {H : Type} {enc : TypeId × Value → H} {P : Program} {w : World} {r : Reach} {base b0 : Nat} {spare : Nat → Bool} {held : Bool} {t e : TypeId} {k : IntKind} (ht : P.underlying t = some (.slice e)) (he : P.underlying e = some (.int k)) (hC : P.cellsOf e = 1) {v : Value} (hcell : Cell.okWide P w r b0 t v) {fuel : Nat} {x : DataW H × List MemPlace} (hf : DataW.trod enc P w base spare held fuel t [v] = some x) :
    ∃ l : List Int, (∀ z ∈ l, (Lit.int k z).wf = true) ∧ l.length ≤ 9223372036854775807 ∧ SliceIn w v (il k l) l.length := by
  rcases open_slice1 ht hC hf with ⟨hcs, _⟩ | ⟨a, len, cap, m, n, V, D, Pl, hcs, _, hlc, hcm, hm, _, hall⟩
  · simp only [List.cons.injEq, and_true] at hcs
    exact ⟨[], by simp, by simp, .inl ⟨hcs, rfl, rfl⟩⟩
  · simp only [List.cons.injEq, and_true] at hcs
    subst hcs
    have hspot := slice_spot ht hcell
    have hlm : len ≤ m := by rw [hm]; split <;> omega
    have hV : ∀ i, i < len → w.cell? ⟨a.block, a.off + i, none⟩ = some (.int k (numOf (some (V i)))) ∧ (Lit.int k (numOf (some (V i)))).wf = true := fun i hi => by
      obtain ⟨h1, h2⟩ := hall i (by omega)
      rw [add_spot' hspot] at h1
      obtain ⟨z, hz, _, hwf⟩ := DataW.trod_int he h2
      simp only [List.cons.injEq, and_true] at hz
      rw [h1, hz]
      exact ⟨rfl, hwf⟩
    refine ⟨(List.range len).map fun i => numOf (some (V i)), fun z hz => ?_, ?_, .inr ⟨a.block, a.off, cap, by simpa using hlc, ?_, fun j c hj β => ?_⟩⟩
    · obtain ⟨i, hi, rfl⟩ := List.mem_map.1 hz
      exact (hV i (List.mem_range.1 hi)).2
    · unfold maxLen at hcm
      simp only [List.length_map, List.length_range]
      omega
    · simp only [List.length_map, List.length_range]
      obtain ⟨b, o, s⟩ := a
      simp only at hspot
      subst hspot
      rfl
    · have hjl : j < len := by
        have := (List.getElem?_eq_some_iff.1 hj).1
        simpa [il] using this
      simp only [il, List.map_map, List.getElem?_map, List.getElem?_range hjl, Option.map_some, Option.some.injEq] at hj
      subst hj
      exact (hV j hjl).1

/-- A slice that came in, as an object. -/
theorem obj_in {W : World} {v : Value} {vs : List XC} {n : Nat} (hs : vs.all XC.shut = true) (h0 : n = 0 → vs = []) (i : Nat) (h : SliceIn W v vs n) :
    ∃ (c : XC) (o : XObj) (b lo sz : Nat), SlOk c i n ∧ SlOf c i 0 n ∧ (0 < vs.length → ∃ e, o = .cells vs e true true) ∧ FlatO o ∧ o.own = false ∧ (∀ β m, RelO β m lo sz o W.heap[b]?) ∧ ∀ (β : Env) m, i < m → β.blk i = b → β.base i = lo → RelV β m (.one c) v := by
  have hok : ∀ m, ∀ c ∈ vs, c.ok m := fun m c hc => XC.ok_of_shut (List.all_eq_true.1 hs c hc) m
  rcases h with ⟨rfl, rfl, rfl⟩ | ⟨b, off, cap, hle, rfl, hc⟩
  · exact ⟨.nils, .dead, 0, 0, 0, .inl ⟨rfl, rfl⟩, .nil, fun h => absurd h (by simp), inferInstance, rfl, fun _ _ => trivial, fun β n _ _ _ => ⟨trivial, rfl⟩⟩
  · by_cases hl : 0 < vs.length
    · obtain ⟨e, sz, hr⟩ := relO_view (β := Env.zero) (n := 0) (W := W) (b := b) (lo := off) (vs := vs) hl (fun j c hj => hc j c hj _) (hok 0)
      refine ⟨.slice i 0 n (.exact cap), .cells vs e true true, b, off, sz, .inr ⟨cap, rfl⟩, .mk hle, fun _ => ⟨e, rfl⟩, flatO_of hs, rfl, fun β m => ?_, fun β m hi hb hlo => ⟨hi, ?_⟩⟩
      · obtain ⟨cs, fr, g1, g2, g3, g4, g5, g6⟩ := hr
        exact ⟨cs, fr, g1, g2, g3, g4, hok m, g6.trans (List.map_congr_left fun c hm => XC.den_of_shut (List.all_eq_true.1 hs c hm) _ _)⟩
      · simp only [XC.den, hb, hlo, Nat.add_zero]
    · refine ⟨.slice i 0 n (.exact cap), .dead, b, off, 0, .inr ⟨cap, rfl⟩, .mk hle, fun h => absurd h hl, inferInstance, rfl, fun _ _ => trivial, fun β m hi hb hlo => ⟨hi, ?_⟩⟩
      simp only [XC.den, hb, hlo, Nat.add_zero]
theorem RO.in {o : XObj} {k : IntKind} {l : List Int} (h : 0 < (il k l).length → ∃ e, o = .cells (il k l) e true true) (hf : FlatO o) : RO o k l :=
  ⟨fun hl => by obtain ⟨e, he⟩ := h (by rw [il_len]; exact hl); exact ⟨e, true, true, he⟩, hf⟩
theorem il_none {k : IntKind} {l : List Int} : l.length = 0 → il k l = [] := fun h => by rw [List.length_eq_zero_iff.1 h]; rfl
theorem getD_all {l : List Int} {p : Int → Prop} (h0 : p 0) (h : ∀ z ∈ l, p z) (i : Nat) : p (l.getD i 0) := by
  rw [List.getD_eq_getElem?_getD]
  cases hi : l[i]? with
  | none => exact h0
  | some z => exact h z (List.mem_of_getElem? hi)
/-- A struct of one-celled fields that came in. -/
theorem struct_open {H : Type} {enc : TypeId × Value → H} {P : Program} {w : World} {r : Reach} {base b0 : Nat} {spare : Nat → Bool} {held : Bool} {t : TypeId} {fs : Array Field} {ts : List TypeId} (ht : P.underlying t = some (.struct fs)) (hone : oneCellFields P fs = true) (hC : P.cellsOf t = fs.size) (hts : P.cellTypes P.depth t = some ts) (htl : ts.length = fs.size) {v : Value} (hval : Value.okWide P w r b0 t v) {d : DataW H} {ps : List MemPlace} (hd : DataW.Trod enc P w base spare held t v d ps) :
    ∃ cs : Array Value, v = .agg cs ∧ cs.size = fs.size ∧ ∀ (j : Nat) (f : Field) (u : TypeId), fs[j]? = some f → ts[j]? = some u → ∃ x, cs[j]? = some x ∧ Cell.okWide P w r b0 u x ∧ ∃ (n : Nat) (y : DataW H × List MemPlace), DataW.trod enc P w base spare held n f.type [x] = some y := by
  unfold Value.okWide at hval
  rw [ht] at hval
  obtain ⟨cs, rfl, hsz, ts', hts', _, hcell⟩ := hval
  rw [hts] at hts'
  cases hts'
  obtain ⟨fuel, hf⟩ := hd
  obtain ⟨xs, n, rfl, _, hlen, hxl, hx⟩ := DataW.trod_struct ht hf
  refine ⟨cs, rfl, by rw [hsz, hC], fun j f u hj hu => ?_⟩
  have hjs : j < fs.size := (Array.getElem?_eq_some_iff.1 hj).1
  have hjc : j < cs.size := by omega
  obtain ⟨ho, hk⟩ := hone_of hone j f hj
  have hcj : cs[j]? = some cs[j] := Array.getElem?_eq_getElem hjc
  obtain ⟨u', hu', hok⟩ := hcell j _ hcj
  rw [Nat.mod_eq_of_lt (by omega), hu] at hu'
  cases hu'
  refine ⟨_, hcj, hok, n, xs[j]'(by omega), ?_⟩
  have h1 := hx j f hj
  rw [ho, hk] at h1
  have hv : (Value.agg cs).cells.toList = cs.toList := rfl
  rw [hv, List.drop_eq_getElem_cons (by simpa using hjc)] at h1
  simp only [List.take_succ_cons, List.take_zero, Array.getElem_toList] at h1
  rw [h1]
  exact List.getElem?_eq_getElem (by omega)
theorem cell_int {P : Program} {w : World} {r : Reach} {b0 : Nat} {t : TypeId} {k : IntKind} (ht : P.underlying t = some (.int k)) {v : Value} (h : Cell.okWide P w r b0 t v) : ∃ z, v = .int k z ∧ k.has z := by
  unfold Cell.okWide at h
  rw [ht] at h
  have hck : Cell.ok P w r b0 t v := by
    cases v <;> exact h
  unfold Cell.ok at hck
  rw [ht] at hck
  cases v with
  | int k' n => exact ⟨n, by rw [hck.1], hck.2⟩
  | _ => exact hck.elim

/-! ### Slices of structs of numbers -/
section
variable {H : Type} {enc : TypeId × Value → H} {P : Program} {w : World} {base : Nat} {spare : Nat → Bool} {held : Bool}
theorem open_slice_fields {t e : TypeId} {fs : Array Field} {fuel : Nat} {cs : List Value} {x : DataW H × List MemPlace} (ht : P.underlying t = some (.slice e)) (he : P.underlying e = some (.struct fs))
    (hone : oneCellFields P fs = true) (hC : P.cellsOf e = fs.size) (h : DataW.trod enc P w base spare held fuel t cs = some x) :
    (cs = [.slice none 0 0] ∧ x = (.nil, [])) ∨
    ∃ (a : Addr) (len cap m : Nat) (D : Nat → DataW H) (Pl : Nat → List MemPlace), cs = [.slice (some a) len cap] ∧ base ≤ a.block ∧ len ≤ cap ∧ cap ≤ maxLen ∧ m = (if spare a.block then cap else len) ∧
      x = (.slice ((List.range len).map D) ((List.range (m - len)).map fun j => D (len + j)), MemPlace.row a (m * fs.size) ++ (List.range m).flatMap Pl) ∧
      ∀ i, i < m → ∃ (ys : List (DataW H × List MemPlace)) (n : Nat), D i = .agg (ys.map (·.1)) ∧ Pl i = ys.flatMap (·.2) ∧ ys.length = fs.size ∧
        ∀ (j : Nat) (f : Field), fs[j]? = some f → ∃ (v : Value) (y : DataW H × List MemPlace), w.cell? (a.add (i * fs.size + j)) = some v ∧ ys[j]? = some y ∧ DataW.trod enc P w base spare held n f.type [v] = some y := by
  rcases open_slice ht h with h0 | ⟨a, len, cap, m, n, D, Pl, hcs, hb, hl, hm, hmm, hx, hi⟩
  · exact .inl h0
  · refine .inr ⟨a, len, cap, m, D, Pl, hcs, hb, hl, hm, hmm, by rw [hC] at hx; exact hx, fun i him => ?_⟩
    obtain ⟨cs', hc, ht'⟩ := hi i him
    rw [hC] at hc
    obtain ⟨ys, n', hn', hy, hlen, hyl, hf⟩ := DataW.trod_struct he ht'
    obtain ⟨_, hcl, hat⟩ := World.cells?_some hc
    simp only [Prod.mk.injEq] at hy
    refine ⟨ys, n', hy.1, hy.2, hyl, fun j f hj => ?_⟩
    obtain ⟨ho, hk⟩ := hone_of hone j f hj
    have hjl : j < fs.size := (Array.getElem?_eq_some_iff.1 hj).1
    have hcell := hat j hjl
    have hv : cs'[j]? = some (cs'[j]'(by omega)) := List.getElem?_eq_getElem (by omega)
    have h1 := hf j f hj
    rw [ho, hk] at h1
    have hone' : (cs'.drop j).take 1 = [cs'[j]'(by omega)] := by
      rw [List.drop_eq_getElem_cons (by omega)]
      rfl
    rw [hone'] at h1
    have hys : ys[j]? = some (ys[j]'(by omega)) := List.getElem?_eq_getElem (by omega)
    refine ⟨_, _, ?_, hys, h1.trans hys⟩
    rw [← Go.Deep.add_add, hcell, hv]
end

theorem flat_get {α : Type} (f : α → List XC) (s : Nat) (hs : 0 < s) : ∀ (l : List α), (∀ a ∈ l, (f a).length = s) → ∀ j, (l.flatMap f)[j]? = (l[j / s]?).bind fun a => (f a)[j % s]?
  | [], _, j => by simp
  | x :: l, hl, j => by
    have hx := hl x (List.mem_cons_self ..)
    rw [List.flatMap_cons]
    by_cases hj : j < s
    · rw [List.getElem?_append_left (by omega), Nat.div_eq_of_lt hj, Nat.mod_eq_of_lt hj]
      rfl
    · rw [List.getElem?_append_right (by omega), flat_get f s hs l (fun b hb => hl b (List.mem_cons_of_mem _ hb)), hx]
      obtain ⟨q, rfl⟩ : ∃ q, j = q + s := ⟨j - s, by omega⟩
      rw [Nat.add_sub_cancel, Nat.add_div_right _ hs, Nat.add_mod_right]
      rfl


theorem rows_open {H : Type} {enc : TypeId × Value → H} {P : Program} {w : World} {r : Reach} {base b0 : Nat} {spare : Nat → Bool} {held : Bool} {t e : TypeId} {fs : Array Field} (ks : Nat → IntKind) (ht : P.underlying t = some (.slice e)) (he : P.underlying e = some (.struct fs)) (hone : oneCellFields P fs = true) (hC : P.cellsOf e = fs.size) (hks : ∀ (j : Nat) (f : Field), fs[j]? = some f → P.underlying f.type = some (.int (ks j)))
    {v : Value} (hcell : Cell.okWide P w r b0 t v) {fuel : Nat} {x : DataW H × List MemPlace} (hf : DataW.trod enc P w base spare held fuel t [v] = some x) :
    ∃ (n : Nat) (g : Nat → Nat → Int), n ≤ 9223372036854775807 ∧ (∀ i j, i < n → j < fs.size → (Lit.int (ks j) (g i j)).wf = true) ∧ ((v = .slice none 0 0 ∧ n = 0) ∨ ∃ b off cap : Nat, n ≤ cap ∧ v = .slice (some ⟨b, off, none⟩) n cap ∧ ∀ i j, i < n → j < fs.size → w.cell? ⟨b, off + (i * fs.size + j), none⟩ = some (.int (ks j) (g i j))) := by
  rcases open_slice_fields ht he hone hC hf with ⟨hcs, _⟩ | ⟨a, len, cap, m, D, Pl, hcs, _, hlc, hcm, hm, _, hall⟩
  · simp only [List.cons.injEq, and_true] at hcs
    exact ⟨0, fun _ _ => 0, by omega, fun _ _ h => absurd h (Nat.not_lt_zero _), .inl ⟨hcs, rfl⟩⟩
  · simp only [List.cons.injEq, and_true] at hcs
    subst hcs
    have hspot := slice_spot ht hcell
    have hlm : len ≤ m := by rw [hm]; split <;> omega
    have hV : ∀ i j, i < len → j < fs.size → w.cell? ⟨a.block, a.off + (i * fs.size + j), none⟩ = some (.int (ks j) (numOf (w.cell? ⟨a.block, a.off + (i * fs.size + j), none⟩))) ∧ (Lit.int (ks j) (numOf (w.cell? ⟨a.block, a.off + (i * fs.size + j), none⟩))).wf = true := fun i j hi hj => by
      obtain ⟨ys, n, _, _, _, hff⟩ := hall i (by omega)
      have hfj : fs[j]? = some fs[j] := by simp [hj]
      obtain ⟨u, y, hc, _, hu⟩ := hff j _ hfj
      rw [add_spot' hspot] at hc
      obtain ⟨z, hz, _, hwf⟩ := DataW.trod_int (hks j _ hfj) hu
      simp only [List.cons.injEq, and_true] at hz
      rw [hc, hz]
      exact ⟨rfl, hwf⟩
    refine ⟨len, fun i j => numOf (w.cell? ⟨a.block, a.off + (i * fs.size + j), none⟩), ?_, fun i j hi hj => (hV i j hi hj).2, .inr ⟨a.block, a.off, cap, hlc, ?_, fun i j hi hj => (hV i j hi hj).1⟩⟩
    · unfold maxLen at hcm; omega
    · obtain ⟨b, o, s⟩ := a
      simp only at hspot
      subst hspot
      rfl
theorem ROL.in {α : Type} {enc : α → List XC} {s : Nat} [hE : FEnc enc s] {o : XObj} {l : List α} (h : 0 < (fl enc l).length → ∃ e, o = .cells (fl enc l) e true true) (hf : FlatO o) : ROL o enc l :=
  ⟨fun hl => by
    have hp := hE.pos
    obtain ⟨e, he⟩ := h (by rw [fl_len]; exact Nat.mul_pos hl hp)
    exact ⟨e, true, true, he⟩, hf⟩
theorem fl_none {α : Type} {enc : α → List XC} {l : List α} : l.length = 0 → fl enc l = [] := fun h => by rw [List.length_eq_zero_iff.1 h]; rfl
end Go.Xm
