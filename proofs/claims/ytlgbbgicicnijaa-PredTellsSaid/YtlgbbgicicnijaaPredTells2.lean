/-
  'Rows.PredTellsSaid': for all its arguments.
-/
import Derived.Test.YtlgbbgicicnijaaPredTells1
import Derived.Test.YtlgbbgicicnijaaActsIn
namespace Go.Proofs.Ytlgbbgicicnijaa.predTells
open Go.ChangeShapes Go.WideShapes Go.ChangeAt Go.RowKit Go.Xm
set_option linter.unusedVariables false
set_option linter.unusedSectionVars false

theorem own : ownKnob Try.prog.godebug = none := by kernel_rfl
theorem laidOut : laidOutB Try.prog = true := by kernel_rfl

/-- A slice that came in, as an object of its own. -/
theorem obj_of [Atoms] {W : World} {l : List ActV} {v : Value} (hok : ∀ a ∈ l, a.Ok) (i : Nat) (h : (v = .slice none 0 0 ∧ l = []) ∨ ∃ (b off cap : Nat), v = .slice (some ⟨b, off, none⟩) l.length cap ∧ ∀ (β : Env) (j : Nat) (c : XC), (flatActs l)[j]? = some c → W.cell? ⟨b, off + j, none⟩ = some (c.den β)) :
    ∃ (c : XC) (o : XObj) (b lo sz : Nat), SlOk c i l.length ∧ (0 < l.length → ∃ e, o = .cells (flatActs l) e true true) ∧ (∀ n, o.okN n) ∧ o.own = false ∧ (∀ β n, RelO β n lo sz o W.heap[b]?) ∧ ∀ (β : Env) n, i < n → β.blk i = b → β.base i = lo → RelV β n (.one c) v := by
  have shut : ∀ n, ∀ c ∈ flatActs l, c.ok n := fun n c hc => by
    obtain ⟨a, _, ha⟩ := List.mem_flatMap.1 hc
    simp only [actCells, List.mem_cons, List.not_mem_nil, or_false] at ha
    rcases ha with rfl | rfl | rfl | rfl | rfl <;> trivial
  rcases h with ⟨rfl, rfl⟩ | ⟨b, off, cap, rfl, hc⟩
  · exact ⟨.nils, .dead, 0, 0, 0, .inl ⟨rfl, rfl⟩, fun h => absurd h (by simp), fun _ => trivial, rfl, fun _ _ => trivial, fun β n _ _ _ => ⟨trivial, rfl⟩⟩
  · by_cases hl : 0 < l.length
    · have hne : 0 < (flatActs l).length := by
        have := (flat_at actCells 5 l (fun _ _ => rfl) 0 _ (List.getElem?_eq_getElem hl)).1
        show 0 < (l.flatMap actCells).length
        omega
      have hden : ∀ (β β' : Env) (c : XC), c ∈ flatActs l → c.den β = c.den β' := fun β β' c hm => by
        obtain ⟨a, _, ha⟩ := List.mem_flatMap.1 hm
        simp only [actCells, List.mem_cons, List.not_mem_nil, or_false] at ha
        rcases ha with rfl | rfl | rfl | rfl | rfl <;> rfl
      obtain ⟨e, sz, hr⟩ := relO_view (β := Env.zero) (n := 0) (W := W) (b := b) (lo := off) (vs := flatActs l) hne (fun j c hj => hc _ j c hj) (shut 0)
      refine ⟨.slice i 0 l.length (.exact cap), .cells (flatActs l) e true true, b, off, sz, .inr ⟨cap, rfl⟩, fun _ => ⟨e, rfl⟩, fun n c hm => shut n c hm, rfl, fun β n => ?_, fun β n hi hb hlo => ⟨hi, ?_⟩⟩
      · obtain ⟨cs, fr, g1, g2, g3, g4, g5, g6⟩ := hr
        exact ⟨cs, fr, g1, g2, g3, g4, fun c hm => shut n c hm, g6.trans (List.map_congr_left fun c hm => hden _ _ c hm)⟩
      · simp only [XC.den, hb, hlo, Nat.add_zero]
    · have h0 : l.length = 0 := by omega
      refine ⟨.slice i 0 l.length (.exact cap), .dead, b, off, 0, .inr ⟨cap, rfl⟩, fun h => absurd h hl, fun _ => trivial, rfl, fun _ _ => trivial, fun β n hi hb hlo => ⟨hi, ?_⟩⟩
      simp only [XC.den, hb, hlo, Nat.add_zero]

theorem walk [Atoms] {W : World} {l : List ActV} {va : Value} (hl : ∀ a ∈ l, a.Ok) (na : l.length ≤ 9223372036854775807)
    (ha : (va = .slice none 0 0 ∧ l = []) ∨ ∃ (b off cap : Nat), va = .slice (some ⟨b, off, none⟩) l.length cap ∧ ∀ (β : Env) (j : Nat) (c : XC), (flatActs l)[j]? = some c → W.cell? ⟨b, off + j, none⟩ = some (c.den β))
    (cols rows qp : Int) (h1 : 0 ≤ cols ∧ cols < 256) (h2 : 0 ≤ rows ∧ rows < 256) (h3 : 0 ≤ qp ∧ qp < 256) :
    Calls Try.prog 4 #[.int .u8 cols, .int .u8 rows, va, .int .u8 qp] W fun e w' => e = .returned (.bool true) ∧ Below W.heap.size W w' := by
  obtain ⟨sa, oA, bA, loA, szA, a1, a2, a3, a4, a5, a6⟩ := obj_of hl 0 ha
  have hc := tells_con l hl sa oA a1 a2 a3 na cols rows qp h1 h2 h3
  refine con_true hc (β := ⟨fun _ => bA, fun _ => loA, fun _ => szA⟩) (Nat.le_of_ble_eq_true rfl) (fun i o ho => ?_) (fun o ho => ?_) (vs := [.int .u8 cols, .int .u8 rows, va, .int .u8 qp]) ?_
  · match i, ho with
    | 0, ho => cases ho; exact a5 _ _
    | i + 1, ho => simp at ho
  · simp only [List.mem_cons, List.not_mem_nil, or_false] at ho
    subst ho
    exact a4
  · exact .cons ⟨trivial, rfl⟩ (.cons ⟨trivial, rfl⟩ (.cons (a6 _ _ (Nat.le_of_ble_eq_true rfl) rfl rfl) (.cons ⟨trivial, rfl⟩ .nil)))

set_option maxRecDepth 100000 in
theorem lifted (os : Os) (started : os.Started) (H : Type) (enc : TypeId × Value → H) :
    ReturnsInHanded {} Try.checked os 4 .any (Rows.predTellsSpec.pre6 enc Try.prog Try.f4 Rows.predTellsRow.domain false) (Rows.predTellsSpec.post enc Try.prog Try.f4 false true false false) := by
  letI : Atoms := ⟨fun _ => .u8, fun _ => 0⟩
  refine returnsInHanded_of_change (C := Try.checked) own started (by kernel_rfl) Try.func4
    (ChangeSpec.witness6 (enc := enc) (C := Try.checked) false ⟨#[], #[.int .u8 0, .int .u8 0, .slice none 0 0, .int .u8 0], []⟩ 8 (by kernel_rfl) (by kernel_rfl) (by kernel_rfl) (by kernel_rfl)) ?_
  intro W base args ds gs before hval0 hW hcnd _
  have hval : ∀ (j : Nat) t v, Try.f4.params[j]? = some t → args[j]? = some v → Value.okWide Try.prog W .any base t v := hval0
  have hW' := hW
  obtain ⟨p, q, hA0, hV, rfl, hfz, hnd⟩ := hW
  have hA : DataW.TrodAll enc Try.prog W 0 (fun _ => true) true Try.f4.params.toList args.toList ds p := hA0
  rw [Try.params4] at hA hval
  obtain ⟨v0, vs0, d0, ds0, p0, q0, hargs, rfl, rfl, h0, r0⟩ := trodAll_cons hA
  obtain ⟨v1, vs1, d1, ds1, p1, q1, rfl, rfl, rfl, h1, r1⟩ := trodAll_cons r0
  obtain ⟨v2, vs2, d2, ds2, p2, q2, rfl, rfl, rfl, h2, r2⟩ := trodAll_cons r1
  obtain ⟨v3, vs3, d3, ds3, p3, q3, rfl, rfl, rfl, h3, r3⟩ := trodAll_cons r2
  obtain ⟨rfl, rfl, rfl⟩ := trodAll_nil r3
  obtain rfl : args = #[v0, v1, v2, v3] := by cases args; simp_all
  obtain ⟨rfl, rfl⟩ := trodVars_none hV
  have k2 := h2
  have lt2 : ∀ x ∈ p2, x.block < W.heap.size := by obtain ⟨m, hm⟩ := k2; exact DataW.trod_lt m _ _ _ hm
  obtain ⟨cols, rfl, rfl, rfl, w0⟩ := open_int Try.underlying5 (hval 0 5 v0 rfl rfl) h0
  obtain ⟨rows, rfl, rfl, rfl, w1⟩ := open_int Try.underlying5 (hval 1 5 v1 rfl rfl) h1
  obtain ⟨l, okl, nl, hl⟩ := open_acts (hval 2 29 v2 rfl rfl) h2
  obtain ⟨qp, rfl, rfl, rfl, w3⟩ := open_int Try.underlying5 (hval 3 5 v3 rfl rfl) h3
  clear hA0 hval0
  have b0 := bounds_u8 w0
  have b1 := bounds_u8 w1
  have b3 := bounds_u8 w3
  refine (walk okl nl hl cols rows qp (by omega) (by omega) (by omega)).mono fun e W' ⟨he, bel⟩ => ?_
  subst he
  exact ⟨_, rfl, _, _, _, [], _, [], hW', trodAll_mk1 (shut_bool Try.underlying4 _), (trodAll_cons_mk (shut_int Try.underlying5 w0) (trodAll_cons_mk (shut_int Try.underlying5 w1) (trodAll_cons_mk (Below.trod laidOut (by kernel_rfl) (of_decide_eq_true (by kernel_rfl)) k2 bel lt2) (trodAll_cons_mk (shut_int Try.underlying5 w3) trodAll_mk0)))), rfl, bel.frame _, fun h => by cases h⟩

theorem over : Rows.predTellsRow.holds Try.pinned (OpenSpec.ofChange Rows.predTellsSpec) :=
  OpenClaim.holds_of_wide 4 Try.f4 rfl rfl rfl rfl rfl rfl rfl ⟨rfl, rfl, rfl, rfl, rfl⟩ rfl rfl rfl rfl rfl (by kernel_rfl) Try.func4 (by kernel_rfl)
    (of_decide_eq_true (by kernel_rfl)) (by unfold Func.isWrapper; first | (rw [if_pos (by decide +kernel)]; kernel_rfl) | (rw [if_neg (by decide +kernel)]; exact ⟨rfl, rfl⟩))
    (fun os started H enc _ => lifted os started H enc)

theorem proved : Rows.PredTellsSaid := over
end Go.Proofs.Ytlgbbgicicnijaa.predTells
