/-
  'Rows.WalkSaneSaid': for all its arguments the law returns true, and each argument reads behind the call as it read before.
-/
import Derived.Test.YtaepmifmcohhgaaWalkMain
import Derived.Test.YtaepmifmcohhgaaXvOpen
import Derived.Test.YtaepmifmcohhgaaRows
namespace Go.Proofs.Ytaepmifmcohhgaa.walkSane
open Go.ChangeShapes Go.WideShapes Go.ChangeAt Go.RowKit Go.Xm
set_option linter.unusedVariables false
set_option linter.unusedSectionVars false

theorem own : ownKnob Try.prog.godebug = none := by kernel_rfl
theorem laidOut : laidOutB Try.prog = true := by kernel_rfl

theorem walk [Atoms] {W : World} {l : List IT} {v : Value} (h : SliceIn W v (fl icells l) l.length) (hl : ∀ j, j < l.length → (l.getD j default).Ok) (nl : l.length ≤ 9223372036854775807) (fr : Int) :
    Calls Try.prog 3 #[v, .int .i64 fr] W fun e w' => e = .returned (.bool true) ∧ Below W.heap.size W w' := by
  obtain ⟨c0, o0, b0, lo0, sz0, a1, a2, a3, a4, a5, a6, a7⟩ := obj_in (fl_shut _) fl_none 0 h
  have hc := law_con l o0 (ROL.in a3 a4) hl c0 a2 nl fr
  let β : Env := ⟨fun _ => b0, fun _ => lo0, fun _ => sz0⟩
  refine con_true hc (β := β) (Nat.le_of_ble_eq_true rfl) (fun i o ho => ?_) (fun o ho => ?_) (vs := [v, .int .i64 fr]) ?_
  · match i, ho with
    | 0, ho => cases ho; exact a6 _ _
    | i + 1, ho => simp at ho
  · simp only [List.mem_cons, List.not_mem_nil, or_false] at ho
    subst ho
    exact a5
  · exact .cons (a7 β 1 (by omega) rfl rfl) (.cons ⟨trivial, rfl⟩ .nil)

theorem sliceIn_of [Atoms] {W : World} {v : Value} {n : Nat} {g : Nat → Nat → Int} (h : (v = .slice none 0 0 ∧ n = 0) ∨ ∃ b off cap : Nat, n ≤ cap ∧ v = .slice (some ⟨b, off, none⟩) n cap ∧ ∀ i j, i < n → j < 4 → W.cell? ⟨b, off + (i * 4 + j), none⟩ = some (.int .u8 (g i j))) :
    SliceIn W v (fl icells ((List.range n).map fun i => ⟨g i 0, g i 1, g i 2, g i 3⟩)) ((List.range n).map fun i => (⟨g i 0, g i 1, g i 2, g i 3⟩ : IT)).length := by
  rcases h with ⟨rfl, rfl⟩ | ⟨b, off, cap, hle, rfl, hc⟩
  · exact .inl ⟨rfl, rfl, rfl⟩
  · refine .inr ⟨b, off, cap, by simpa using hle, by simp, fun j c hj β => ?_⟩
    have hj' : (((List.range n).map fun i => (⟨g i 0, g i 1, g i 2, g i 3⟩ : IT)).flatMap icells)[j]? = some c := hj
    rw [flat_get icells 4 (by omega) _ (fun _ _ => rfl)] at hj'
    obtain ⟨x, hx, hc'⟩ := Option.bind_eq_some_iff.1 hj'
    have hlt : j / 4 < n := by
      have := (List.getElem?_eq_some_iff.1 hx).1
      simpa using this
    rw [List.getElem?_map, List.getElem?_range hlt] at hx
    simp only [Option.map_some, Option.some.injEq] at hx
    subst hx
    have hm : j % 4 < 4 := Nat.mod_lt _ (by omega)
    have hcc := hc (j / 4) (j % 4) hlt hm
    rw [show j / 4 * 4 + j % 4 = j by omega] at hcc
    rw [hcc]
    generalize j % 4 = q at hc' hm
    match q, hm, hc' with
    | 0, _, hc' => cases hc'; rfl
    | 1, _, hc' => cases hc'; rfl
    | 2, _, hc' => cases hc'; rfl
    | 3, _, hc' => cases hc'; rfl

set_option maxRecDepth 100000 in
theorem lifted (os : Os) (started : os.Started) (H : Type) (enc : TypeId × Value → H) :
    ReturnsInHanded {} Try.checked os 3 .any (Rows.walkSaneSpec.pre6 enc Try.prog Try.f3 Rows.walkSaneRow.domain false) (Rows.walkSaneSpec.post enc Try.prog Try.f3 false true false false) := by
  letI : Atoms := ⟨fun _ => .u8, fun _ => 0⟩
  refine returnsInHanded_of_change (C := Try.checked) own started (by kernel_rfl) Try.func3
    (ChangeSpec.witness6 (enc := enc) (C := Try.checked) false ⟨#[], #[.slice none 0 0, .int .i64 0], []⟩ 8 (by kernel_rfl) (by kernel_rfl) (by kernel_rfl) (by kernel_rfl)) ?_
  intro W base args ds gs before hval0 hW hcnd _
  have hval : ∀ (j : Nat) t v, Try.f3.params[j]? = some t → args[j]? = some v → Value.okWide Try.prog W .any base t v := hval0
  have hW' := hW
  obtain ⟨p, q, hA0, hV, rfl, hfz, hnd⟩ := hW
  have hA : DataW.TrodAll enc Try.prog W 0 (fun _ => true) true Try.f3.params.toList args.toList ds p := hA0
  rw [Try.params3] at hA hval
  obtain ⟨v0, vs0, d0, ds0, p0, q0, hargs, rfl, rfl, h0, r0⟩ := trodAll_cons hA
  obtain ⟨v1, vs1, d1, ds1, p1, q1, rfl, rfl, rfl, h1, r1⟩ := trodAll_cons r0
  obtain ⟨rfl, rfl, rfl⟩ := trodAll_nil r1
  obtain rfl : args = #[v0, v1] := by cases args; simp_all
  obtain ⟨rfl, rfl⟩ := trodVars_none hV
  have k0 := h0
  have lt0 : ∀ x ∈ p0, x.block < W.heap.size := by obtain ⟨m, hm⟩ := k0; exact DataW.trod_lt m _ _ _ hm
  have hv0 := hval 0 22 v0 rfl rfl
  unfold Value.okWide at hv0
  rw [Try.underlying22] at hv0
  have hv0 : Cell.okWide Try.prog W .any base 22 v0 := hv0
  obtain ⟨fuel0, hf0⟩ := h0
  have hone : v0.cells.toList = [v0] := by
    have h := hv0
    unfold Cell.okWide at h
    rw [Try.underlying22] at h
    have hck : Cell.ok Try.prog W .any base 22 v0 := h
    unfold Cell.ok at hck
    rw [Try.underlying22] at hck
    split at hck <;> first
      | rfl
      | (cases hck)
  rw [hone] at hf0
  obtain ⟨n, g, nl, wl, sl⟩ := rows_open (fun _ => .u8) Try.underlying22 Try.underlying26 (by kernel_rfl) (by kernel_rfl) (fun j f hj => by
    match j, hj with
    | 0, hj => cases hj; exact Try.underlying5
    | 1, hj => cases hj; exact Try.underlying5
    | 2, hj => cases hj; exact Try.underlying5
    | 3, hj => cases hj; exact Try.underlying5
    | j + 4, hj => simp at hj) hv0 hf0
  obtain ⟨fr, rfl, rfl, rfl, w1⟩ := open_int Try.underlying3 (hval 1 3 v1 rfl rfl) h1
  clear hA0 hval0
  have hok : ∀ j, j < ((List.range n).map fun i => (⟨g i 0, g i 1, g i 2, g i 3⟩ : IT)).length → (((List.range n).map fun i => (⟨g i 0, g i 1, g i 2, g i 3⟩ : IT)).getD j default).Ok := fun j hj => by
    have hjn : j < n := by simpa using hj
    have e : ((List.range n).map fun i => (⟨g i 0, g i 1, g i 2, g i 3⟩ : IT)).getD j default = ⟨g j 0, g j 1, g j 2, g j 3⟩ := by
      rw [List.getD_eq_getElem?_getD, List.getElem?_map, List.getElem?_range hjn]; rfl
    rw [e]
    have u := fun q hq => bounds_u8 (wl j q hjn hq)
    have u0 := u 0 (Nat.le_of_ble_eq_true rfl)
    have u1 := u 1 (Nat.le_of_ble_eq_true rfl)
    have u2 := u 2 (Nat.le_of_ble_eq_true rfl)
    have u3 := u 3 (Nat.le_of_ble_eq_true rfl)
    exact ⟨by show 0 ≤ g j 0 ∧ g j 0 < 256; omega, by show 0 ≤ g j 1 ∧ g j 1 < 256; omega, by show 0 ≤ g j 2 ∧ g j 2 < 256; omega, by show 0 ≤ g j 3 ∧ g j 3 < 256; omega⟩
  refine (walk (sliceIn_of sl) hok (by simpa using nl) fr).mono fun e W' ⟨he, bel⟩ => ?_
  subst he
  exact ⟨_, rfl, _, _, _, [], _, [], hW', trodAll_mk1 (shut_bool Try.underlying4 _), (trodAll_cons_mk (Below.trod laidOut (by kernel_rfl) (of_decide_eq_true (by kernel_rfl)) k0 bel lt0) (trodAll_cons_mk (shut_int Try.underlying3 w1) trodAll_mk0)), rfl, bel.frame _, fun h => by cases h⟩

theorem over : Rows.walkSaneRow.holds Try.pinned (OpenSpec.ofChange Rows.walkSaneSpec) :=
  OpenClaim.holds_of_wide 3 Try.f3 rfl rfl rfl rfl rfl rfl rfl ⟨rfl, rfl, rfl, rfl, rfl⟩ rfl rfl rfl rfl rfl (by kernel_rfl) Try.func3 (by kernel_rfl)
    (of_decide_eq_true (by kernel_rfl)) (by unfold Func.isWrapper; first | (rw [if_pos (by decide +kernel)]; kernel_rfl) | (rw [if_neg (by decide +kernel)]; exact ⟨rfl, rfl⟩))
    (fun os started H enc _ => lifted os started H enc)

theorem proved : Rows.WalkSaneSaid := over
end Go.Proofs.Ytaepmifmcohhgaa.walkSane
