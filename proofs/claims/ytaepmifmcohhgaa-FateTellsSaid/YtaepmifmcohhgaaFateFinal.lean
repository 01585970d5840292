/-
  'Rows.FateTellsSaid': for all its arguments the law returns true, and each argument reads behind the call as it read before.
-/
import Derived.Test.YtaepmifmcohhgaaFateMain
import Derived.Test.YtaepmifmcohhgaaXvOpen
import Derived.Test.YtaepmifmcohhgaaRows
namespace Go.Proofs.Ytaepmifmcohhgaa.fateTells
open Go.ChangeShapes Go.WideShapes Go.ChangeAt Go.RowKit Go.Xm
set_option linter.unusedVariables false
set_option linter.unusedSectionVars false

theorem own : ownKnob Try.prog.godebug = none := by kernel_rfl
theorem laidOut : laidOutB Try.prog = true := by kernel_rfl

theorem wf_u8 [Atoms] {l : List Int} (h : ∀ z ∈ l, (Lit.int .u8 z).wf = true) : ByteL l := fun p => getD_all (p := fun z => 0 ≤ z ∧ z < 256) (by decide) (fun z hz => by have := bounds_u8 (h z hz); omega) p
theorem wf_u16 [Atoms] {l : List Int} (h : ∀ z ∈ l, (Lit.int .u16 z).wf = true) : ∀ p, 0 ≤ l.getD p 0 ∧ l.getD p 0 < 65536 := fun p => getD_all (p := fun z => 0 ≤ z ∧ z < 65536) (by decide) (fun z hz => by have := bounds_u16 (h z hz); omega) p

theorem walk [Atoms] {W : World} {lm od sm : List Int} {vm vo vs : Value} (hm : SliceIn W vm (il .u8 lm) lm.length) (ho : SliceIn W vo (il .u16 od) od.length) (hs : SliceIn W vs (il .u8 sm) sm.length) (hlm : ByteL lm) (hod : ∀ p, 0 ≤ od.getD p 0 ∧ od.getD p 0 < 65536) (nm : lm.length ≤ 9223372036854775807) (no : od.length ≤ 9223372036854775807)
    (a b kind at_ burst : Int) (hk : 0 ≤ kind ∧ kind < 256) (hat : 0 ≤ at_ ∧ at_ < 65536) (hbu : 0 ≤ burst ∧ burst < 65536) :
    Calls Try.prog 4 #[vm, .int .i64 a, .int .i64 b, .agg #[.int .u8 kind, .int .u16 at_, .int .u16 burst, vo, vs]] W fun e w' => e = .returned (.bool true) ∧ Below W.heap.size W w' := by
  obtain ⟨c0, o0, b0, lo0, sz0, a1, a2, a3, a4, a5, a6, a7⟩ := obj_in (il_shut _ _) il_none 0 hm
  obtain ⟨c1, o1, b1, lo1, sz1, d1, d2, d3, d4, d5, d6, d7⟩ := obj_in (il_shut _ _) il_none 1 ho
  obtain ⟨c2, o2, b2, lo2, sz2, e1, e2, e3, e4, e5, e6, e7⟩ := obj_in (il_shut _ _) il_none 2 hs
  have hc := law_con lm od sm.length o0 o1 o2 (RO.in a3 a4) hlm (RO.in d3 d4) e4 hod c0 c1 c2 a2 d1 d2 e1 nm no a b kind at_ burst hk hat hbu
  let β : Env := ⟨fun i => if i = 0 then b0 else if i = 1 then b1 else b2, fun i => if i = 0 then lo0 else if i = 1 then lo1 else lo2, fun i => if i = 0 then sz0 else if i = 1 then sz1 else sz2⟩
  have r0 : RelV β 3 (.one c0) vm := a7 β 3 (by omega) rfl rfl
  have r1 : RelV β 3 (.one c1) vo := d7 β 3 (by omega) rfl rfl
  have r2 : RelV β 3 (.one c2) vs := e7 β 3 (by omega) rfl rfl
  refine con_true hc (β := β) (Nat.le_of_ble_eq_true rfl) (fun i o ho => ?_) (fun o ho => ?_) (vs := [vm, .int .i64 a, .int .i64 b, .agg #[.int .u8 kind, .int .u16 at_, .int .u16 burst, vo, vs]]) ?_
  · match i, ho with
    | 0, ho => cases ho; exact a6 _ _
    | 1, ho => cases ho; exact d6 _ _
    | 2, ho => cases ho; exact e6 _ _
    | i + 3, ho => simp at ho
  · simp only [List.mem_cons, List.not_mem_nil, or_false] at ho
    rcases ho with rfl | rfl | rfl
    · exact a5
    · exact d5
    · exact e5
  · refine .cons r0 (.cons ⟨trivial, rfl⟩ (.cons ⟨trivial, rfl⟩ (.cons ⟨fun c hc => ?_, ?_⟩ .nil)))
    · simp only [sCells, List.mem_cons, List.not_mem_nil, or_false] at hc
      rcases hc with rfl | rfl | rfl | rfl | rfl
      · trivial
      · trivial
      · trivial
      · exact r1.1
      · exact r2.1
    · rw [r1.2, r2.2]
      rfl

set_option maxRecDepth 100000 in
theorem lifted (os : Os) (started : os.Started) (H : Type) (enc : TypeId × Value → H) :
    ReturnsInHanded {} Try.checked os 4 .any (Rows.fateTellsSpec.pre6 enc Try.prog Try.f4 Rows.fateTellsRow.domain false) (Rows.fateTellsSpec.post enc Try.prog Try.f4 false true false false) := by
  letI : Atoms := ⟨fun _ => .u8, fun _ => 0⟩
  refine returnsInHanded_of_change (C := Try.checked) own started (by kernel_rfl) Try.func4
    (ChangeSpec.witness6 (enc := enc) (C := Try.checked) false ⟨#[], #[.slice none 0 0, .int .i64 0, .int .i64 0, .agg #[.int .u8 0, .int .u16 0, .int .u16 0, .slice none 0 0, .slice none 0 0]], []⟩ 8 (by kernel_rfl) (by kernel_rfl) (by kernel_rfl) (by kernel_rfl)) ?_
  intro W base args ds gs before hval0 hW hcnd _
  have hval : ∀ (j : Nat) t v, Try.f4.params[j]? = some t → args[j]? = some v → Value.okWide Try.prog W .any base t v := hval0
  have hW' := hW
  obtain ⟨p, q, hA0, hV, rfl, hfz, hnd⟩ := hW
  have hA : DataW.TrodAll enc Try.prog W 0 (fun _ => true) true Try.f4.params.toList args.toList ds p := hA0
  rw [Try.params4] at hA hval
  obtain ⟨v0, vs0, d0, ds0, p0, q0, hargs, rfl, rfl, h0, r0⟩ := trodAll_cons hA
  obtain ⟨v1, vs1, d1, ds1, p1, q1, rfl, rfl, rfl, h1, r1⟩ := trodAll_cons r0
  obtain ⟨v2, vs2, d2, ds2, p2, q2, rfl, rfl, rfl, h2, r2⟩ := trodAll_cons r1
  obtain ⟨v3, vs3, d3, ds3, p3, q3, rfl, rfl, rfl, h3, r3⟩ := trodAll_cons r2
  obtain ⟨rfl, rfl, rfl⟩ := trodAll_nil r3
  obtain rfl : args = #[v0, v1, v2, v3] := by cases args; simp_all
  obtain ⟨rfl, rfl⟩ := trodVars_none hV
  have k0 := h0
  have k3 := h3
  have lt0 : ∀ x ∈ p0, x.block < W.heap.size := by obtain ⟨m, hm⟩ := k0; exact DataW.trod_lt m _ _ _ hm
  have lt3 : ∀ x ∈ p3, x.block < W.heap.size := by obtain ⟨m, hm⟩ := k3; exact DataW.trod_lt m _ _ _ hm
  have hv0 := hval 0 29 v0 rfl rfl
  unfold Value.okWide at hv0
  rw [Try.underlying29] at hv0
  have hv0 : Cell.okWide Try.prog W .any base 29 v0 := hv0
  obtain ⟨fuel0, hf0⟩ := h0
  have hone : v0.cells.toList = [v0] := by
    have h := hv0
    unfold Cell.okWide at h
    rw [Try.underlying29] at h
    have hck : Cell.ok Try.prog W .any base 29 v0 := h
    unfold Cell.ok at hck
    rw [Try.underlying29] at hck
    split at hck <;> first
      | rfl
      | (cases hck)
  rw [hone] at hf0
  obtain ⟨lm, wm, nm, sm⟩ := ints_open Try.underlying29 Try.underlying5 (by kernel_rfl) hv0 hf0
  obtain ⟨a, rfl, rfl, rfl, w1⟩ := open_int Try.underlying3 (hval 1 3 v1 rfl rfl) h1
  obtain ⟨b, rfl, rfl, rfl, w2⟩ := open_int Try.underlying3 (hval 2 3 v2 rfl rfl) h2
  obtain ⟨cs, rfl, hsz, hfld⟩ := struct_open (ts := [5, 40, 40, 41, 29]) Try.underlying43 (by kernel_rfl) (by kernel_rfl) (by kernel_rfl) rfl (hval 3 43 v3 rfl rfl) h3
  clear hA0 hval0
  obtain ⟨x0, g0, ok0, _⟩ := hfld 0 _ 5 rfl rfl
  obtain ⟨x1, g1, ok1, _⟩ := hfld 1 _ 40 rfl rfl
  obtain ⟨x2, g2, ok2, _⟩ := hfld 2 _ 40 rfl rfl
  obtain ⟨x3, g3, ok3, n3, y3, t3⟩ := hfld 3 _ 41 rfl rfl
  obtain ⟨x4, g4, ok4, n4, y4, t4⟩ := hfld 4 _ 29 rfl rfl
  obtain rfl : cs = #[x0, x1, x2, x3, x4] := by
    apply Array.ext_getElem?
    intro i
    match i with
    | 0 => exact g0
    | 1 => exact g1
    | 2 => exact g2
    | 3 => exact g3
    | 4 => exact g4
    | i + 5 => rw [Array.getElem?_eq_none (by rw [hsz]; show 5 ≤ i + 5; omega)]; rfl
  obtain ⟨kind, rfl, i0⟩ := cell_int Try.underlying5 ok0
  obtain ⟨at_, rfl, i1⟩ := cell_int Try.underlying40 ok1
  obtain ⟨burst, rfl, i2⟩ := cell_int Try.underlying40 ok2
  obtain ⟨od, wo, no, so⟩ := ints_open Try.underlying41 Try.underlying40 (by kernel_rfl) ok3 t3
  obtain ⟨sml, ws, ns, ss⟩ := ints_open Try.underlying29 Try.underlying5 (by kernel_rfl) ok4 t4
  have i0 : 0 ≤ kind ∧ kind ≤ 255 := i0
  have i1 : 0 ≤ at_ ∧ at_ ≤ 65535 := i1
  have i2 : 0 ≤ burst ∧ burst ≤ 65535 := i2
  refine (walk sm so ss (wf_u8 wm) (wf_u16 wo) nm no a b kind at_ burst (by omega) (by omega) (by omega)).mono fun e W' ⟨he, bel⟩ => ?_
  subst he
  exact ⟨_, rfl, _, _, _, [], _, [], hW', trodAll_mk1 (shut_bool Try.underlying4 _), (trodAll_cons_mk (Below.trod laidOut (by kernel_rfl) (of_decide_eq_true (by kernel_rfl)) k0 bel lt0) (trodAll_cons_mk (shut_int Try.underlying3 w1) (trodAll_cons_mk (shut_int Try.underlying3 w2) (trodAll_cons_mk (Below.trod laidOut (by kernel_rfl) (of_decide_eq_true (by kernel_rfl)) k3 bel lt3) trodAll_mk0)))), rfl, bel.frame _, fun h => by cases h⟩

theorem over : Rows.fateTellsRow.holds Try.pinned (OpenSpec.ofChange Rows.fateTellsSpec) :=
  OpenClaim.holds_of_wide 4 Try.f4 rfl rfl rfl rfl rfl rfl rfl ⟨rfl, rfl, rfl, rfl, rfl⟩ rfl rfl rfl rfl rfl (by kernel_rfl) Try.func4 (by kernel_rfl)
    (of_decide_eq_true (by kernel_rfl)) (by unfold Func.isWrapper; first | (rw [if_pos (by decide +kernel)]; kernel_rfl) | (rw [if_neg (by decide +kernel)]; exact ⟨rfl, rfl⟩))
    (fun os started H enc _ => lifted os started H enc)

theorem proved : Rows.FateTellsSaid := over
end Go.Proofs.Ytaepmifmcohhgaa.fateTells
