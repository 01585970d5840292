/-
  'Rows.ScanBackSaid': for every number of an order and every block: by one run of ScanBack at 1, one at 2, one at whatever else, with sixty-four numbers that are only moved.
-/
import Derived.Test.YtghonmdgklbieaaOrders
import Derived.Test.YtghonmdgklbieaaRunsB
namespace Go.Proofs.Ytghonmdgklbieaa.scanBack
open Go.ChangeShapes Go.WideShapes Go.ChangeAt Go.RowKit Go.Xm
set_option linter.unusedVariables false

def numOf : Option Value → Int
  | some (.int _ z) => z
  | _ => 0

/-- An array of integers that came in. -/
theorem open_array_ints {H : Type} {enc : TypeId × Value → H} {P : Program} {w : World} {base b0 n : Nat} {r : Reach} {spare : Nat → Bool} {held : Bool} {t e : TypeId} {k : IntKind} {v : Value} {d : DataW H} {ps : List MemPlace}
    (ht : P.underlying t = some (.array n e)) (he : P.underlying e = some (.int k)) (hc : P.cellsOf e = 1) (hct : P.cellsOf t = n) (hval : Value.okWide P w r b0 t v) (hd : DataW.Trod enc P w base spare held t v d ps) :
    ∃ zs : List Int, v = .agg (zs.map (.int k)).toArray ∧ zs.length = n := by
  unfold Value.okWide at hval
  rw [ht] at hval
  obtain ⟨cs, rfl, hsz, _⟩ := hval
  obtain ⟨fuel, hf⟩ := hd
  obtain ⟨xs, m, rfl, hx, hl, hxl, hg⟩ := DataW.trod_array ht hf
  rw [hct] at hsz hl
  have hcell : ∀ i, i < n → ∃ z, cs.toList[i]? = some (.int k z) := by
    intro i hi
    have h1 := hg i hi
    rw [hc] at h1
    have hxi : xs[i]? = some xs[i] := by simp [hxl, hi]
    rw [hxi] at h1
    obtain ⟨z, hz, _⟩ := DataW.trod_int he h1
    refine ⟨z, ?_⟩
    have hh := congrArg (fun l : List Value => l[0]?) hz
    simpa [Value.cells, List.getElem?_take, List.getElem?_drop] using hh
  refine ⟨(List.range n).map fun i => numOf cs.toList[i]?, ?_, by simp⟩
  congr 1
  apply Array.toList_inj.1
  apply List.ext_getElem?
  intro i
  by_cases hi : i < n
  · obtain ⟨z, hz⟩ := hcell i hi
    have h3 : ((List.range n).map fun i => numOf cs.toList[i]?)[i]? = some z := by
      rw [List.getElem?_map, List.getElem?_range hi, Option.map_some, hz]
      rfl
    simp only [List.getElem?_map, h3, hz, Option.map_some]
  · have h2 : cs.toList[i]? = none := List.getElem?_eq_none (by rw [Array.length_toList, hsz]; omega)
    have h3 : ((List.range n).map fun i => numOf cs.toList[i]?)[i]? = none := List.getElem?_eq_none (by simp; omega)
    simp only [List.getElem?_map, h3, h2, Option.map_none]

/-- The order's number, and the block's. -/
abbrev nums (a : Int) (zs : List Int) : Atoms := ⟨fun i => match i with | 0 => .u8 | _ => .i64, fun i => match i with | 0 => a | i + 1 => zs.getD i 0⟩

theorem block_rel (a : Int) (zs : List Int) (h : zs.length = 64) : @RelV (nums a zs) Env.zero 0 (.agg block) (.agg (zs.map (.int .i64)).toArray) := by
  letI : Atoms := nums a zs
  refine ⟨fun c hc => ?_, ?_⟩
  · unfold block at hc
    obtain ⟨i, _, rfl⟩ := List.mem_map.1 hc
    trivial
  · refine congrArg (fun l : List Value => Value.agg l.toArray) ?_
    apply List.ext_getElem?
    intro i
    unfold block
    by_cases hi : i < 64
    · have h1 : zs[i]? = some (zs.getD i 0) := by simp [List.getD_eq_getElem?_getD, h, hi]
      rw [List.getElem?_map, h1, List.getElem?_map, List.getElem?_map, List.getElem?_range hi]
      rfl
    · simp [hi, h]

theorem walkAt (a b : Int) (x : XC) (zs : List Int) (hl : zs.length = 64) (hr : ((ycall orcOther Try.prog 100000 60).call (rowBack x).f (rowBack x).args Mem.empty).map (·.1) = some yes) (hs : (rowBack x).shutB = true)
    (hx : @RelV (nums b zs) Env.zero 0 (.one x) (.int .u8 a)) (h1 : b ≠ 1) (h2 : b ≠ 2) (w : World) :
    Calls Try.prog 5 #[.int .u8 a, .agg (zs.map (.int .i64)).toArray] w fun e w' => e = .returned (.bool true) ∧ Below w.heap.size w w' := by
  letI : Atoms := nums b zs
  have hran : (rowBack x).Ran Try.prog := ran (scanOrders.orc_sound rfl h1 h2) scanNear.mixed (r := rowBack x) hr hs
  have hall : All2 (RelV Env.zero 0) [.one x, .agg block] [.int .u8 a, .agg (zs.map (.int .i64)).toArray] := .cons hx (.cons (block_rel b zs hl) .nil)
  exact ran_true (f := 5) (args := [.one x, .agg block]) hran hall w

theorem walk (a : Int) (zs : List Int) (hl : zs.length = 64) (w : World) :
    Calls Try.prog 5 #[.int .u8 a, .agg (zs.map (.int .i64)).toArray] w fun e w' => e = .returned (.bool true) ∧ Below w.heap.size w w' := by
  by_cases h1 : a = 1
  · subst h1
    exact walkAt 1 0 (.int .u8 1) zs hl runBack1 (by kernel_rfl) ⟨trivial, rfl⟩ (by decide) (by decide) w
  · by_cases h2 : a = 2
    · subst h2
      exact walkAt 2 0 (.int .u8 2) zs hl runBack2 (by kernel_rfl) ⟨trivial, rfl⟩ (by decide) (by decide) w
    · exact walkAt a a (.atom 0) zs hl runBackA (by kernel_rfl) ⟨trivial, rfl⟩ h1 h2 w

set_option maxRecDepth 100000 in
theorem lifted (os : Os) (started : os.Started) (H : Type) (enc : TypeId × Value → H) :
    ReturnsInHanded {} Try.checked os 5 .any (Rows.scanBackSpec.pre6 enc Try.prog Try.f5 Rows.scanBackRow.domain false) (Rows.scanBackSpec.post enc Try.prog Try.f5 false true false false) := by
  refine returnsInHanded_of_change (C := Try.checked) scanNear.own started (by kernel_rfl) Try.func5
    (ChangeSpec.witness6 (enc := enc) (C := Try.checked) false ⟨#[], #[.int .u8 0, .agg (Array.replicate 64 (.int .i64 0))], []⟩ 8 (by kernel_rfl) (by kernel_rfl) (by kernel_rfl) (by kernel_rfl)) ?_
  intro W base args ds gs before hval0 hW hcnd _
  have hval : ∀ (j : Nat) t v, Try.f5.params[j]? = some t → args[j]? = some v → Value.okWide Try.prog W .any base t v := hval0
  have hW' := hW
  obtain ⟨p, q, hA0, hV, rfl, hfz, hnd⟩ := hW
  have hA : DataW.TrodAll enc Try.prog W 0 (fun _ => true) true Try.f5.params.toList args.toList ds p := hA0
  rw [Try.params5] at hA hval
  obtain ⟨v0, vs0, d0, ds0, p0, q0, hargs, rfl, rfl, h0, r0⟩ := trodAll_cons hA
  obtain ⟨v1, vs1, d1, ds1, p1, q1, rfl, rfl, rfl, h1, r1⟩ := trodAll_cons r0
  obtain ⟨rfl, rfl, rfl⟩ := trodAll_nil r1
  obtain rfl : args = #[v0, v1] := by cases args; simp_all
  obtain ⟨rfl, rfl⟩ := trodVars_none hV
  obtain ⟨a0, rfl, rfl, rfl, w0⟩ := open_int Try.underlying5 (hval 0 5 v0 rfl rfl) h0
  have k1 := h1
  have lt1 : ∀ x ∈ p1, x.block < W.heap.size := by obtain ⟨m, hm⟩ := k1; exact DataW.trod_lt m _ _ _ hm
  obtain ⟨zs, rfl, hz⟩ := open_array_ints Try.underlying25 Try.underlying3 (by kernel_rfl) (by kernel_rfl) (hval 1 25 v1 rfl rfl) h1
  clear hA0 hval0
  refine (walk a0 zs hz W).mono fun e W' ⟨he, bel⟩ => ?_
  subst he
  exact ⟨_, rfl, _, _, _, [], _, [], hW', trodAll_mk1 (shut_bool Try.underlying4 _), (trodAll_cons_mk (shut_int Try.underlying5 w0) (trodAll_cons_mk (Below.trod scanNear.laidOut (by kernel_rfl) (of_decide_eq_true (by kernel_rfl)) k1 bel lt1) trodAll_mk0)), rfl, bel.frame _, fun h => by cases h⟩

theorem over : Rows.scanBackRow.holds Try.pinned (OpenSpec.ofChange Rows.scanBackSpec) :=
  OpenClaim.holds_of_wide 5 Try.f5 rfl rfl rfl rfl rfl rfl rfl ⟨rfl, rfl, rfl, rfl, rfl⟩ rfl rfl rfl rfl rfl (by kernel_rfl) Try.func5 (by kernel_rfl)
    (of_decide_eq_true (by kernel_rfl)) (by unfold Func.isWrapper; first | (rw [if_pos (by decide +kernel)]; kernel_rfl) | (rw [if_neg (by decide +kernel)]; exact ⟨rfl, rfl⟩))
    (fun os started H enc _ => lifted os started H enc)

theorem proved : Rows.ScanBackSaid := over
end Go.Proofs.Ytghonmdgklbieaa.scanBack
