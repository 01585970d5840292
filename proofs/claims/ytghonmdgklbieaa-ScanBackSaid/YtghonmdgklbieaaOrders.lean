/-
  'Rows.ScanOrdersSaid': for every number of an order: by one run of ScanOrders at 1, one at 2, one at whatever else.
-/
import Derived.Test.YtghonmdgklbieaaNear
import Derived.Test.YtghonmdgklbieaaRunsO
namespace Go.Proofs.Ytghonmdgklbieaa.scanOrders
open Go.ChangeShapes Go.WideShapes Go.ChangeAt Go.RowKit Go.Xm
set_option linter.unusedVariables false

theorem other_sound (a : Int) (h1 : a ≠ 1) (h2 : a ≠ 2) : ∀ op n c, other op n = some c → xbinInt op .u8 .u8 a n = some c := by
  intro op n c hc
  unfold other at hc
  split at hc
  · cases hc
    simp [xbinInt, xsame, h1]
  · cases hc
    simp [xbinInt, xsame, h2]
  · cases hc

theorem tabRan [Atoms] (hk : Atoms.kind 0 = .u8) (h1 : Atoms.num 0 ≠ 1) (h2 : Atoms.num 0 ≠ 2) : ∀ r ∈ tab, r.Ran Try.prog := by
  intro r hr
  have h := scanNear.tabRan
  unfold tab at hr
  unfold tabN at h
  rcases List.mem_cons.1 hr with rfl | hr
  · exact h _ (by simp)
  · rcases List.mem_cons.1 hr with rfl | hr
    · exact h _ (by simp)
    · rcases List.mem_cons.1 hr with rfl | hr
      · exact h _ (by simp)
      · rcases List.mem_cons.1 hr with rfl | hr
        · exact h _ (by simp)
        · rcases List.mem_cons.1 hr with rfl | hr
          · exact ran (O := orcA) ⟨fun _ _ _ _ _ h => (by cases h), fun _ _ _ _ _ h => (by cases h), atomOp_sound hk (other_sound _ h1 h2)⟩ scanNear.mixed runA (by kernel_rfl)
          · cases hr

theorem orc_sound [Atoms] (hk : Atoms.kind 0 = .u8) (h1 : Atoms.num 0 ≠ 1) (h2 : Atoms.num 0 ≠ 2) : OrcSound Try.prog orcOther :=
  tab_sound (tabRan hk h1 h2) (atomOp_sound hk (other_sound _ h1 h2))

theorem walk (a : Int) (w0 : (Lit.int .u8 a).wf = true) (w : World) :
    Calls Try.prog 3 #[.int .u8 a] w fun e w' => e = .returned (.bool true) ∧ Below w.heap.size w w' := by
  by_cases h1 : a = 1
  · subst h1
    letI : Atoms := ⟨fun _ => .u8, fun _ => 0⟩
    exact ran_true (ran (orc_sound rfl (by decide) (by decide)) scanNear.mixed (r := rowOrders (.int .u8 1)) runOrders1 (by kernel_rfl)) (vs := [.int .u8 1]) (.cons ⟨trivial, rfl⟩ .nil) w
  · by_cases h2 : a = 2
    · subst h2
      letI : Atoms := ⟨fun _ => .u8, fun _ => 0⟩
      exact ran_true (ran (orc_sound rfl (by decide) (by decide)) scanNear.mixed (r := rowOrders (.int .u8 2)) runOrders2 (by kernel_rfl)) (vs := [.int .u8 2]) (.cons ⟨trivial, rfl⟩ .nil) w
    · letI : Atoms := ⟨fun _ => .u8, fun _ => a⟩
      exact ran_true (ran (orc_sound rfl h1 h2) scanNear.mixed (r := rowOrders (.atom 0)) runOrdersA (by kernel_rfl)) (vs := [.int .u8 a]) (.cons ⟨trivial, rfl⟩ .nil) w

set_option maxRecDepth 100000 in
theorem lifted (os : Os) (started : os.Started) (H : Type) (enc : TypeId × Value → H) :
    ReturnsInHanded {} Try.checked os 3 .any (Rows.scanOrdersSpec.pre6 enc Try.prog Try.f3 Rows.scanOrdersRow.domain false) (Rows.scanOrdersSpec.post enc Try.prog Try.f3 false true false false) := by
  refine returnsInHanded_of_change (C := Try.checked) scanNear.own started (by kernel_rfl) Try.func3
    (ChangeSpec.witness6 (enc := enc) (C := Try.checked) false ⟨#[], #[.int .u8 0], []⟩ 8 (by kernel_rfl) (by kernel_rfl) (by kernel_rfl) (by kernel_rfl)) ?_
  intro W base args ds gs before hval0 hW hcnd _
  have hval : ∀ (j : Nat) t v, Try.f3.params[j]? = some t → args[j]? = some v → Value.okWide Try.prog W .any base t v := hval0
  have hW' := hW
  obtain ⟨p, q, hA0, hV, rfl, hfz, hnd⟩ := hW
  have hA : DataW.TrodAll enc Try.prog W 0 (fun _ => true) true Try.f3.params.toList args.toList ds p := hA0
  rw [Try.params3] at hA hval
  obtain ⟨v0, vs0, d0, ds0, p0, q0, hargs, rfl, rfl, h0, r0⟩ := trodAll_cons hA
  obtain ⟨rfl, rfl, rfl⟩ := trodAll_nil r0
  obtain rfl : args = #[v0] := by cases args; simp_all
  obtain ⟨rfl, rfl⟩ := trodVars_none hV
  obtain ⟨a0, rfl, rfl, rfl, w0⟩ := open_int Try.underlying5 (hval 0 5 v0 rfl rfl) h0
  clear hA0 hval0
  refine (walk a0 w0 W).mono fun e W' ⟨he, bel⟩ => ?_
  subst he
  exact ⟨_, rfl, _, _, _, [], _, [], hW', trodAll_mk1 (shut_bool Try.underlying4 _), (trodAll_cons_mk (shut_int Try.underlying5 w0) trodAll_mk0), rfl, bel.frame _, fun h => by cases h⟩

theorem over : Rows.scanOrdersRow.holds Try.pinned (OpenSpec.ofChange Rows.scanOrdersSpec) :=
  OpenClaim.holds_of_wide 3 Try.f3 rfl rfl rfl rfl rfl rfl rfl ⟨rfl, rfl, rfl, rfl, rfl⟩ rfl rfl rfl rfl rfl (by kernel_rfl) Try.func3 (by kernel_rfl)
    (of_decide_eq_true (by kernel_rfl)) (by unfold Func.isWrapper; first | (rw [if_pos (by decide +kernel)]; kernel_rfl) | (rw [if_neg (by decide +kernel)]; exact ⟨rfl, rfl⟩))
    (fun os started H enc _ => lifted os started H enc)

theorem proved : Rows.ScanOrdersSaid := over
end Go.Proofs.Ytghonmdgklbieaa.scanOrders
