/-
  'Rows.ScanNearSaid': for every number of an order: by one run of ScanNear for each rest by three.
-/
import Derived.Test.YtghonmdgklbieaaRows
import Derived.Test.YtghonmdgklbieaaRuns
import Derived.WalkKit
import Derived.ProofKit
import Derived.OpenShut
import Derived.ShutString
import Derived.ChangeOld
import Derived.Below
namespace Go.Proofs.Ytghonmdgklbieaa.scanNear
open Go.ChangeShapes Go.WideShapes Go.ChangeAt Go.RowKit Go.Xm
set_option linter.unusedVariables false

theorem own : ownKnob Try.prog.godebug = none := by kernel_rfl
theorem laidOut : laidOutB Try.prog = true := by kernel_rfl
theorem mixed : Try.prog.follows .mixedOrders = true := by kernel_rfl

theorem tabRan [Atoms] : ∀ r ∈ tabN, r.Ran Try.prog := by
  have h0 : row0.Ran Try.prog := ran (noOrc_sound _) mixed run0 (by kernel_rfl)
  have h1 : row1.Ran Try.prog := ran (noOrc_sound _) mixed run1 (by kernel_rfl)
  have h2 : row2.Ran Try.prog := ran (noOrc_sound _) mixed run2 (by kernel_rfl)
  have ha : rowAwake.Ran Try.prog := ran (O := orcAwake) (tab_sound (fun r hr => by
    rcases List.mem_cons.1 hr with rfl | hr
    · exact h0
    · cases hr) noOp_sound) mixed runAwake (by kernel_rfl)
  intro r hr
  unfold tabN at hr
  rcases List.mem_cons.1 hr with rfl | hr
  · exact ha
  · rcases List.mem_cons.1 hr with rfl | hr
    · exact h0
    · rcases List.mem_cons.1 hr with rfl | hr
      · exact h1
      · rcases List.mem_cons.1 hr with rfl | hr
        · exact h2
        · cases hr

theorem rest_sound (a r : Int) (h : a.tmod 3 = r) : ∀ op n c, rest r op n = some c → xbinInt op .u8 .u8 a n = some c := by
  intro op n c hc
  unfold rest at hc
  split at hc
  · cases hc
    simp [xbinInt, xsame, h]
  · cases hc

/-- A run at one rest. -/
theorem walkAt (a r : Int) (h : a.tmod 3 = r) (hr : ((ycall (orcNear r) Try.prog 100000 60).call rowNear.f rowNear.args Mem.empty).map (·.1) = some rowNear.v) (w : World) :
    Calls Try.prog 4 #[.int .u8 a] w fun e w' => e = .returned (.bool true) ∧ Below w.heap.size w w' := by
  letI : Atoms := ⟨fun _ => .u8, fun _ => a⟩
  have hO : OrcSound Try.prog (orcNear r) := tab_sound tabRan (atomOp_sound rfl (rest_sound a r h))
  exact ran_true (ran hO mixed (r := rowNear) hr (by kernel_rfl)) (vs := [.int .u8 a]) (.cons ⟨trivial, rfl⟩ .nil) w

theorem walk (a : Int) (w0 : (Lit.int .u8 a).wf = true) (w : World) :
    Calls Try.prog 4 #[.int .u8 a] w fun e w' => e = .returned (.bool true) ∧ Below w.heap.size w w' := by
  have h0 : 0 ≤ a := (bounds_u8 w0).1
  have h1 : a.tmod 3 = a % 3 := Int.tmod_eq_emod_of_nonneg h0
  have h2 : a % 3 = 0 ∨ a % 3 = 1 ∨ a % 3 = 2 := by omega
  rcases h2 with h2 | h2 | h2
  · exact walkAt a 0 (h1.trans h2) runNear0 w
  · exact walkAt a 1 (h1.trans h2) runNear1 w
  · exact walkAt a 2 (h1.trans h2) runNear2 w

set_option maxRecDepth 100000 in
theorem lifted (os : Os) (started : os.Started) (H : Type) (enc : TypeId × Value → H) :
    ReturnsInHanded {} Try.checked os 4 .any (Rows.scanNearSpec.pre6 enc Try.prog Try.f4 Rows.scanNearRow.domain false) (Rows.scanNearSpec.post enc Try.prog Try.f4 false true false false) := by
  refine returnsInHanded_of_change (C := Try.checked) own started (by kernel_rfl) Try.func4
    (ChangeSpec.witness6 (enc := enc) (C := Try.checked) false ⟨#[], #[.int .u8 0], []⟩ 8 (by kernel_rfl) (by kernel_rfl) (by kernel_rfl) (by kernel_rfl)) ?_
  intro W base args ds gs before hval0 hW hcnd _
  have hval : ∀ (j : Nat) t v, Try.f4.params[j]? = some t → args[j]? = some v → Value.okWide Try.prog W .any base t v := hval0
  have hW' := hW
  obtain ⟨p, q, hA0, hV, rfl, hfz, hnd⟩ := hW
  have hA : DataW.TrodAll enc Try.prog W 0 (fun _ => true) true Try.f4.params.toList args.toList ds p := hA0
  rw [Try.params4] at hA hval
  obtain ⟨v0, vs0, d0, ds0, p0, q0, hargs, rfl, rfl, h0, r0⟩ := trodAll_cons hA
  obtain ⟨rfl, rfl, rfl⟩ := trodAll_nil r0
  obtain rfl : args = #[v0] := by cases args; simp_all
  obtain ⟨rfl, rfl⟩ := trodVars_none hV
  obtain ⟨a0, rfl, rfl, rfl, w0⟩ := open_int Try.underlying5 (hval 0 5 v0 rfl rfl) h0
  clear hA0 hval0
  refine (walk a0 w0 W).mono fun e W' ⟨he, bel⟩ => ?_
  subst he
  exact ⟨_, rfl, _, _, _, [], _, [], hW', trodAll_mk1 (shut_bool Try.underlying4 _), (trodAll_cons_mk (shut_int Try.underlying5 w0) trodAll_mk0), rfl, bel.frame _, fun h => by cases h⟩

theorem over : Rows.scanNearRow.holds Try.pinned (OpenSpec.ofChange Rows.scanNearSpec) :=
  OpenClaim.holds_of_wide 4 Try.f4 rfl rfl rfl rfl rfl rfl rfl ⟨rfl, rfl, rfl, rfl, rfl⟩ rfl rfl rfl rfl rfl (by kernel_rfl) Try.func4 (by kernel_rfl)
    (of_decide_eq_true (by kernel_rfl)) (by unfold Func.isWrapper; first | (rw [if_pos (by decide +kernel)]; kernel_rfl) | (rw [if_neg (by decide +kernel)]; exact ⟨rfl, rfl⟩))
    (fun os started H enc _ => lifted os started H enc)

theorem proved : Rows.ScanNearSaid := over
end Go.Proofs.Ytghonmdgklbieaa.scanNear
