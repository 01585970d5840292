/-
  'Rows.PredSumsSaid': for all its arguments.
-/
import Derived.Test.YtlgbbgicicnijaaRows
import Derived.Test.YtlgbbgicicnijaaSums
import Derived.WalkKit
import Derived.ProofKit
import Derived.OpenShut
import Derived.ShutString
import Derived.ChangeOld
import Derived.Below
namespace Go.Proofs.Ytlgbbgicicnijaa.predSums
open Go.ChangeShapes Go.WideShapes Go.ChangeAt Go.RowKit Go.Xm
set_option linter.unusedVariables false
set_option linter.unusedSectionVars false

theorem own : ownKnob Try.prog.godebug = none := by kernel_rfl
theorem laidOut : laidOutB Try.prog = true := by kernel_rfl
theorem mixed : Try.prog.follows .mixedOrders = true := by kernel_rfl

def rowAwake : Row1 := ⟨6, [], .one (.bool true)⟩
theorem runAwake : ((ycall noOrc Try.prog 100000 60).call rowAwake.f rowAwake.args Mem.empty).map (·.1) = some rowAwake.v := by kernel_rfl
theorem awake [Atoms] : Fun Try.prog 6 [] (.one (.bool true)) := fun_of_ran (r := rowAwake) (ran (noOrc_sound _) mixed runAwake (by kernel_rfl))

/-- The calls that PredSums makes, at these two blocks. -/
def calls (a b : List Int) (f : FuncId) (args : List XV) : Option XV :=
  if f = 6 then (if args = [] then some (.one (.bool true)) else none)
  else if f = 7 then (if args = [.agg (ints (all64 (lx a))), .agg (ints (all64 (lx b)))] then some (outcome (ld a b)) else none)
  else if f = 8 then (if args = [.agg (ints (all64 (lx a))), .agg (ints (all64 (lx b)))] then some (outcome (le' a b)) else if args = [.agg (ints (all64 (ld a b))), .agg (ints (all64 (lx b)))] then some (outcome (lx a)) else none)
  else none

theorem lx_bnd [Atoms] (a : List Int) (k : Nat) : -4095 ≤ lx a k ∧ lx a k ≤ 4095 := tmod_bnd _

theorem calls_fun [Atoms] (a b : List Int) : ∀ f args v, calls a b f args = some v → Fun Try.prog f args v := by
  intro f args v h
  unfold calls at h
  split at h
  · rename_i hf; subst hf
    split at h
    · rename_i ha; subst ha; cases h; exact awake
    · cases h
  · split at h
    · rename_i hf; subst hf
      split at h
      · rename_i ha; subst ha; cases h
        rw [outcome_congr (f := ld a b) (g := fun k => (all64 (lx a)).getD k 0 - (all64 (lx b)).getD k 0) (fun k hk => by rw [all64_at _ k hk, all64_at _ k hk]; rfl)]
        refine less_fun _ _ (all64_len _) (all64_len _) fun k hk => ?_
        rw [all64_at _ k hk, all64_at _ k hk]
        have h1 := lx_bnd a k
        have h2 := lx_bnd b k
        omega
      · cases h
    · split at h
      · rename_i hf; subst hf
        split at h
        · rename_i ha; subst ha; cases h
          rw [outcome_congr (f := le' a b) (g := fun k => (all64 (lx a)).getD k 0 + (all64 (lx b)).getD k 0) (fun k hk => by rw [all64_at _ k hk, all64_at _ k hk]; rfl)]
          refine more_fun _ _ (all64_len _) (all64_len _) fun k hk => ?_
          rw [all64_at _ k hk, all64_at _ k hk]
          have h1 := lx_bnd a k
          have h2 := lx_bnd b k
          omega
        · split at h
          · rename_i ha; subst ha; cases h
            rw [outcome_congr (f := lx a) (g := fun k => (all64 (ld a b)).getD k 0 + (all64 (lx b)).getD k 0) (fun k hk => by rw [all64_at _ k hk, all64_at _ k hk]; unfold ld; omega)]
            refine more_fun _ _ (all64_len _) (all64_len _) fun k hk => ?_
            rw [all64_at _ k hk, all64_at _ k hk]
            have h1 := lx_bnd a k
            have h2 := lx_bnd b k
            unfold ld
            omega
          · cases h
      · cases h

def orc (a b : List Int) : Orc := ⟨fun f args m => (calls a b f args).map fun v => (v, m), fun _ _ => .none⟩

/-- The second call of pred.More is another one, or the same with the same result. -/
theorem second [Atoms] (a b : List Int) (m : Mem) : (orc a b).call 8 [.agg (ints (all64 (ld a b))), .agg (ints (all64 (lx b)))] m = some (outcome (lx a), m) := by
  unfold orc calls
  by_cases h : ([.agg (ints (all64 (ld a b))), .agg (ints (all64 (lx b)))] : List XV) = [.agg (ints (all64 (lx a))), .agg (ints (all64 (lx b)))]
  · have h1 : ints (all64 (ld a b)) = ints (all64 (lx a)) := by injection h with h _; injection h
    have h2 : ∀ k, k < 64 → ld a b k = lx a k := by
      intro k hk
      have e1 := ints_at (l := all64 (ld a b)) (i := k) (by rw [all64_len]; exact hk)
      have e2 := ints_at (l := all64 (lx a)) (i := k) (by rw [all64_len]; exact hk)
      rw [h1, e2, all64_at _ k hk, all64_at _ k hk] at e1
      injection e1 with e1
      injection e1 with _ e1
      exact e1.symm
    rw [outcome_congr (f := lx a) (g := le' a b) (fun k hk => by have := h2 k hk; unfold ld at this; unfold le'; omega)]
    simp [h]
  · simp [h]

theorem body_some {fn : Func} (h : fn.body.isSome = true) : fn.body = some (fn.body.getD .skip) := by
  cases hb : fn.body with
  | none => rw [hb] at h; cases h
  | some c => rfl

theorem call6 (a b : List Int) (m : Mem) : (orc a b).call 6 [] m = some (.one (.bool true), m) := by
  unfold orc calls
  simp
theorem call7 (a b : List Int) (m : Mem) : (orc a b).call 7 [.agg (ints (all64 (lx a))), .agg (ints (all64 (lx b)))] m = some (outcome (ld a b), m) := by
  show (calls a b 7 _).map _ = _
  unfold calls
  rw [if_neg (by decide), if_pos rfl, if_pos rfl]
  rfl
theorem call8 (a b : List Int) (m : Mem) : (orc a b).call 8 [.agg (ints (all64 (lx a))), .agg (ints (all64 (lx b)))] m = some (outcome (le' a b), m) := by
  show (calls a b 8 _).map _ = _
  unfold calls
  rw [if_neg (by decide), if_neg (by decide), if_pos rfl, if_pos rfl]
  rfl

theorem sums_fun [Atoms] (a b : List Int) (ha : a.length = 64) (hb : b.length = 64) (ha16 : ∀ i, i < 64 → -9223372036854775808 ≤ a.getD i 0 ∧ a.getD i 0 < 9223372036854775808) (hb16 : ∀ i, i < 64 → -9223372036854775808 ≤ b.getD i 0 ∧ b.getD i 0 < 9223372036854775808) : Fun Try.prog 3 [.agg (shorts a), .agg (shorts b)] (.one (.bool true)) := by
  have hw := sums_wx (orc a b) (fun_sound (calls_fun a b)) a b ha hb ha16 hb16 mixed (call6 a b) (call7 a b) (call8 a b) (second a b)
  have hnt : Try.f3.ntmps = 165 := rfl
  refine fun_of_wx (fn := Try.f3) (c := Try.f3.body.getD .skip) Try.func3 (body_some rfl) (by rw [hnt]; decide) (by rw [hnt]; exact Nat.le_of_ble_eq_true rfl) (by simp [XV.shut, shorts, XC.shut]) rfl ?_
  rw [hnt]
  exact hw

theorem shorts_rel [Atoms] (l : List Int) : RelV Env.zero 0 (.agg (shorts l)) (.agg (l.map (.int .i16)).toArray) := by
  refine ⟨fun c hc => ?_, ?_⟩
  · unfold shorts at hc
    obtain ⟨i, _, rfl⟩ := List.mem_map.1 hc
    trivial
  · unfold shorts
    rw [List.map_map]
    rfl

theorem walk (a b : List Int) (ha : a.length = 64) (hb : b.length = 64) (ha16 : ∀ i, i < 64 → -9223372036854775808 ≤ a.getD i 0 ∧ a.getD i 0 < 9223372036854775808) (hb16 : ∀ i, i < 64 → -9223372036854775808 ≤ b.getD i 0 ∧ b.getD i 0 < 9223372036854775808) (w : World) :
    Calls Try.prog 3 #[.agg (a.map (.int .i16)).toArray, .agg (b.map (.int .i16)).toArray] w fun e w' => e = .returned (.bool true) ∧ Below w.heap.size w w' := by
  letI : Atoms := ⟨fun _ => .u8, fun _ => 0⟩
  have h3 : CallSound Try.prog 3 [.agg (shorts a), .agg (shorts b)] Mem.empty (.one (.bool true)) Mem.empty := sums_fun a b ha hb ha16 hb16 Mem.empty
  have hall : All2 (RelV Env.zero 0) [.agg (shorts a), .agg (shorts b)] [.agg (a.map (.int .i16)).toArray, .agg (b.map (.int .i16)).toArray] := .cons (shorts_rel a) (.cons (shorts_rel b) .nil)
  have h4 := run_true h3 hall w
  exact h4

def numOf : Option Value → Int
  | some (.int _ z) => z
  | _ => 0

/-- An array of integers that came in. -/
theorem open_array_ints {H : Type} {enc : TypeId × Value → H} {P : Program} {w : World} {base b0 n : Nat} {r : Reach} {spare : Nat → Bool} {held : Bool} {t e : TypeId} {k : IntKind} {v : Value} {d : DataW H} {ps : List MemPlace}
    (ht : P.underlying t = some (.array n e)) (he : P.underlying e = some (.int k)) (hc : P.cellsOf e = 1) (hct : P.cellsOf t = n) (hval : Value.okWide P w r b0 t v) (hd : DataW.Trod enc P w base spare held t v d ps) :
    ∃ zs : List Int, v = .agg (zs.map (.int k)).toArray ∧ zs.length = n ∧ ∀ i, i < n → (Lit.int k (zs.getD i 0)).wf = true := by
  unfold Value.okWide at hval
  rw [ht] at hval
  obtain ⟨cs, rfl, hsz, _⟩ := hval
  obtain ⟨fuel, hf⟩ := hd
  obtain ⟨xs, m, rfl, hx, hl, hxl, hg⟩ := DataW.trod_array ht hf
  rw [hct] at hsz hl
  have hcell : ∀ i, i < n → ∃ z, cs.toList[i]? = some (.int k z) ∧ (Lit.int k z).wf = true := by
    intro i hi
    have h1 := hg i hi
    rw [hc] at h1
    have hxi : xs[i]? = some xs[i] := by simp [hxl, hi]
    rw [hxi] at h1
    obtain ⟨z, hz, _, hwf⟩ := DataW.trod_int he h1
    refine ⟨z, ?_, hwf⟩
    have hh := congrArg (fun l : List Value => l[0]?) hz
    simpa [Value.cells, List.getElem?_take, List.getElem?_drop] using hh
  have hat : ∀ i, i < n → ∀ z, cs.toList[i]? = some (.int k z) → ((List.range n).map fun i => numOf cs.toList[i]?)[i]? = some z := by
    intro i hi z hz
    rw [List.getElem?_map, List.getElem?_range hi, Option.map_some, hz]
    rfl
  refine ⟨(List.range n).map fun i => numOf cs.toList[i]?, ?_, by simp, fun i hi => ?_⟩
  · congr 1
    apply Array.toList_inj.1
    apply List.ext_getElem?
    intro i
    by_cases hi : i < n
    · obtain ⟨z, hz, _⟩ := hcell i hi
      simp only [List.getElem?_map, hat i hi z hz, hz, Option.map_some]
    · have h2 : cs.toList[i]? = none := List.getElem?_eq_none (by rw [Array.length_toList, hsz]; omega)
      have h3 : ((List.range n).map fun i => numOf cs.toList[i]?)[i]? = none := List.getElem?_eq_none (by simp; omega)
      simp only [List.getElem?_map, h3, h2, Option.map_none]
  · obtain ⟨z, hz, hwf⟩ := hcell i hi
    rw [List.getD_eq_getElem?_getD, hat i hi z hz]
    exact hwf

set_option maxRecDepth 100000 in
theorem lifted (os : Os) (started : os.Started) (H : Type) (enc : TypeId × Value → H) :
    ReturnsInHanded {} Try.checked os 3 .any (Rows.predSumsSpec.pre6 enc Try.prog Try.f3 Rows.predSumsRow.domain false) (Rows.predSumsSpec.post enc Try.prog Try.f3 false true false false) := by
  refine returnsInHanded_of_change (C := Try.checked) own started (by kernel_rfl) Try.func3
    (ChangeSpec.witness6 (enc := enc) (C := Try.checked) false ⟨#[], #[.agg (Array.replicate 64 (.int .i16 0)), .agg (Array.replicate 64 (.int .i16 0))], []⟩ 8 (by kernel_rfl) (by kernel_rfl) (by kernel_rfl) (by kernel_rfl)) ?_
  intro W base args ds gs before hval0 hW hcnd _
  have hval : ∀ (j : Nat) t v, Try.f3.params[j]? = some t → args[j]? = some v → Value.okWide Try.prog W .any base t v := hval0
  have hW' := hW
  obtain ⟨p, q, hA0, hV, rfl, hfz, hnd⟩ := hW
  have hA : DataW.TrodAll enc Try.prog W 0 (fun _ => true) true Try.f3.params.toList args.toList ds p := hA0
  rw [Try.params3] at hA hval
  obtain ⟨v0, vs0, d0, ds0, p0, q0, hargs, rfl, rfl, h0, r0⟩ := trodAll_cons hA
  obtain ⟨v1, vs1, d1, ds1, p1, q1, rfl, rfl, rfl, h1, r1⟩ := trodAll_cons r0
  obtain ⟨rfl, rfl, rfl⟩ := trodAll_nil r1
  obtain rfl : args = #[v0, v1] := by cases args; simp_all
  obtain ⟨rfl, rfl⟩ := trodVars_none hV
  have k0 := h0
  have k1 := h1
  have lt0 : ∀ x ∈ p0, x.block < W.heap.size := by obtain ⟨m, hm⟩ := k0; exact DataW.trod_lt m _ _ _ hm
  have lt1 : ∀ x ∈ p1, x.block < W.heap.size := by obtain ⟨m, hm⟩ := k1; exact DataW.trod_lt m _ _ _ hm
  obtain ⟨a, rfl, ha, wa⟩ := open_array_ints Try.underlying23 Try.underlying22 (by kernel_rfl) (by kernel_rfl) (hval 0 23 v0 rfl rfl) h0
  obtain ⟨b, rfl, hb, wb⟩ := open_array_ints Try.underlying23 Try.underlying22 (by kernel_rfl) (by kernel_rfl) (hval 1 23 v1 rfl rfl) h1
  clear hA0 hval0
  have bnd : ∀ {l : List Int}, (∀ i, i < 64 → (Lit.int .i16 (l.getD i 0)).wf = true) → ∀ i, i < 64 → -9223372036854775808 ≤ l.getD i 0 ∧ l.getD i 0 < 9223372036854775808 := fun hw i hi => by
    have := bounds_i16 (hw i hi)
    omega
  refine (walk a b ha hb (bnd wa) (bnd wb) W).mono fun e W' ⟨he, bel⟩ => ?_
  subst he
  exact ⟨_, rfl, _, _, _, [], _, [], hW', trodAll_mk1 (shut_bool Try.underlying4 _), (trodAll_cons_mk (Below.trod laidOut (by kernel_rfl) (of_decide_eq_true (by kernel_rfl)) k0 bel lt0) (trodAll_cons_mk (Below.trod laidOut (by kernel_rfl) (of_decide_eq_true (by kernel_rfl)) k1 bel lt1) trodAll_mk0)), rfl, bel.frame _, fun h => by cases h⟩

theorem over : Rows.predSumsRow.holds Try.pinned (OpenSpec.ofChange Rows.predSumsSpec) :=
  OpenClaim.holds_of_wide 3 Try.f3 rfl rfl rfl rfl rfl rfl rfl ⟨rfl, rfl, rfl, rfl, rfl⟩ rfl rfl rfl rfl rfl (by kernel_rfl) Try.func3 (by kernel_rfl)
    (of_decide_eq_true (by kernel_rfl)) (by unfold Func.isWrapper; first | (rw [if_pos (by decide +kernel)]; kernel_rfl) | (rw [if_neg (by decide +kernel)]; exact ⟨rfl, rfl⟩))
    (fun os started H enc _ => lifted os started H enc)

theorem proved : Rows.PredSumsSaid := over
end Go.Proofs.Ytlgbbgicicnijaa.predSums
