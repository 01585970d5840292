/-
  pred.More, for all levels within bounds.
-/
import Derived.Test.YtlgbbgicicnijaaInts
namespace Go.Proofs.Ytlgbbgicicnijaa
open Go.Xm
set_option linter.unusedVariables false
set_option linter.unusedSectionVars false
variable [Atoms]

set_option maxRecDepth 10000 in
theorem more_wx (xs ys : List Int) (hx : xs.length = 64) (hy : ys.length = 64) (hb : ∀ k, k < 64 → -10000 ≤ xs.getD k 0 ∧ xs.getD k 0 ≤ 10000 ∧ -10000 ≤ ys.getD k 0 ∧ ys.getD k 0 ≤ 10000) :
    WX Try.prog 32 (.code (Try.f8.body.getD .skip)) (argRegs [.agg (ints xs), .agg (ints ys)] 0) [] (KFun Try.prog Try.f8 (outcome fun k => xs.getD k 0 + ys.getD k 0)) := by
  have hO : OrcSound Try.prog noOrc := noOrc_sound _
  generalize hf : (fun k => xs.getD k 0 + ys.getD k 0) = f
  simp only [Try.f8, Option.getD_some]
  refine WX.seq (WX.acts hO ?_)
  refine .cons (OpStep.box rfl rfl rfl rfl) rfl ?_
  refine .cons (OpStep.box rfl rfl rfl rfl) rfl ?_
  refine .cons (OpStep.alloc rfl rfl zero25 rfl) rfl ?_
  refine .cons (OpStep.pure rfl rfl) rfl ?_
  refine .nil ?_
  refine WX.seq ?_
  refine WX.seq (WX.acts hO ?_)
  refine .cons (OpStep.load rfl rfl rfl rfl (load_all agg25 (by simp [size25, ints, hy]))) rfl ?_
  refine .cons (OpStep.pure rfl rfl) rfl ?_
  refine .nil ?_
  refine WX.block ?_
  refine WX.loop ?_
  refine WX.at (al' := [(9, .one (.int .i64 (0 : Nat))), (2, .one (.ptr 0 0)), (4, .one (.ptr 2 0)), (8, .agg (ints ys)), (5, .one (.bool false))]) (hs' := [.cells (ints (mid f xs 0)) 25 false false, .cells (ints ys) 25 false false, .cells (ints zeros) 25 false false])
    (less_cons rfl (less_cons rfl (less_cons rfl (less_cons rfl (less_cons rfl (less_nil _)))))) (by rw [mid_zero f xs hx]; rfl) ?_
  refine WX.count (fun i => [(9, .one (.int .i64 (i : Nat))), (2, .one (.ptr 0 0)), (4, .one (.ptr 2 0)), (8, .agg (ints ys)), (5, .one (.bool false))]) (fun i => [.cells (ints (mid f xs i)) 25 false false, .cells (ints ys) 25 false false, .cells (ints zeros) 25 false false])
    (fun i => ∀ k, k < i → fits (f k)) 64 (fun k hk => absurd hk (Nat.not_lt_zero k)) ?_
  intro i hi hI ih
  refine WX.round ?_
  refine WX.seq (WX.acts hO ?_)
  refine .cons (OpStep.bin rfl rfl rfl rfl (bin_lss rfl)) rfl ?_
  refine .nil ?_
  refine WX.seq ?_
  refine WX.cond rfl (fun hlt => ?_) (fun hlt => ?_)
  · have hlt : i < 64 := by have := of_decide_eq_true hlt; omega
    refine WX.skip ?_
    refine WX.seq ?_
    refine WX.block ?_
    refine WX.seq (WX.acts hO ?_)
    refine .cons (OpStep.pure rfl rfl) rfl ?_
    refine .cons (OpStep.elem rfl rfl rfl rfl Try.underlying25 size3 agg3 hlt (ints_at (by rw [hy]; exact hlt))) rfl ?_
    refine .cons (OpStep.pure rfl rfl) rfl ?_
    refine .cons (OpStep.pure rfl rfl) rfl ?_
    refine .nil ?_
    refine WX.seq (WX.acts hO ?_)
    refine .cons (OpStep.pure rfl rfl) rfl ?_
    refine .cons (OpStep.index rfl rfl rfl rfl Try.underlying25 size3 hlt (show 0 + i * 1 = i by omega)) rfl ?_
    refine .cons (OpStep.load rfl rfl rfl rfl (load_one agg3 (ints_at (by rw [mid_len]; exact hlt)))) rfl ?_
    refine .cons (OpStep.pure rfl rfl) rfl ?_
    have hfi : f i = xs.getD i 0 + ys.getD i 0 := by rw [← hf]
    have hbi := hb i hlt
    refine .cons (OpStep.bin rfl rfl rfl rfl (bin_add64 (z := f i) (by rw [mid_at f xs i i hlt, if_neg (by omega), hfi]) (by omega))) rfl ?_
    refine .cons (OpStep.index rfl rfl rfl rfl Try.underlying25 size3 hlt (show 0 + i * 1 = i by omega)) rfl ?_
    refine .cons (OpStep.store rfl rfl rfl rfl size3 rfl (by rw [ints_len, mid_len]; exact hlt) (store_one (by rw [ints_len, mid_len]; exact hlt))) rfl ?_
    refine .nil ?_
    by_cases hlo : f i < -2047
    · refine WX.seq (WX.acts hO ?_)
      refine .cons (OpStep.pure rfl rfl) rfl ?_
      refine .cons (OpStep.index rfl rfl rfl rfl Try.underlying25 size3 hlt (show 0 + i * 1 = i by omega)) rfl ?_
      refine .cons (OpStep.load rfl rfl rfl rfl (load_one agg3 (by rw [mid_set f xs i hlt]; exact ints_at (by rw [mid_len]; exact hlt)))) rfl ?_
      refine .cons (OpStep.bin rfl rfl rfl rfl (bin_lss (b := true) (by rw [mid_at f xs _ i hlt, if_pos (by omega)]; exact decide_eq_true hlo))) rfl ?_
      refine .cons (OpStep.pure rfl rfl) rfl ?_
      refine .cons (OpStep.skip rfl) rfl ?_
      refine .cons (OpStep.skip rfl) rfl ?_
      refine .cons (OpStep.skip rfl) rfl ?_
      refine .cons (OpStep.skip rfl) rfl ?_
      refine .cons (OpStep.pure rfl rfl) rfl ?_
      refine .nil ?_
      refine WX.cond rfl (fun _ => ?_) (fun h => absurd h (by decide))
      refine WX.seq (WX.acts hO ?_)
      refine .cons (OpStep.pure rfl (x := .agg (ints zeros)) rfl) rfl ?_
      refine .cons (OpStep.store rfl rfl rfl rfl size25 rfl (by simp [ints, zeros]) (store_all (by simp [ints, zeros]))) rfl ?_
      refine .cons (OpStep.pure rfl rfl) rfl ?_
      refine .nil ?_
      refine WX.ret ?_
      refine ⟨.inr rfl, ?_⟩
      unfold outcome
      rw [allFit_false hlt (by unfold fits; omega)]
      exact ResX.cellTmp rfl rfl rfl (load_all agg25 size25) rfl
    · by_cases hhi : 2047 < f i
      · refine WX.seq (WX.acts hO ?_)
        refine .cons (OpStep.pure rfl rfl) rfl ?_
        refine .cons (OpStep.index rfl rfl rfl rfl Try.underlying25 size3 hlt (show 0 + i * 1 = i by omega)) rfl ?_
        refine .cons (OpStep.load rfl rfl rfl rfl (load_one agg3 (by rw [mid_set f xs i hlt]; exact ints_at (by rw [mid_len]; exact hlt)))) rfl ?_
        refine .cons (OpStep.bin rfl rfl rfl rfl (bin_lss (b := false) (by rw [mid_at f xs _ i hlt, if_pos (by omega)]; exact decide_eq_false hlo))) rfl ?_
        refine .cons (OpStep.pure rfl rfl) rfl ?_
        refine .cons (OpStep.pure rfl rfl) rfl ?_
        refine .cons (OpStep.index rfl rfl rfl rfl Try.underlying25 size3 hlt (show 0 + i * 1 = i by omega)) rfl ?_
        refine .cons (OpStep.load rfl rfl rfl rfl (load_one agg3 (by rw [mid_set f xs i hlt]; exact ints_at (by rw [mid_len]; exact hlt)))) rfl ?_
        refine .cons (OpStep.bin rfl rfl rfl rfl (bin_gtr (b := true) (by rw [mid_at f xs _ i hlt, if_pos (by omega)]; exact decide_eq_true hhi))) rfl ?_
        refine .cons (OpStep.pure rfl rfl) rfl ?_
        refine .nil ?_
        refine WX.cond rfl (fun _ => ?_) (fun h => absurd h (by decide))
        refine WX.seq (WX.acts hO ?_)
        refine .cons (OpStep.pure rfl (x := .agg (ints zeros)) rfl) rfl ?_
        refine .cons (OpStep.store rfl rfl rfl rfl size25 rfl (by simp [ints, zeros]) (store_all (by simp [ints, zeros]))) rfl ?_
        refine .cons (OpStep.pure rfl rfl) rfl ?_
        refine .nil ?_
        refine WX.ret ?_
        refine ⟨.inr rfl, ?_⟩
        unfold outcome
        rw [allFit_false hlt (by unfold fits; omega)]
        exact ResX.cellTmp rfl rfl rfl (load_all agg25 size25) rfl
      · refine WX.seq (WX.acts hO ?_)
        refine .cons (OpStep.pure rfl rfl) rfl ?_
        refine .cons (OpStep.index rfl rfl rfl rfl Try.underlying25 size3 hlt (show 0 + i * 1 = i by omega)) rfl ?_
        refine .cons (OpStep.load rfl rfl rfl rfl (load_one agg3 (by rw [mid_set f xs i hlt]; exact ints_at (by rw [mid_len]; exact hlt)))) rfl ?_
        refine .cons (OpStep.bin rfl rfl rfl rfl (bin_lss (b := false) (by rw [mid_at f xs _ i hlt, if_pos (by omega)]; exact decide_eq_false hlo))) rfl ?_
        refine .cons (OpStep.pure rfl rfl) rfl ?_
        refine .cons (OpStep.pure rfl rfl) rfl ?_
        refine .cons (OpStep.index rfl rfl rfl rfl Try.underlying25 size3 hlt (show 0 + i * 1 = i by omega)) rfl ?_
        refine .cons (OpStep.load rfl rfl rfl rfl (load_one agg3 (by rw [mid_set f xs i hlt]; exact ints_at (by rw [mid_len]; exact hlt)))) rfl ?_
        refine .cons (OpStep.bin rfl rfl rfl rfl (bin_gtr (b := false) (by rw [mid_at f xs _ i hlt, if_pos (by omega)]; exact decide_eq_false hhi))) rfl ?_
        refine .cons (OpStep.pure rfl rfl) rfl ?_
        refine .nil ?_
        refine WX.cond rfl (fun h => absurd h (by decide)) (fun _ => ?_)
        refine WX.skip ?_
        refine WX.acts hO ?_
        refine .cons (OpStep.bin rfl rfl rfl rfl (bin_add64 (z := ((i + 1 : Nat) : Int)) (by omega) (by omega))) rfl ?_
        refine .cons (OpStep.pure rfl rfl) rfl ?_
        refine .nil ?_
        refine WX.at ?_ ?_ (ih hlt (fun k hk => ?_))
        · exact less_cons rfl (less_cons rfl (less_cons rfl (less_cons rfl (less_cons rfl (less_nil _)))))
        · show [_, _, _] = _
          rw [← mid_set f xs i hlt]
        · by_cases hki : k = i
          · subst hki
            unfold fits
            omega
          · exact hI k (by omega)
  · have hlt : i = 64 := by have := of_decide_eq_false hlt; omega
    subst hlt
    refine WX.exit ?_
    refine WX.seq (WX.acts hO ?_)
    refine .cons (OpStep.load rfl rfl rfl rfl (load_all agg25 (by rw [ints_len, mid_len]; exact size25))) rfl ?_
    refine .cons (OpStep.store rfl rfl rfl rfl (by rw [ints_len, mid_len]; exact size25) rfl (by simp [ints, zeros, mid]) (store_all (by simp [ints, zeros, mid]))) rfl ?_
    refine .cons (OpStep.pure rfl rfl) rfl ?_
    refine .nil ?_
    refine WX.ret ?_
    refine ⟨.inr rfl, ?_⟩
    unfold outcome
    rw [allFit_true hI, ← mid_all f xs]
    exact ResX.cellTmp rfl rfl rfl (load_all agg25 (by rw [ints_len, mid_len]; exact size25)) rfl

theorem more_fun (xs ys : List Int) (hx : xs.length = 64) (hy : ys.length = 64) (hb : ∀ k, k < 64 → -10000 ≤ xs.getD k 0 ∧ xs.getD k 0 ≤ 10000 ∧ -10000 ≤ ys.getD k 0 ∧ ys.getD k 0 ≤ 10000) :
    Fun Try.prog 8 [.agg (ints xs), .agg (ints ys)] (outcome fun k => xs.getD k 0 + ys.getD k 0) :=
  fun_of_wx (fn := Try.f8) (c := Try.f8.body.getD .skip) Try.func8 rfl (by decide) (Nat.le_of_ble_eq_true rfl) (by simp [XV.shut, ints, XC.shut]) (outcome_shut _) (more_wx xs ys hx hy hb)
end Go.Proofs.Ytlgbbgicicnijaa
