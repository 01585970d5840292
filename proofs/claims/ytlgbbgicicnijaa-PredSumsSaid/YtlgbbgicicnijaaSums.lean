/-
  PredSums, for all its arguments: the loop over the levels.
-/
import Derived.Test.YtlgbbgicicnijaaLess
import Derived.Test.YtlgbbgicicnijaaMore
namespace Go.Proofs.Ytlgbbgicicnijaa
open Go.Xm
set_option linter.unusedVariables false
set_option linter.unusedSectionVars false
variable [Atoms]

def shorts (l : List Int) : List XC := l.map (.int .i16)
theorem shorts_len (l : List Int) : (shorts l).length = l.length := by simp [shorts]
theorem shorts_at {l : List Int} {i : Nat} (h : i < l.length) : (shorts l)[i]? = some (.int .i16 (l.getD i 0)) := by
  simp [shorts, h, List.getD_eq_getElem?_getD]

theorem size22 : xsize Try.prog 22 = some 1 := by kernel_rfl
theorem agg22 : xisAgg Try.prog 22 = some false := by kernel_rfl
theorem conv22 (x : Int) : xconvert Try.prog 22 3 (.one (.int .i16 x)) = some (.one (.int .i64 (xwrap .i64 x))) := by
  simp only [xconvert, Try.underlying22, Try.underlying3]
theorem tmod_bnd (x : Int) : -4095 ≤ x.tmod 4096 ∧ x.tmod 4096 ≤ 4095 := by
  have h1 := Int.tmod_lt_of_pos x (show (0 : Int) < 4096 by decide)
  have h2 := Int.lt_tmod_of_pos x (show (0 : Int) < 4096 by decide)
  omega
theorem in64 (x : Int) (h : -9223372036854775808 ≤ x ∧ x < 9223372036854775808) : IntKind.wrap .i64 x = x := IntWalk.i64_in x ⟨h.1, by omega⟩

theorem mid_new (f : Nat → Int) (xs : List Int) (i : Nat) (hi : i < 64) : (ints (mid f xs (i + 1)))[i]? = some (.int .i64 (f i)) := by
  rw [ints_at (by rw [mid_len]; exact hi), mid_at f xs _ _ hi, if_pos (by omega)]

def upTo (f : Nat → Int) (i : Nat) : Bool := (List.range i).all fun k => decide (fits (f k))
theorem upTo_all (f : Nat → Int) : upTo f 64 = allFit f := rfl
theorem upTo_succ (f : Nat → Int) (i : Nat) : upTo f (i + 1) = (upTo f i && decide (fits (f i))) := by
  unfold upTo
  rw [List.range_succ, List.all_append]
  simp

section
variable (a b : List Int)
def lx (k : Nat) : Int := (a.getD k 0).tmod 4096
def ld (k : Nat) : Int := lx a k - lx b k
def le' (k : Nat) : Int := lx a k + lx b k
def regs (i : Nat) : Regs := [(22, .one (.int .i64 (i : Nat))), (9, .one (.bool (upTo (ld a b) i))), (10, .one (.bool (upTo (le' a b) i))), (2, .one (.ptr 0 0)), (3, .one (.ptr 1 0)), (5, .one (.ptr 2 0)), (6, .one (.ptr 3 0)), (7, .one (.ptr 4 0)), (8, .one (.ptr 5 0))]
def heap (i : Nat) : Heap := [.cells (shorts a) 23 false false, .cells (shorts b) 23 false false, .cells (ints (mid (lx a) zeros i)) 25 false false, .cells (ints (mid (lx b) zeros i)) 25 false false, .cells (ints (mid (ld a b) zeros i)) 25 false false, .cells (ints (mid (le' a b) zeros i)) 25 false false]
end

/-- A flag, one level on: three ways that meet. -/
theorem flag_low {f : Nat → Int} {i : Nat} (h : upTo f i = true) (hl : decide (-2047 ≤ f i) = false) : upTo f (i + 1) = false := by
  rw [upTo_succ, h, Bool.true_and]
  exact decide_eq_false (fun hf => by have := of_decide_eq_false hl; exact this hf.1)
theorem flag_out {f : Nat → Int} {i : Nat} (h : upTo f i = false) : upTo f (i + 1) = false := by rw [upTo_succ, h]; rfl
theorem flag_in {f : Nat → Int} {i : Nat} (h : upTo f i = true) (hl : decide (-2047 ≤ f i) = true) : upTo f (i + 1) = decide (f i ≤ 2047) := by
  rw [upTo_succ, h, Bool.true_and]
  have := of_decide_eq_true hl
  by_cases h2 : f i ≤ 2047
  · rw [decide_eq_true h2]; exact decide_eq_true ⟨this, h2⟩
  · rw [decide_eq_false h2]; exact decide_eq_false (fun hf => h2 hf.2)


set_option maxRecDepth 10000 in
theorem sums_wx (O : Orc) (hO : OrcSound Try.prog O) (a b : List Int) (ha : a.length = 64) (hb : b.length = 64) (ha16 : ∀ i, i < 64 → -9223372036854775808 ≤ a.getD i 0 ∧ a.getD i 0 < 9223372036854775808) (hb16 : ∀ i, i < 64 → -9223372036854775808 ≤ b.getD i 0 ∧ b.getD i 0 < 9223372036854775808) (mixed : Try.prog.follows .mixedOrders = true)
    (hA : ∀ m, O.call 6 [] m = some (.one (.bool true), m)) (hL : ∀ m, O.call 7 [.agg (ints (all64 (lx a))), .agg (ints (all64 (lx b)))] m = some (outcome (ld a b), m)) (hM : ∀ m, O.call 8 [.agg (ints (all64 (lx a))), .agg (ints (all64 (lx b)))] m = some (outcome (le' a b), m)) (hB : ∀ m, O.call 8 [.agg (ints (all64 (ld a b))), .agg (ints (all64 (lx b)))] m = some (outcome (lx a), m)) :
    WX Try.prog 165 (.code (Try.f3.body.getD .skip)) (argRegs [.agg (shorts a), .agg (shorts b)] 0) [] (KFun Try.prog Try.f3 (.one (.bool true))) := by
  simp only [Try.f3, Option.getD_some]
  refine WX.seq (WX.acts hO ?_)
  refine .cons (OpStep.box rfl rfl rfl rfl) rfl ?_
  refine .cons (OpStep.box rfl rfl rfl rfl) rfl ?_
  refine .cons (OpStep.pure rfl rfl) rfl ?_
  refine .nil ?_
  refine WX.seq (WX.seq (WX.acts hO ?_))
  refine .cons (OpStep.call rfl rfl (f := 6) (vs := []) rfl rfl rfl (x := .one (.bool true)) (ws := []) (fun m hm => ⟨m, hA m, hm, fun _ _ => rfl⟩)) rfl ?_
  refine .cons (OpStep.pure rfl rfl) rfl ?_
  refine .nil ?_
  refine WX.cond rfl (fun h => absurd h (by decide)) (fun _ => ?_)
  refine WX.skip ?_
  refine WX.seq (WX.acts hO ?_)
  refine .cons (OpStep.alloc rfl rfl zero25 rfl) rfl ?_
  refine .cons (OpStep.alloc rfl rfl zero25 rfl) rfl ?_
  refine .cons (OpStep.alloc rfl rfl zero25 rfl) rfl ?_
  refine .cons (OpStep.alloc rfl rfl zero25 rfl) rfl ?_
  refine .nil ?_
  refine WX.seq (WX.acts hO ?_)
  refine .cons (OpStep.pure rfl rfl) rfl ?_
  refine .cons (OpStep.pure rfl rfl) rfl ?_
  refine .nil ?_
  refine WX.seq (WX.seq (WX.acts hO ?_))
  refine .cons (OpStep.pure rfl rfl) rfl ?_
  refine .nil ?_
  refine WX.block ?_
  refine WX.loop ?_
  refine WX.at (al' := regs a b 0) (hs' := heap a b 0) ?_ ?_ ?_
  · exact less_cons rfl (less_cons rfl (less_cons rfl (less_cons rfl (less_cons rfl (less_cons rfl (less_cons rfl (less_cons rfl (less_cons rfl (less_nil _)))))))))
  · unfold heap
    rw [mid_zero _ zeros rfl, mid_zero _ zeros rfl, mid_zero _ zeros rfl, mid_zero _ zeros rfl]
    rfl
  refine WX.count (regs a b) (heap a b) (fun _ => True) 64 trivial ?_
  intro i hi _ ih
  refine WX.round ?_
  refine WX.seq (WX.acts hO ?_)
  refine .cons (OpStep.bin rfl rfl rfl rfl (bin_lss rfl)) rfl ?_
  refine .nil ?_
  refine WX.seq ?_
  refine WX.cond rfl (fun hlt => ?_) (fun hlt => ?_)
  · have hlt : i < 64 := by have := of_decide_eq_true hlt; omega
    refine WX.skip ?_
    refine WX.seq ?_
    refine WX.block ?_
    refine WX.seq (WX.acts hO ?_)
    refine .cons (OpStep.pure rfl rfl) rfl ?_
    refine .cons (OpStep.pure rfl rfl) rfl ?_
    refine .nil ?_
    refine WX.seq (WX.draws hO mixed (by kernel_rfl) ?_)

    refine .cons (OpStep.pure rfl rfl) rfl ?_
    refine .cons (OpStep.pure rfl rfl) rfl ?_
    refine .cons (OpStep.pure rfl rfl) rfl ?_
    refine .cons (OpStep.index rfl rfl rfl rfl Try.underlying23 size22 hlt (show 0 + i * 1 = i by omega)) rfl ?_
    refine .cons (OpStep.load rfl rfl rfl rfl (load_one agg22 (shorts_at (by rw [ha]; exact hlt)))) rfl ?_
    refine .cons (OpStep.conv rfl rfl rfl (conv22 _) (in64 _ (ha16 i hlt))) rfl ?_
    refine .cons (OpStep.bin rfl rfl rfl rfl (bin_rem (z := lx a i) (by decide) rfl)) rfl ?_
    refine .cons (OpStep.pure rfl rfl) rfl ?_
    refine .cons (OpStep.index rfl rfl rfl rfl Try.underlying23 size22 hlt (show 0 + i * 1 = i by omega)) rfl ?_
    refine .cons (OpStep.load rfl rfl rfl rfl (load_one agg22 (shorts_at (by rw [hb]; exact hlt)))) rfl ?_
    refine .cons (OpStep.conv rfl rfl rfl (conv22 _) (in64 _ (hb16 i hlt))) rfl ?_
    refine .cons (OpStep.bin rfl rfl rfl rfl (bin_rem (z := lx b i) (by decide) rfl)) rfl ?_
    refine .cons (OpStep.index rfl rfl rfl rfl Try.underlying25 size3 hlt (show 0 + i * 1 = i by omega)) rfl ?_
    refine .cons (OpStep.store rfl rfl rfl rfl size3 rfl (by rw [ints_len, mid_len]; exact hlt) ((store_one (by rw [ints_len, mid_len]; exact hlt)).trans (mid_set (lx a) zeros i hlt))) rfl ?_
    refine .cons (OpStep.index rfl rfl rfl rfl Try.underlying25 size3 hlt (show 0 + i * 1 = i by omega)) rfl ?_
    refine .cons (OpStep.store rfl rfl rfl rfl size3 rfl (by rw [ints_len, mid_len]; exact hlt) ((store_one (by rw [ints_len, mid_len]; exact hlt)).trans (mid_set (lx b) zeros i hlt))) rfl ?_
    refine .nil ⟨by kernel_rfl, ?_⟩
    refine WX.seq (WX.draws hO mixed (by kernel_rfl) ?_)
    refine .cons (OpStep.pure rfl rfl) rfl ?_
    refine .cons (OpStep.pure rfl rfl) rfl ?_
    refine .cons (OpStep.pure rfl rfl) rfl ?_
    refine .cons (OpStep.index rfl rfl rfl rfl Try.underlying25 size3 hlt (show 0 + i * 1 = i by omega)) rfl ?_
    refine .cons (OpStep.load rfl rfl rfl rfl (load_one agg3 (mid_new _ zeros i hlt))) rfl ?_
    refine .cons (OpStep.pure rfl rfl) rfl ?_
    refine .cons (OpStep.index rfl rfl rfl rfl Try.underlying25 size3 hlt (show 0 + i * 1 = i by omega)) rfl ?_
    refine .cons (OpStep.load rfl rfl rfl rfl (load_one agg3 (mid_new _ zeros i hlt))) rfl ?_
    have hba := tmod_bnd (a.getD i 0)
    have hbb := tmod_bnd (b.getD i 0)
    refine .cons (OpStep.bin rfl rfl rfl rfl (bin_sub64 (z := ld a b i) rfl (by unfold ld lx; omega))) rfl ?_
    refine .cons (OpStep.pure rfl rfl) rfl ?_
    refine .cons (OpStep.index rfl rfl rfl rfl Try.underlying25 size3 hlt (show 0 + i * 1 = i by omega)) rfl ?_
    refine .cons (OpStep.load rfl rfl rfl rfl (load_one agg3 (mid_new _ zeros i hlt))) rfl ?_
    refine .cons (OpStep.pure rfl rfl) rfl ?_
    refine .cons (OpStep.index rfl rfl rfl rfl Try.underlying25 size3 hlt (show 0 + i * 1 = i by omega)) rfl ?_
    refine .cons (OpStep.load rfl rfl rfl rfl (load_one agg3 (mid_new _ zeros i hlt))) rfl ?_
    refine .cons (OpStep.bin rfl rfl rfl rfl (bin_add64 (z := le' a b i) rfl (by unfold le' lx; omega))) rfl ?_
    refine .cons (OpStep.index rfl rfl rfl rfl Try.underlying25 size3 hlt (show 0 + i * 1 = i by omega)) rfl ?_
    refine .cons (OpStep.store rfl rfl rfl rfl size3 rfl (by rw [ints_len, mid_len]; exact hlt) ((store_one (by rw [ints_len, mid_len]; exact hlt)).trans (mid_set (ld a b) zeros i hlt))) rfl ?_
    refine .cons (OpStep.index rfl rfl rfl rfl Try.underlying25 size3 hlt (show 0 + i * 1 = i by omega)) rfl ?_
    refine .cons (OpStep.store rfl rfl rfl rfl size3 rfl (by rw [ints_len, mid_len]; exact hlt) ((store_one (by rw [ints_len, mid_len]; exact hlt)).trans (mid_set (le' a b) zeros i hlt))) rfl ?_
    refine .nil ⟨by kernel_rfl, ?_⟩
    refine WX.seqAt [(22, .one (.int .i64 (i : Nat))), (11, .one (.int .i64 (i : Nat))), (9, .one (.bool (upTo (ld a b) (i + 1)))), (10, .one (.bool (upTo (le' a b) i))), (2, .one (.ptr 0 0)), (3, .one (.ptr 1 0)), (5, .one (.ptr 2 0)), (6, .one (.ptr 3 0)), (7, .one (.ptr 4 0)), (8, .one (.ptr 5 0))] [.cells (shorts a) 23 false false, .cells (shorts b) 23 false false, .cells (ints (mid (lx a) zeros (i + 1))) 25 false false, .cells (ints (mid (lx b) zeros (i + 1))) 25 false false, .cells (ints (mid (ld a b) zeros (i + 1))) 25 false false, .cells (ints (mid (le' a b) zeros (i + 1))) 25 false false] ?_ ?_
    · refine WX.at (al' := [(22, .one (.int .i64 (i : Nat))), (11, .one (.int .i64 (i : Nat))), (9, .one (.bool (upTo (ld a b) i))), (10, .one (.bool (upTo (le' a b) i))), (2, .one (.ptr 0 0)), (3, .one (.ptr 1 0)), (5, .one (.ptr 2 0)), (6, .one (.ptr 3 0)), (7, .one (.ptr 4 0)), (8, .one (.ptr 5 0))]) (hs' := [.cells (shorts a) 23 false false, .cells (shorts b) 23 false false, .cells (ints (mid (lx a) zeros (i + 1))) 25 false false, .cells (ints (mid (lx b) zeros (i + 1))) 25 false false, .cells (ints (mid (ld a b) zeros (i + 1))) 25 false false, .cells (ints (mid (le' a b) zeros (i + 1))) 25 false false]) (less_cons rfl (less_cons rfl (less_cons rfl (less_cons rfl (less_cons rfl (less_cons rfl (less_cons rfl (less_cons rfl (less_cons rfl (less_cons rfl (less_nil _))))))))))) rfl ?_
      generalize hfl : upTo (ld a b) i = fl
      cases fl with
      | false =>
        refine WX.acts hO ?_
        refine .cons (OpStep.pure rfl rfl) rfl ?_
        refine .cons (OpStep.pure rfl rfl) rfl ?_
        refine .cons (OpStep.skip rfl) rfl ?_
        refine .cons (OpStep.skip rfl) rfl ?_
        refine .cons (OpStep.skip rfl) rfl ?_
        refine .cons (OpStep.skip rfl) rfl ?_
        refine .cons (OpStep.pure rfl rfl) rfl ?_
        refine .cons (OpStep.pure rfl rfl) rfl ?_
        refine .cons (OpStep.skip rfl) rfl ?_
        refine .cons (OpStep.skip rfl) rfl ?_
        refine .cons (OpStep.skip rfl) rfl ?_
        refine .cons (OpStep.skip rfl) rfl ?_
        refine .cons (OpStep.pure rfl rfl) rfl ?_
        refine .cons (OpStep.pure rfl rfl) rfl ?_
        refine .nil ⟨rfl, less_cons rfl (less_cons rfl (less_cons (by rw [flag_out hfl]; rfl) (less_cons rfl (less_cons rfl (less_cons rfl (less_cons rfl (less_cons rfl (less_cons rfl (less_cons rfl (less_nil _)))))))))), rfl⟩
      | true =>
        cases hl : decide (-2047 ≤ (ld a b) i) with
        | false =>
          refine WX.acts hO ?_
          refine .cons (OpStep.pure rfl rfl) rfl ?_
          refine .cons (OpStep.pure rfl rfl) rfl ?_
          refine .cons (OpStep.pure rfl rfl) rfl ?_
          refine .cons (OpStep.index rfl rfl rfl rfl Try.underlying25 size3 hlt (show 0 + i * 1 = i by omega)) rfl ?_
          refine .cons (OpStep.load rfl rfl rfl rfl (load_one agg3 (mid_new _ zeros i hlt))) rfl ?_
          refine .cons (OpStep.bin rfl rfl rfl rfl (bin_geq hl)) rfl ?_
          refine .cons (OpStep.pure rfl rfl) rfl ?_
          refine .cons (OpStep.pure rfl rfl) rfl ?_
          refine .cons (OpStep.skip rfl) rfl ?_
          refine .cons (OpStep.skip rfl) rfl ?_
          refine .cons (OpStep.skip rfl) rfl ?_
          refine .cons (OpStep.skip rfl) rfl ?_
          refine .cons (OpStep.pure rfl rfl) rfl ?_
          refine .cons (OpStep.pure rfl rfl) rfl ?_
          refine .nil ⟨rfl, less_cons rfl (less_cons rfl (less_cons (by rw [flag_low hfl hl]; rfl) (less_cons rfl (less_cons rfl (less_cons rfl (less_cons rfl (less_cons rfl (less_cons rfl (less_cons rfl (less_nil _)))))))))), rfl⟩
        | true =>
          refine WX.acts hO ?_
          refine .cons (OpStep.pure rfl rfl) rfl ?_
          refine .cons (OpStep.pure rfl rfl) rfl ?_
          refine .cons (OpStep.pure rfl rfl) rfl ?_
          refine .cons (OpStep.index rfl rfl rfl rfl Try.underlying25 size3 hlt (show 0 + i * 1 = i by omega)) rfl ?_
          refine .cons (OpStep.load rfl rfl rfl rfl (load_one agg3 (mid_new _ zeros i hlt))) rfl ?_
          refine .cons (OpStep.bin rfl rfl rfl rfl (bin_geq hl)) rfl ?_
          refine .cons (OpStep.pure rfl rfl) rfl ?_
          refine .cons (OpStep.pure rfl rfl) rfl ?_
          refine .cons (OpStep.pure rfl rfl) rfl ?_
          refine .cons (OpStep.index rfl rfl rfl rfl Try.underlying25 size3 hlt (show 0 + i * 1 = i by omega)) rfl ?_
          refine .cons (OpStep.load rfl rfl rfl rfl (load_one agg3 (mid_new _ zeros i hlt))) rfl ?_
          refine .cons (OpStep.bin rfl rfl rfl rfl (bin_leq rfl)) rfl ?_
          refine .cons (OpStep.pure rfl rfl) rfl ?_
          refine .cons (OpStep.pure rfl rfl) rfl ?_
          refine .nil ⟨rfl, less_cons rfl (less_cons rfl (less_cons (by rw [flag_in hfl hl]; rfl) (less_cons rfl (less_cons rfl (less_cons rfl (less_cons rfl (less_cons rfl (less_cons rfl (less_cons rfl (less_nil _)))))))))), rfl⟩
    refine WX.midEnd [(22, .one (.int .i64 (i : Nat))), (11, .one (.int .i64 (i : Nat))), (9, .one (.bool (upTo (ld a b) (i + 1)))), (10, .one (.bool (upTo (le' a b) (i + 1)))), (2, .one (.ptr 0 0)), (3, .one (.ptr 1 0)), (5, .one (.ptr 2 0)), (6, .one (.ptr 3 0)), (7, .one (.ptr 4 0)), (8, .one (.ptr 5 0))] [.cells (shorts a) 23 false false, .cells (shorts b) 23 false false, .cells (ints (mid (lx a) zeros (i + 1))) 25 false false, .cells (ints (mid (lx b) zeros (i + 1))) 25 false false, .cells (ints (mid (ld a b) zeros (i + 1))) 25 false false, .cells (ints (mid (le' a b) zeros (i + 1))) 25 false false] ?_ ?_
    · generalize hfl : upTo (le' a b) i = fl
      cases fl with
      | false =>
        refine WX.acts hO ?_
        refine .cons (OpStep.pure rfl rfl) rfl ?_
        refine .cons (OpStep.pure rfl rfl) rfl ?_
        refine .cons (OpStep.skip rfl) rfl ?_
        refine .cons (OpStep.skip rfl) rfl ?_
        refine .cons (OpStep.skip rfl) rfl ?_
        refine .cons (OpStep.skip rfl) rfl ?_
        refine .cons (OpStep.pure rfl rfl) rfl ?_
        refine .cons (OpStep.pure rfl rfl) rfl ?_
        refine .cons (OpStep.skip rfl) rfl ?_
        refine .cons (OpStep.skip rfl) rfl ?_
        refine .cons (OpStep.skip rfl) rfl ?_
        refine .cons (OpStep.skip rfl) rfl ?_
        refine .cons (OpStep.pure rfl rfl) rfl ?_
        refine .cons (OpStep.pure rfl rfl) rfl ?_
        refine .nil ⟨rfl, less_cons rfl (less_cons rfl (less_cons rfl (less_cons (by rw [flag_out hfl]; rfl) (less_cons rfl (less_cons rfl (less_cons rfl (less_cons rfl (less_cons rfl (less_cons rfl (less_nil _)))))))))), rfl⟩
      | true =>
        cases hl : decide (-2047 ≤ (le' a b) i) with
        | false =>
          refine WX.acts hO ?_
          refine .cons (OpStep.pure rfl rfl) rfl ?_
          refine .cons (OpStep.pure rfl rfl) rfl ?_
          refine .cons (OpStep.pure rfl rfl) rfl ?_
          refine .cons (OpStep.index rfl rfl rfl rfl Try.underlying25 size3 hlt (show 0 + i * 1 = i by omega)) rfl ?_
          refine .cons (OpStep.load rfl rfl rfl rfl (load_one agg3 (mid_new _ zeros i hlt))) rfl ?_
          refine .cons (OpStep.bin rfl rfl rfl rfl (bin_geq hl)) rfl ?_
          refine .cons (OpStep.pure rfl rfl) rfl ?_
          refine .cons (OpStep.pure rfl rfl) rfl ?_
          refine .cons (OpStep.skip rfl) rfl ?_
          refine .cons (OpStep.skip rfl) rfl ?_
          refine .cons (OpStep.skip rfl) rfl ?_
          refine .cons (OpStep.skip rfl) rfl ?_
          refine .cons (OpStep.pure rfl rfl) rfl ?_
          refine .cons (OpStep.pure rfl rfl) rfl ?_
          refine .nil ⟨rfl, less_cons rfl (less_cons rfl (less_cons rfl (less_cons (by rw [flag_low hfl hl]; rfl) (less_cons rfl (less_cons rfl (less_cons rfl (less_cons rfl (less_cons rfl (less_cons rfl (less_nil _)))))))))), rfl⟩
        | true =>
          refine WX.acts hO ?_
          refine .cons (OpStep.pure rfl rfl) rfl ?_
          refine .cons (OpStep.pure rfl rfl) rfl ?_
          refine .cons (OpStep.pure rfl rfl) rfl ?_
          refine .cons (OpStep.index rfl rfl rfl rfl Try.underlying25 size3 hlt (show 0 + i * 1 = i by omega)) rfl ?_
          refine .cons (OpStep.load rfl rfl rfl rfl (load_one agg3 (mid_new _ zeros i hlt))) rfl ?_
          refine .cons (OpStep.bin rfl rfl rfl rfl (bin_geq hl)) rfl ?_
          refine .cons (OpStep.pure rfl rfl) rfl ?_
          refine .cons (OpStep.pure rfl rfl) rfl ?_
          refine .cons (OpStep.pure rfl rfl) rfl ?_
          refine .cons (OpStep.index rfl rfl rfl rfl Try.underlying25 size3 hlt (show 0 + i * 1 = i by omega)) rfl ?_
          refine .cons (OpStep.load rfl rfl rfl rfl (load_one agg3 (mid_new _ zeros i hlt))) rfl ?_
          refine .cons (OpStep.bin rfl rfl rfl rfl (bin_leq rfl)) rfl ?_
          refine .cons (OpStep.pure rfl rfl) rfl ?_
          refine .cons (OpStep.pure rfl rfl) rfl ?_
          refine .nil ⟨rfl, less_cons rfl (less_cons rfl (less_cons rfl (less_cons (by rw [flag_in hfl hl]; rfl) (less_cons rfl (less_cons rfl (less_cons rfl (less_cons rfl (less_cons rfl (less_cons rfl (less_nil _)))))))))), rfl⟩
    intro al1 hl1
    refine WX.at (al' := [(22, .one (.int .i64 (i : Nat))), (11, .one (.int .i64 (i : Nat))), (9, .one (.bool (upTo (ld a b) (i + 1)))), (10, .one (.bool (upTo (le' a b) (i + 1)))), (2, .one (.ptr 0 0)), (3, .one (.ptr 1 0)), (5, .one (.ptr 2 0)), (6, .one (.ptr 3 0)), (7, .one (.ptr 4 0)), (8, .one (.ptr 5 0))]) (hs' := [.cells (shorts a) 23 false false, .cells (shorts b) 23 false false, .cells (ints (mid (lx a) zeros (i + 1))) 25 false false, .cells (ints (mid (lx b) zeros (i + 1))) 25 false false, .cells (ints (mid (ld a b) zeros (i + 1))) 25 false false, .cells (ints (mid (le' a b) zeros (i + 1))) 25 false false]) hl1 rfl ?_
    refine WX.acts hO ?_
    refine .cons (OpStep.bin rfl rfl rfl rfl (bin_add64 (z := ((i + 1 : Nat) : Int)) (by omega) (by omega))) rfl ?_
    refine .cons (OpStep.pure rfl rfl) rfl ?_
    refine .nil (WX.at (al' := regs a b (i + 1)) (hs' := heap a b (i + 1)) ?_ rfl (ih hlt trivial))
    exact less_cons rfl (less_cons rfl (less_cons rfl (less_cons rfl (less_cons rfl (less_cons rfl (less_cons rfl (less_cons rfl (less_cons rfl (less_nil _)))))))))
  · have hlt : i = 64 := by have := of_decide_eq_false hlt; omega
    subst hlt
    refine WX.exit ?_
    refine WX.at (al' := [(9, .one (.bool (allFit (ld a b)))), (10, .one (.bool (allFit (le' a b)))), (2, .one (.ptr 0 0)), (3, .one (.ptr 1 0)), (5, .one (.ptr 2 0)), (6, .one (.ptr 3 0)), (7, .one (.ptr 4 0)), (8, .one (.ptr 5 0))]) (hs' := [.cells (shorts a) 23 false false, .cells (shorts b) 23 false false, .cells (ints (all64 (lx a))) 25 false false, .cells (ints (all64 (lx b))) 25 false false, .cells (ints (all64 (ld a b))) 25 false false, .cells (ints (all64 (le' a b))) 25 false false]) ?_ ?_ ?_
    · exact less_cons rfl (less_cons rfl (less_cons rfl (less_cons rfl (less_cons rfl (less_cons rfl (less_cons rfl (less_cons rfl (less_nil _))))))))
    · unfold heap; rw [mid_all, mid_all, mid_all, mid_all]; rfl
    refine WX.seq (WX.acts hO ?_)
    refine .cons (OpStep.load rfl rfl rfl rfl (load_all agg25 (by rw [ints_len, all64_len]; exact size25))) rfl ?_
    refine .cons (OpStep.load rfl rfl rfl rfl (load_all agg25 (by rw [ints_len, all64_len]; exact size25))) rfl ?_
    refine .cons (OpStep.call rfl rfl (f := 7) (vs := [.agg (ints (all64 (lx a))), .agg (ints (all64 (lx b)))]) rfl rfl rfl (x := .tup [.agg (ints (res (ld a b))), .one (.bool (allFit (ld a b)))]) (ws := []) (fun m hm => ⟨m, (hL m).trans (by rw [outcome_eq]), hm, fun _ _ => rfl⟩)) rfl ?_
    refine .cons (OpStep.pure rfl rfl) rfl ?_
    refine .cons (OpStep.pure rfl rfl) rfl ?_
    refine .cons (OpStep.pure rfl rfl) rfl ?_
    refine .cons (OpStep.alloc rfl rfl zero25 rfl) rfl ?_
    refine .cons (OpStep.store rfl rfl rfl rfl (by rw [ints_len, res_len]; exact size25) rfl (by simp [ints, res_len]) (store_all (by simp [ints, res_len]))) rfl ?_
    refine .cons (OpStep.pure rfl rfl) rfl ?_
    refine .nil ?_
    refine WX.seq (WX.acts hO ?_)
    refine .cons (OpStep.load rfl rfl rfl rfl (load_all agg25 (by rw [ints_len, all64_len]; exact size25))) rfl ?_
    refine .cons (OpStep.load rfl rfl rfl rfl (load_all agg25 (by rw [ints_len, all64_len]; exact size25))) rfl ?_
    refine .cons (OpStep.call rfl rfl (f := 8) (vs := [.agg (ints (all64 (lx a))), .agg (ints (all64 (lx b)))]) rfl rfl rfl (x := .tup [.agg (ints (res (le' a b))), .one (.bool (allFit (le' a b)))]) (ws := []) (fun m hm => ⟨m, (hM m).trans (by rw [outcome_eq]), hm, fun _ _ => rfl⟩)) rfl ?_
    refine .cons (OpStep.pure rfl rfl) rfl ?_
    refine .cons (OpStep.pure rfl rfl) rfl ?_
    refine .cons (OpStep.pure rfl rfl) rfl ?_
    refine .cons (OpStep.alloc rfl rfl zero25 rfl) rfl ?_
    refine .cons (OpStep.store rfl rfl rfl rfl (by rw [ints_len, res_len]; exact size25) rfl (by simp [ints, res_len]) (store_all (by simp [ints, res_len]))) rfl ?_
    refine .cons (OpStep.pure rfl rfl) rfl ?_
    refine .nil ?_
    have hrD : res (ld a b) = if allFit (ld a b) then all64 (ld a b) else zeros := rfl
    have hrE : res (le' a b) = if allFit (le' a b) then all64 (le' a b) else zeros := rfl
    rw [hrD, hrE]
    cases hD : allFit (ld a b) with
    | false =>
      cases hE : allFit (le' a b) with
      | false =>
        refine WX.seq (WX.seq (WX.acts hO ?_))
        refine .cons (OpStep.pure rfl rfl) rfl ?_
        refine .cons (OpStep.pure rfl rfl) rfl ?_
        refine .cons (OpStep.pure rfl rfl) rfl ?_
        refine .cons (OpStep.pure rfl rfl) rfl ?_
        refine .cons (OpStep.pure rfl rfl) rfl ?_
        refine .cons (OpStep.pure rfl rfl) rfl ?_
        refine .cons (OpStep.pure rfl rfl) rfl ?_
        refine .cons (OpStep.pure rfl rfl) rfl ?_
        refine .cons (OpStep.pure rfl rfl) rfl ?_
        refine .cons (OpStep.pure rfl rfl) rfl ?_
        refine .cons (OpStep.pure rfl rfl) rfl ?_
        refine .cons (OpStep.skip rfl) rfl ?_
        refine .cons (OpStep.skip rfl) rfl ?_
        refine .cons (OpStep.skip rfl) rfl ?_
        refine .cons (OpStep.pure rfl rfl) rfl ?_
        refine .cons (OpStep.pure rfl rfl) rfl ?_
        refine .cons (OpStep.pure rfl rfl) rfl ?_
        refine .cons (OpStep.pure rfl rfl) rfl ?_
        refine .cons (OpStep.pure rfl rfl) rfl ?_
        refine .cons (OpStep.skip rfl) rfl ?_
        refine .cons (OpStep.skip rfl) rfl ?_
        refine .cons (OpStep.skip rfl) rfl ?_
        refine .cons (OpStep.pure rfl rfl) rfl ?_
        refine .cons (OpStep.pure rfl rfl) rfl ?_
        refine .cons (OpStep.pure rfl rfl) rfl ?_
        refine .cons (OpStep.pure rfl rfl) rfl ?_
        refine .cons (OpStep.pure rfl rfl) rfl ?_
        refine .cons (OpStep.pure rfl rfl) rfl ?_
        refine .cons (OpStep.load rfl rfl rfl rfl (load_all (vs := ints zeros) agg25 size25)) rfl ?_
        refine .cons (OpStep.pure rfl (x := .agg (ints zeros)) rfl) rfl ?_
        refine .cons (OpStep.binV rfl rfl rfl rfl (neq_ints rfl)) rfl ?_
        refine .cons (OpStep.pure rfl rfl) rfl ?_
        refine .cons (OpStep.pure rfl rfl) rfl ?_
        refine .cons (OpStep.pure rfl rfl) rfl ?_
        refine .cons (OpStep.pure rfl rfl) rfl ?_
        refine .cons (OpStep.pure rfl rfl) rfl ?_
        refine .cons (OpStep.pure rfl rfl) rfl ?_
        refine .cons (OpStep.load rfl rfl rfl rfl (load_all (vs := ints zeros) agg25 size25)) rfl ?_
        refine .cons (OpStep.pure rfl (x := .agg (ints zeros)) rfl) rfl ?_
        refine .cons (OpStep.binV rfl rfl rfl rfl (neq_ints rfl)) rfl ?_
        refine .cons (OpStep.pure rfl rfl) rfl ?_
        refine .cons (OpStep.pure rfl rfl) rfl ?_
        refine .nil ?_
        refine WX.cond rfl (fun h => absurd h (by decide)) (fun _ => ?_)
        refine WX.skip ?_
        refine WX.seq (WX.seq (WX.acts hO ?_))
        refine .cons (OpStep.pure rfl rfl) rfl ?_
        refine .cons (OpStep.pure rfl rfl) rfl ?_
        refine .nil ?_
        refine WX.cond rfl (fun _ => ?_) (fun h => absurd h (by decide))
        refine WX.seq (WX.acts hO ?_)
        refine .cons (OpStep.pure rfl rfl) rfl ?_
        refine .nil ?_
        refine WX.ret ?_
        exact ⟨.inr rfl, ResX.tmp (y := .one (.bool true)) rfl rfl⟩
      | true =>
        refine WX.seq (WX.seq (WX.acts hO ?_))
        refine .cons (OpStep.pure rfl rfl) rfl ?_
        refine .cons (OpStep.pure rfl rfl) rfl ?_
        refine .cons (OpStep.pure rfl rfl) rfl ?_
        refine .cons (OpStep.pure rfl rfl) rfl ?_
        refine .cons (OpStep.pure rfl rfl) rfl ?_
        refine .cons (OpStep.pure rfl rfl) rfl ?_
        refine .cons (OpStep.pure rfl rfl) rfl ?_
        refine .cons (OpStep.pure rfl rfl) rfl ?_
        refine .cons (OpStep.pure rfl rfl) rfl ?_
        refine .cons (OpStep.pure rfl rfl) rfl ?_
        refine .cons (OpStep.pure rfl rfl) rfl ?_
        refine .cons (OpStep.skip rfl) rfl ?_
        refine .cons (OpStep.skip rfl) rfl ?_
        refine .cons (OpStep.skip rfl) rfl ?_
        refine .cons (OpStep.pure rfl rfl) rfl ?_
        refine .cons (OpStep.pure rfl rfl) rfl ?_
        refine .cons (OpStep.pure rfl rfl) rfl ?_
        refine .cons (OpStep.pure rfl rfl) rfl ?_
        refine .cons (OpStep.pure rfl rfl) rfl ?_
        refine .cons (OpStep.load rfl rfl rfl rfl (load_all (vs := ints (all64 (le' a b))) agg25 (by rw [ints_len, all64_len]; exact size25))) rfl ?_
        refine .cons (OpStep.load rfl rfl rfl rfl (load_all agg25 (by rw [ints_len, all64_len]; exact size25))) rfl ?_
        refine .cons (OpStep.binV rfl rfl rfl rfl (neq_ints (all64_len _))) rfl ?_
        refine .cons (OpStep.pure rfl rfl) rfl ?_
        refine .cons (OpStep.pure rfl rfl) rfl ?_
        refine .cons (OpStep.pure rfl rfl) rfl ?_
        refine .cons (OpStep.pure rfl rfl) rfl ?_
        refine .cons (OpStep.pure rfl rfl) rfl ?_
        refine .cons (OpStep.pure rfl rfl) rfl ?_
        refine .cons (OpStep.load rfl rfl rfl rfl (load_all (vs := ints zeros) agg25 size25)) rfl ?_
        refine .cons (OpStep.pure rfl (x := .agg (ints zeros)) rfl) rfl ?_
        refine .cons (OpStep.binV rfl rfl rfl rfl (neq_ints rfl)) rfl ?_
        refine .cons (OpStep.pure rfl rfl) rfl ?_
        refine .cons (OpStep.pure rfl rfl) rfl ?_
        refine .cons (OpStep.pure rfl rfl) rfl ?_
        refine .cons (OpStep.pure rfl rfl) rfl ?_
        refine .cons (OpStep.pure rfl rfl) rfl ?_
        refine .cons (OpStep.pure rfl rfl) rfl ?_
        refine .cons (OpStep.skip rfl) rfl ?_
        refine .cons (OpStep.skip rfl) rfl ?_
        refine .cons (OpStep.skip rfl) rfl ?_
        refine .cons (OpStep.pure rfl rfl) rfl ?_
        refine .cons (OpStep.pure rfl rfl) rfl ?_
        refine .nil ?_
        refine WX.cond rfl (fun h => absurd h (by decide)) (fun _ => ?_)
        refine WX.skip ?_
        refine WX.seq (WX.seq (WX.acts hO ?_))
        refine .cons (OpStep.pure rfl rfl) rfl ?_
        refine .cons (OpStep.pure rfl rfl) rfl ?_
        refine .nil ?_
        refine WX.cond rfl (fun _ => ?_) (fun h => absurd h (by decide))
        refine WX.seq (WX.acts hO ?_)
        refine .cons (OpStep.pure rfl rfl) rfl ?_
        refine .nil ?_
        refine WX.ret ?_
        exact ⟨.inr rfl, ResX.tmp (y := .one (.bool true)) rfl rfl⟩
    | true =>
      cases hE : allFit (le' a b) with
      | false =>
        refine WX.seq (WX.seq (WX.acts hO ?_))
        refine .cons (OpStep.pure rfl rfl) rfl ?_
        refine .cons (OpStep.pure rfl rfl) rfl ?_
        refine .cons (OpStep.pure rfl rfl) rfl ?_
        refine .cons (OpStep.pure rfl rfl) rfl ?_
        refine .cons (OpStep.pure rfl rfl) rfl ?_
        refine .cons (OpStep.pure rfl rfl) rfl ?_
        refine .cons (OpStep.pure rfl rfl) rfl ?_
        refine .cons (OpStep.pure rfl rfl) rfl ?_
        refine .cons (OpStep.pure rfl rfl) rfl ?_
        refine .cons (OpStep.pure rfl rfl) rfl ?_
        refine .cons (OpStep.pure rfl rfl) rfl ?_
        refine .cons (OpStep.load rfl rfl rfl rfl (load_all (vs := ints (all64 (ld a b))) agg25 (by rw [ints_len, all64_len]; exact size25))) rfl ?_
        refine .cons (OpStep.load rfl rfl rfl rfl (load_all agg25 (by rw [ints_len, all64_len]; exact size25))) rfl ?_
        refine .cons (OpStep.binV rfl rfl rfl rfl (neq_ints (all64_len _))) rfl ?_
        refine .cons (OpStep.pure rfl rfl) rfl ?_
        refine .cons (OpStep.pure rfl rfl) rfl ?_
        refine .cons (OpStep.pure rfl rfl) rfl ?_
        refine .cons (OpStep.pure rfl rfl) rfl ?_
        refine .cons (OpStep.pure rfl rfl) rfl ?_
        refine .cons (OpStep.skip rfl) rfl ?_
        refine .cons (OpStep.skip rfl) rfl ?_
        refine .cons (OpStep.skip rfl) rfl ?_
        refine .cons (OpStep.pure rfl rfl) rfl ?_
        refine .cons (OpStep.pure rfl rfl) rfl ?_
        refine .cons (OpStep.pure rfl rfl) rfl ?_
        refine .cons (OpStep.pure rfl rfl) rfl ?_
        refine .cons (OpStep.pure rfl rfl) rfl ?_
        refine .cons (OpStep.pure rfl rfl) rfl ?_
        refine .cons (OpStep.skip rfl) rfl ?_
        refine .cons (OpStep.skip rfl) rfl ?_
        refine .cons (OpStep.skip rfl) rfl ?_
        refine .cons (OpStep.pure rfl rfl) rfl ?_
        refine .cons (OpStep.pure rfl rfl) rfl ?_
        refine .cons (OpStep.pure rfl rfl) rfl ?_
        refine .cons (OpStep.pure rfl rfl) rfl ?_
        refine .cons (OpStep.pure rfl rfl) rfl ?_
        refine .cons (OpStep.pure rfl rfl) rfl ?_
        refine .cons (OpStep.load rfl rfl rfl rfl (load_all (vs := ints zeros) agg25 size25)) rfl ?_
        refine .cons (OpStep.pure rfl (x := .agg (ints zeros)) rfl) rfl ?_
        refine .cons (OpStep.binV rfl rfl rfl rfl (neq_ints rfl)) rfl ?_
        refine .cons (OpStep.pure rfl rfl) rfl ?_
        refine .cons (OpStep.pure rfl rfl) rfl ?_
        refine .nil ?_
        refine WX.cond rfl (fun h => absurd h (by decide)) (fun _ => ?_)
        refine WX.skip ?_
        refine WX.seq (WX.seq (WX.acts hO ?_))
        refine .cons (OpStep.pure rfl rfl) rfl ?_
        refine .cons (OpStep.pure rfl rfl) rfl ?_
        refine .nil ?_
        refine WX.cond rfl (fun h => absurd h (by decide)) (fun _ => ?_)
        refine WX.skip ?_
        refine WX.seq (WX.acts hO ?_)
        refine .cons (OpStep.load rfl rfl rfl rfl (load_all (vs := ints (all64 (ld a b))) agg25 (by rw [ints_len, all64_len]; exact size25))) rfl ?_
        refine .cons (OpStep.load rfl rfl rfl rfl (load_all agg25 (by rw [ints_len, all64_len]; exact size25))) rfl ?_
        refine .cons (OpStep.call rfl rfl (f := 8) (vs := [.agg (ints (all64 (ld a b))), .agg (ints (all64 (lx b)))]) rfl rfl rfl (x := .tup [.agg (ints (res (lx a))), .one (.bool (allFit (lx a)))]) (ws := []) (fun m hm => ⟨m, (hB m).trans (by rw [outcome_eq]), hm, fun _ _ => rfl⟩)) rfl ?_
        refine .cons (OpStep.pure rfl rfl) rfl ?_
        refine .cons (OpStep.pure rfl rfl) rfl ?_
        refine .cons (OpStep.pure rfl rfl) rfl ?_
        refine .cons (OpStep.alloc rfl rfl zero25 rfl) rfl ?_
        refine .cons (OpStep.store rfl rfl rfl rfl (by rw [ints_len, res_len]; exact size25) rfl (by simp [ints, res_len]) (store_all (by simp [ints, res_len]))) rfl ?_
        refine .cons (OpStep.pure rfl rfl) rfl ?_
        refine .nil ?_
        refine WX.seq (WX.seq (WX.acts hO ?_))
        refine .cons (OpStep.load rfl rfl rfl rfl (load_all agg25 (by rw [ints_len, all64_len]; exact size25))) rfl ?_
        refine .cons (OpStep.pure rfl rfl) rfl ?_
        refine .nil ?_
        refine WX.block ?_
        refine WX.loop ?_
        refine WX.at (al' := [(147, .one (.int .i64 (0 : Nat))), (146, .agg (ints (all64 (lx a)))), (17, .one (.bool (allFit (lx a)))), (16, .one (.ptr 8 0)), (5, .one (.ptr 2 0))]) (hs' := [.cells (shorts a) 23 false false, .cells (shorts b) 23 false false, .cells (ints (all64 (lx a))) 25 false false, .cells (ints (all64 (lx b))) 25 false false, .cells (ints (all64 (ld a b))) 25 false false, .cells (ints (all64 (le' a b))) 25 false false, .cells (ints ((if true = true then all64 (ld a b) else zeros))) 25 false false, .cells (ints ((if false = true then all64 (le' a b) else zeros))) 25 false false, .cells (ints (res (lx a))) 25 false false]) (less_cons rfl (less_cons rfl (less_cons rfl (less_cons rfl (less_cons rfl (less_nil _)))))) rfl ?_
        refine WX.count (fun i => [(147, .one (.int .i64 (i : Nat))), (146, .agg (ints (all64 (lx a)))), (17, .one (.bool (allFit (lx a)))), (16, .one (.ptr 8 0)), (5, .one (.ptr 2 0))]) (fun _ => [.cells (shorts a) 23 false false, .cells (shorts b) 23 false false, .cells (ints (all64 (lx a))) 25 false false, .cells (ints (all64 (lx b))) 25 false false, .cells (ints (all64 (ld a b))) 25 false false, .cells (ints (all64 (le' a b))) 25 false false, .cells (ints ((if true = true then all64 (ld a b) else zeros))) 25 false false, .cells (ints ((if false = true then all64 (le' a b) else zeros))) 25 false false, .cells (ints (res (lx a))) 25 false false]) (fun i => ∀ k, k < i → fits (lx a k)) 64 (fun k hk => absurd hk (Nat.not_lt_zero k)) ?_
        clear ih hi
        intro i hi hI ih
        refine WX.round ?_
        refine WX.seq (WX.acts hO ?_)
        refine .cons (OpStep.bin rfl rfl rfl rfl (bin_lss rfl)) rfl ?_
        refine .nil ?_
        refine WX.seq ?_
        refine WX.cond rfl (fun hlt => ?_) (fun hlt => ?_)
        · have hlt : i < 64 := by have := of_decide_eq_true hlt; omega
          refine WX.skip ?_
          refine WX.seq ?_
          refine WX.block ?_
          refine WX.seq (WX.acts hO ?_)
          refine .cons (OpStep.elem rfl rfl rfl rfl Try.underlying25 size3 agg3 hlt ((ints_at (by rw [all64_len]; exact hlt)).trans (by rw [all64_at _ i hlt]))) rfl ?_
          refine .cons (OpStep.pure rfl rfl) rfl ?_
          refine .nil ?_
          by_cases hlo : lx a i < -2047
          · skip
            refine WX.seq (WX.acts hO ?_)
            refine .cons (OpStep.pure rfl rfl) rfl ?_
            refine .cons (OpStep.bin rfl rfl rfl rfl (bin_lss (decide_eq_true hlo))) rfl ?_
            refine .cons (OpStep.pure rfl rfl) rfl ?_
            refine .cons (OpStep.skip rfl) rfl ?_
            refine .cons (OpStep.skip rfl) rfl ?_
            refine .cons (OpStep.pure rfl rfl) rfl ?_
            refine .nil ?_
            refine WX.cond rfl (fun _ => ?_) (fun h => absurd h (by decide))
            refine WX.seq (WX.acts hO ?_)
            have hno : allFit (lx a) = false := allFit_false hlt (by unfold fits; omega)
            refine .cons (OpStep.pure rfl rfl) rfl ?_
            refine .cons (OpStep.pure rfl rfl) rfl ?_
            refine .cons (OpStep.pure rfl rfl) rfl ?_
            refine .nil ?_
            refine WX.ret ?_
            exact ⟨.inr rfl, ResX.tmp (y := .one (.bool true)) rfl (by rw [hno]; rfl)⟩
          · by_cases hhi : 2047 < lx a i
            · skip
              refine WX.seq (WX.acts hO ?_)
              refine .cons (OpStep.pure rfl rfl) rfl ?_
              refine .cons (OpStep.bin rfl rfl rfl rfl (bin_lss (decide_eq_false hlo))) rfl ?_
              refine .cons (OpStep.pure rfl rfl) rfl ?_
              refine .cons (OpStep.pure rfl rfl) rfl ?_
              refine .cons (OpStep.bin rfl rfl rfl rfl (bin_gtr (decide_eq_true hhi))) rfl ?_
              refine .cons (OpStep.pure rfl rfl) rfl ?_
              refine .nil ?_
              refine WX.cond rfl (fun _ => ?_) (fun h => absurd h (by decide))
              refine WX.seq (WX.acts hO ?_)
              have hno : allFit (lx a) = false := allFit_false hlt (by unfold fits; omega)
              refine .cons (OpStep.pure rfl rfl) rfl ?_
              refine .cons (OpStep.pure rfl rfl) rfl ?_
              refine .cons (OpStep.pure rfl rfl) rfl ?_
              refine .nil ?_
              refine WX.ret ?_
              exact ⟨.inr rfl, ResX.tmp (y := .one (.bool true)) rfl (by rw [hno]; rfl)⟩
            · skip
              refine WX.seq (WX.acts hO ?_)
              refine .cons (OpStep.pure rfl rfl) rfl ?_
              refine .cons (OpStep.bin rfl rfl rfl rfl (bin_lss (decide_eq_false hlo))) rfl ?_
              refine .cons (OpStep.pure rfl rfl) rfl ?_
              refine .cons (OpStep.pure rfl rfl) rfl ?_
              refine .cons (OpStep.bin rfl rfl rfl rfl (bin_gtr (decide_eq_false hhi))) rfl ?_
              refine .cons (OpStep.pure rfl rfl) rfl ?_
              refine .nil ?_
              refine WX.cond rfl (fun h => absurd h (by decide)) (fun _ => ?_)
              refine WX.skip ?_
              refine WX.acts hO ?_
              refine .cons (OpStep.bin rfl rfl rfl rfl (bin_add64 (z := ((i + 1 : Nat) : Int)) (by omega) (by omega))) rfl ?_
              refine .cons (OpStep.pure rfl rfl) rfl ?_
              refine .nil (WX.at (al' := [(147, .one (.int .i64 ((i + 1) : Nat))), (146, .agg (ints (all64 (lx a)))), (17, .one (.bool (allFit (lx a)))), (16, .one (.ptr 8 0)), (5, .one (.ptr 2 0))]) (hs' := [.cells (shorts a) 23 false false, .cells (shorts b) 23 false false, .cells (ints (all64 (lx a))) 25 false false, .cells (ints (all64 (lx b))) 25 false false, .cells (ints (all64 (ld a b))) 25 false false, .cells (ints (all64 (le' a b))) 25 false false, .cells (ints ((if true = true then all64 (ld a b) else zeros))) 25 false false, .cells (ints ((if false = true then all64 (le' a b) else zeros))) 25 false false, .cells (ints (res (lx a))) 25 false false]) (less_cons rfl (less_cons rfl (less_cons rfl (less_cons rfl (less_cons rfl (less_nil _)))))) rfl (ih hlt (fun k hk => ?_)))
              by_cases hki : k = i
              · subst hki; unfold fits; omega
              · exact hI k (by omega)
        · have hlt : i = 64 := by have := of_decide_eq_false hlt; omega
          subst hlt
          refine WX.exit ?_
          have hyes : allFit (lx a) = true := allFit_true hI
          have hres : res (lx a) = all64 (lx a) := by unfold res; rw [hyes]; rfl
          rw [hyes, hres]
          refine WX.seq (WX.acts hO ?_)
          refine .cons (OpStep.pure rfl rfl) rfl ?_
          refine .cons (OpStep.pure rfl rfl) rfl ?_
          refine .cons (OpStep.load rfl rfl rfl rfl (load_all agg25 (by rw [ints_len, all64_len]; exact size25))) rfl ?_
          refine .cons (OpStep.load rfl rfl rfl rfl (load_all agg25 (by rw [ints_len, all64_len]; exact size25))) rfl ?_
          refine .cons (OpStep.binV rfl rfl rfl rfl (eql_ints (all64_len _))) rfl ?_
          refine .cons (OpStep.pure rfl rfl) rfl ?_
          refine .cons (OpStep.pure rfl rfl) rfl ?_
          refine .nil ?_
          refine WX.ret ?_
          exact ⟨.inr rfl, ResX.tmp (y := .one (.bool true)) rfl rfl⟩
      | true =>
        refine WX.seq (WX.seq (WX.acts hO ?_))
        refine .cons (OpStep.pure rfl rfl) rfl ?_
        refine .cons (OpStep.pure rfl rfl) rfl ?_
        refine .cons (OpStep.pure rfl rfl) rfl ?_
        refine .cons (OpStep.pure rfl rfl) rfl ?_
        refine .cons (OpStep.pure rfl rfl) rfl ?_
        refine .cons (OpStep.pure rfl rfl) rfl ?_
        refine .cons (OpStep.pure rfl rfl) rfl ?_
        refine .cons (OpStep.pure rfl rfl) rfl ?_
        refine .cons (OpStep.pure rfl rfl) rfl ?_
        refine .cons (OpStep.pure rfl rfl) rfl ?_
        refine .cons (OpStep.pure rfl rfl) rfl ?_
        refine .cons (OpStep.load rfl rfl rfl rfl (load_all (vs := ints (all64 (ld a b))) agg25 (by rw [ints_len, all64_len]; exact size25))) rfl ?_
        refine .cons (OpStep.load rfl rfl rfl rfl (load_all agg25 (by rw [ints_len, all64_len]; exact size25))) rfl ?_
        refine .cons (OpStep.binV rfl rfl rfl rfl (neq_ints (all64_len _))) rfl ?_
        refine .cons (OpStep.pure rfl rfl) rfl ?_
        refine .cons (OpStep.pure rfl rfl) rfl ?_
        refine .cons (OpStep.pure rfl rfl) rfl ?_
        refine .cons (OpStep.pure rfl rfl) rfl ?_
        refine .cons (OpStep.pure rfl rfl) rfl ?_
        refine .cons (OpStep.load rfl rfl rfl rfl (load_all (vs := ints (all64 (le' a b))) agg25 (by rw [ints_len, all64_len]; exact size25))) rfl ?_
        refine .cons (OpStep.load rfl rfl rfl rfl (load_all agg25 (by rw [ints_len, all64_len]; exact size25))) rfl ?_
        refine .cons (OpStep.binV rfl rfl rfl rfl (neq_ints (all64_len _))) rfl ?_
        refine .cons (OpStep.pure rfl rfl) rfl ?_
        refine .cons (OpStep.pure rfl rfl) rfl ?_
        refine .cons (OpStep.pure rfl rfl) rfl ?_
        refine .cons (OpStep.pure rfl rfl) rfl ?_
        refine .cons (OpStep.pure rfl rfl) rfl ?_
        refine .cons (OpStep.pure rfl rfl) rfl ?_
        refine .cons (OpStep.skip rfl) rfl ?_
        refine .cons (OpStep.skip rfl) rfl ?_
        refine .cons (OpStep.skip rfl) rfl ?_
        refine .cons (OpStep.pure rfl rfl) rfl ?_
        refine .cons (OpStep.pure rfl rfl) rfl ?_
        refine .cons (OpStep.pure rfl rfl) rfl ?_
        refine .cons (OpStep.pure rfl rfl) rfl ?_
        refine .cons (OpStep.pure rfl rfl) rfl ?_
        refine .cons (OpStep.pure rfl rfl) rfl ?_
        refine .cons (OpStep.skip rfl) rfl ?_
        refine .cons (OpStep.skip rfl) rfl ?_
        refine .cons (OpStep.skip rfl) rfl ?_
        refine .cons (OpStep.pure rfl rfl) rfl ?_
        refine .cons (OpStep.pure rfl rfl) rfl ?_
        refine .nil ?_
        refine WX.cond rfl (fun h => absurd h (by decide)) (fun _ => ?_)
        refine WX.skip ?_
        refine WX.seq (WX.seq (WX.acts hO ?_))
        refine .cons (OpStep.pure rfl rfl) rfl ?_
        refine .cons (OpStep.pure rfl rfl) rfl ?_
        refine .nil ?_
        refine WX.cond rfl (fun h => absurd h (by decide)) (fun _ => ?_)
        refine WX.skip ?_
        refine WX.seq (WX.acts hO ?_)
        refine .cons (OpStep.load rfl rfl rfl rfl (load_all (vs := ints (all64 (ld a b))) agg25 (by rw [ints_len, all64_len]; exact size25))) rfl ?_
        refine .cons (OpStep.load rfl rfl rfl rfl (load_all agg25 (by rw [ints_len, all64_len]; exact size25))) rfl ?_
        refine .cons (OpStep.call rfl rfl (f := 8) (vs := [.agg (ints (all64 (ld a b))), .agg (ints (all64 (lx b)))]) rfl rfl rfl (x := .tup [.agg (ints (res (lx a))), .one (.bool (allFit (lx a)))]) (ws := []) (fun m hm => ⟨m, (hB m).trans (by rw [outcome_eq]), hm, fun _ _ => rfl⟩)) rfl ?_
        refine .cons (OpStep.pure rfl rfl) rfl ?_
        refine .cons (OpStep.pure rfl rfl) rfl ?_
        refine .cons (OpStep.pure rfl rfl) rfl ?_
        refine .cons (OpStep.alloc rfl rfl zero25 rfl) rfl ?_
        refine .cons (OpStep.store rfl rfl rfl rfl (by rw [ints_len, res_len]; exact size25) rfl (by simp [ints, res_len]) (store_all (by simp [ints, res_len]))) rfl ?_
        refine .cons (OpStep.pure rfl rfl) rfl ?_
        refine .nil ?_
        refine WX.seq (WX.seq (WX.acts hO ?_))
        refine .cons (OpStep.load rfl rfl rfl rfl (load_all agg25 (by rw [ints_len, all64_len]; exact size25))) rfl ?_
        refine .cons (OpStep.pure rfl rfl) rfl ?_
        refine .nil ?_
        refine WX.block ?_
        refine WX.loop ?_
        refine WX.at (al' := [(147, .one (.int .i64 (0 : Nat))), (146, .agg (ints (all64 (lx a)))), (17, .one (.bool (allFit (lx a)))), (16, .one (.ptr 8 0)), (5, .one (.ptr 2 0))]) (hs' := [.cells (shorts a) 23 false false, .cells (shorts b) 23 false false, .cells (ints (all64 (lx a))) 25 false false, .cells (ints (all64 (lx b))) 25 false false, .cells (ints (all64 (ld a b))) 25 false false, .cells (ints (all64 (le' a b))) 25 false false, .cells (ints ((if true = true then all64 (ld a b) else zeros))) 25 false false, .cells (ints ((if true = true then all64 (le' a b) else zeros))) 25 false false, .cells (ints (res (lx a))) 25 false false]) (less_cons rfl (less_cons rfl (less_cons rfl (less_cons rfl (less_cons rfl (less_nil _)))))) rfl ?_
        refine WX.count (fun i => [(147, .one (.int .i64 (i : Nat))), (146, .agg (ints (all64 (lx a)))), (17, .one (.bool (allFit (lx a)))), (16, .one (.ptr 8 0)), (5, .one (.ptr 2 0))]) (fun _ => [.cells (shorts a) 23 false false, .cells (shorts b) 23 false false, .cells (ints (all64 (lx a))) 25 false false, .cells (ints (all64 (lx b))) 25 false false, .cells (ints (all64 (ld a b))) 25 false false, .cells (ints (all64 (le' a b))) 25 false false, .cells (ints ((if true = true then all64 (ld a b) else zeros))) 25 false false, .cells (ints ((if true = true then all64 (le' a b) else zeros))) 25 false false, .cells (ints (res (lx a))) 25 false false]) (fun i => ∀ k, k < i → fits (lx a k)) 64 (fun k hk => absurd hk (Nat.not_lt_zero k)) ?_
        clear ih hi
        intro i hi hI ih
        refine WX.round ?_
        refine WX.seq (WX.acts hO ?_)
        refine .cons (OpStep.bin rfl rfl rfl rfl (bin_lss rfl)) rfl ?_
        refine .nil ?_
        refine WX.seq ?_
        refine WX.cond rfl (fun hlt => ?_) (fun hlt => ?_)
        · have hlt : i < 64 := by have := of_decide_eq_true hlt; omega
          refine WX.skip ?_
          refine WX.seq ?_
          refine WX.block ?_
          refine WX.seq (WX.acts hO ?_)
          refine .cons (OpStep.elem rfl rfl rfl rfl Try.underlying25 size3 agg3 hlt ((ints_at (by rw [all64_len]; exact hlt)).trans (by rw [all64_at _ i hlt]))) rfl ?_
          refine .cons (OpStep.pure rfl rfl) rfl ?_
          refine .nil ?_
          by_cases hlo : lx a i < -2047
          · skip
            refine WX.seq (WX.acts hO ?_)
            refine .cons (OpStep.pure rfl rfl) rfl ?_
            refine .cons (OpStep.bin rfl rfl rfl rfl (bin_lss (decide_eq_true hlo))) rfl ?_
            refine .cons (OpStep.pure rfl rfl) rfl ?_
            refine .cons (OpStep.skip rfl) rfl ?_
            refine .cons (OpStep.skip rfl) rfl ?_
            refine .cons (OpStep.pure rfl rfl) rfl ?_
            refine .nil ?_
            refine WX.cond rfl (fun _ => ?_) (fun h => absurd h (by decide))
            refine WX.seq (WX.acts hO ?_)
            have hno : allFit (lx a) = false := allFit_false hlt (by unfold fits; omega)
            refine .cons (OpStep.pure rfl rfl) rfl ?_
            refine .cons (OpStep.pure rfl rfl) rfl ?_
            refine .cons (OpStep.pure rfl rfl) rfl ?_
            refine .nil ?_
            refine WX.ret ?_
            exact ⟨.inr rfl, ResX.tmp (y := .one (.bool true)) rfl (by rw [hno]; rfl)⟩
          · by_cases hhi : 2047 < lx a i
            · skip
              refine WX.seq (WX.acts hO ?_)
              refine .cons (OpStep.pure rfl rfl) rfl ?_
              refine .cons (OpStep.bin rfl rfl rfl rfl (bin_lss (decide_eq_false hlo))) rfl ?_
              refine .cons (OpStep.pure rfl rfl) rfl ?_
              refine .cons (OpStep.pure rfl rfl) rfl ?_
              refine .cons (OpStep.bin rfl rfl rfl rfl (bin_gtr (decide_eq_true hhi))) rfl ?_
              refine .cons (OpStep.pure rfl rfl) rfl ?_
              refine .nil ?_
              refine WX.cond rfl (fun _ => ?_) (fun h => absurd h (by decide))
              refine WX.seq (WX.acts hO ?_)
              have hno : allFit (lx a) = false := allFit_false hlt (by unfold fits; omega)
              refine .cons (OpStep.pure rfl rfl) rfl ?_
              refine .cons (OpStep.pure rfl rfl) rfl ?_
              refine .cons (OpStep.pure rfl rfl) rfl ?_
              refine .nil ?_
              refine WX.ret ?_
              exact ⟨.inr rfl, ResX.tmp (y := .one (.bool true)) rfl (by rw [hno]; rfl)⟩
            · skip
              refine WX.seq (WX.acts hO ?_)
              refine .cons (OpStep.pure rfl rfl) rfl ?_
              refine .cons (OpStep.bin rfl rfl rfl rfl (bin_lss (decide_eq_false hlo))) rfl ?_
              refine .cons (OpStep.pure rfl rfl) rfl ?_
              refine .cons (OpStep.pure rfl rfl) rfl ?_
              refine .cons (OpStep.bin rfl rfl rfl rfl (bin_gtr (decide_eq_false hhi))) rfl ?_
              refine .cons (OpStep.pure rfl rfl) rfl ?_
              refine .nil ?_
              refine WX.cond rfl (fun h => absurd h (by decide)) (fun _ => ?_)
              refine WX.skip ?_
              refine WX.acts hO ?_
              refine .cons (OpStep.bin rfl rfl rfl rfl (bin_add64 (z := ((i + 1 : Nat) : Int)) (by omega) (by omega))) rfl ?_
              refine .cons (OpStep.pure rfl rfl) rfl ?_
              refine .nil (WX.at (al' := [(147, .one (.int .i64 ((i + 1) : Nat))), (146, .agg (ints (all64 (lx a)))), (17, .one (.bool (allFit (lx a)))), (16, .one (.ptr 8 0)), (5, .one (.ptr 2 0))]) (hs' := [.cells (shorts a) 23 false false, .cells (shorts b) 23 false false, .cells (ints (all64 (lx a))) 25 false false, .cells (ints (all64 (lx b))) 25 false false, .cells (ints (all64 (ld a b))) 25 false false, .cells (ints (all64 (le' a b))) 25 false false, .cells (ints ((if true = true then all64 (ld a b) else zeros))) 25 false false, .cells (ints ((if true = true then all64 (le' a b) else zeros))) 25 false false, .cells (ints (res (lx a))) 25 false false]) (less_cons rfl (less_cons rfl (less_cons rfl (less_cons rfl (less_cons rfl (less_nil _)))))) rfl (ih hlt (fun k hk => ?_)))
              by_cases hki : k = i
              · subst hki; unfold fits; omega
              · exact hI k (by omega)
        · have hlt : i = 64 := by have := of_decide_eq_false hlt; omega
          subst hlt
          refine WX.exit ?_
          have hyes : allFit (lx a) = true := allFit_true hI
          have hres : res (lx a) = all64 (lx a) := by unfold res; rw [hyes]; rfl
          rw [hyes, hres]
          refine WX.seq (WX.acts hO ?_)
          refine .cons (OpStep.pure rfl rfl) rfl ?_
          refine .cons (OpStep.pure rfl rfl) rfl ?_
          refine .cons (OpStep.load rfl rfl rfl rfl (load_all agg25 (by rw [ints_len, all64_len]; exact size25))) rfl ?_
          refine .cons (OpStep.load rfl rfl rfl rfl (load_all agg25 (by rw [ints_len, all64_len]; exact size25))) rfl ?_
          refine .cons (OpStep.binV rfl rfl rfl rfl (eql_ints (all64_len _))) rfl ?_
          refine .cons (OpStep.pure rfl rfl) rfl ?_
          refine .cons (OpStep.pure rfl rfl) rfl ?_
          refine .nil ?_
          refine WX.ret ?_
          exact ⟨.inr rfl, ResX.tmp (y := .one (.bool true)) rfl rfl⟩
end Go.Proofs.Ytlgbbgicicnijaa
