/-
  Contracts of the small functions of quant, of pred, and of the law: what they compute.
-/
import Derived.Test.YtlgbbgicicnijaaFacts
namespace Go.Proofs.Ytlgbbgicicnijaa
open Go.Xm
set_option linter.unusedVariables false
set_option linter.unusedSectionVars false
set_option linter.unusedSimpArgs false
variable [Atoms]

theorem mixed : Try.prog.follows .mixedOrders = true := by kernel_rfl

/-- The step of a first number. -/
def stepOf (q : Int) : Int := 64 * max 2 (min (max q 1) 31 / 2)
theorem stepOf_bnd (q : Int) : 128 ≤ stepOf q ∧ stepOf q ≤ 960 := by unfold stepOf; omega

set_option maxRecDepth 10000 in
theorem qfirst_con (q : Int) : Con Try.prog 25 [.one (.int .i64 q)] [] (.one (.int .i64 (stepOf q))) [] := by
  refine con_of_wx Try.func25 rfl (Nat.le_of_ble_eq_true rfl) (Nat.le_of_ble_eq_true rfl) (Nat.le_of_ble_eq_true rfl) (Nat.le_of_ble_eq_true rfl) ?_
  repeat' (first
    | (refine sk_id ?_; first
      | refine sk_move rfl rfl rfl rfl (c := .one _) rfl ?_
      | refine sk_assign rfl rfl rfl rfl (c := .one _) rfl ?_
      | refine sk_add rfl rfl rfl rfl rfl rfl (by omega) ?_
      | refine sk_sub rfl rfl rfl rfl rfl rfl (by omega) ?_
      | refine sk_mul rfl rfl rfl rfl rfl rfl (by omega) ?_
      | refine sk_load rfl rfl rfl rfl rfl rfl rfl ?_
      | refine sk_fld rfl rfl rfl rfl rfl (by first | (simp only [Nat.zero_add, Nat.mul_one, Nat.reduceAdd, Nat.reduceMul, Int.reduceToNat, Nat.add_zero, Int.toNat_natCast]; exact rfl) | exact rfl) ?_
      | refine sk_true rfl rfl rfl rfl rfl rfl rfl (by omega) ?_
      | refine sk_false rfl rfl rfl rfl rfl rfl rfl (by omega) ?_
      | refine sk_netrue rfl rfl rfl rfl rfl rfl (by omega) ?_
      | refine sk_nefalse rfl rfl rfl rfl rfl rfl (by omega) ?_
      | refine sk_fork rfl rfl rfl rfl rfl rfl rfl (fun _ => ?_) (fun _ => ?_)
      | refine sk_forkn rfl rfl rfl rfl rfl rfl (fun _ => ?_) (fun _ => ?_)
      | refine sk_nil rfl rfl rfl rfl rfl ?_
      | refine sk_idxa rfl rfl rfl rfl rfl rfl (by omega) (by first | (simp only [Nat.zero_add, Nat.mul_one, Nat.reduceAdd, Nat.reduceMul, Int.reduceToNat, Nat.add_zero, Int.toNat_natCast]; exact rfl) | exact rfl) ?_
      | refine sk_loadall rfl rfl rfl rfl rfl rfl rfl ?_
      | refine sk_loada rfl rfl rfl rfl rfl rfl (by decide) rfl ?_
      | refine sk_quo rfl rfl rfl rfl rfl rfl (by omega) (by omega) ?_
      | refine sk_rem rfl rfl rfl rfl rfl rfl (by omega) (by omega) ?_
      | refine sk_max rfl rfl rfl rfl rfl rfl (Int.max_eq_left (by omega)) ?_
      | refine sk_max rfl rfl rfl rfl rfl rfl (Int.max_eq_right (by omega)) ?_
      | refine sk_max rfl rfl rfl rfl rfl rfl rfl ?_
      | refine sk_min rfl rfl rfl rfl rfl rfl (Int.min_eq_left (by omega)) ?_
      | refine sk_min rfl rfl rfl rfl rfl rfl (Int.min_eq_right (by omega)) ?_
      | refine sk_min rfl rfl rfl rfl rfl rfl rfl ?_
      | refine sk_conv rfl rfl rfl rfl rfl (by first | exact IntWalk.i64_in _ (by omega) | rfl) ?_
      | refine sk_pickT rfl rfl rfl rfl rfl rfl ?_
      | refine sk_pickF rfl rfl rfl rfl rfl rfl ?_
      | refine sk_not rfl rfl rfl rfl rfl rfl ?_
      | refine sk_build0 rfl rfl rfl rfl ?_
      | refine sk_build0A rfl rfl rfl rfl ?_
      | refine sk_buildA rfl rfl rfl rfl rfl rfl (by first | (simp only [List.cons_append, List.nil_append, List.append_nil]; exact rfl) | exact rfl) ?_
      | refine sk_buildS rfl rfl rfl rfl rfl rfl (by first | (simp only [List.cons_append, List.nil_append, List.append_nil]; exact rfl) | exact rfl) ?_
      | refine sk_nnp rfl rfl rfl rfl rfl ?_
      | refine sk_makemap rfl rfl rfl rfl (by first | (simp only [List.length_cons, List.length_nil, List.length_append, Nat.reduceAdd, Nat.zero_add]; exact rfl) | exact rfl) rfl (by first | (simp only [List.cons_append, List.nil_append]; exact rfl) | exact rfl) ?_
      | refine sk_alloc rfl rfl rfl rfl (by first | (simp only [List.length_cons, List.length_nil, List.length_append, Nat.reduceAdd, Nat.zero_add]; exact rfl) | exact rfl) rfl (by first | (simp only [List.cons_append, List.nil_append]; exact rfl) | exact rfl) ?_
      | refine sk_box rfl rfl rfl rfl rfl (by first | (simp only [List.length_cons, List.length_nil, List.length_append, Nat.reduceAdd, Nat.zero_add]; exact rfl) | exact rfl) rfl (by first | (simp only [List.cons_append, List.nil_append]; exact rfl) | exact rfl) ?_
      | refine sk_store rfl rfl rfl rfl rfl rfl (by decide) (by first | (simp only [List.set_cons_succ, List.set_cons_zero]; exact rfl) | exact rfl) (by first | (simp only [List.set_cons_succ, List.set_cons_zero]; exact rfl) | exact rfl) ?_
      | refine sk_storea rfl rfl rfl rfl rfl rfl rfl rfl (by first | (simp only [List.set_cons_succ, List.set_cons_zero]; exact rfl) | exact rfl) ?_
      | refine sk_ext rfl rfl rfl rfl rfl rfl ?_
      | refine sk_exta rfl rfl rfl rfl rfl rfl ?_
      | refine sk_idxs rfl rfl rfl rfl rfl rfl (by omega) (by first | (simp only [Nat.zero_add, Nat.mul_one, Nat.reduceAdd, Nat.reduceMul, Int.reduceToNat, Nat.add_zero, Int.toNat_natCast]; exact rfl) | exact rfl) ?_
      | refine sk_lens rfl rfl rfl rfl rfl ?_
      | refine sk_field rfl rfl rfl rfl rfl rfl ?_
      | refine sk_move rfl rfl rfl rfl (c := .agg _) rfl ?_
      | refine sk_assign rfl rfl rfl rfl (c := .agg _) rfl ?_
      | refine sk_move rfl rfl rfl rfl (c := .tup _) rfl ?_
      | refine sk_assign rfl rfl rfl rfl (c := .tup _) rfl ?_
      | refine sk_skip rfl rfl rfl ?_
      | refine sk_skip0 rfl rfl ?_
      | refine sk_pure rfl rfl rfl rfl ?_)
    | refine WX.seq ?_
    | refine WX.actsC ?_
    | refine sk_last (by first | exact Consistent.nil | exact Consistent.one _ | exact Consistent.ofL (by repeat' (first | exact True.intro | refine And.intro ?_ ?_ | exact Compat.ne rfl))) ⟨by kernel_rfl, ?_⟩
    | refine sk_last (by first | exact Consistent.nil | exact Consistent.one _ | exact Consistent.ofL (by repeat' (first | exact True.intro | refine And.intro ?_ ?_ | exact Compat.ne rfl))) ?_
    | refine WX.drawsC mixed (by kernel_rfl) ?_
    | refine WX.condT rfl ?_
    | refine WX.condF rfl ?_
    | refine WX.skip ?_
    | refine WX.block ?_
    | refine WX.exit ?_
    | refine WX.ret ?_)
  refine kcon_pure (.inr rfl) (fun m hm => rfl) ?_ rfl
  rfl

def firstLevel (n q : Int) : Int := min ((max n 0 + stepOf q / 2) / stepOf q) 127
set_option maxRecDepth 10000 in
theorem firstLevel_con (n q : Int) (hn : -100000000 ≤ n ∧ n ≤ 100000000) : Con Try.prog 21 [.one (.int .i64 n), .one (.int .i64 q)] [] (.one (.int .i64 (firstLevel n q))) [] := by
  have hs := stepOf_bnd q
  refine con_of_wx Try.func21 rfl (Nat.le_of_ble_eq_true rfl) (Nat.le_of_ble_eq_true rfl) (Nat.le_of_ble_eq_true rfl) (Nat.le_of_ble_eq_true rfl) ?_
  repeat' (first
    | (refine sk_id ?_; first
      | refine sk_call (inst_pure (qfirst_con _) rfl rfl rfl) rfl rfl rfl rfl rfl rfl (by kernel_rfl) rfl ?_
      | refine sk_move rfl rfl rfl rfl (c := .one _) rfl ?_
      | refine sk_assign rfl rfl rfl rfl (c := .one _) rfl ?_
      | refine sk_add rfl rfl rfl rfl rfl rfl (by omega) ?_
      | refine sk_sub rfl rfl rfl rfl rfl rfl (by omega) ?_
      | refine sk_mul rfl rfl rfl rfl rfl rfl (by omega) ?_
      | refine sk_load rfl rfl rfl rfl rfl rfl rfl ?_
      | refine sk_fld rfl rfl rfl rfl rfl (by first | (simp only [Nat.zero_add, Nat.mul_one, Nat.reduceAdd, Nat.reduceMul, Int.reduceToNat, Nat.add_zero, Int.toNat_natCast]; exact rfl) | exact rfl) ?_
      | refine sk_true rfl rfl rfl rfl rfl rfl rfl (by omega) ?_
      | refine sk_false rfl rfl rfl rfl rfl rfl rfl (by omega) ?_
      | refine sk_netrue rfl rfl rfl rfl rfl rfl (by omega) ?_
      | refine sk_nefalse rfl rfl rfl rfl rfl rfl (by omega) ?_
      | refine sk_fork rfl rfl rfl rfl rfl rfl rfl (fun _ => ?_) (fun _ => ?_)
      | refine sk_forkn rfl rfl rfl rfl rfl rfl (fun _ => ?_) (fun _ => ?_)
      | refine sk_nil rfl rfl rfl rfl rfl ?_
      | refine sk_idxa rfl rfl rfl rfl rfl rfl (by omega) (by first | (simp only [Nat.zero_add, Nat.mul_one, Nat.reduceAdd, Nat.reduceMul, Int.reduceToNat, Nat.add_zero, Int.toNat_natCast]; exact rfl) | exact rfl) ?_
      | refine sk_loadall rfl rfl rfl rfl rfl rfl rfl ?_
      | refine sk_loada rfl rfl rfl rfl rfl rfl (by decide) rfl ?_
      | refine sk_quo rfl rfl rfl rfl rfl rfl (by omega) (by omega) ?_
      | refine sk_rem rfl rfl rfl rfl rfl rfl (by omega) (by omega) ?_
      | refine sk_max rfl rfl rfl rfl rfl rfl (Int.max_eq_left (by omega)) ?_
      | refine sk_max rfl rfl rfl rfl rfl rfl (Int.max_eq_right (by omega)) ?_
      | refine sk_max rfl rfl rfl rfl rfl rfl rfl ?_
      | refine sk_min rfl rfl rfl rfl rfl rfl (Int.min_eq_left (by omega)) ?_
      | refine sk_min rfl rfl rfl rfl rfl rfl (Int.min_eq_right (by omega)) ?_
      | refine sk_min rfl rfl rfl rfl rfl rfl rfl ?_
      | refine sk_conv rfl rfl rfl rfl rfl (by first | exact IntWalk.i64_in _ (by omega) | rfl) ?_
      | refine sk_pickT rfl rfl rfl rfl rfl rfl ?_
      | refine sk_pickF rfl rfl rfl rfl rfl rfl ?_
      | refine sk_not rfl rfl rfl rfl rfl rfl ?_
      | refine sk_build0 rfl rfl rfl rfl ?_
      | refine sk_build0A rfl rfl rfl rfl ?_
      | refine sk_buildA rfl rfl rfl rfl rfl rfl (by first | (simp only [List.cons_append, List.nil_append, List.append_nil]; exact rfl) | exact rfl) ?_
      | refine sk_buildS rfl rfl rfl rfl rfl rfl (by first | (simp only [List.cons_append, List.nil_append, List.append_nil]; exact rfl) | exact rfl) ?_
      | refine sk_nnp rfl rfl rfl rfl rfl ?_
      | refine sk_makemap rfl rfl rfl rfl (by first | (simp only [List.length_cons, List.length_nil, List.length_append, Nat.reduceAdd, Nat.zero_add]; exact rfl) | exact rfl) rfl (by first | (simp only [List.cons_append, List.nil_append]; exact rfl) | exact rfl) ?_
      | refine sk_alloc rfl rfl rfl rfl (by first | (simp only [List.length_cons, List.length_nil, List.length_append, Nat.reduceAdd, Nat.zero_add]; exact rfl) | exact rfl) rfl (by first | (simp only [List.cons_append, List.nil_append]; exact rfl) | exact rfl) ?_
      | refine sk_box rfl rfl rfl rfl rfl (by first | (simp only [List.length_cons, List.length_nil, List.length_append, Nat.reduceAdd, Nat.zero_add]; exact rfl) | exact rfl) rfl (by first | (simp only [List.cons_append, List.nil_append]; exact rfl) | exact rfl) ?_
      | refine sk_store rfl rfl rfl rfl rfl rfl (by decide) (by first | (simp only [List.set_cons_succ, List.set_cons_zero]; exact rfl) | exact rfl) (by first | (simp only [List.set_cons_succ, List.set_cons_zero]; exact rfl) | exact rfl) ?_
      | refine sk_storea rfl rfl rfl rfl rfl rfl rfl rfl (by first | (simp only [List.set_cons_succ, List.set_cons_zero]; exact rfl) | exact rfl) ?_
      | refine sk_ext rfl rfl rfl rfl rfl rfl ?_
      | refine sk_exta rfl rfl rfl rfl rfl rfl ?_
      | refine sk_idxs rfl rfl rfl rfl rfl rfl (by omega) (by first | (simp only [Nat.zero_add, Nat.mul_one, Nat.reduceAdd, Nat.reduceMul, Int.reduceToNat, Nat.add_zero, Int.toNat_natCast]; exact rfl) | exact rfl) ?_
      | refine sk_lens rfl rfl rfl rfl rfl ?_
      | refine sk_field rfl rfl rfl rfl rfl rfl ?_
      | refine sk_move rfl rfl rfl rfl (c := .agg _) rfl ?_
      | refine sk_assign rfl rfl rfl rfl (c := .agg _) rfl ?_
      | refine sk_move rfl rfl rfl rfl (c := .tup _) rfl ?_
      | refine sk_assign rfl rfl rfl rfl (c := .tup _) rfl ?_
      | refine sk_skip rfl rfl rfl ?_
      | refine sk_skip0 rfl rfl ?_
      | refine sk_pure rfl rfl rfl rfl ?_)
    | refine WX.seq ?_
    | refine WX.actsC ?_
    | refine sk_last (by first | exact Consistent.nil | exact Consistent.one _ | exact Consistent.ofL (by repeat' (first | exact True.intro | refine And.intro ?_ ?_ | exact Compat.ne rfl))) ⟨by kernel_rfl, ?_⟩
    | refine sk_last (by first | exact Consistent.nil | exact Consistent.one _ | exact Consistent.ofL (by repeat' (first | exact True.intro | refine And.intro ?_ ?_ | exact Compat.ne rfl))) ?_
    | refine WX.drawsC mixed (by kernel_rfl) ?_
    | refine WX.condT rfl ?_
    | refine WX.condF rfl ?_
    | refine WX.skip ?_
    | refine WX.block ?_
    | refine WX.exit ?_
    | refine WX.ret ?_)
  refine kcon_pure (.inr rfl) (fun m hm => rfl) ?_ rfl
  rfl

def firstBack (n q : Int) : Int := min (max n 0) 127 * stepOf q
theorem firstBack_bnd (n q : Int) : 0 ≤ firstBack n q ∧ firstBack n q ≤ 121920 := by
  have h1 := stepOf_bnd q
  have h2 : 0 ≤ min (max n 0) 127 ∧ min (max n 0) 127 ≤ 127 := by omega
  unfold firstBack
  exact ⟨Int.mul_nonneg h2.1 (by omega), by
    have := Int.mul_le_mul h2.2 h1.2 (by omega) (by omega : (0 : Int) ≤ 127)
    omega⟩
set_option maxRecDepth 10000 in
theorem firstBack_con (n q : Int) : Con Try.prog 26 [.one (.int .i64 n), .one (.int .i64 q)] [] (.one (.int .i64 (firstBack n q))) [] := by
  have hs := stepOf_bnd q
  have hb := firstBack_bnd n q
  unfold firstBack at hb
  refine con_of_wx Try.func26 rfl (Nat.le_of_ble_eq_true rfl) (Nat.le_of_ble_eq_true rfl) (Nat.le_of_ble_eq_true rfl) (Nat.le_of_ble_eq_true rfl) ?_
  repeat' (first
    | (refine sk_id ?_; first
      | refine sk_call (inst_pure (qfirst_con _) rfl rfl rfl) rfl rfl rfl rfl rfl rfl (by kernel_rfl) rfl ?_
      | refine sk_move rfl rfl rfl rfl (c := .one _) rfl ?_
      | refine sk_assign rfl rfl rfl rfl (c := .one _) rfl ?_
      | refine sk_add rfl rfl rfl rfl rfl rfl (by omega) ?_
      | refine sk_sub rfl rfl rfl rfl rfl rfl (by omega) ?_
      | refine sk_mul rfl rfl rfl rfl rfl rfl (by omega) ?_
      | refine sk_load rfl rfl rfl rfl rfl rfl rfl ?_
      | refine sk_fld rfl rfl rfl rfl rfl (by first | (simp only [Nat.zero_add, Nat.mul_one, Nat.reduceAdd, Nat.reduceMul, Int.reduceToNat, Nat.add_zero, Int.toNat_natCast]; exact rfl) | exact rfl) ?_
      | refine sk_true rfl rfl rfl rfl rfl rfl rfl (by omega) ?_
      | refine sk_false rfl rfl rfl rfl rfl rfl rfl (by omega) ?_
      | refine sk_netrue rfl rfl rfl rfl rfl rfl (by omega) ?_
      | refine sk_nefalse rfl rfl rfl rfl rfl rfl (by omega) ?_
      | refine sk_fork rfl rfl rfl rfl rfl rfl rfl (fun _ => ?_) (fun _ => ?_)
      | refine sk_forkn rfl rfl rfl rfl rfl rfl (fun _ => ?_) (fun _ => ?_)
      | refine sk_nil rfl rfl rfl rfl rfl ?_
      | refine sk_idxa rfl rfl rfl rfl rfl rfl (by omega) (by first | (simp only [Nat.zero_add, Nat.mul_one, Nat.reduceAdd, Nat.reduceMul, Int.reduceToNat, Nat.add_zero, Int.toNat_natCast]; exact rfl) | exact rfl) ?_
      | refine sk_loadall rfl rfl rfl rfl rfl rfl rfl ?_
      | refine sk_loada rfl rfl rfl rfl rfl rfl (by decide) rfl ?_
      | refine sk_quo rfl rfl rfl rfl rfl rfl (by omega) (by omega) ?_
      | refine sk_rem rfl rfl rfl rfl rfl rfl (by omega) (by omega) ?_
      | refine sk_max rfl rfl rfl rfl rfl rfl (Int.max_eq_left (by omega)) ?_
      | refine sk_max rfl rfl rfl rfl rfl rfl (Int.max_eq_right (by omega)) ?_
      | refine sk_max rfl rfl rfl rfl rfl rfl rfl ?_
      | refine sk_min rfl rfl rfl rfl rfl rfl (Int.min_eq_left (by omega)) ?_
      | refine sk_min rfl rfl rfl rfl rfl rfl (Int.min_eq_right (by omega)) ?_
      | refine sk_min rfl rfl rfl rfl rfl rfl rfl ?_
      | refine sk_conv rfl rfl rfl rfl rfl (by first | exact IntWalk.i64_in _ (by omega) | rfl) ?_
      | refine sk_pickT rfl rfl rfl rfl rfl rfl ?_
      | refine sk_pickF rfl rfl rfl rfl rfl rfl ?_
      | refine sk_not rfl rfl rfl rfl rfl rfl ?_
      | refine sk_build0 rfl rfl rfl rfl ?_
      | refine sk_build0A rfl rfl rfl rfl ?_
      | refine sk_buildA rfl rfl rfl rfl rfl rfl (by first | (simp only [List.cons_append, List.nil_append, List.append_nil]; exact rfl) | exact rfl) ?_
      | refine sk_buildS rfl rfl rfl rfl rfl rfl (by first | (simp only [List.cons_append, List.nil_append, List.append_nil]; exact rfl) | exact rfl) ?_
      | refine sk_nnp rfl rfl rfl rfl rfl ?_
      | refine sk_makemap rfl rfl rfl rfl (by first | (simp only [List.length_cons, List.length_nil, List.length_append, Nat.reduceAdd, Nat.zero_add]; exact rfl) | exact rfl) rfl (by first | (simp only [List.cons_append, List.nil_append]; exact rfl) | exact rfl) ?_
      | refine sk_alloc rfl rfl rfl rfl (by first | (simp only [List.length_cons, List.length_nil, List.length_append, Nat.reduceAdd, Nat.zero_add]; exact rfl) | exact rfl) rfl (by first | (simp only [List.cons_append, List.nil_append]; exact rfl) | exact rfl) ?_
      | refine sk_box rfl rfl rfl rfl rfl (by first | (simp only [List.length_cons, List.length_nil, List.length_append, Nat.reduceAdd, Nat.zero_add]; exact rfl) | exact rfl) rfl (by first | (simp only [List.cons_append, List.nil_append]; exact rfl) | exact rfl) ?_
      | refine sk_store rfl rfl rfl rfl rfl rfl (by decide) (by first | (simp only [List.set_cons_succ, List.set_cons_zero]; exact rfl) | exact rfl) (by first | (simp only [List.set_cons_succ, List.set_cons_zero]; exact rfl) | exact rfl) ?_
      | refine sk_storea rfl rfl rfl rfl rfl rfl rfl rfl (by first | (simp only [List.set_cons_succ, List.set_cons_zero]; exact rfl) | exact rfl) ?_
      | refine sk_ext rfl rfl rfl rfl rfl rfl ?_
      | refine sk_exta rfl rfl rfl rfl rfl rfl ?_
      | refine sk_idxs rfl rfl rfl rfl rfl rfl (by omega) (by first | (simp only [Nat.zero_add, Nat.mul_one, Nat.reduceAdd, Nat.reduceMul, Int.reduceToNat, Nat.add_zero, Int.toNat_natCast]; exact rfl) | exact rfl) ?_
      | refine sk_lens rfl rfl rfl rfl rfl ?_
      | refine sk_field rfl rfl rfl rfl rfl rfl ?_
      | refine sk_move rfl rfl rfl rfl (c := .agg _) rfl ?_
      | refine sk_assign rfl rfl rfl rfl (c := .agg _) rfl ?_
      | refine sk_move rfl rfl rfl rfl (c := .tup _) rfl ?_
      | refine sk_assign rfl rfl rfl rfl (c := .tup _) rfl ?_
      | refine sk_skip rfl rfl rfl ?_
      | refine sk_skip0 rfl rfl ?_
      | refine sk_pure rfl rfl rfl rfl ?_)
    | refine WX.seq ?_
    | refine WX.actsC ?_
    | refine sk_last (by first | exact Consistent.nil | exact Consistent.one _ | exact Consistent.ofL (by repeat' (first | exact True.intro | refine And.intro ?_ ?_ | exact Compat.ne rfl))) ⟨by kernel_rfl, ?_⟩
    | refine sk_last (by first | exact Consistent.nil | exact Consistent.one _ | exact Consistent.ofL (by repeat' (first | exact True.intro | refine And.intro ?_ ?_ | exact Compat.ne rfl))) ?_
    | refine WX.drawsC mixed (by kernel_rfl) ?_
    | refine WX.condT rfl ?_
    | refine WX.condF rfl ?_
    | refine WX.skip ?_
    | refine WX.block ?_
    | refine WX.exit ?_
    | refine WX.ret ?_)
  refine kcon_pure (.inr rfl) (fun m hm => rfl) ?_ rfl
  rfl

set_option maxRecDepth 10000 in
theorem away_con (a b : Int) (ha : -1000000 ≤ a ∧ a ≤ 1000000) (hb : -1000000 ≤ b ∧ b ≤ 1000000) : Con Try.prog 24 [.one (.int .i64 a), .one (.int .i64 b)] [] (.one (.int .i64 (max (a - b) (b - a)))) [] := by
  refine con_of_wx Try.func24 rfl (Nat.le_of_ble_eq_true rfl) (Nat.le_of_ble_eq_true rfl) (Nat.le_of_ble_eq_true rfl) (Nat.le_of_ble_eq_true rfl) ?_
  repeat' (first
    | (refine sk_id ?_; first
      | refine sk_move rfl rfl rfl rfl (c := .one _) rfl ?_
      | refine sk_assign rfl rfl rfl rfl (c := .one _) rfl ?_
      | refine sk_add rfl rfl rfl rfl rfl rfl (by omega) ?_
      | refine sk_sub rfl rfl rfl rfl rfl rfl (by omega) ?_
      | refine sk_mul rfl rfl rfl rfl rfl rfl (by omega) ?_
      | refine sk_load rfl rfl rfl rfl rfl rfl rfl ?_
      | refine sk_fld rfl rfl rfl rfl rfl (by first | (simp only [Nat.zero_add, Nat.mul_one, Nat.reduceAdd, Nat.reduceMul, Int.reduceToNat, Nat.add_zero, Int.toNat_natCast]; exact rfl) | exact rfl) ?_
      | refine sk_true rfl rfl rfl rfl rfl rfl rfl (by omega) ?_
      | refine sk_false rfl rfl rfl rfl rfl rfl rfl (by omega) ?_
      | refine sk_netrue rfl rfl rfl rfl rfl rfl (by omega) ?_
      | refine sk_nefalse rfl rfl rfl rfl rfl rfl (by omega) ?_
      | refine sk_fork rfl rfl rfl rfl rfl rfl rfl (fun _ => ?_) (fun _ => ?_)
      | refine sk_forkn rfl rfl rfl rfl rfl rfl (fun _ => ?_) (fun _ => ?_)
      | refine sk_nil rfl rfl rfl rfl rfl ?_
      | refine sk_idxa rfl rfl rfl rfl rfl rfl (by omega) (by first | (simp only [Nat.zero_add, Nat.mul_one, Nat.reduceAdd, Nat.reduceMul, Int.reduceToNat, Nat.add_zero, Int.toNat_natCast]; exact rfl) | exact rfl) ?_
      | refine sk_loadall rfl rfl rfl rfl rfl rfl rfl ?_
      | refine sk_loada rfl rfl rfl rfl rfl rfl (by decide) rfl ?_
      | refine sk_quo rfl rfl rfl rfl rfl rfl (by omega) (by omega) ?_
      | refine sk_rem rfl rfl rfl rfl rfl rfl (by omega) (by omega) ?_
      | refine sk_max rfl rfl rfl rfl rfl rfl (Int.max_eq_left (by omega)) ?_
      | refine sk_max rfl rfl rfl rfl rfl rfl (Int.max_eq_right (by omega)) ?_
      | refine sk_max rfl rfl rfl rfl rfl rfl rfl ?_
      | refine sk_min rfl rfl rfl rfl rfl rfl (Int.min_eq_left (by omega)) ?_
      | refine sk_min rfl rfl rfl rfl rfl rfl (Int.min_eq_right (by omega)) ?_
      | refine sk_min rfl rfl rfl rfl rfl rfl rfl ?_
      | refine sk_conv rfl rfl rfl rfl rfl (by first | exact IntWalk.i64_in _ (by omega) | rfl) ?_
      | refine sk_pickT rfl rfl rfl rfl rfl rfl ?_
      | refine sk_pickF rfl rfl rfl rfl rfl rfl ?_
      | refine sk_not rfl rfl rfl rfl rfl rfl ?_
      | refine sk_build0 rfl rfl rfl rfl ?_
      | refine sk_build0A rfl rfl rfl rfl ?_
      | refine sk_buildA rfl rfl rfl rfl rfl rfl (by first | (simp only [List.cons_append, List.nil_append, List.append_nil]; exact rfl) | exact rfl) ?_
      | refine sk_buildS rfl rfl rfl rfl rfl rfl (by first | (simp only [List.cons_append, List.nil_append, List.append_nil]; exact rfl) | exact rfl) ?_
      | refine sk_nnp rfl rfl rfl rfl rfl ?_
      | refine sk_makemap rfl rfl rfl rfl (by first | (simp only [List.length_cons, List.length_nil, List.length_append, Nat.reduceAdd, Nat.zero_add]; exact rfl) | exact rfl) rfl (by first | (simp only [List.cons_append, List.nil_append]; exact rfl) | exact rfl) ?_
      | refine sk_alloc rfl rfl rfl rfl (by first | (simp only [List.length_cons, List.length_nil, List.length_append, Nat.reduceAdd, Nat.zero_add]; exact rfl) | exact rfl) rfl (by first | (simp only [List.cons_append, List.nil_append]; exact rfl) | exact rfl) ?_
      | refine sk_box rfl rfl rfl rfl rfl (by first | (simp only [List.length_cons, List.length_nil, List.length_append, Nat.reduceAdd, Nat.zero_add]; exact rfl) | exact rfl) rfl (by first | (simp only [List.cons_append, List.nil_append]; exact rfl) | exact rfl) ?_
      | refine sk_store rfl rfl rfl rfl rfl rfl (by decide) (by first | (simp only [List.set_cons_succ, List.set_cons_zero]; exact rfl) | exact rfl) (by first | (simp only [List.set_cons_succ, List.set_cons_zero]; exact rfl) | exact rfl) ?_
      | refine sk_storea rfl rfl rfl rfl rfl rfl rfl rfl (by first | (simp only [List.set_cons_succ, List.set_cons_zero]; exact rfl) | exact rfl) ?_
      | refine sk_ext rfl rfl rfl rfl rfl rfl ?_
      | refine sk_exta rfl rfl rfl rfl rfl rfl ?_
      | refine sk_idxs rfl rfl rfl rfl rfl rfl (by omega) (by first | (simp only [Nat.zero_add, Nat.mul_one, Nat.reduceAdd, Nat.reduceMul, Int.reduceToNat, Nat.add_zero, Int.toNat_natCast]; exact rfl) | exact rfl) ?_
      | refine sk_lens rfl rfl rfl rfl rfl ?_
      | refine sk_field rfl rfl rfl rfl rfl rfl ?_
      | refine sk_move rfl rfl rfl rfl (c := .agg _) rfl ?_
      | refine sk_assign rfl rfl rfl rfl (c := .agg _) rfl ?_
      | refine sk_move rfl rfl rfl rfl (c := .tup _) rfl ?_
      | refine sk_assign rfl rfl rfl rfl (c := .tup _) rfl ?_
      | refine sk_skip rfl rfl rfl ?_
      | refine sk_skip0 rfl rfl ?_
      | refine sk_pure rfl rfl rfl rfl ?_)
    | refine WX.seq ?_
    | refine WX.actsC ?_
    | refine sk_last (by first | exact Consistent.nil | exact Consistent.one _ | exact Consistent.ofL (by repeat' (first | exact True.intro | refine And.intro ?_ ?_ | exact Compat.ne rfl))) ⟨by kernel_rfl, ?_⟩
    | refine sk_last (by first | exact Consistent.nil | exact Consistent.one _ | exact Consistent.ofL (by repeat' (first | exact True.intro | refine And.intro ?_ ?_ | exact Compat.ne rfl))) ?_
    | refine WX.drawsC mixed (by kernel_rfl) ?_
    | refine WX.condT rfl ?_
    | refine WX.condF rfl ?_
    | refine WX.skip ?_
    | refine WX.block ?_
    | refine WX.exit ?_
    | refine WX.ret ?_)
  refine kcon_pure (.inr rfl) (fun m hm => rfl) ?_ rfl
  rfl

/-- What is known of a block: its levels, its qp. -/
structure Kn where
  lv : Nat → Int
  qp : Int
def kcells (b : Kn) : List XC := ti .i64 64 b.lv ++ [.int .i64 b.qp]
theorem kc_len (b : Kn) : (kcells b).length = 65 := by simp [kcells, ti_len]
theorem kc_qp (b : Kn) : (kcells b)[64]? = some (.int .i64 b.qp) := by
  unfold kcells
  rw [List.getElem?_append_right (by rw [ti_len]; omega), ti_len]; rfl
theorem kc_lv (b : Kn) (j : Nat) (h : j < 64) : (kcells b)[j]? = some (.int .i64 (b.lv j)) := by
  unfold kcells
  rw [List.getElem?_append_left (by rw [ti_len]; exact h), ti_get h]
theorem kc_shut (b : Kn) : (kcells b).all XC.shut = true := by
  simp [kcells, ti, XC.shut]

set_option maxRecDepth 10000 in
theorem pfirst_con (b : Kn) : Con Try.prog 23 [.agg (kcells b)] [] (.one (.int .i64 (firstBack (b.lv 0) b.qp))) [] := by
  refine con_of_wx Try.func23 rfl (Nat.le_of_ble_eq_true rfl) (Nat.le_of_ble_eq_true rfl) (Nat.le_of_ble_eq_true rfl) (Nat.le_of_ble_eq_true rfl) ?_
  repeat' (first
    | (refine sk_id ?_; first
      | refine sk_call (inst_pure (firstBack_con _ _) rfl rfl rfl) rfl rfl rfl rfl rfl rfl (by kernel_rfl) rfl ?_
      | refine sk_load rfl rfl rfl rfl rfl rfl (kc_qp _) ?_
      | refine sk_load rfl rfl rfl rfl rfl rfl (kc_lv _ _ (by omega)) ?_
      | refine sk_move rfl rfl rfl rfl (c := .one _) rfl ?_
      | refine sk_assign rfl rfl rfl rfl (c := .one _) rfl ?_
      | refine sk_add rfl rfl rfl rfl rfl rfl (by omega) ?_
      | refine sk_sub rfl rfl rfl rfl rfl rfl (by omega) ?_
      | refine sk_mul rfl rfl rfl rfl rfl rfl (by omega) ?_
      | refine sk_load rfl rfl rfl rfl rfl rfl rfl ?_
      | refine sk_fld rfl rfl rfl rfl rfl (by first | (simp only [Nat.zero_add, Nat.mul_one, Nat.reduceAdd, Nat.reduceMul, Int.reduceToNat, Nat.add_zero, Int.toNat_natCast]; exact rfl) | exact rfl) ?_
      | refine sk_true rfl rfl rfl rfl rfl rfl rfl (by omega) ?_
      | refine sk_false rfl rfl rfl rfl rfl rfl rfl (by omega) ?_
      | refine sk_netrue rfl rfl rfl rfl rfl rfl (by omega) ?_
      | refine sk_nefalse rfl rfl rfl rfl rfl rfl (by omega) ?_
      | refine sk_fork rfl rfl rfl rfl rfl rfl rfl (fun _ => ?_) (fun _ => ?_)
      | refine sk_forkn rfl rfl rfl rfl rfl rfl (fun _ => ?_) (fun _ => ?_)
      | refine sk_nil rfl rfl rfl rfl rfl ?_
      | refine sk_idxa rfl rfl rfl rfl rfl rfl (by omega) (by first | (simp only [Nat.zero_add, Nat.mul_one, Nat.reduceAdd, Nat.reduceMul, Int.reduceToNat, Nat.add_zero, Int.toNat_natCast]; exact rfl) | exact rfl) ?_
      | refine sk_loadall rfl rfl rfl rfl rfl rfl rfl ?_
      | refine sk_loada rfl rfl rfl rfl rfl rfl (by decide) rfl ?_
      | refine sk_quo rfl rfl rfl rfl rfl rfl (by omega) (by omega) ?_
      | refine sk_rem rfl rfl rfl rfl rfl rfl (by omega) (by omega) ?_
      | refine sk_max rfl rfl rfl rfl rfl rfl (Int.max_eq_left (by omega)) ?_
      | refine sk_max rfl rfl rfl rfl rfl rfl (Int.max_eq_right (by omega)) ?_
      | refine sk_max rfl rfl rfl rfl rfl rfl rfl ?_
      | refine sk_min rfl rfl rfl rfl rfl rfl (Int.min_eq_left (by omega)) ?_
      | refine sk_min rfl rfl rfl rfl rfl rfl (Int.min_eq_right (by omega)) ?_
      | refine sk_min rfl rfl rfl rfl rfl rfl rfl ?_
      | refine sk_conv rfl rfl rfl rfl rfl (by first | exact IntWalk.i64_in _ (by omega) | rfl) ?_
      | refine sk_pickT rfl rfl rfl rfl rfl rfl ?_
      | refine sk_pickF rfl rfl rfl rfl rfl rfl ?_
      | refine sk_not rfl rfl rfl rfl rfl rfl ?_
      | refine sk_build0 rfl rfl rfl rfl ?_
      | refine sk_build0A rfl rfl rfl rfl ?_
      | refine sk_buildA rfl rfl rfl rfl rfl rfl (by first | (simp only [List.cons_append, List.nil_append, List.append_nil]; exact rfl) | exact rfl) ?_
      | refine sk_buildS rfl rfl rfl rfl rfl rfl (by first | (simp only [List.cons_append, List.nil_append, List.append_nil]; exact rfl) | exact rfl) ?_
      | refine sk_nnp rfl rfl rfl rfl rfl ?_
      | refine sk_makemap rfl rfl rfl rfl (by first | (simp only [List.length_cons, List.length_nil, List.length_append, Nat.reduceAdd, Nat.zero_add]; exact rfl) | exact rfl) rfl (by first | (simp only [List.cons_append, List.nil_append]; exact rfl) | exact rfl) ?_
      | refine sk_alloc rfl rfl rfl rfl (by first | (simp only [List.length_cons, List.length_nil, List.length_append, Nat.reduceAdd, Nat.zero_add]; exact rfl) | exact rfl) rfl (by first | (simp only [List.cons_append, List.nil_append]; exact rfl) | exact rfl) ?_
      | refine sk_box rfl rfl rfl rfl rfl (by first | (simp only [List.length_cons, List.length_nil, List.length_append, Nat.reduceAdd, Nat.zero_add]; exact rfl) | exact rfl) rfl (by first | (simp only [List.cons_append, List.nil_append]; exact rfl) | exact rfl) ?_
      | refine sk_store rfl rfl rfl rfl rfl rfl (by decide) (by first | (simp only [List.set_cons_succ, List.set_cons_zero]; exact rfl) | exact rfl) (by first | (simp only [List.set_cons_succ, List.set_cons_zero]; exact rfl) | exact rfl) ?_
      | refine sk_storea rfl rfl rfl rfl rfl rfl rfl rfl (by first | (simp only [List.set_cons_succ, List.set_cons_zero]; exact rfl) | exact rfl) ?_
      | refine sk_ext rfl rfl rfl rfl rfl rfl ?_
      | refine sk_exta rfl rfl rfl rfl rfl rfl ?_
      | refine sk_idxs rfl rfl rfl rfl rfl rfl (by omega) (by first | (simp only [Nat.zero_add, Nat.mul_one, Nat.reduceAdd, Nat.reduceMul, Int.reduceToNat, Nat.add_zero, Int.toNat_natCast]; exact rfl) | exact rfl) ?_
      | refine sk_lens rfl rfl rfl rfl rfl ?_
      | refine sk_field rfl rfl rfl rfl rfl rfl ?_
      | refine sk_move rfl rfl rfl rfl (c := .agg _) rfl ?_
      | refine sk_assign rfl rfl rfl rfl (c := .agg _) rfl ?_
      | refine sk_move rfl rfl rfl rfl (c := .tup _) rfl ?_
      | refine sk_assign rfl rfl rfl rfl (c := .tup _) rfl ?_
      | refine sk_skip rfl rfl rfl ?_
      | refine sk_skip0 rfl rfl ?_
      | refine sk_pure rfl rfl rfl rfl ?_)
    | refine WX.seq ?_
    | refine WX.actsC ?_
    | refine sk_last (by first | exact Consistent.nil | exact Consistent.one _ | exact Consistent.ofL (by repeat' (first | exact True.intro | refine And.intro ?_ ?_ | exact Compat.ne rfl))) ⟨by kernel_rfl, ?_⟩
    | refine sk_last (by first | exact Consistent.nil | exact Consistent.one _ | exact Consistent.ofL (by repeat' (first | exact True.intro | refine And.intro ?_ ?_ | exact Compat.ne rfl))) ?_
    | refine WX.drawsC mixed (by kernel_rfl) ?_
    | refine WX.condT rfl ?_
    | refine WX.condF rfl ?_
    | refine WX.skip ?_
    | refine WX.block ?_
    | refine WX.exit ?_
    | refine WX.ret ?_)
  refine kcon_pure (.inr rfl) (fun m hm => rfl) ?_ rfl
  rfl

/-- The reference's step. -/
def refStep (q : Int) : Int := if q < 4 then 128 else q / 2 * 64
theorem refStep_eq (q : Int) (h : 1 ≤ q ∧ q ≤ 31) : refStep q = stepOf q := by unfold refStep stepOf; split <;> omega
set_option maxRecDepth 10000 in
theorem ref_con (q : Int) (h : 1 ≤ q ∧ q ≤ 31) : Con Try.prog 14 [.one (.int .i64 q)] [] (.one (.int .i64 (stepOf q))) [] := by
  rw [← refStep_eq q h]
  unfold refStep
  refine con_of_wx Try.func14 rfl (Nat.le_of_ble_eq_true rfl) (Nat.le_of_ble_eq_true rfl) (Nat.le_of_ble_eq_true rfl) (Nat.le_of_ble_eq_true rfl) ?_
  repeat' (first
    | (refine sk_id ?_; first
      | refine sk_move rfl rfl rfl rfl (c := .one _) rfl ?_
      | refine sk_assign rfl rfl rfl rfl (c := .one _) rfl ?_
      | refine sk_add rfl rfl rfl rfl rfl rfl (by omega) ?_
      | refine sk_sub rfl rfl rfl rfl rfl rfl (by omega) ?_
      | refine sk_mul rfl rfl rfl rfl rfl rfl (by omega) ?_
      | refine sk_load rfl rfl rfl rfl rfl rfl rfl ?_
      | refine sk_fld rfl rfl rfl rfl rfl (by first | (simp only [Nat.zero_add, Nat.mul_one, Nat.reduceAdd, Nat.reduceMul, Int.reduceToNat, Nat.add_zero, Int.toNat_natCast]; exact rfl) | exact rfl) ?_
      | refine sk_true rfl rfl rfl rfl rfl rfl rfl (by omega) ?_
      | refine sk_false rfl rfl rfl rfl rfl rfl rfl (by omega) ?_
      | refine sk_netrue rfl rfl rfl rfl rfl rfl (by omega) ?_
      | refine sk_nefalse rfl rfl rfl rfl rfl rfl (by omega) ?_
      | refine sk_fork rfl rfl rfl rfl rfl rfl rfl (fun _ => ?_) (fun _ => ?_)
      | refine sk_forkn rfl rfl rfl rfl rfl rfl (fun _ => ?_) (fun _ => ?_)
      | refine sk_nil rfl rfl rfl rfl rfl ?_
      | refine sk_idxa rfl rfl rfl rfl rfl rfl (by omega) (by first | (simp only [Nat.zero_add, Nat.mul_one, Nat.reduceAdd, Nat.reduceMul, Int.reduceToNat, Nat.add_zero, Int.toNat_natCast]; exact rfl) | exact rfl) ?_
      | refine sk_loadall rfl rfl rfl rfl rfl rfl rfl ?_
      | refine sk_loada rfl rfl rfl rfl rfl rfl (by decide) rfl ?_
      | refine sk_quo rfl rfl rfl rfl rfl rfl (by omega) (by omega) ?_
      | refine sk_rem rfl rfl rfl rfl rfl rfl (by omega) (by omega) ?_
      | refine sk_max rfl rfl rfl rfl rfl rfl (Int.max_eq_left (by omega)) ?_
      | refine sk_max rfl rfl rfl rfl rfl rfl (Int.max_eq_right (by omega)) ?_
      | refine sk_max rfl rfl rfl rfl rfl rfl rfl ?_
      | refine sk_min rfl rfl rfl rfl rfl rfl (Int.min_eq_left (by omega)) ?_
      | refine sk_min rfl rfl rfl rfl rfl rfl (Int.min_eq_right (by omega)) ?_
      | refine sk_min rfl rfl rfl rfl rfl rfl rfl ?_
      | refine sk_conv rfl rfl rfl rfl rfl (by first | exact IntWalk.i64_in _ (by omega) | rfl) ?_
      | refine sk_pickT rfl rfl rfl rfl rfl rfl ?_
      | refine sk_pickF rfl rfl rfl rfl rfl rfl ?_
      | refine sk_not rfl rfl rfl rfl rfl rfl ?_
      | refine sk_build0 rfl rfl rfl rfl ?_
      | refine sk_build0A rfl rfl rfl rfl ?_
      | refine sk_buildA rfl rfl rfl rfl rfl rfl (by first | (simp only [List.cons_append, List.nil_append, List.append_nil]; exact rfl) | exact rfl) ?_
      | refine sk_buildS rfl rfl rfl rfl rfl rfl (by first | (simp only [List.cons_append, List.nil_append, List.append_nil]; exact rfl) | exact rfl) ?_
      | refine sk_nnp rfl rfl rfl rfl rfl ?_
      | refine sk_makemap rfl rfl rfl rfl (by first | (simp only [List.length_cons, List.length_nil, List.length_append, Nat.reduceAdd, Nat.zero_add]; exact rfl) | exact rfl) rfl (by first | (simp only [List.cons_append, List.nil_append]; exact rfl) | exact rfl) ?_
      | refine sk_alloc rfl rfl rfl rfl (by first | (simp only [List.length_cons, List.length_nil, List.length_append, Nat.reduceAdd, Nat.zero_add]; exact rfl) | exact rfl) rfl (by first | (simp only [List.cons_append, List.nil_append]; exact rfl) | exact rfl) ?_
      | refine sk_box rfl rfl rfl rfl rfl (by first | (simp only [List.length_cons, List.length_nil, List.length_append, Nat.reduceAdd, Nat.zero_add]; exact rfl) | exact rfl) rfl (by first | (simp only [List.cons_append, List.nil_append]; exact rfl) | exact rfl) ?_
      | refine sk_store rfl rfl rfl rfl rfl rfl (by decide) (by first | (simp only [List.set_cons_succ, List.set_cons_zero]; exact rfl) | exact rfl) (by first | (simp only [List.set_cons_succ, List.set_cons_zero]; exact rfl) | exact rfl) ?_
      | refine sk_storea rfl rfl rfl rfl rfl rfl rfl rfl (by first | (simp only [List.set_cons_succ, List.set_cons_zero]; exact rfl) | exact rfl) ?_
      | refine sk_ext rfl rfl rfl rfl rfl rfl ?_
      | refine sk_exta rfl rfl rfl rfl rfl rfl ?_
      | refine sk_idxs rfl rfl rfl rfl rfl rfl (by omega) (by first | (simp only [Nat.zero_add, Nat.mul_one, Nat.reduceAdd, Nat.reduceMul, Int.reduceToNat, Nat.add_zero, Int.toNat_natCast]; exact rfl) | exact rfl) ?_
      | refine sk_lens rfl rfl rfl rfl rfl ?_
      | refine sk_field rfl rfl rfl rfl rfl rfl ?_
      | refine sk_move rfl rfl rfl rfl (c := .agg _) rfl ?_
      | refine sk_assign rfl rfl rfl rfl (c := .agg _) rfl ?_
      | refine sk_move rfl rfl rfl rfl (c := .tup _) rfl ?_
      | refine sk_assign rfl rfl rfl rfl (c := .tup _) rfl ?_
      | refine sk_skip rfl rfl rfl ?_
      | refine sk_skip0 rfl rfl ?_
      | refine sk_pure rfl rfl rfl rfl ?_)
    | refine WX.seq ?_
    | refine WX.actsC ?_
    | refine sk_last (by first | exact Consistent.nil | exact Consistent.one _ | exact Consistent.ofL (by repeat' (first | exact True.intro | refine And.intro ?_ ?_ | exact Compat.ne rfl))) ⟨by kernel_rfl, ?_⟩
    | refine sk_last (by first | exact Consistent.nil | exact Consistent.one _ | exact Consistent.ofL (by repeat' (first | exact True.intro | refine And.intro ?_ ?_ | exact Compat.ne rfl))) ?_
    | refine WX.drawsC mixed (by kernel_rfl) ?_
    | refine WX.condT rfl ?_
    | refine WX.condF rfl ?_
    | refine WX.skip ?_
    | refine WX.block ?_
    | refine WX.exit ?_
    | refine WX.ret ?_)
  · refine kcon_pure (.inr rfl) (fun m hm => rfl) ?_ rfl
    rw [if_pos ‹_›]; rfl
  · refine kcon_pure (.inr rfl) (fun m hm => rfl) ?_ rfl
    rw [if_neg ‹_›]; rfl

set_option maxRecDepth 10000 in
theorem lfirst_con (n q : Int) (hn : 0 ≤ n ∧ n ≤ 100000000) (h : 1 ≤ q ∧ q ≤ 31) : Con Try.prog 15 [.one (.int .i64 n), .one (.int .i64 q)] [] (.one (.int .i64 (firstLevel n q))) [] := by
  have hs := stepOf_bnd q
  refine con_of_wx Try.func15 rfl (Nat.le_of_ble_eq_true rfl) (Nat.le_of_ble_eq_true rfl) (Nat.le_of_ble_eq_true rfl) (Nat.le_of_ble_eq_true rfl) ?_
  repeat' (first
    | (refine sk_id ?_; first
      | refine sk_call (inst_pure (ref_con _ (by omega)) rfl rfl rfl) rfl rfl rfl rfl rfl rfl (by kernel_rfl) rfl ?_
      | refine sk_move rfl rfl rfl rfl (c := .one _) rfl ?_
      | refine sk_assign rfl rfl rfl rfl (c := .one _) rfl ?_
      | refine sk_add rfl rfl rfl rfl rfl rfl (by omega) ?_
      | refine sk_sub rfl rfl rfl rfl rfl rfl (by omega) ?_
      | refine sk_mul rfl rfl rfl rfl rfl rfl (by omega) ?_
      | refine sk_load rfl rfl rfl rfl rfl rfl rfl ?_
      | refine sk_fld rfl rfl rfl rfl rfl (by first | (simp only [Nat.zero_add, Nat.mul_one, Nat.reduceAdd, Nat.reduceMul, Int.reduceToNat, Nat.add_zero, Int.toNat_natCast]; exact rfl) | exact rfl) ?_
      | refine sk_true rfl rfl rfl rfl rfl rfl rfl (by omega) ?_
      | refine sk_false rfl rfl rfl rfl rfl rfl rfl (by omega) ?_
      | refine sk_netrue rfl rfl rfl rfl rfl rfl (by omega) ?_
      | refine sk_nefalse rfl rfl rfl rfl rfl rfl (by omega) ?_
      | refine sk_fork rfl rfl rfl rfl rfl rfl rfl (fun _ => ?_) (fun _ => ?_)
      | refine sk_forkn rfl rfl rfl rfl rfl rfl (fun _ => ?_) (fun _ => ?_)
      | refine sk_nil rfl rfl rfl rfl rfl ?_
      | refine sk_idxa rfl rfl rfl rfl rfl rfl (by omega) (by first | (simp only [Nat.zero_add, Nat.mul_one, Nat.reduceAdd, Nat.reduceMul, Int.reduceToNat, Nat.add_zero, Int.toNat_natCast]; exact rfl) | exact rfl) ?_
      | refine sk_loadall rfl rfl rfl rfl rfl rfl rfl ?_
      | refine sk_loada rfl rfl rfl rfl rfl rfl (by decide) rfl ?_
      | refine sk_quo rfl rfl rfl rfl rfl rfl (by omega) (by omega) ?_
      | refine sk_rem rfl rfl rfl rfl rfl rfl (by omega) (by omega) ?_
      | refine sk_max rfl rfl rfl rfl rfl rfl (Int.max_eq_left (by omega)) ?_
      | refine sk_max rfl rfl rfl rfl rfl rfl (Int.max_eq_right (by omega)) ?_
      | refine sk_max rfl rfl rfl rfl rfl rfl rfl ?_
      | refine sk_min rfl rfl rfl rfl rfl rfl (Int.min_eq_left (by omega)) ?_
      | refine sk_min rfl rfl rfl rfl rfl rfl (Int.min_eq_right (by omega)) ?_
      | refine sk_min rfl rfl rfl rfl rfl rfl rfl ?_
      | refine sk_conv rfl rfl rfl rfl rfl (by first | exact IntWalk.i64_in _ (by omega) | rfl) ?_
      | refine sk_pickT rfl rfl rfl rfl rfl rfl ?_
      | refine sk_pickF rfl rfl rfl rfl rfl rfl ?_
      | refine sk_not rfl rfl rfl rfl rfl rfl ?_
      | refine sk_build0 rfl rfl rfl rfl ?_
      | refine sk_build0A rfl rfl rfl rfl ?_
      | refine sk_buildA rfl rfl rfl rfl rfl rfl (by first | (simp only [List.cons_append, List.nil_append, List.append_nil]; exact rfl) | exact rfl) ?_
      | refine sk_buildS rfl rfl rfl rfl rfl rfl (by first | (simp only [List.cons_append, List.nil_append, List.append_nil]; exact rfl) | exact rfl) ?_
      | refine sk_nnp rfl rfl rfl rfl rfl ?_
      | refine sk_makemap rfl rfl rfl rfl (by first | (simp only [List.length_cons, List.length_nil, List.length_append, Nat.reduceAdd, Nat.zero_add]; exact rfl) | exact rfl) rfl (by first | (simp only [List.cons_append, List.nil_append]; exact rfl) | exact rfl) ?_
      | refine sk_alloc rfl rfl rfl rfl (by first | (simp only [List.length_cons, List.length_nil, List.length_append, Nat.reduceAdd, Nat.zero_add]; exact rfl) | exact rfl) rfl (by first | (simp only [List.cons_append, List.nil_append]; exact rfl) | exact rfl) ?_
      | refine sk_box rfl rfl rfl rfl rfl (by first | (simp only [List.length_cons, List.length_nil, List.length_append, Nat.reduceAdd, Nat.zero_add]; exact rfl) | exact rfl) rfl (by first | (simp only [List.cons_append, List.nil_append]; exact rfl) | exact rfl) ?_
      | refine sk_store rfl rfl rfl rfl rfl rfl (by decide) (by first | (simp only [List.set_cons_succ, List.set_cons_zero]; exact rfl) | exact rfl) (by first | (simp only [List.set_cons_succ, List.set_cons_zero]; exact rfl) | exact rfl) ?_
      | refine sk_storea rfl rfl rfl rfl rfl rfl rfl rfl (by first | (simp only [List.set_cons_succ, List.set_cons_zero]; exact rfl) | exact rfl) ?_
      | refine sk_ext rfl rfl rfl rfl rfl rfl ?_
      | refine sk_exta rfl rfl rfl rfl rfl rfl ?_
      | refine sk_idxs rfl rfl rfl rfl rfl rfl (by omega) (by first | (simp only [Nat.zero_add, Nat.mul_one, Nat.reduceAdd, Nat.reduceMul, Int.reduceToNat, Nat.add_zero, Int.toNat_natCast]; exact rfl) | exact rfl) ?_
      | refine sk_lens rfl rfl rfl rfl rfl ?_
      | refine sk_field rfl rfl rfl rfl rfl rfl ?_
      | refine sk_move rfl rfl rfl rfl (c := .agg _) rfl ?_
      | refine sk_assign rfl rfl rfl rfl (c := .agg _) rfl ?_
      | refine sk_move rfl rfl rfl rfl (c := .tup _) rfl ?_
      | refine sk_assign rfl rfl rfl rfl (c := .tup _) rfl ?_
      | refine sk_skip rfl rfl rfl ?_
      | refine sk_skip0 rfl rfl ?_
      | refine sk_pure rfl rfl rfl rfl ?_)
    | refine WX.seq ?_
    | refine WX.actsC ?_
    | refine sk_last (by first | exact Consistent.nil | exact Consistent.one _ | exact Consistent.ofL (by repeat' (first | exact True.intro | refine And.intro ?_ ?_ | exact Compat.ne rfl))) ⟨by kernel_rfl, ?_⟩
    | refine sk_last (by first | exact Consistent.nil | exact Consistent.one _ | exact Consistent.ofL (by repeat' (first | exact True.intro | refine And.intro ?_ ?_ | exact Compat.ne rfl))) ?_
    | refine WX.drawsC mixed (by kernel_rfl) ?_
    | refine WX.condT rfl ?_
    | refine WX.condF rfl ?_
    | refine WX.skip ?_
    | refine WX.block ?_
    | refine WX.exit ?_
    | refine WX.ret ?_)
  refine kcon_pure (.inr rfl) (fun m hm => rfl) ?_ rfl
  unfold firstLevel
  rw [Int.max_eq_left hn.1]
  rfl

set_option maxRecDepth 10000 in
theorem number_con (b : Kn) (h0 : 0 ≤ b.lv 0 ∧ b.lv 0 ≤ 127) (h : 1 ≤ b.qp ∧ b.qp ≤ 31) : Con Try.prog 13 [.agg (kcells b)] [] (.one (.int .i64 (firstBack (b.lv 0) b.qp))) [] := by
  have hs := stepOf_bnd b.qp
  have hb := firstBack_bnd (b.lv 0) b.qp
  unfold firstBack at hb ⊢
  rw [Int.max_eq_left h0.1, Int.min_eq_left h0.2] at hb ⊢
  refine con_of_wx Try.func13 rfl (Nat.le_of_ble_eq_true rfl) (Nat.le_of_ble_eq_true rfl) (Nat.le_of_ble_eq_true rfl) (Nat.le_of_ble_eq_true rfl) ?_
  repeat' (first
    | (refine sk_id ?_; first
      | refine sk_call (inst_pure (ref_con _ (by omega)) rfl rfl rfl) rfl rfl rfl rfl rfl rfl (by kernel_rfl) rfl ?_
      | refine sk_load rfl rfl rfl rfl rfl rfl (kc_qp _) ?_
      | refine sk_load rfl rfl rfl rfl rfl rfl (kc_lv _ _ (by omega)) ?_
      | refine sk_move rfl rfl rfl rfl (c := .one _) rfl ?_
      | refine sk_assign rfl rfl rfl rfl (c := .one _) rfl ?_
      | refine sk_add rfl rfl rfl rfl rfl rfl (by omega) ?_
      | refine sk_sub rfl rfl rfl rfl rfl rfl (by omega) ?_
      | refine sk_mul rfl rfl rfl rfl rfl rfl (by omega) ?_
      | refine sk_load rfl rfl rfl rfl rfl rfl rfl ?_
      | refine sk_fld rfl rfl rfl rfl rfl (by first | (simp only [Nat.zero_add, Nat.mul_one, Nat.reduceAdd, Nat.reduceMul, Int.reduceToNat, Nat.add_zero, Int.toNat_natCast]; exact rfl) | exact rfl) ?_
      | refine sk_true rfl rfl rfl rfl rfl rfl rfl (by omega) ?_
      | refine sk_false rfl rfl rfl rfl rfl rfl rfl (by omega) ?_
      | refine sk_netrue rfl rfl rfl rfl rfl rfl (by omega) ?_
      | refine sk_nefalse rfl rfl rfl rfl rfl rfl (by omega) ?_
      | refine sk_fork rfl rfl rfl rfl rfl rfl rfl (fun _ => ?_) (fun _ => ?_)
      | refine sk_forkn rfl rfl rfl rfl rfl rfl (fun _ => ?_) (fun _ => ?_)
      | refine sk_nil rfl rfl rfl rfl rfl ?_
      | refine sk_idxa rfl rfl rfl rfl rfl rfl (by omega) (by first | (simp only [Nat.zero_add, Nat.mul_one, Nat.reduceAdd, Nat.reduceMul, Int.reduceToNat, Nat.add_zero, Int.toNat_natCast]; exact rfl) | exact rfl) ?_
      | refine sk_loadall rfl rfl rfl rfl rfl rfl rfl ?_
      | refine sk_loada rfl rfl rfl rfl rfl rfl (by decide) rfl ?_
      | refine sk_quo rfl rfl rfl rfl rfl rfl (by omega) (by omega) ?_
      | refine sk_rem rfl rfl rfl rfl rfl rfl (by omega) (by omega) ?_
      | refine sk_max rfl rfl rfl rfl rfl rfl (Int.max_eq_left (by omega)) ?_
      | refine sk_max rfl rfl rfl rfl rfl rfl (Int.max_eq_right (by omega)) ?_
      | refine sk_max rfl rfl rfl rfl rfl rfl rfl ?_
      | refine sk_min rfl rfl rfl rfl rfl rfl (Int.min_eq_left (by omega)) ?_
      | refine sk_min rfl rfl rfl rfl rfl rfl (Int.min_eq_right (by omega)) ?_
      | refine sk_min rfl rfl rfl rfl rfl rfl rfl ?_
      | refine sk_conv rfl rfl rfl rfl rfl (by first | exact IntWalk.i64_in _ (by omega) | rfl) ?_
      | refine sk_pickT rfl rfl rfl rfl rfl rfl ?_
      | refine sk_pickF rfl rfl rfl rfl rfl rfl ?_
      | refine sk_not rfl rfl rfl rfl rfl rfl ?_
      | refine sk_build0 rfl rfl rfl rfl ?_
      | refine sk_build0A rfl rfl rfl rfl ?_
      | refine sk_buildA rfl rfl rfl rfl rfl rfl (by first | (simp only [List.cons_append, List.nil_append, List.append_nil]; exact rfl) | exact rfl) ?_
      | refine sk_buildS rfl rfl rfl rfl rfl rfl (by first | (simp only [List.cons_append, List.nil_append, List.append_nil]; exact rfl) | exact rfl) ?_
      | refine sk_nnp rfl rfl rfl rfl rfl ?_
      | refine sk_makemap rfl rfl rfl rfl (by first | (simp only [List.length_cons, List.length_nil, List.length_append, Nat.reduceAdd, Nat.zero_add]; exact rfl) | exact rfl) rfl (by first | (simp only [List.cons_append, List.nil_append]; exact rfl) | exact rfl) ?_
      | refine sk_alloc rfl rfl rfl rfl (by first | (simp only [List.length_cons, List.length_nil, List.length_append, Nat.reduceAdd, Nat.zero_add]; exact rfl) | exact rfl) rfl (by first | (simp only [List.cons_append, List.nil_append]; exact rfl) | exact rfl) ?_
      | refine sk_box rfl rfl rfl rfl rfl (by first | (simp only [List.length_cons, List.length_nil, List.length_append, Nat.reduceAdd, Nat.zero_add]; exact rfl) | exact rfl) rfl (by first | (simp only [List.cons_append, List.nil_append]; exact rfl) | exact rfl) ?_
      | refine sk_store rfl rfl rfl rfl rfl rfl (by decide) (by first | (simp only [List.set_cons_succ, List.set_cons_zero]; exact rfl) | exact rfl) (by first | (simp only [List.set_cons_succ, List.set_cons_zero]; exact rfl) | exact rfl) ?_
      | refine sk_storea rfl rfl rfl rfl rfl rfl rfl rfl (by first | (simp only [List.set_cons_succ, List.set_cons_zero]; exact rfl) | exact rfl) ?_
      | refine sk_ext rfl rfl rfl rfl rfl rfl ?_
      | refine sk_exta rfl rfl rfl rfl rfl rfl ?_
      | refine sk_idxs rfl rfl rfl rfl rfl rfl (by omega) (by first | (simp only [Nat.zero_add, Nat.mul_one, Nat.reduceAdd, Nat.reduceMul, Int.reduceToNat, Nat.add_zero, Int.toNat_natCast]; exact rfl) | exact rfl) ?_
      | refine sk_lens rfl rfl rfl rfl rfl ?_
      | refine sk_field rfl rfl rfl rfl rfl rfl ?_
      | refine sk_move rfl rfl rfl rfl (c := .agg _) rfl ?_
      | refine sk_assign rfl rfl rfl rfl (c := .agg _) rfl ?_
      | refine sk_move rfl rfl rfl rfl (c := .tup _) rfl ?_
      | refine sk_assign rfl rfl rfl rfl (c := .tup _) rfl ?_
      | refine sk_skip rfl rfl rfl ?_
      | refine sk_skip0 rfl rfl ?_
      | refine sk_pure rfl rfl rfl rfl ?_)
    | refine WX.seq ?_
    | refine WX.actsC ?_
    | refine sk_last (by first | exact Consistent.nil | exact Consistent.one _ | exact Consistent.ofL (by repeat' (first | exact True.intro | refine And.intro ?_ ?_ | exact Compat.ne rfl))) ⟨by kernel_rfl, ?_⟩
    | refine sk_last (by first | exact Consistent.nil | exact Consistent.one _ | exact Consistent.ofL (by repeat' (first | exact True.intro | refine And.intro ?_ ?_ | exact Compat.ne rfl))) ?_
    | refine WX.drawsC mixed (by kernel_rfl) ?_
    | refine WX.condT rfl ?_
    | refine WX.condF rfl ?_
    | refine WX.skip ?_
    | refine WX.block ?_
    | refine WX.exit ?_
    | refine WX.ret ?_)
  refine kcon_pure (.inr rfl) (fun m hm => rfl) ?_ rfl
  rfl

set_option maxRecDepth 10000 in
theorem to_con (x m : Int) (hx : -1000000 ≤ x ∧ x ≤ 1000000) (hm : -1000000 ≤ m ∧ m ≤ 1000000) : Con Try.prog 16 [.one (.int .i64 x), .one (.ptr 0 0)] [.cells [.int .i64 m] 3 false false] (.one (.int .i64 (max (x - m) (m - x)))) [.cells [.int .i64 m] 3 false false] := by
  refine con_of_wx Try.func16 rfl (Nat.le_of_ble_eq_true rfl) (Nat.le_of_ble_eq_true rfl) (Nat.le_of_ble_eq_true rfl) (Nat.le_of_ble_eq_true rfl) ?_
  repeat' (first
    | (refine sk_id ?_; first
      | refine sk_move rfl rfl rfl rfl (c := .one _) rfl ?_
      | refine sk_assign rfl rfl rfl rfl (c := .one _) rfl ?_
      | refine sk_add rfl rfl rfl rfl rfl rfl (by omega) ?_
      | refine sk_sub rfl rfl rfl rfl rfl rfl (by omega) ?_
      | refine sk_mul rfl rfl rfl rfl rfl rfl (by omega) ?_
      | refine sk_load rfl rfl rfl rfl rfl rfl rfl ?_
      | refine sk_fld rfl rfl rfl rfl rfl (by first | (simp only [Nat.zero_add, Nat.mul_one, Nat.reduceAdd, Nat.reduceMul, Int.reduceToNat, Nat.add_zero, Int.toNat_natCast]; exact rfl) | exact rfl) ?_
      | refine sk_true rfl rfl rfl rfl rfl rfl rfl (by omega) ?_
      | refine sk_false rfl rfl rfl rfl rfl rfl rfl (by omega) ?_
      | refine sk_netrue rfl rfl rfl rfl rfl rfl (by omega) ?_
      | refine sk_nefalse rfl rfl rfl rfl rfl rfl (by omega) ?_
      | refine sk_fork rfl rfl rfl rfl rfl rfl rfl (fun _ => ?_) (fun _ => ?_)
      | refine sk_forkn rfl rfl rfl rfl rfl rfl (fun _ => ?_) (fun _ => ?_)
      | refine sk_nil rfl rfl rfl rfl rfl ?_
      | refine sk_idxa rfl rfl rfl rfl rfl rfl (by omega) (by first | (simp only [Nat.zero_add, Nat.mul_one, Nat.reduceAdd, Nat.reduceMul, Int.reduceToNat, Nat.add_zero, Int.toNat_natCast]; exact rfl) | exact rfl) ?_
      | refine sk_loadall rfl rfl rfl rfl rfl rfl rfl ?_
      | refine sk_loada rfl rfl rfl rfl rfl rfl (by decide) rfl ?_
      | refine sk_quo rfl rfl rfl rfl rfl rfl (by omega) (by omega) ?_
      | refine sk_rem rfl rfl rfl rfl rfl rfl (by omega) (by omega) ?_
      | refine sk_max rfl rfl rfl rfl rfl rfl (Int.max_eq_left (by omega)) ?_
      | refine sk_max rfl rfl rfl rfl rfl rfl (Int.max_eq_right (by omega)) ?_
      | refine sk_max rfl rfl rfl rfl rfl rfl rfl ?_
      | refine sk_min rfl rfl rfl rfl rfl rfl (Int.min_eq_left (by omega)) ?_
      | refine sk_min rfl rfl rfl rfl rfl rfl (Int.min_eq_right (by omega)) ?_
      | refine sk_min rfl rfl rfl rfl rfl rfl rfl ?_
      | refine sk_conv rfl rfl rfl rfl rfl (by first | exact IntWalk.i64_in _ (by omega) | rfl) ?_
      | refine sk_pickT rfl rfl rfl rfl rfl rfl ?_
      | refine sk_pickF rfl rfl rfl rfl rfl rfl ?_
      | refine sk_not rfl rfl rfl rfl rfl rfl ?_
      | refine sk_build0 rfl rfl rfl rfl ?_
      | refine sk_build0A rfl rfl rfl rfl ?_
      | refine sk_buildA rfl rfl rfl rfl rfl rfl (by first | (simp only [List.cons_append, List.nil_append, List.append_nil]; exact rfl) | exact rfl) ?_
      | refine sk_buildS rfl rfl rfl rfl rfl rfl (by first | (simp only [List.cons_append, List.nil_append, List.append_nil]; exact rfl) | exact rfl) ?_
      | refine sk_nnp rfl rfl rfl rfl rfl ?_
      | refine sk_makemap rfl rfl rfl rfl (by first | (simp only [List.length_cons, List.length_nil, List.length_append, Nat.reduceAdd, Nat.zero_add]; exact rfl) | exact rfl) rfl (by first | (simp only [List.cons_append, List.nil_append]; exact rfl) | exact rfl) ?_
      | refine sk_alloc rfl rfl rfl rfl (by first | (simp only [List.length_cons, List.length_nil, List.length_append, Nat.reduceAdd, Nat.zero_add]; exact rfl) | exact rfl) rfl (by first | (simp only [List.cons_append, List.nil_append]; exact rfl) | exact rfl) ?_
      | refine sk_box rfl rfl rfl rfl rfl (by first | (simp only [List.length_cons, List.length_nil, List.length_append, Nat.reduceAdd, Nat.zero_add]; exact rfl) | exact rfl) rfl (by first | (simp only [List.cons_append, List.nil_append]; exact rfl) | exact rfl) ?_
      | refine sk_store rfl rfl rfl rfl rfl rfl (by decide) (by first | (simp only [List.set_cons_succ, List.set_cons_zero]; exact rfl) | exact rfl) (by first | (simp only [List.set_cons_succ, List.set_cons_zero]; exact rfl) | exact rfl) ?_
      | refine sk_storea rfl rfl rfl rfl rfl rfl rfl rfl (by first | (simp only [List.set_cons_succ, List.set_cons_zero]; exact rfl) | exact rfl) ?_
      | refine sk_ext rfl rfl rfl rfl rfl rfl ?_
      | refine sk_exta rfl rfl rfl rfl rfl rfl ?_
      | refine sk_idxs rfl rfl rfl rfl rfl rfl (by omega) (by first | (simp only [Nat.zero_add, Nat.mul_one, Nat.reduceAdd, Nat.reduceMul, Int.reduceToNat, Nat.add_zero, Int.toNat_natCast]; exact rfl) | exact rfl) ?_
      | refine sk_lens rfl rfl rfl rfl rfl ?_
      | refine sk_field rfl rfl rfl rfl rfl rfl ?_
      | refine sk_move rfl rfl rfl rfl (c := .agg _) rfl ?_
      | refine sk_assign rfl rfl rfl rfl (c := .agg _) rfl ?_
      | refine sk_move rfl rfl rfl rfl (c := .tup _) rfl ?_
      | refine sk_assign rfl rfl rfl rfl (c := .tup _) rfl ?_
      | refine sk_skip rfl rfl rfl ?_
      | refine sk_skip0 rfl rfl ?_
      | refine sk_pure rfl rfl rfl rfl ?_)
    | refine WX.seq ?_
    | refine WX.actsC ?_
    | refine sk_last (by first | exact Consistent.nil | exact Consistent.one _ | exact Consistent.ofL (by repeat' (first | exact True.intro | refine And.intro ?_ ?_ | exact Compat.ne rfl))) ⟨by kernel_rfl, ?_⟩
    | refine sk_last (by first | exact Consistent.nil | exact Consistent.one _ | exact Consistent.ofL (by repeat' (first | exact True.intro | refine And.intro ?_ ?_ | exact Compat.ne rfl))) ?_
    | refine WX.drawsC mixed (by kernel_rfl) ?_
    | refine WX.condT rfl ?_
    | refine WX.condF rfl ?_
    | refine WX.skip ?_
    | refine WX.block ?_
    | refine WX.exit ?_
    | refine WX.ret ?_)
  show KCon _ _ _ _ _ _ _ _; refine kcon_leave (junk := _) (by first | exact .inr rfl | exact .inl rfl) (by first | exact fun m hm => rfl | exact ResL.one rfl (.cell rfl rfl (load_whole rfl) .nil) | exact ResL.two rfl (.cell rfl rfl (load_whole rfl) (.tmp rfl .nil))) ?_ (by first | exact trivial | simp [XV.okN, X1.ok, XC.ok]) rfl (by exact by simp [XObj.okN, XC.ok])
  rfl

def placeOf (cols mb k : Int) : Int × Int × Int := if k < 4 then (0, 2 * (mb % cols) + k % 2, 2 * (mb / cols) + k / 2) else (k - 3, mb % cols, mb / cols)
theorem placeOf_bnd {cols rows mb k : Int} (hc : 1 ≤ cols ∧ cols ≤ 8) (hm : 0 ≤ mb ∧ mb < 1000000) (hk : 0 ≤ k ∧ k < 1000) : 0 ≤ mb / cols ∧ mb / cols ≤ mb ∧ 0 ≤ mb % cols ∧ mb % cols < cols :=
  ⟨Int.ediv_nonneg hm.1 (by omega), Int.ediv_le_self _ hm.1, Int.emod_nonneg _ (by omega), Int.emod_lt_of_pos _ (by omega)⟩
set_option maxRecDepth 10000 in
theorem lplace_con (cols mb k : Int) (hc : 1 ≤ cols ∧ cols ≤ 8) (hm : 0 ≤ mb ∧ mb < 1000000) (hk : 0 ≤ k ∧ k < 1000) : Con Try.prog 12 [.one (.int .i64 cols), .one (.int .i64 mb), .one (.int .i64 k)] [] (.agg [.int .i64 (placeOf cols mb k).1, .int .i64 (placeOf cols mb k).2.1, .int .i64 (placeOf cols mb k).2.2]) [] := by
  have hb := placeOf_bnd (rows := 0) hc hm hk
  unfold placeOf
  refine con_of_wx Try.func12 rfl (Nat.le_of_ble_eq_true rfl) (Nat.le_of_ble_eq_true rfl) (Nat.le_of_ble_eq_true rfl) (Nat.le_of_ble_eq_true rfl) ?_
  repeat' (first
    | (refine sk_id ?_; first
      | refine sk_move rfl rfl rfl rfl (c := .one _) rfl ?_
      | refine sk_assign rfl rfl rfl rfl (c := .one _) rfl ?_
      | refine sk_add rfl rfl rfl rfl rfl rfl (by omega) ?_
      | refine sk_sub rfl rfl rfl rfl rfl rfl (by omega) ?_
      | refine sk_mul rfl rfl rfl rfl rfl rfl (by omega) ?_
      | refine sk_load rfl rfl rfl rfl rfl rfl rfl ?_
      | refine sk_fld rfl rfl rfl rfl rfl (by first | (simp only [Nat.zero_add, Nat.mul_one, Nat.reduceAdd, Nat.reduceMul, Int.reduceToNat, Nat.add_zero, Int.toNat_natCast]; exact rfl) | exact rfl) ?_
      | refine sk_true rfl rfl rfl rfl rfl rfl rfl (by omega) ?_
      | refine sk_false rfl rfl rfl rfl rfl rfl rfl (by omega) ?_
      | refine sk_netrue rfl rfl rfl rfl rfl rfl (by omega) ?_
      | refine sk_nefalse rfl rfl rfl rfl rfl rfl (by omega) ?_
      | refine sk_fork rfl rfl rfl rfl rfl rfl rfl (fun _ => ?_) (fun _ => ?_)
      | refine sk_forkn rfl rfl rfl rfl rfl rfl (fun _ => ?_) (fun _ => ?_)
      | refine sk_nil rfl rfl rfl rfl rfl ?_
      | refine sk_idxa rfl rfl rfl rfl rfl rfl (by omega) (by first | (simp only [Nat.zero_add, Nat.mul_one, Nat.reduceAdd, Nat.reduceMul, Int.reduceToNat, Nat.add_zero, Int.toNat_natCast]; exact rfl) | exact rfl) ?_
      | refine sk_loadall rfl rfl rfl rfl rfl rfl rfl ?_
      | refine sk_loada rfl rfl rfl rfl rfl rfl (by decide) rfl ?_
      | refine sk_quo rfl rfl rfl rfl rfl rfl (by omega) (by omega) ?_
      | refine sk_rem rfl rfl rfl rfl rfl rfl (by omega) (by omega) ?_
      | refine sk_max rfl rfl rfl rfl rfl rfl (Int.max_eq_left (by omega)) ?_
      | refine sk_max rfl rfl rfl rfl rfl rfl (Int.max_eq_right (by omega)) ?_
      | refine sk_max rfl rfl rfl rfl rfl rfl rfl ?_
      | refine sk_min rfl rfl rfl rfl rfl rfl (Int.min_eq_left (by omega)) ?_
      | refine sk_min rfl rfl rfl rfl rfl rfl (Int.min_eq_right (by omega)) ?_
      | refine sk_min rfl rfl rfl rfl rfl rfl rfl ?_
      | refine sk_conv rfl rfl rfl rfl rfl (by first | exact IntWalk.i64_in _ (by omega) | rfl) ?_
      | refine sk_pickT rfl rfl rfl rfl rfl rfl ?_
      | refine sk_pickF rfl rfl rfl rfl rfl rfl ?_
      | refine sk_not rfl rfl rfl rfl rfl rfl ?_
      | refine sk_build0 rfl rfl rfl rfl ?_
      | refine sk_build0A rfl rfl rfl rfl ?_
      | refine sk_buildA rfl rfl rfl rfl rfl rfl (by first | (simp only [List.cons_append, List.nil_append, List.append_nil]; exact rfl) | exact rfl) ?_
      | refine sk_buildS rfl rfl rfl rfl rfl rfl (by first | (simp only [List.cons_append, List.nil_append, List.append_nil]; exact rfl) | exact rfl) ?_
      | refine sk_nnp rfl rfl rfl rfl rfl ?_
      | refine sk_makemap rfl rfl rfl rfl (by first | (simp only [List.length_cons, List.length_nil, List.length_append, Nat.reduceAdd, Nat.zero_add]; exact rfl) | exact rfl) rfl (by first | (simp only [List.cons_append, List.nil_append]; exact rfl) | exact rfl) ?_
      | refine sk_alloc rfl rfl rfl rfl (by first | (simp only [List.length_cons, List.length_nil, List.length_append, Nat.reduceAdd, Nat.zero_add]; exact rfl) | exact rfl) rfl (by first | (simp only [List.cons_append, List.nil_append]; exact rfl) | exact rfl) ?_
      | refine sk_box rfl rfl rfl rfl rfl (by first | (simp only [List.length_cons, List.length_nil, List.length_append, Nat.reduceAdd, Nat.zero_add]; exact rfl) | exact rfl) rfl (by first | (simp only [List.cons_append, List.nil_append]; exact rfl) | exact rfl) ?_
      | refine sk_store rfl rfl rfl rfl rfl rfl (by decide) (by first | (simp only [List.set_cons_succ, List.set_cons_zero]; exact rfl) | exact rfl) (by first | (simp only [List.set_cons_succ, List.set_cons_zero]; exact rfl) | exact rfl) ?_
      | refine sk_storea rfl rfl rfl rfl rfl rfl rfl rfl (by first | (simp only [List.set_cons_succ, List.set_cons_zero]; exact rfl) | exact rfl) ?_
      | refine sk_ext rfl rfl rfl rfl rfl rfl ?_
      | refine sk_exta rfl rfl rfl rfl rfl rfl ?_
      | refine sk_idxs rfl rfl rfl rfl rfl rfl (by omega) (by first | (simp only [Nat.zero_add, Nat.mul_one, Nat.reduceAdd, Nat.reduceMul, Int.reduceToNat, Nat.add_zero, Int.toNat_natCast]; exact rfl) | exact rfl) ?_
      | refine sk_lens rfl rfl rfl rfl rfl ?_
      | refine sk_field rfl rfl rfl rfl rfl rfl ?_
      | refine sk_move rfl rfl rfl rfl (c := .agg _) rfl ?_
      | refine sk_assign rfl rfl rfl rfl (c := .agg _) rfl ?_
      | refine sk_move rfl rfl rfl rfl (c := .tup _) rfl ?_
      | refine sk_assign rfl rfl rfl rfl (c := .tup _) rfl ?_
      | refine sk_skip rfl rfl rfl ?_
      | refine sk_skip0 rfl rfl ?_
      | refine sk_pure rfl rfl rfl rfl ?_)
    | refine WX.seq ?_
    | refine WX.actsC ?_
    | refine sk_last (by first | exact Consistent.nil | exact Consistent.one _ | exact Consistent.ofL (by repeat' (first | exact True.intro | refine And.intro ?_ ?_ | exact Compat.ne rfl))) ⟨by kernel_rfl, ?_⟩
    | refine sk_last (by first | exact Consistent.nil | exact Consistent.one _ | exact Consistent.ofL (by repeat' (first | exact True.intro | refine And.intro ?_ ?_ | exact Compat.ne rfl))) ?_
    | refine WX.drawsC mixed (by kernel_rfl) ?_
    | refine WX.condT rfl ?_
    | refine WX.condF rfl ?_
    | refine WX.skip ?_
    | refine WX.block ?_
    | refine WX.exit ?_
    | refine WX.ret ?_)
  · refine kcon_pure (.inr rfl) (ResL.one rfl (.cell rfl rfl (load_whole rfl) .nil)) ?_ rfl
    rw [if_pos ‹_›]
    rfl
  · refine kcon_pure (.inr rfl) (ResL.one rfl (.cell rfl rfl (load_whole rfl) .nil)) ?_ rfl
    rw [if_neg ‹_›]
    rfl
end Go.Proofs.Ytlgbbgicicnijaa
