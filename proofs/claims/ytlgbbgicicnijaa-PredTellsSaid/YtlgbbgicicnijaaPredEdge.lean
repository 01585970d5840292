/-
  A contract: what a block's edge is expected to be.
-/
import Derived.Test.YtlgbbgicicnijaaPredExp0
import Derived.Test.YtlgbbgicicnijaaPredSet
namespace Go.Proofs.Ytlgbbgicicnijaa
open Go.Xm
set_option linter.unusedVariables false
set_option linter.unusedSectionVars false
set_option linter.unusedSimpArgs false
variable [Atoms]

/-- An edge, so many places in. -/
def em (b : Kn) (s : Nat) : Nat → Nat → Int
  | 0 => fun _ => 0
  | n + 1 => upd (em b s n) ((n + 1) * s) (b.lv ((n + 1) * s))
theorem em_succ (b : Kn) (s n : Nat) : em b s (n + 1) = upd (em b s n) ((n + 1) * s) (b.lv ((n + 1) * s)) := rfl
def noEdge : Nat → Int := fun _ => 0
theorem ti_okN (k : IntKind) (n : Nat) (f : Nat → Int) (m : Nat) : (XV.agg (ti k n f)).okN m := by
  intro c hc
  obtain ⟨i, _, rfl⟩ := List.mem_map.1 hc
  trivial

section
variable (cols rows mb k p w x y q n : Int) (A B C : Tab)
    (hpl : Con Try.prog 20 [.one (.ptr 0 0), .one (.int .i64 mb), .one (.int .i64 k)] (tabH cols rows A B C) (.tup [.one (.int .i64 p), .one (.int .i64 w), .one (.int .i64 x), .one (.int .i64 y)]) (tabH cols rows A B C))
    (hp : p = 0 ∨ p = 1 ∨ p = 2) (hyw : -1000 ≤ y * w ∧ y * w ≤ 1000) (hyw1 : -1000 ≤ (y - 1) * w ∧ (y - 1) * w ≤ 1000) (hx : 0 ≤ x ∧ x ≤ 1000) (hy : 0 ≤ y ∧ y ≤ 1000)
include hpl hp hyw hyw1 hx hy

set_option maxRecDepth 10000 in
theorem edge_0 (hE : Con Try.prog 17 [.one (.ptr 0 0), .one (.int .i64 mb), .one (.int .i64 k), .one (.int .i64 q)] (tabH cols rows A B C) (.tup [.one (.int .u8 0), .one (.int .i64 n)]) (tabH cols rows A B C)) :
    Con Try.prog 18 [.one (.ptr 0 0), .one (.int .i64 mb), .one (.int .i64 k), .one (.int .i64 q)] (tabH cols rows A B C) (.agg (ti .i64 64 noEdge)) (tabH cols rows A B C) := by
  refine con_of_wx Try.func18 rfl (Nat.le_of_ble_eq_true rfl) (Nat.le_of_ble_eq_true rfl) (Nat.le_of_ble_eq_true rfl) (Nat.le_of_ble_eq_true rfl) ?_
  repeat' (first
    | (refine sk_id ?_; first
      | refine sk_call (inst_tab hE 0 1 2 3 (by decide) rfl rfl rfl rfl rfl rfl rfl) rfl rfl rfl rfl rfl rfl (by kernel_rfl) rfl ?_
      | refine sk_move rfl rfl rfl rfl (c := .one _) rfl ?_
      | refine sk_assign rfl rfl rfl rfl (c := .one _) rfl ?_
      | refine sk_add rfl rfl rfl rfl rfl rfl (by omega) ?_
      | refine sk_sub rfl rfl rfl rfl rfl rfl (by omega) ?_
      | refine sk_mul rfl rfl rfl rfl rfl rfl (by omega) ?_
      | refine sk_load rfl rfl rfl rfl rfl rfl rfl ?_
      | refine sk_fld rfl rfl rfl rfl rfl (by first | (simp only [Nat.zero_add, Nat.mul_one, Nat.reduceAdd, Nat.reduceMul, Int.reduceToNat, Nat.add_zero, Int.toNat_natCast]; exact rfl) | exact rfl) ?_
      | refine sk_true rfl rfl rfl rfl rfl rfl rfl (by omega) ?_
      | refine sk_false rfl rfl rfl rfl rfl rfl rfl (by omega) ?_
      | refine sk_netrue rfl rfl rfl rfl rfl rfl (by omega) ?_
      | refine sk_nefalse rfl rfl rfl rfl rfl rfl (by omega) ?_
      | refine sk_fork rfl rfl rfl rfl rfl rfl rfl (fun _ => ?_) (fun _ => ?_)
      | refine sk_forkn rfl rfl rfl rfl rfl rfl (fun _ => ?_) (fun _ => ?_)
      | refine sk_nil rfl rfl rfl rfl rfl ?_
      | refine sk_idxa rfl rfl rfl rfl rfl rfl (by omega) (by first | (simp only [Nat.zero_add, Nat.mul_one, Nat.reduceAdd, Nat.reduceMul, Int.reduceToNat, Nat.add_zero, Int.toNat_natCast]; exact rfl) | exact rfl) ?_
      | refine sk_loadall rfl rfl rfl rfl rfl rfl rfl ?_
      | refine sk_loada rfl rfl rfl rfl rfl rfl (by decide) rfl ?_
      | refine sk_quo rfl rfl rfl rfl rfl rfl (by omega) (by omega) ?_
      | refine sk_rem rfl rfl rfl rfl rfl rfl (by omega) (by omega) ?_
      | refine sk_max rfl rfl rfl rfl rfl rfl (Int.max_eq_left (by omega)) ?_
      | refine sk_max rfl rfl rfl rfl rfl rfl (Int.max_eq_right (by omega)) ?_
      | refine sk_max rfl rfl rfl rfl rfl rfl rfl ?_
      | refine sk_min rfl rfl rfl rfl rfl rfl (Int.min_eq_left (by omega)) ?_
      | refine sk_min rfl rfl rfl rfl rfl rfl (Int.min_eq_right (by omega)) ?_
      | refine sk_min rfl rfl rfl rfl rfl rfl rfl ?_
      | refine sk_conv rfl rfl rfl rfl rfl (by first | exact IntWalk.i64_in _ (by omega) | rfl) ?_
      | refine sk_pickT rfl rfl rfl rfl rfl rfl ?_
      | refine sk_pickF rfl rfl rfl rfl rfl rfl ?_
      | refine sk_not rfl rfl rfl rfl rfl rfl ?_
      | refine sk_build0 rfl rfl rfl rfl ?_
      | refine sk_build0A rfl rfl rfl rfl ?_
      | refine sk_buildA rfl rfl rfl rfl rfl rfl (by first | (simp only [List.cons_append, List.nil_append, List.append_nil]; exact rfl) | exact rfl) ?_
      | refine sk_buildS rfl rfl rfl rfl rfl rfl (by first | (simp only [List.cons_append, List.nil_append, List.append_nil]; exact rfl) | exact rfl) ?_
      | refine sk_nnp rfl rfl rfl rfl rfl ?_
      | refine sk_makemap rfl rfl rfl rfl (by first | (simp only [List.length_cons, List.length_nil, List.length_append, Nat.reduceAdd, Nat.zero_add]; exact rfl) | exact rfl) rfl (by first | (simp only [List.cons_append, List.nil_append]; exact rfl) | exact rfl) ?_
      | refine sk_alloc rfl rfl rfl rfl (by first | (simp only [List.length_cons, List.length_nil, List.length_append, Nat.reduceAdd, Nat.zero_add]; exact rfl) | exact rfl) rfl (by first | (simp only [List.cons_append, List.nil_append]; exact rfl) | exact rfl) ?_
      | refine sk_box rfl rfl rfl rfl rfl (by first | (simp only [List.length_cons, List.length_nil, List.length_append, Nat.reduceAdd, Nat.zero_add]; exact rfl) | exact rfl) rfl (by first | (simp only [List.cons_append, List.nil_append]; exact rfl) | exact rfl) ?_
      | refine sk_store rfl rfl rfl rfl rfl rfl (by decide) (by first | (simp only [List.set_cons_succ, List.set_cons_zero]; exact rfl) | exact rfl) (by first | (simp only [List.set_cons_succ, List.set_cons_zero]; exact rfl) | exact rfl) ?_
      | refine sk_storea rfl rfl rfl rfl rfl rfl rfl rfl (by first | (simp only [List.set_cons_succ, List.set_cons_zero]; exact rfl) | exact rfl) ?_
      | refine sk_ext rfl rfl rfl rfl rfl rfl ?_
      | refine sk_exta rfl rfl rfl rfl rfl rfl ?_
      | refine sk_idxs rfl rfl rfl rfl rfl rfl (by omega) (by first | (simp only [Nat.zero_add, Nat.mul_one, Nat.reduceAdd, Nat.reduceMul, Int.reduceToNat, Nat.add_zero, Int.toNat_natCast]; exact rfl) | exact rfl) ?_
      | refine sk_lens rfl rfl rfl rfl rfl ?_
      | refine sk_field rfl rfl rfl rfl rfl rfl ?_
      | refine sk_move rfl rfl rfl rfl (c := .agg _) rfl ?_
      | refine sk_assign rfl rfl rfl rfl (c := .agg _) rfl ?_
      | refine sk_move rfl rfl rfl rfl (c := .tup _) rfl ?_
      | refine sk_assign rfl rfl rfl rfl (c := .tup _) rfl ?_
      | refine sk_skip rfl rfl rfl ?_
      | refine sk_skip0 rfl rfl ?_
      | refine sk_pure rfl rfl rfl rfl ?_)
    | refine WX.seq ?_
    | refine WX.actsC ?_
    | refine sk_last (by first | exact Consistent.nil | exact Consistent.one _ | exact Consistent.ofL (by repeat' (first | exact True.intro | refine And.intro ?_ ?_ | exact Compat.ne rfl))) ⟨by kernel_rfl, ?_⟩
    | refine sk_last (by first | exact Consistent.nil | exact Consistent.one _ | exact Consistent.ofL (by repeat' (first | exact True.intro | refine And.intro ?_ ?_ | exact Compat.ne rfl))) ?_
    | refine WX.drawsC mixed (by kernel_rfl) ?_
    | refine WX.condT rfl ?_
    | refine WX.condF rfl ?_
    | refine WX.skip ?_
    | refine WX.block ?_
    | refine WX.exit ?_
    | refine WX.ret ?_)
  show KCon _ _ _ _ _ _ _ _
  refine kcon_leave (junk := _) (.inr rfl) (ResL.one rfl (.cell rfl rfl (load_whole rfl) .nil)) ?_ (ti_okN _ _ _ _) rfl (tabH_ok _ _ _ _ _)
  rfl

def eRegs1 (n : Nat) : Regs := [(19, .one (.int .i64 ((n + 1 : Nat)))), (8, .one (.ptr 4 0)), (9, .one (.ptr 5 0)), (16, .one (.int .i64 8)), (17, .one (.ptr 6 0))]
set_option maxRecDepth 10000 in
set_option maxHeartbeats 1000000 in
theorem edge_1 (b : Kn) (ha : lookAt (pickTab A B C p) w (x - 1) y = some b) (hE : Con Try.prog 17 [.one (.ptr 0 0), .one (.int .i64 mb), .one (.int .i64 k), .one (.int .i64 q)] (tabH cols rows A B C) (.tup [.one (.int .u8 1), .one (.int .i64 n)]) (tabH cols rows A B C)) :
    Con Try.prog 18 [.one (.ptr 0 0), .one (.int .i64 mb), .one (.int .i64 k), .one (.int .i64 q)] (tabH cols rows A B C) (.agg (ti .i64 64 (if b.qp = q then em b 8 7 else noEdge))) (tabH cols rows A B C) := by
  by_cases hq : b.qp = q
  · rw [if_pos hq]
    refine con_of_wx Try.func18 rfl (Nat.le_of_ble_eq_true rfl) (Nat.le_of_ble_eq_true rfl) (Nat.le_of_ble_eq_true rfl) (Nat.le_of_ble_eq_true rfl) ?_
    repeat' (first
      | (refine sk_id ?_; first
        | refine sk_call (inst_tab hE 0 1 2 3 (by decide) rfl rfl rfl rfl rfl rfl rfl) rfl rfl rfl rfl rfl rfl (by kernel_rfl) rfl ?_
        | refine sk_call (inst_tab hpl 0 1 2 3 (by decide) rfl rfl rfl rfl rfl rfl rfl) rfl rfl rfl rfl rfl rfl (by kernel_rfl) rfl ?_
        | refine sk_call (inst_tab (at_some ha hp (by omega) (by omega)) 0 1 2 3 (by decide) rfl rfl rfl rfl rfl (by simp [XV.shut, X1.shut, XC.shut, kc_shut]) rfl) rfl rfl rfl rfl rfl rfl (by kernel_rfl) rfl ?_
        | refine sk_load rfl rfl rfl rfl rfl rfl (kc_qp _) ?_
        | refine sk_move rfl rfl rfl rfl (c := .one _) rfl ?_
        | refine sk_assign rfl rfl rfl rfl (c := .one _) rfl ?_
        | refine sk_add rfl rfl rfl rfl rfl rfl (by omega) ?_
        | refine sk_sub rfl rfl rfl rfl rfl rfl (by omega) ?_
        | refine sk_mul rfl rfl rfl rfl rfl rfl (by omega) ?_
        | refine sk_load rfl rfl rfl rfl rfl rfl rfl ?_
        | refine sk_fld rfl rfl rfl rfl rfl (by first | (simp only [Nat.zero_add, Nat.mul_one, Nat.reduceAdd, Nat.reduceMul, Int.reduceToNat, Nat.add_zero, Int.toNat_natCast]; exact rfl) | exact rfl) ?_
        | refine sk_true rfl rfl rfl rfl rfl rfl rfl (by omega) ?_
        | refine sk_false rfl rfl rfl rfl rfl rfl rfl (by omega) ?_
        | refine sk_netrue rfl rfl rfl rfl rfl rfl (by omega) ?_
        | refine sk_nefalse rfl rfl rfl rfl rfl rfl (by omega) ?_
        | refine sk_fork rfl rfl rfl rfl rfl rfl rfl (fun _ => ?_) (fun _ => ?_)
        | refine sk_forkn rfl rfl rfl rfl rfl rfl (fun _ => ?_) (fun _ => ?_)
        | refine sk_nil rfl rfl rfl rfl rfl ?_
        | refine sk_idxa rfl rfl rfl rfl rfl rfl (by omega) (by first | (simp only [Nat.zero_add, Nat.mul_one, Nat.reduceAdd, Nat.reduceMul, Int.reduceToNat, Nat.add_zero, Int.toNat_natCast]; exact rfl) | exact rfl) ?_
        | refine sk_loadall rfl rfl rfl rfl rfl rfl rfl ?_
        | refine sk_loada rfl rfl rfl rfl rfl rfl (by decide) rfl ?_
        | refine sk_quo rfl rfl rfl rfl rfl rfl (by omega) (by omega) ?_
        | refine sk_rem rfl rfl rfl rfl rfl rfl (by omega) (by omega) ?_
        | refine sk_max rfl rfl rfl rfl rfl rfl (Int.max_eq_left (by omega)) ?_
        | refine sk_max rfl rfl rfl rfl rfl rfl (Int.max_eq_right (by omega)) ?_
        | refine sk_max rfl rfl rfl rfl rfl rfl rfl ?_
        | refine sk_min rfl rfl rfl rfl rfl rfl (Int.min_eq_left (by omega)) ?_
        | refine sk_min rfl rfl rfl rfl rfl rfl (Int.min_eq_right (by omega)) ?_
        | refine sk_min rfl rfl rfl rfl rfl rfl rfl ?_
        | refine sk_conv rfl rfl rfl rfl rfl (by first | exact IntWalk.i64_in _ (by omega) | rfl) ?_
        | refine sk_pickT rfl rfl rfl rfl rfl rfl ?_
        | refine sk_pickF rfl rfl rfl rfl rfl rfl ?_
        | refine sk_not rfl rfl rfl rfl rfl rfl ?_
        | refine sk_build0 rfl rfl rfl rfl ?_
        | refine sk_build0A rfl rfl rfl rfl ?_
        | refine sk_buildA rfl rfl rfl rfl rfl rfl (by first | (simp only [List.cons_append, List.nil_append, List.append_nil]; exact rfl) | exact rfl) ?_
        | refine sk_buildS rfl rfl rfl rfl rfl rfl (by first | (simp only [List.cons_append, List.nil_append, List.append_nil]; exact rfl) | exact rfl) ?_
        | refine sk_nnp rfl rfl rfl rfl rfl ?_
        | refine sk_makemap rfl rfl rfl rfl (by first | (simp only [List.length_cons, List.length_nil, List.length_append, Nat.reduceAdd, Nat.zero_add]; exact rfl) | exact rfl) rfl (by first | (simp only [List.cons_append, List.nil_append]; exact rfl) | exact rfl) ?_
        | refine sk_alloc rfl rfl rfl rfl (by first | (simp only [List.length_cons, List.length_nil, List.length_append, Nat.reduceAdd, Nat.zero_add]; exact rfl) | exact rfl) rfl (by first | (simp only [List.cons_append, List.nil_append]; exact rfl) | exact rfl) ?_
        | refine sk_box rfl rfl rfl rfl rfl (by first | (simp only [List.length_cons, List.length_nil, List.length_append, Nat.reduceAdd, Nat.zero_add]; exact rfl) | exact rfl) rfl (by first | (simp only [List.cons_append, List.nil_append]; exact rfl) | exact rfl) ?_
        | refine sk_store rfl rfl rfl rfl rfl rfl (by decide) (by first | (simp only [List.set_cons_succ, List.set_cons_zero]; exact rfl) | exact rfl) (by first | (simp only [List.set_cons_succ, List.set_cons_zero]; exact rfl) | exact rfl) ?_
        | refine sk_storea rfl rfl rfl rfl rfl rfl rfl rfl (by first | (simp only [List.set_cons_succ, List.set_cons_zero]; exact rfl) | exact rfl) ?_
        | refine sk_ext rfl rfl rfl rfl rfl rfl ?_
        | refine sk_exta rfl rfl rfl rfl rfl rfl ?_
        | refine sk_idxs rfl rfl rfl rfl rfl rfl (by omega) (by first | (simp only [Nat.zero_add, Nat.mul_one, Nat.reduceAdd, Nat.reduceMul, Int.reduceToNat, Nat.add_zero, Int.toNat_natCast]; exact rfl) | exact rfl) ?_
        | refine sk_lens rfl rfl rfl rfl rfl ?_
        | refine sk_field rfl rfl rfl rfl rfl rfl ?_
        | refine sk_move rfl rfl rfl rfl (c := .agg _) rfl ?_
        | refine sk_assign rfl rfl rfl rfl (c := .agg _) rfl ?_
        | refine sk_move rfl rfl rfl rfl (c := .tup _) rfl ?_
        | refine sk_assign rfl rfl rfl rfl (c := .tup _) rfl ?_
        | refine sk_skip rfl rfl rfl ?_
        | refine sk_skip0 rfl rfl ?_
        | refine sk_pure rfl rfl rfl rfl ?_)
      | refine WX.seq ?_
      | refine WX.actsC ?_
      | refine sk_last (by first | exact Consistent.nil | exact Consistent.one _ | exact Consistent.ofL (by repeat' (first | exact True.intro | refine And.intro ?_ ?_ | exact Compat.ne rfl))) ⟨by kernel_rfl, ?_⟩
      | refine sk_last (by first | exact Consistent.nil | exact Consistent.one _ | exact Consistent.ofL (by repeat' (first | exact True.intro | refine And.intro ?_ ?_ | exact Compat.ne rfl))) ?_
      | refine WX.drawsC mixed (by kernel_rfl) ?_
      | refine WX.condT rfl ?_
      | refine WX.condF rfl ?_
      | refine WX.skip ?_
      | refine WX.block ?_
      | refine WX.exit ?_
      | refine WX.ret ?_)
    refine WX.loop ?_
    refine WX.at (al' := eRegs1 0) (hs' := tabH cols rows A B C ++ [.cells (ti .i64 64 noEdge) 25 false false, .cells (ti .i64 64 (em b 8 0)) 25 false false, .cells (kcells b) 38 false false]) (less_cons rfl (less_cons rfl (less_cons rfl (less_cons rfl (less_cons rfl (less_nil _)))))) rfl ?_
    refine WX.count eRegs1 (fun n => tabH cols rows A B C ++ [.cells (ti .i64 64 noEdge) 25 false false, .cells (ti .i64 64 (em b 8 n)) 25 false false, .cells (kcells b) 38 false false]) (fun _ => True) 7 trivial ?_
    intro n hn _ ih
    refine WX.round ?_
    unfold eRegs1
    by_cases hlt : n < 7
    · have hj : (((n + 1 : Nat) : Int) * 8).toNat = (n + 1) * 8 := by omega
      repeat' (first
        | (refine sk_id ?_; first
          | refine sk_load rfl rfl rfl rfl rfl rfl (kc_lv _ _ (by omega)) ?_
          | refine sk_store rfl rfl rfl rfl rfl rfl (by rw [ti_len]; omega) (ti_set _ _ _ _ _) (by first | (simp only [List.set_cons_succ, List.set_cons_zero]; exact rfl) | exact rfl) ?_
          | refine sk_move rfl rfl rfl rfl (c := .one _) rfl ?_
          | refine sk_assign rfl rfl rfl rfl (c := .one _) rfl ?_
          | refine sk_add rfl rfl rfl rfl rfl rfl (by omega) ?_
          | refine sk_sub rfl rfl rfl rfl rfl rfl (by omega) ?_
          | refine sk_mul rfl rfl rfl rfl rfl rfl (by omega) ?_
          | refine sk_load rfl rfl rfl rfl rfl rfl rfl ?_
          | refine sk_fld rfl rfl rfl rfl rfl (by first | (simp only [Nat.zero_add, Nat.mul_one, Nat.reduceAdd, Nat.reduceMul, Int.reduceToNat, Nat.add_zero, Int.toNat_natCast]; exact rfl) | exact rfl) ?_
          | refine sk_true rfl rfl rfl rfl rfl rfl rfl (by omega) ?_
          | refine sk_false rfl rfl rfl rfl rfl rfl rfl (by omega) ?_
          | refine sk_netrue rfl rfl rfl rfl rfl rfl (by omega) ?_
          | refine sk_nefalse rfl rfl rfl rfl rfl rfl (by omega) ?_
          | refine sk_fork rfl rfl rfl rfl rfl rfl rfl (fun _ => ?_) (fun _ => ?_)
          | refine sk_forkn rfl rfl rfl rfl rfl rfl (fun _ => ?_) (fun _ => ?_)
          | refine sk_nil rfl rfl rfl rfl rfl ?_
          | refine sk_idxa rfl rfl rfl rfl rfl rfl (by omega) (by first | (simp only [Nat.zero_add, Nat.mul_one, Nat.reduceAdd, Nat.reduceMul, Int.reduceToNat, Nat.add_zero, Int.toNat_natCast]; exact rfl) | exact rfl) ?_
          | refine sk_loadall rfl rfl rfl rfl rfl rfl rfl ?_
          | refine sk_loada rfl rfl rfl rfl rfl rfl (by decide) rfl ?_
          | refine sk_quo rfl rfl rfl rfl rfl rfl (by omega) (by omega) ?_
          | refine sk_rem rfl rfl rfl rfl rfl rfl (by omega) (by omega) ?_
          | refine sk_max rfl rfl rfl rfl rfl rfl (Int.max_eq_left (by omega)) ?_
          | refine sk_max rfl rfl rfl rfl rfl rfl (Int.max_eq_right (by omega)) ?_
          | refine sk_max rfl rfl rfl rfl rfl rfl rfl ?_
          | refine sk_min rfl rfl rfl rfl rfl rfl (Int.min_eq_left (by omega)) ?_
          | refine sk_min rfl rfl rfl rfl rfl rfl (Int.min_eq_right (by omega)) ?_
          | refine sk_min rfl rfl rfl rfl rfl rfl rfl ?_
          | refine sk_conv rfl rfl rfl rfl rfl (by first | exact IntWalk.i64_in _ (by omega) | rfl) ?_
          | refine sk_pickT rfl rfl rfl rfl rfl rfl ?_
          | refine sk_pickF rfl rfl rfl rfl rfl rfl ?_
          | refine sk_not rfl rfl rfl rfl rfl rfl ?_
          | refine sk_build0 rfl rfl rfl rfl ?_
          | refine sk_build0A rfl rfl rfl rfl ?_
          | refine sk_buildA rfl rfl rfl rfl rfl rfl (by first | (simp only [List.cons_append, List.nil_append, List.append_nil]; exact rfl) | exact rfl) ?_
          | refine sk_buildS rfl rfl rfl rfl rfl rfl (by first | (simp only [List.cons_append, List.nil_append, List.append_nil]; exact rfl) | exact rfl) ?_
          | refine sk_nnp rfl rfl rfl rfl rfl ?_
          | refine sk_makemap rfl rfl rfl rfl (by first | (simp only [List.length_cons, List.length_nil, List.length_append, Nat.reduceAdd, Nat.zero_add]; exact rfl) | exact rfl) rfl (by first | (simp only [List.cons_append, List.nil_append]; exact rfl) | exact rfl) ?_
          | refine sk_alloc rfl rfl rfl rfl (by first | (simp only [List.length_cons, List.length_nil, List.length_append, Nat.reduceAdd, Nat.zero_add]; exact rfl) | exact rfl) rfl (by first | (simp only [List.cons_append, List.nil_append]; exact rfl) | exact rfl) ?_
          | refine sk_box rfl rfl rfl rfl rfl (by first | (simp only [List.length_cons, List.length_nil, List.length_append, Nat.reduceAdd, Nat.zero_add]; exact rfl) | exact rfl) rfl (by first | (simp only [List.cons_append, List.nil_append]; exact rfl) | exact rfl) ?_
          | refine sk_store rfl rfl rfl rfl rfl rfl (by decide) (by first | (simp only [List.set_cons_succ, List.set_cons_zero]; exact rfl) | exact rfl) (by first | (simp only [List.set_cons_succ, List.set_cons_zero]; exact rfl) | exact rfl) ?_
          | refine sk_storea rfl rfl rfl rfl rfl rfl rfl rfl (by first | (simp only [List.set_cons_succ, List.set_cons_zero]; exact rfl) | exact rfl) ?_
          | refine sk_ext rfl rfl rfl rfl rfl rfl ?_
          | refine sk_exta rfl rfl rfl rfl rfl rfl ?_
          | refine sk_idxs rfl rfl rfl rfl rfl rfl (by omega) (by first | (simp only [Nat.zero_add, Nat.mul_one, Nat.reduceAdd, Nat.reduceMul, Int.reduceToNat, Nat.add_zero, Int.toNat_natCast]; exact rfl) | exact rfl) ?_
          | refine sk_lens rfl rfl rfl rfl rfl ?_
          | refine sk_field rfl rfl rfl rfl rfl rfl ?_
          | refine sk_move rfl rfl rfl rfl (c := .agg _) rfl ?_
          | refine sk_assign rfl rfl rfl rfl (c := .agg _) rfl ?_
          | refine sk_move rfl rfl rfl rfl (c := .tup _) rfl ?_
          | refine sk_assign rfl rfl rfl rfl (c := .tup _) rfl ?_
          | refine sk_skip rfl rfl rfl ?_
          | refine sk_skip0 rfl rfl ?_
          | refine sk_pure rfl rfl rfl rfl ?_)
        | refine WX.seq ?_
        | refine WX.actsC ?_
        | refine sk_last (by first | exact Consistent.nil | exact Consistent.one _ | exact Consistent.ofL (by repeat' (first | exact True.intro | refine And.intro ?_ ?_ | exact Compat.ne rfl))) ⟨by kernel_rfl, ?_⟩
        | refine sk_last (by first | exact Consistent.nil | exact Consistent.one _ | exact Consistent.ofL (by repeat' (first | exact True.intro | refine And.intro ?_ ?_ | exact Compat.ne rfl))) ?_
        | refine WX.drawsC mixed (by kernel_rfl) ?_
        | refine WX.condT rfl ?_
        | refine WX.condF rfl ?_
        | refine WX.skip ?_
        | refine WX.block ?_
        | refine WX.exit ?_
        | refine WX.ret ?_)
      refine WX.at ?_ ?_ (ih hlt trivial)
      · exact less_cons rfl (less_cons rfl (less_cons rfl (less_cons rfl (less_cons rfl (less_nil _)))))
      · rw [em_succ, ← hj]
        rfl
    · obtain rfl : n = 7 := by omega
      clear ih
      repeat' (first
        | (refine sk_id ?_; first
          | refine sk_move rfl rfl rfl rfl (c := .one _) rfl ?_
          | refine sk_assign rfl rfl rfl rfl (c := .one _) rfl ?_
          | refine sk_add rfl rfl rfl rfl rfl rfl (by omega) ?_
          | refine sk_sub rfl rfl rfl rfl rfl rfl (by omega) ?_
          | refine sk_mul rfl rfl rfl rfl rfl rfl (by omega) ?_
          | refine sk_load rfl rfl rfl rfl rfl rfl rfl ?_
          | refine sk_fld rfl rfl rfl rfl rfl (by first | (simp only [Nat.zero_add, Nat.mul_one, Nat.reduceAdd, Nat.reduceMul, Int.reduceToNat, Nat.add_zero, Int.toNat_natCast]; exact rfl) | exact rfl) ?_
          | refine sk_true rfl rfl rfl rfl rfl rfl rfl (by omega) ?_
          | refine sk_false rfl rfl rfl rfl rfl rfl rfl (by omega) ?_
          | refine sk_netrue rfl rfl rfl rfl rfl rfl (by omega) ?_
          | refine sk_nefalse rfl rfl rfl rfl rfl rfl (by omega) ?_
          | refine sk_fork rfl rfl rfl rfl rfl rfl rfl (fun _ => ?_) (fun _ => ?_)
          | refine sk_forkn rfl rfl rfl rfl rfl rfl (fun _ => ?_) (fun _ => ?_)
          | refine sk_nil rfl rfl rfl rfl rfl ?_
          | refine sk_idxa rfl rfl rfl rfl rfl rfl (by omega) (by first | (simp only [Nat.zero_add, Nat.mul_one, Nat.reduceAdd, Nat.reduceMul, Int.reduceToNat, Nat.add_zero, Int.toNat_natCast]; exact rfl) | exact rfl) ?_
          | refine sk_loadall rfl rfl rfl rfl rfl rfl rfl ?_
          | refine sk_loada rfl rfl rfl rfl rfl rfl (by decide) rfl ?_
          | refine sk_quo rfl rfl rfl rfl rfl rfl (by omega) (by omega) ?_
          | refine sk_rem rfl rfl rfl rfl rfl rfl (by omega) (by omega) ?_
          | refine sk_max rfl rfl rfl rfl rfl rfl (Int.max_eq_left (by omega)) ?_
          | refine sk_max rfl rfl rfl rfl rfl rfl (Int.max_eq_right (by omega)) ?_
          | refine sk_max rfl rfl rfl rfl rfl rfl rfl ?_
          | refine sk_min rfl rfl rfl rfl rfl rfl (Int.min_eq_left (by omega)) ?_
          | refine sk_min rfl rfl rfl rfl rfl rfl (Int.min_eq_right (by omega)) ?_
          | refine sk_min rfl rfl rfl rfl rfl rfl rfl ?_
          | refine sk_conv rfl rfl rfl rfl rfl (by first | exact IntWalk.i64_in _ (by omega) | rfl) ?_
          | refine sk_pickT rfl rfl rfl rfl rfl rfl ?_
          | refine sk_pickF rfl rfl rfl rfl rfl rfl ?_
          | refine sk_not rfl rfl rfl rfl rfl rfl ?_
          | refine sk_build0 rfl rfl rfl rfl ?_
          | refine sk_build0A rfl rfl rfl rfl ?_
          | refine sk_buildA rfl rfl rfl rfl rfl rfl (by first | (simp only [List.cons_append, List.nil_append, List.append_nil]; exact rfl) | exact rfl) ?_
          | refine sk_buildS rfl rfl rfl rfl rfl rfl (by first | (simp only [List.cons_append, List.nil_append, List.append_nil]; exact rfl) | exact rfl) ?_
          | refine sk_nnp rfl rfl rfl rfl rfl ?_
          | refine sk_makemap rfl rfl rfl rfl (by first | (simp only [List.length_cons, List.length_nil, List.length_append, Nat.reduceAdd, Nat.zero_add]; exact rfl) | exact rfl) rfl (by first | (simp only [List.cons_append, List.nil_append]; exact rfl) | exact rfl) ?_
          | refine sk_alloc rfl rfl rfl rfl (by first | (simp only [List.length_cons, List.length_nil, List.length_append, Nat.reduceAdd, Nat.zero_add]; exact rfl) | exact rfl) rfl (by first | (simp only [List.cons_append, List.nil_append]; exact rfl) | exact rfl) ?_
          | refine sk_box rfl rfl rfl rfl rfl (by first | (simp only [List.length_cons, List.length_nil, List.length_append, Nat.reduceAdd, Nat.zero_add]; exact rfl) | exact rfl) rfl (by first | (simp only [List.cons_append, List.nil_append]; exact rfl) | exact rfl) ?_
          | refine sk_store rfl rfl rfl rfl rfl rfl (by decide) (by first | (simp only [List.set_cons_succ, List.set_cons_zero]; exact rfl) | exact rfl) (by first | (simp only [List.set_cons_succ, List.set_cons_zero]; exact rfl) | exact rfl) ?_
          | refine sk_storea rfl rfl rfl rfl rfl rfl rfl rfl (by first | (simp only [List.set_cons_succ, List.set_cons_zero]; exact rfl) | exact rfl) ?_
          | refine sk_ext rfl rfl rfl rfl rfl rfl ?_
          | refine sk_exta rfl rfl rfl rfl rfl rfl ?_
          | refine sk_idxs rfl rfl rfl rfl rfl rfl (by omega) (by first | (simp only [Nat.zero_add, Nat.mul_one, Nat.reduceAdd, Nat.reduceMul, Int.reduceToNat, Nat.add_zero, Int.toNat_natCast]; exact rfl) | exact rfl) ?_
          | refine sk_lens rfl rfl rfl rfl rfl ?_
          | refine sk_field rfl rfl rfl rfl rfl rfl ?_
          | refine sk_move rfl rfl rfl rfl (c := .agg _) rfl ?_
          | refine sk_assign rfl rfl rfl rfl (c := .agg _) rfl ?_
          | refine sk_move rfl rfl rfl rfl (c := .tup _) rfl ?_
          | refine sk_assign rfl rfl rfl rfl (c := .tup _) rfl ?_
          | refine sk_skip rfl rfl rfl ?_
          | refine sk_skip0 rfl rfl ?_
          | refine sk_pure rfl rfl rfl rfl ?_)
        | refine WX.seq ?_
        | refine WX.actsC ?_
        | refine sk_last (by first | exact Consistent.nil | exact Consistent.one _ | exact Consistent.ofL (by repeat' (first | exact True.intro | refine And.intro ?_ ?_ | exact Compat.ne rfl))) ⟨by kernel_rfl, ?_⟩
        | refine sk_last (by first | exact Consistent.nil | exact Consistent.one _ | exact Consistent.ofL (by repeat' (first | exact True.intro | refine And.intro ?_ ?_ | exact Compat.ne rfl))) ?_
        | refine WX.drawsC mixed (by kernel_rfl) ?_
        | refine WX.condT rfl ?_
        | refine WX.condF rfl ?_
        | refine WX.skip ?_
        | refine WX.block ?_
        | refine WX.exit ?_
        | refine WX.ret ?_)
      show KCon _ _ _ _ _ _ _ _
      refine kcon_leave (junk := _) (.inr rfl) (ResL.one rfl (.cell rfl rfl (load_whole rfl) .nil)) ?_ (ti_okN _ _ _ _) rfl (tabH_ok _ _ _ _ _)
      rfl
  · rw [if_neg hq]
    refine con_of_wx Try.func18 rfl (Nat.le_of_ble_eq_true rfl) (Nat.le_of_ble_eq_true rfl) (Nat.le_of_ble_eq_true rfl) (Nat.le_of_ble_eq_true rfl) ?_
    repeat' (first
      | (refine sk_id ?_; first
        | refine sk_call (inst_tab hE 0 1 2 3 (by decide) rfl rfl rfl rfl rfl rfl rfl) rfl rfl rfl rfl rfl rfl (by kernel_rfl) rfl ?_
        | refine sk_call (inst_tab hpl 0 1 2 3 (by decide) rfl rfl rfl rfl rfl rfl rfl) rfl rfl rfl rfl rfl rfl (by kernel_rfl) rfl ?_
        | refine sk_call (inst_tab (at_some ha hp (by omega) (by omega)) 0 1 2 3 (by decide) rfl rfl rfl rfl rfl (by simp [XV.shut, X1.shut, XC.shut, kc_shut]) rfl) rfl rfl rfl rfl rfl rfl (by kernel_rfl) rfl ?_
        | refine sk_load rfl rfl rfl rfl rfl rfl (kc_qp _) ?_
        | refine sk_move rfl rfl rfl rfl (c := .one _) rfl ?_
        | refine sk_assign rfl rfl rfl rfl (c := .one _) rfl ?_
        | refine sk_add rfl rfl rfl rfl rfl rfl (by omega) ?_
        | refine sk_sub rfl rfl rfl rfl rfl rfl (by omega) ?_
        | refine sk_mul rfl rfl rfl rfl rfl rfl (by omega) ?_
        | refine sk_load rfl rfl rfl rfl rfl rfl rfl ?_
        | refine sk_fld rfl rfl rfl rfl rfl (by first | (simp only [Nat.zero_add, Nat.mul_one, Nat.reduceAdd, Nat.reduceMul, Int.reduceToNat, Nat.add_zero, Int.toNat_natCast]; exact rfl) | exact rfl) ?_
        | refine sk_true rfl rfl rfl rfl rfl rfl rfl (by omega) ?_
        | refine sk_false rfl rfl rfl rfl rfl rfl rfl (by omega) ?_
        | refine sk_netrue rfl rfl rfl rfl rfl rfl (by omega) ?_
        | refine sk_nefalse rfl rfl rfl rfl rfl rfl (by omega) ?_
        | refine sk_fork rfl rfl rfl rfl rfl rfl rfl (fun _ => ?_) (fun _ => ?_)
        | refine sk_forkn rfl rfl rfl rfl rfl rfl (fun _ => ?_) (fun _ => ?_)
        | refine sk_nil rfl rfl rfl rfl rfl ?_
        | refine sk_idxa rfl rfl rfl rfl rfl rfl (by omega) (by first | (simp only [Nat.zero_add, Nat.mul_one, Nat.reduceAdd, Nat.reduceMul, Int.reduceToNat, Nat.add_zero, Int.toNat_natCast]; exact rfl) | exact rfl) ?_
        | refine sk_loadall rfl rfl rfl rfl rfl rfl rfl ?_
        | refine sk_loada rfl rfl rfl rfl rfl rfl (by decide) rfl ?_
        | refine sk_quo rfl rfl rfl rfl rfl rfl (by omega) (by omega) ?_
        | refine sk_rem rfl rfl rfl rfl rfl rfl (by omega) (by omega) ?_
        | refine sk_max rfl rfl rfl rfl rfl rfl (Int.max_eq_left (by omega)) ?_
        | refine sk_max rfl rfl rfl rfl rfl rfl (Int.max_eq_right (by omega)) ?_
        | refine sk_max rfl rfl rfl rfl rfl rfl rfl ?_
        | refine sk_min rfl rfl rfl rfl rfl rfl (Int.min_eq_left (by omega)) ?_
        | refine sk_min rfl rfl rfl rfl rfl rfl (Int.min_eq_right (by omega)) ?_
        | refine sk_min rfl rfl rfl rfl rfl rfl rfl ?_
        | refine sk_conv rfl rfl rfl rfl rfl (by first | exact IntWalk.i64_in _ (by omega) | rfl) ?_
        | refine sk_pickT rfl rfl rfl rfl rfl rfl ?_
        | refine sk_pickF rfl rfl rfl rfl rfl rfl ?_
        | refine sk_not rfl rfl rfl rfl rfl rfl ?_
        | refine sk_build0 rfl rfl rfl rfl ?_
        | refine sk_build0A rfl rfl rfl rfl ?_
        | refine sk_buildA rfl rfl rfl rfl rfl rfl (by first | (simp only [List.cons_append, List.nil_append, List.append_nil]; exact rfl) | exact rfl) ?_
        | refine sk_buildS rfl rfl rfl rfl rfl rfl (by first | (simp only [List.cons_append, List.nil_append, List.append_nil]; exact rfl) | exact rfl) ?_
        | refine sk_nnp rfl rfl rfl rfl rfl ?_
        | refine sk_makemap rfl rfl rfl rfl (by first | (simp only [List.length_cons, List.length_nil, List.length_append, Nat.reduceAdd, Nat.zero_add]; exact rfl) | exact rfl) rfl (by first | (simp only [List.cons_append, List.nil_append]; exact rfl) | exact rfl) ?_
        | refine sk_alloc rfl rfl rfl rfl (by first | (simp only [List.length_cons, List.length_nil, List.length_append, Nat.reduceAdd, Nat.zero_add]; exact rfl) | exact rfl) rfl (by first | (simp only [List.cons_append, List.nil_append]; exact rfl) | exact rfl) ?_
        | refine sk_box rfl rfl rfl rfl rfl (by first | (simp only [List.length_cons, List.length_nil, List.length_append, Nat.reduceAdd, Nat.zero_add]; exact rfl) | exact rfl) rfl (by first | (simp only [List.cons_append, List.nil_append]; exact rfl) | exact rfl) ?_
        | refine sk_store rfl rfl rfl rfl rfl rfl (by decide) (by first | (simp only [List.set_cons_succ, List.set_cons_zero]; exact rfl) | exact rfl) (by first | (simp only [List.set_cons_succ, List.set_cons_zero]; exact rfl) | exact rfl) ?_
        | refine sk_storea rfl rfl rfl rfl rfl rfl rfl rfl (by first | (simp only [List.set_cons_succ, List.set_cons_zero]; exact rfl) | exact rfl) ?_
        | refine sk_ext rfl rfl rfl rfl rfl rfl ?_
        | refine sk_exta rfl rfl rfl rfl rfl rfl ?_
        | refine sk_idxs rfl rfl rfl rfl rfl rfl (by omega) (by first | (simp only [Nat.zero_add, Nat.mul_one, Nat.reduceAdd, Nat.reduceMul, Int.reduceToNat, Nat.add_zero, Int.toNat_natCast]; exact rfl) | exact rfl) ?_
        | refine sk_lens rfl rfl rfl rfl rfl ?_
        | refine sk_field rfl rfl rfl rfl rfl rfl ?_
        | refine sk_move rfl rfl rfl rfl (c := .agg _) rfl ?_
        | refine sk_assign rfl rfl rfl rfl (c := .agg _) rfl ?_
        | refine sk_move rfl rfl rfl rfl (c := .tup _) rfl ?_
        | refine sk_assign rfl rfl rfl rfl (c := .tup _) rfl ?_
        | refine sk_skip rfl rfl rfl ?_
        | refine sk_skip0 rfl rfl ?_
        | refine sk_pure rfl rfl rfl rfl ?_)
      | refine WX.seq ?_
      | refine WX.actsC ?_
      | refine sk_last (by first | exact Consistent.nil | exact Consistent.one _ | exact Consistent.ofL (by repeat' (first | exact True.intro | refine And.intro ?_ ?_ | exact Compat.ne rfl))) ⟨by kernel_rfl, ?_⟩
      | refine sk_last (by first | exact Consistent.nil | exact Consistent.one _ | exact Consistent.ofL (by repeat' (first | exact True.intro | refine And.intro ?_ ?_ | exact Compat.ne rfl))) ?_
      | refine WX.drawsC mixed (by kernel_rfl) ?_
      | refine WX.condT rfl ?_
      | refine WX.condF rfl ?_
      | refine WX.skip ?_
      | refine WX.block ?_
      | refine WX.exit ?_
      | refine WX.ret ?_)
    show KCon _ _ _ _ _ _ _ _
    refine kcon_leave (junk := _) (.inr rfl) (ResL.one rfl (.cell rfl rfl (load_whole rfl) .nil)) ?_ (ti_okN _ _ _ _) rfl (tabH_ok _ _ _ _ _)
    rfl

def eRegs2 (n : Nat) : Regs := [(19, .one (.int .i64 ((n + 1 : Nat)))), (8, .one (.ptr 4 0)), (9, .one (.ptr 5 0)), (16, .one (.int .i64 1)), (17, .one (.ptr 6 0))]
set_option maxRecDepth 10000 in
set_option maxHeartbeats 1000000 in
theorem edge_2 (b : Kn) (ha : lookAt (pickTab A B C p) w x (y - 1) = some b) (hE : Con Try.prog 17 [.one (.ptr 0 0), .one (.int .i64 mb), .one (.int .i64 k), .one (.int .i64 q)] (tabH cols rows A B C) (.tup [.one (.int .u8 2), .one (.int .i64 n)]) (tabH cols rows A B C)) :
    Con Try.prog 18 [.one (.ptr 0 0), .one (.int .i64 mb), .one (.int .i64 k), .one (.int .i64 q)] (tabH cols rows A B C) (.agg (ti .i64 64 (if b.qp = q then em b 1 7 else noEdge))) (tabH cols rows A B C) := by
  by_cases hq : b.qp = q
  · rw [if_pos hq]
    refine con_of_wx Try.func18 rfl (Nat.le_of_ble_eq_true rfl) (Nat.le_of_ble_eq_true rfl) (Nat.le_of_ble_eq_true rfl) (Nat.le_of_ble_eq_true rfl) ?_
    repeat' (first
      | (refine sk_id ?_; first
        | refine sk_call (inst_tab hE 0 1 2 3 (by decide) rfl rfl rfl rfl rfl rfl rfl) rfl rfl rfl rfl rfl rfl (by kernel_rfl) rfl ?_
        | refine sk_call (inst_tab hpl 0 1 2 3 (by decide) rfl rfl rfl rfl rfl rfl rfl) rfl rfl rfl rfl rfl rfl (by kernel_rfl) rfl ?_
        | refine sk_call (inst_tab (at_some ha hp (by omega) (by omega)) 0 1 2 3 (by decide) rfl rfl rfl rfl rfl (by simp [XV.shut, X1.shut, XC.shut, kc_shut]) rfl) rfl rfl rfl rfl rfl rfl (by kernel_rfl) rfl ?_
        | refine sk_load rfl rfl rfl rfl rfl rfl (kc_qp _) ?_
        | refine sk_move rfl rfl rfl rfl (c := .one _) rfl ?_
        | refine sk_assign rfl rfl rfl rfl (c := .one _) rfl ?_
        | refine sk_add rfl rfl rfl rfl rfl rfl (by omega) ?_
        | refine sk_sub rfl rfl rfl rfl rfl rfl (by omega) ?_
        | refine sk_mul rfl rfl rfl rfl rfl rfl (by omega) ?_
        | refine sk_load rfl rfl rfl rfl rfl rfl rfl ?_
        | refine sk_fld rfl rfl rfl rfl rfl (by first | (simp only [Nat.zero_add, Nat.mul_one, Nat.reduceAdd, Nat.reduceMul, Int.reduceToNat, Nat.add_zero, Int.toNat_natCast]; exact rfl) | exact rfl) ?_
        | refine sk_true rfl rfl rfl rfl rfl rfl rfl (by omega) ?_
        | refine sk_false rfl rfl rfl rfl rfl rfl rfl (by omega) ?_
        | refine sk_netrue rfl rfl rfl rfl rfl rfl (by omega) ?_
        | refine sk_nefalse rfl rfl rfl rfl rfl rfl (by omega) ?_
        | refine sk_fork rfl rfl rfl rfl rfl rfl rfl (fun _ => ?_) (fun _ => ?_)
        | refine sk_forkn rfl rfl rfl rfl rfl rfl (fun _ => ?_) (fun _ => ?_)
        | refine sk_nil rfl rfl rfl rfl rfl ?_
        | refine sk_idxa rfl rfl rfl rfl rfl rfl (by omega) (by first | (simp only [Nat.zero_add, Nat.mul_one, Nat.reduceAdd, Nat.reduceMul, Int.reduceToNat, Nat.add_zero, Int.toNat_natCast]; exact rfl) | exact rfl) ?_
        | refine sk_loadall rfl rfl rfl rfl rfl rfl rfl ?_
        | refine sk_loada rfl rfl rfl rfl rfl rfl (by decide) rfl ?_
        | refine sk_quo rfl rfl rfl rfl rfl rfl (by omega) (by omega) ?_
        | refine sk_rem rfl rfl rfl rfl rfl rfl (by omega) (by omega) ?_
        | refine sk_max rfl rfl rfl rfl rfl rfl (Int.max_eq_left (by omega)) ?_
        | refine sk_max rfl rfl rfl rfl rfl rfl (Int.max_eq_right (by omega)) ?_
        | refine sk_max rfl rfl rfl rfl rfl rfl rfl ?_
        | refine sk_min rfl rfl rfl rfl rfl rfl (Int.min_eq_left (by omega)) ?_
        | refine sk_min rfl rfl rfl rfl rfl rfl (Int.min_eq_right (by omega)) ?_
        | refine sk_min rfl rfl rfl rfl rfl rfl rfl ?_
        | refine sk_conv rfl rfl rfl rfl rfl (by first | exact IntWalk.i64_in _ (by omega) | rfl) ?_
        | refine sk_pickT rfl rfl rfl rfl rfl rfl ?_
        | refine sk_pickF rfl rfl rfl rfl rfl rfl ?_
        | refine sk_not rfl rfl rfl rfl rfl rfl ?_
        | refine sk_build0 rfl rfl rfl rfl ?_
        | refine sk_build0A rfl rfl rfl rfl ?_
        | refine sk_buildA rfl rfl rfl rfl rfl rfl (by first | (simp only [List.cons_append, List.nil_append, List.append_nil]; exact rfl) | exact rfl) ?_
        | refine sk_buildS rfl rfl rfl rfl rfl rfl (by first | (simp only [List.cons_append, List.nil_append, List.append_nil]; exact rfl) | exact rfl) ?_
        | refine sk_nnp rfl rfl rfl rfl rfl ?_
        | refine sk_makemap rfl rfl rfl rfl (by first | (simp only [List.length_cons, List.length_nil, List.length_append, Nat.reduceAdd, Nat.zero_add]; exact rfl) | exact rfl) rfl (by first | (simp only [List.cons_append, List.nil_append]; exact rfl) | exact rfl) ?_
        | refine sk_alloc rfl rfl rfl rfl (by first | (simp only [List.length_cons, List.length_nil, List.length_append, Nat.reduceAdd, Nat.zero_add]; exact rfl) | exact rfl) rfl (by first | (simp only [List.cons_append, List.nil_append]; exact rfl) | exact rfl) ?_
        | refine sk_box rfl rfl rfl rfl rfl (by first | (simp only [List.length_cons, List.length_nil, List.length_append, Nat.reduceAdd, Nat.zero_add]; exact rfl) | exact rfl) rfl (by first | (simp only [List.cons_append, List.nil_append]; exact rfl) | exact rfl) ?_
        | refine sk_store rfl rfl rfl rfl rfl rfl (by decide) (by first | (simp only [List.set_cons_succ, List.set_cons_zero]; exact rfl) | exact rfl) (by first | (simp only [List.set_cons_succ, List.set_cons_zero]; exact rfl) | exact rfl) ?_
        | refine sk_storea rfl rfl rfl rfl rfl rfl rfl rfl (by first | (simp only [List.set_cons_succ, List.set_cons_zero]; exact rfl) | exact rfl) ?_
        | refine sk_ext rfl rfl rfl rfl rfl rfl ?_
        | refine sk_exta rfl rfl rfl rfl rfl rfl ?_
        | refine sk_idxs rfl rfl rfl rfl rfl rfl (by omega) (by first | (simp only [Nat.zero_add, Nat.mul_one, Nat.reduceAdd, Nat.reduceMul, Int.reduceToNat, Nat.add_zero, Int.toNat_natCast]; exact rfl) | exact rfl) ?_
        | refine sk_lens rfl rfl rfl rfl rfl ?_
        | refine sk_field rfl rfl rfl rfl rfl rfl ?_
        | refine sk_move rfl rfl rfl rfl (c := .agg _) rfl ?_
        | refine sk_assign rfl rfl rfl rfl (c := .agg _) rfl ?_
        | refine sk_move rfl rfl rfl rfl (c := .tup _) rfl ?_
        | refine sk_assign rfl rfl rfl rfl (c := .tup _) rfl ?_
        | refine sk_skip rfl rfl rfl ?_
        | refine sk_skip0 rfl rfl ?_
        | refine sk_pure rfl rfl rfl rfl ?_)
      | refine WX.seq ?_
      | refine WX.actsC ?_
      | refine sk_last (by first | exact Consistent.nil | exact Consistent.one _ | exact Consistent.ofL (by repeat' (first | exact True.intro | refine And.intro ?_ ?_ | exact Compat.ne rfl))) ⟨by kernel_rfl, ?_⟩
      | refine sk_last (by first | exact Consistent.nil | exact Consistent.one _ | exact Consistent.ofL (by repeat' (first | exact True.intro | refine And.intro ?_ ?_ | exact Compat.ne rfl))) ?_
      | refine WX.drawsC mixed (by kernel_rfl) ?_
      | refine WX.condT rfl ?_
      | refine WX.condF rfl ?_
      | refine WX.skip ?_
      | refine WX.block ?_
      | refine WX.exit ?_
      | refine WX.ret ?_)
    refine WX.loop ?_
    refine WX.at (al' := eRegs2 0) (hs' := tabH cols rows A B C ++ [.cells (ti .i64 64 noEdge) 25 false false, .cells (ti .i64 64 (em b 1 0)) 25 false false, .cells (kcells b) 38 false false]) (less_cons rfl (less_cons rfl (less_cons rfl (less_cons rfl (less_cons rfl (less_nil _)))))) rfl ?_
    refine WX.count eRegs2 (fun n => tabH cols rows A B C ++ [.cells (ti .i64 64 noEdge) 25 false false, .cells (ti .i64 64 (em b 1 n)) 25 false false, .cells (kcells b) 38 false false]) (fun _ => True) 7 trivial ?_
    intro n hn _ ih
    refine WX.round ?_
    unfold eRegs2
    by_cases hlt : n < 7
    · have hj : (((n + 1 : Nat) : Int) * 1).toNat = (n + 1) * 1 := by omega
      repeat' (first
        | (refine sk_id ?_; first
          | refine sk_load rfl rfl rfl rfl rfl rfl (kc_lv _ _ (by omega)) ?_
          | refine sk_store rfl rfl rfl rfl rfl rfl (by rw [ti_len]; omega) (ti_set _ _ _ _ _) (by first | (simp only [List.set_cons_succ, List.set_cons_zero]; exact rfl) | exact rfl) ?_
          | refine sk_move rfl rfl rfl rfl (c := .one _) rfl ?_
          | refine sk_assign rfl rfl rfl rfl (c := .one _) rfl ?_
          | refine sk_add rfl rfl rfl rfl rfl rfl (by omega) ?_
          | refine sk_sub rfl rfl rfl rfl rfl rfl (by omega) ?_
          | refine sk_mul rfl rfl rfl rfl rfl rfl (by omega) ?_
          | refine sk_load rfl rfl rfl rfl rfl rfl rfl ?_
          | refine sk_fld rfl rfl rfl rfl rfl (by first | (simp only [Nat.zero_add, Nat.mul_one, Nat.reduceAdd, Nat.reduceMul, Int.reduceToNat, Nat.add_zero, Int.toNat_natCast]; exact rfl) | exact rfl) ?_
          | refine sk_true rfl rfl rfl rfl rfl rfl rfl (by omega) ?_
          | refine sk_false rfl rfl rfl rfl rfl rfl rfl (by omega) ?_
          | refine sk_netrue rfl rfl rfl rfl rfl rfl (by omega) ?_
          | refine sk_nefalse rfl rfl rfl rfl rfl rfl (by omega) ?_
          | refine sk_fork rfl rfl rfl rfl rfl rfl rfl (fun _ => ?_) (fun _ => ?_)
          | refine sk_forkn rfl rfl rfl rfl rfl rfl (fun _ => ?_) (fun _ => ?_)
          | refine sk_nil rfl rfl rfl rfl rfl ?_
          | refine sk_idxa rfl rfl rfl rfl rfl rfl (by omega) (by first | (simp only [Nat.zero_add, Nat.mul_one, Nat.reduceAdd, Nat.reduceMul, Int.reduceToNat, Nat.add_zero, Int.toNat_natCast]; exact rfl) | exact rfl) ?_
          | refine sk_loadall rfl rfl rfl rfl rfl rfl rfl ?_
          | refine sk_loada rfl rfl rfl rfl rfl rfl (by decide) rfl ?_
          | refine sk_quo rfl rfl rfl rfl rfl rfl (by omega) (by omega) ?_
          | refine sk_rem rfl rfl rfl rfl rfl rfl (by omega) (by omega) ?_
          | refine sk_max rfl rfl rfl rfl rfl rfl (Int.max_eq_left (by omega)) ?_
          | refine sk_max rfl rfl rfl rfl rfl rfl (Int.max_eq_right (by omega)) ?_
          | refine sk_max rfl rfl rfl rfl rfl rfl rfl ?_
          | refine sk_min rfl rfl rfl rfl rfl rfl (Int.min_eq_left (by omega)) ?_
          | refine sk_min rfl rfl rfl rfl rfl rfl (Int.min_eq_right (by omega)) ?_
          | refine sk_min rfl rfl rfl rfl rfl rfl rfl ?_
          | refine sk_conv rfl rfl rfl rfl rfl (by first | exact IntWalk.i64_in _ (by omega) | rfl) ?_
          | refine sk_pickT rfl rfl rfl rfl rfl rfl ?_
          | refine sk_pickF rfl rfl rfl rfl rfl rfl ?_
          | refine sk_not rfl rfl rfl rfl rfl rfl ?_
          | refine sk_build0 rfl rfl rfl rfl ?_
          | refine sk_build0A rfl rfl rfl rfl ?_
          | refine sk_buildA rfl rfl rfl rfl rfl rfl (by first | (simp only [List.cons_append, List.nil_append, List.append_nil]; exact rfl) | exact rfl) ?_
          | refine sk_buildS rfl rfl rfl rfl rfl rfl (by first | (simp only [List.cons_append, List.nil_append, List.append_nil]; exact rfl) | exact rfl) ?_
          | refine sk_nnp rfl rfl rfl rfl rfl ?_
          | refine sk_makemap rfl rfl rfl rfl (by first | (simp only [List.length_cons, List.length_nil, List.length_append, Nat.reduceAdd, Nat.zero_add]; exact rfl) | exact rfl) rfl (by first | (simp only [List.cons_append, List.nil_append]; exact rfl) | exact rfl) ?_
          | refine sk_alloc rfl rfl rfl rfl (by first | (simp only [List.length_cons, List.length_nil, List.length_append, Nat.reduceAdd, Nat.zero_add]; exact rfl) | exact rfl) rfl (by first | (simp only [List.cons_append, List.nil_append]; exact rfl) | exact rfl) ?_
          | refine sk_box rfl rfl rfl rfl rfl (by first | (simp only [List.length_cons, List.length_nil, List.length_append, Nat.reduceAdd, Nat.zero_add]; exact rfl) | exact rfl) rfl (by first | (simp only [List.cons_append, List.nil_append]; exact rfl) | exact rfl) ?_
          | refine sk_store rfl rfl rfl rfl rfl rfl (by decide) (by first | (simp only [List.set_cons_succ, List.set_cons_zero]; exact rfl) | exact rfl) (by first | (simp only [List.set_cons_succ, List.set_cons_zero]; exact rfl) | exact rfl) ?_
          | refine sk_storea rfl rfl rfl rfl rfl rfl rfl rfl (by first | (simp only [List.set_cons_succ, List.set_cons_zero]; exact rfl) | exact rfl) ?_
          | refine sk_ext rfl rfl rfl rfl rfl rfl ?_
          | refine sk_exta rfl rfl rfl rfl rfl rfl ?_
          | refine sk_idxs rfl rfl rfl rfl rfl rfl (by omega) (by first | (simp only [Nat.zero_add, Nat.mul_one, Nat.reduceAdd, Nat.reduceMul, Int.reduceToNat, Nat.add_zero, Int.toNat_natCast]; exact rfl) | exact rfl) ?_
          | refine sk_lens rfl rfl rfl rfl rfl ?_
          | refine sk_field rfl rfl rfl rfl rfl rfl ?_
          | refine sk_move rfl rfl rfl rfl (c := .agg _) rfl ?_
          | refine sk_assign rfl rfl rfl rfl (c := .agg _) rfl ?_
          | refine sk_move rfl rfl rfl rfl (c := .tup _) rfl ?_
          | refine sk_assign rfl rfl rfl rfl (c := .tup _) rfl ?_
          | refine sk_skip rfl rfl rfl ?_
          | refine sk_skip0 rfl rfl ?_
          | refine sk_pure rfl rfl rfl rfl ?_)
        | refine WX.seq ?_
        | refine WX.actsC ?_
        | refine sk_last (by first | exact Consistent.nil | exact Consistent.one _ | exact Consistent.ofL (by repeat' (first | exact True.intro | refine And.intro ?_ ?_ | exact Compat.ne rfl))) ⟨by kernel_rfl, ?_⟩
        | refine sk_last (by first | exact Consistent.nil | exact Consistent.one _ | exact Consistent.ofL (by repeat' (first | exact True.intro | refine And.intro ?_ ?_ | exact Compat.ne rfl))) ?_
        | refine WX.drawsC mixed (by kernel_rfl) ?_
        | refine WX.condT rfl ?_
        | refine WX.condF rfl ?_
        | refine WX.skip ?_
        | refine WX.block ?_
        | refine WX.exit ?_
        | refine WX.ret ?_)
      refine WX.at ?_ ?_ (ih hlt trivial)
      · exact less_cons rfl (less_cons rfl (less_cons rfl (less_cons rfl (less_cons rfl (less_nil _)))))
      · rw [em_succ, ← hj]
        rfl
    · obtain rfl : n = 7 := by omega
      clear ih
      repeat' (first
        | (refine sk_id ?_; first
          | refine sk_move rfl rfl rfl rfl (c := .one _) rfl ?_
          | refine sk_assign rfl rfl rfl rfl (c := .one _) rfl ?_
          | refine sk_add rfl rfl rfl rfl rfl rfl (by omega) ?_
          | refine sk_sub rfl rfl rfl rfl rfl rfl (by omega) ?_
          | refine sk_mul rfl rfl rfl rfl rfl rfl (by omega) ?_
          | refine sk_load rfl rfl rfl rfl rfl rfl rfl ?_
          | refine sk_fld rfl rfl rfl rfl rfl (by first | (simp only [Nat.zero_add, Nat.mul_one, Nat.reduceAdd, Nat.reduceMul, Int.reduceToNat, Nat.add_zero, Int.toNat_natCast]; exact rfl) | exact rfl) ?_
          | refine sk_true rfl rfl rfl rfl rfl rfl rfl (by omega) ?_
          | refine sk_false rfl rfl rfl rfl rfl rfl rfl (by omega) ?_
          | refine sk_netrue rfl rfl rfl rfl rfl rfl (by omega) ?_
          | refine sk_nefalse rfl rfl rfl rfl rfl rfl (by omega) ?_
          | refine sk_fork rfl rfl rfl rfl rfl rfl rfl (fun _ => ?_) (fun _ => ?_)
          | refine sk_forkn rfl rfl rfl rfl rfl rfl (fun _ => ?_) (fun _ => ?_)
          | refine sk_nil rfl rfl rfl rfl rfl ?_
          | refine sk_idxa rfl rfl rfl rfl rfl rfl (by omega) (by first | (simp only [Nat.zero_add, Nat.mul_one, Nat.reduceAdd, Nat.reduceMul, Int.reduceToNat, Nat.add_zero, Int.toNat_natCast]; exact rfl) | exact rfl) ?_
          | refine sk_loadall rfl rfl rfl rfl rfl rfl rfl ?_
          | refine sk_loada rfl rfl rfl rfl rfl rfl (by decide) rfl ?_
          | refine sk_quo rfl rfl rfl rfl rfl rfl (by omega) (by omega) ?_
          | refine sk_rem rfl rfl rfl rfl rfl rfl (by omega) (by omega) ?_
          | refine sk_max rfl rfl rfl rfl rfl rfl (Int.max_eq_left (by omega)) ?_
          | refine sk_max rfl rfl rfl rfl rfl rfl (Int.max_eq_right (by omega)) ?_
          | refine sk_max rfl rfl rfl rfl rfl rfl rfl ?_
          | refine sk_min rfl rfl rfl rfl rfl rfl (Int.min_eq_left (by omega)) ?_
          | refine sk_min rfl rfl rfl rfl rfl rfl (Int.min_eq_right (by omega)) ?_
          | refine sk_min rfl rfl rfl rfl rfl rfl rfl ?_
          | refine sk_conv rfl rfl rfl rfl rfl (by first | exact IntWalk.i64_in _ (by omega) | rfl) ?_
          | refine sk_pickT rfl rfl rfl rfl rfl rfl ?_
          | refine sk_pickF rfl rfl rfl rfl rfl rfl ?_
          | refine sk_not rfl rfl rfl rfl rfl rfl ?_
          | refine sk_build0 rfl rfl rfl rfl ?_
          | refine sk_build0A rfl rfl rfl rfl ?_
          | refine sk_buildA rfl rfl rfl rfl rfl rfl (by first | (simp only [List.cons_append, List.nil_append, List.append_nil]; exact rfl) | exact rfl) ?_
          | refine sk_buildS rfl rfl rfl rfl rfl rfl (by first | (simp only [List.cons_append, List.nil_append, List.append_nil]; exact rfl) | exact rfl) ?_
          | refine sk_nnp rfl rfl rfl rfl rfl ?_
          | refine sk_makemap rfl rfl rfl rfl (by first | (simp only [List.length_cons, List.length_nil, List.length_append, Nat.reduceAdd, Nat.zero_add]; exact rfl) | exact rfl) rfl (by first | (simp only [List.cons_append, List.nil_append]; exact rfl) | exact rfl) ?_
          | refine sk_alloc rfl rfl rfl rfl (by first | (simp only [List.length_cons, List.length_nil, List.length_append, Nat.reduceAdd, Nat.zero_add]; exact rfl) | exact rfl) rfl (by first | (simp only [List.cons_append, List.nil_append]; exact rfl) | exact rfl) ?_
          | refine sk_box rfl rfl rfl rfl rfl (by first | (simp only [List.length_cons, List.length_nil, List.length_append, Nat.reduceAdd, Nat.zero_add]; exact rfl) | exact rfl) rfl (by first | (simp only [List.cons_append, List.nil_append]; exact rfl) | exact rfl) ?_
          | refine sk_store rfl rfl rfl rfl rfl rfl (by decide) (by first | (simp only [List.set_cons_succ, List.set_cons_zero]; exact rfl) | exact rfl) (by first | (simp only [List.set_cons_succ, List.set_cons_zero]; exact rfl) | exact rfl) ?_
          | refine sk_storea rfl rfl rfl rfl rfl rfl rfl rfl (by first | (simp only [List.set_cons_succ, List.set_cons_zero]; exact rfl) | exact rfl) ?_
          | refine sk_ext rfl rfl rfl rfl rfl rfl ?_
          | refine sk_exta rfl rfl rfl rfl rfl rfl ?_
          | refine sk_idxs rfl rfl rfl rfl rfl rfl (by omega) (by first | (simp only [Nat.zero_add, Nat.mul_one, Nat.reduceAdd, Nat.reduceMul, Int.reduceToNat, Nat.add_zero, Int.toNat_natCast]; exact rfl) | exact rfl) ?_
          | refine sk_lens rfl rfl rfl rfl rfl ?_
          | refine sk_field rfl rfl rfl rfl rfl rfl ?_
          | refine sk_move rfl rfl rfl rfl (c := .agg _) rfl ?_
          | refine sk_assign rfl rfl rfl rfl (c := .agg _) rfl ?_
          | refine sk_move rfl rfl rfl rfl (c := .tup _) rfl ?_
          | refine sk_assign rfl rfl rfl rfl (c := .tup _) rfl ?_
          | refine sk_skip rfl rfl rfl ?_
          | refine sk_skip0 rfl rfl ?_
          | refine sk_pure rfl rfl rfl rfl ?_)
        | refine WX.seq ?_
        | refine WX.actsC ?_
        | refine sk_last (by first | exact Consistent.nil | exact Consistent.one _ | exact Consistent.ofL (by repeat' (first | exact True.intro | refine And.intro ?_ ?_ | exact Compat.ne rfl))) ⟨by kernel_rfl, ?_⟩
        | refine sk_last (by first | exact Consistent.nil | exact Consistent.one _ | exact Consistent.ofL (by repeat' (first | exact True.intro | refine And.intro ?_ ?_ | exact Compat.ne rfl))) ?_
        | refine WX.drawsC mixed (by kernel_rfl) ?_
        | refine WX.condT rfl ?_
        | refine WX.condF rfl ?_
        | refine WX.skip ?_
        | refine WX.block ?_
        | refine WX.exit ?_
        | refine WX.ret ?_)
      show KCon _ _ _ _ _ _ _ _
      refine kcon_leave (junk := _) (.inr rfl) (ResL.one rfl (.cell rfl rfl (load_whole rfl) .nil)) ?_ (ti_okN _ _ _ _) rfl (tabH_ok _ _ _ _ _)
      rfl
  · rw [if_neg hq]
    refine con_of_wx Try.func18 rfl (Nat.le_of_ble_eq_true rfl) (Nat.le_of_ble_eq_true rfl) (Nat.le_of_ble_eq_true rfl) (Nat.le_of_ble_eq_true rfl) ?_
    repeat' (first
      | (refine sk_id ?_; first
        | refine sk_call (inst_tab hE 0 1 2 3 (by decide) rfl rfl rfl rfl rfl rfl rfl) rfl rfl rfl rfl rfl rfl (by kernel_rfl) rfl ?_
        | refine sk_call (inst_tab hpl 0 1 2 3 (by decide) rfl rfl rfl rfl rfl rfl rfl) rfl rfl rfl rfl rfl rfl (by kernel_rfl) rfl ?_
        | refine sk_call (inst_tab (at_some ha hp (by omega) (by omega)) 0 1 2 3 (by decide) rfl rfl rfl rfl rfl (by simp [XV.shut, X1.shut, XC.shut, kc_shut]) rfl) rfl rfl rfl rfl rfl rfl (by kernel_rfl) rfl ?_
        | refine sk_load rfl rfl rfl rfl rfl rfl (kc_qp _) ?_
        | refine sk_move rfl rfl rfl rfl (c := .one _) rfl ?_
        | refine sk_assign rfl rfl rfl rfl (c := .one _) rfl ?_
        | refine sk_add rfl rfl rfl rfl rfl rfl (by omega) ?_
        | refine sk_sub rfl rfl rfl rfl rfl rfl (by omega) ?_
        | refine sk_mul rfl rfl rfl rfl rfl rfl (by omega) ?_
        | refine sk_load rfl rfl rfl rfl rfl rfl rfl ?_
        | refine sk_fld rfl rfl rfl rfl rfl (by first | (simp only [Nat.zero_add, Nat.mul_one, Nat.reduceAdd, Nat.reduceMul, Int.reduceToNat, Nat.add_zero, Int.toNat_natCast]; exact rfl) | exact rfl) ?_
        | refine sk_true rfl rfl rfl rfl rfl rfl rfl (by omega) ?_
        | refine sk_false rfl rfl rfl rfl rfl rfl rfl (by omega) ?_
        | refine sk_netrue rfl rfl rfl rfl rfl rfl (by omega) ?_
        | refine sk_nefalse rfl rfl rfl rfl rfl rfl (by omega) ?_
        | refine sk_fork rfl rfl rfl rfl rfl rfl rfl (fun _ => ?_) (fun _ => ?_)
        | refine sk_forkn rfl rfl rfl rfl rfl rfl (fun _ => ?_) (fun _ => ?_)
        | refine sk_nil rfl rfl rfl rfl rfl ?_
        | refine sk_idxa rfl rfl rfl rfl rfl rfl (by omega) (by first | (simp only [Nat.zero_add, Nat.mul_one, Nat.reduceAdd, Nat.reduceMul, Int.reduceToNat, Nat.add_zero, Int.toNat_natCast]; exact rfl) | exact rfl) ?_
        | refine sk_loadall rfl rfl rfl rfl rfl rfl rfl ?_
        | refine sk_loada rfl rfl rfl rfl rfl rfl (by decide) rfl ?_
        | refine sk_quo rfl rfl rfl rfl rfl rfl (by omega) (by omega) ?_
        | refine sk_rem rfl rfl rfl rfl rfl rfl (by omega) (by omega) ?_
        | refine sk_max rfl rfl rfl rfl rfl rfl (Int.max_eq_left (by omega)) ?_
        | refine sk_max rfl rfl rfl rfl rfl rfl (Int.max_eq_right (by omega)) ?_
        | refine sk_max rfl rfl rfl rfl rfl rfl rfl ?_
        | refine sk_min rfl rfl rfl rfl rfl rfl (Int.min_eq_left (by omega)) ?_
        | refine sk_min rfl rfl rfl rfl rfl rfl (Int.min_eq_right (by omega)) ?_
        | refine sk_min rfl rfl rfl rfl rfl rfl rfl ?_
        | refine sk_conv rfl rfl rfl rfl rfl (by first | exact IntWalk.i64_in _ (by omega) | rfl) ?_
        | refine sk_pickT rfl rfl rfl rfl rfl rfl ?_
        | refine sk_pickF rfl rfl rfl rfl rfl rfl ?_
        | refine sk_not rfl rfl rfl rfl rfl rfl ?_
        | refine sk_build0 rfl rfl rfl rfl ?_
        | refine sk_build0A rfl rfl rfl rfl ?_
        | refine sk_buildA rfl rfl rfl rfl rfl rfl (by first | (simp only [List.cons_append, List.nil_append, List.append_nil]; exact rfl) | exact rfl) ?_
        | refine sk_buildS rfl rfl rfl rfl rfl rfl (by first | (simp only [List.cons_append, List.nil_append, List.append_nil]; exact rfl) | exact rfl) ?_
        | refine sk_nnp rfl rfl rfl rfl rfl ?_
        | refine sk_makemap rfl rfl rfl rfl (by first | (simp only [List.length_cons, List.length_nil, List.length_append, Nat.reduceAdd, Nat.zero_add]; exact rfl) | exact rfl) rfl (by first | (simp only [List.cons_append, List.nil_append]; exact rfl) | exact rfl) ?_
        | refine sk_alloc rfl rfl rfl rfl (by first | (simp only [List.length_cons, List.length_nil, List.length_append, Nat.reduceAdd, Nat.zero_add]; exact rfl) | exact rfl) rfl (by first | (simp only [List.cons_append, List.nil_append]; exact rfl) | exact rfl) ?_
        | refine sk_box rfl rfl rfl rfl rfl (by first | (simp only [List.length_cons, List.length_nil, List.length_append, Nat.reduceAdd, Nat.zero_add]; exact rfl) | exact rfl) rfl (by first | (simp only [List.cons_append, List.nil_append]; exact rfl) | exact rfl) ?_
        | refine sk_store rfl rfl rfl rfl rfl rfl (by decide) (by first | (simp only [List.set_cons_succ, List.set_cons_zero]; exact rfl) | exact rfl) (by first | (simp only [List.set_cons_succ, List.set_cons_zero]; exact rfl) | exact rfl) ?_
        | refine sk_storea rfl rfl rfl rfl rfl rfl rfl rfl (by first | (simp only [List.set_cons_succ, List.set_cons_zero]; exact rfl) | exact rfl) ?_
        | refine sk_ext rfl rfl rfl rfl rfl rfl ?_
        | refine sk_exta rfl rfl rfl rfl rfl rfl ?_
        | refine sk_idxs rfl rfl rfl rfl rfl rfl (by omega) (by first | (simp only [Nat.zero_add, Nat.mul_one, Nat.reduceAdd, Nat.reduceMul, Int.reduceToNat, Nat.add_zero, Int.toNat_natCast]; exact rfl) | exact rfl) ?_
        | refine sk_lens rfl rfl rfl rfl rfl ?_
        | refine sk_field rfl rfl rfl rfl rfl rfl ?_
        | refine sk_move rfl rfl rfl rfl (c := .agg _) rfl ?_
        | refine sk_assign rfl rfl rfl rfl (c := .agg _) rfl ?_
        | refine sk_move rfl rfl rfl rfl (c := .tup _) rfl ?_
        | refine sk_assign rfl rfl rfl rfl (c := .tup _) rfl ?_
        | refine sk_skip rfl rfl rfl ?_
        | refine sk_skip0 rfl rfl ?_
        | refine sk_pure rfl rfl rfl rfl ?_)
      | refine WX.seq ?_
      | refine WX.actsC ?_
      | refine sk_last (by first | exact Consistent.nil | exact Consistent.one _ | exact Consistent.ofL (by repeat' (first | exact True.intro | refine And.intro ?_ ?_ | exact Compat.ne rfl))) ⟨by kernel_rfl, ?_⟩
      | refine sk_last (by first | exact Consistent.nil | exact Consistent.one _ | exact Consistent.ofL (by repeat' (first | exact True.intro | refine And.intro ?_ ?_ | exact Compat.ne rfl))) ?_
      | refine WX.drawsC mixed (by kernel_rfl) ?_
      | refine WX.condT rfl ?_
      | refine WX.condF rfl ?_
      | refine WX.skip ?_
      | refine WX.block ?_
      | refine WX.exit ?_
      | refine WX.ret ?_)
    show KCon _ _ _ _ _ _ _ _
    refine kcon_leave (junk := _) (.inr rfl) (ResL.one rfl (.cell rfl rfl (load_whole rfl) .nil)) ?_ (ti_okN _ _ _ _) rfl (tabH_ok _ _ _ _ _)
    rfl
end
end Go.Proofs.Ytlgbbgicicnijaa
