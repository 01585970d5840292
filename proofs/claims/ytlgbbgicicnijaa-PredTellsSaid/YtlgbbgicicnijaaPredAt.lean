/-
  Contracts of the table's functions: a block by its column and row; a block put.
-/
import Derived.Test.YtlgbbgicicnijaaPredTab
namespace Go.Proofs.Ytlgbbgicicnijaa
open Go.Xm
set_option linter.unusedVariables false
set_option linter.unusedSectionVars false
set_option linter.unusedSimpArgs false
variable [Atoms]

def lookAt (T : Tab) (wide x y : Int) : Option Kn := if x < 0 ∨ y < 0 ∨ wide ≤ x then none else mlook T (y * wide + x)
def found (o : Option Kn) : XV := .tup [kval (o.getD noKn), .one (.bool o.isSome)]
theorem found_ok (o : Option Kn) (n : Nat) : (found o).okN n := by
  intro x hx
  simp only [List.mem_cons, List.not_mem_nil, or_false] at hx
  rcases hx with rfl | rfl
  · exact X1.ok_of_shut (x := kval _) (kc_shut _) n
  · trivial

set_option maxRecDepth 10000 in
set_option maxHeartbeats 1000000 in
theorem at_con (cols rows p wide x y : Int) (A B C : Tab) (hp : p = 0 ∨ p = 1 ∨ p = 2) (hyw : -10000 ≤ y * wide ∧ y * wide ≤ 10000) (hx : -10000 ≤ x ∧ x ≤ 10000) :
    Con Try.prog 22 [.one (.ptr 0 0), .one (.int .i64 p), .one (.int .i64 wide), .one (.int .i64 x), .one (.int .i64 y)] (tabH cols rows A B C) (found (lookAt (pickTab A B C p) wide x y)) (tabH cols rows A B C) := by
  unfold lookAt
  by_cases hin : x < 0 ∨ y < 0 ∨ wide ≤ x
  · rw [if_pos hin]
    refine con_of_wx Try.func22 rfl (Nat.le_of_ble_eq_true rfl) (Nat.le_of_ble_eq_true rfl) (Nat.le_of_ble_eq_true rfl) (Nat.le_of_ble_eq_true rfl) ?_
    repeat' (first
      | (refine sk_id ?_; first
        | refine sk_move rfl rfl rfl rfl (c := .one _) rfl ?_
        | refine sk_assign rfl rfl rfl rfl (c := .one _) rfl ?_
        | refine sk_add rfl rfl rfl rfl rfl rfl (by omega) ?_
        | refine sk_sub rfl rfl rfl rfl rfl rfl (by omega) ?_
        | refine sk_mul rfl rfl rfl rfl rfl rfl (by omega) ?_
        | refine sk_load rfl rfl rfl rfl rfl rfl rfl ?_
        | refine sk_fld rfl rfl rfl rfl rfl (by first | (simp only [Nat.zero_add, Nat.mul_one, Nat.reduceAdd, Nat.reduceMul, Int.reduceToNat, Nat.add_zero, Int.toNat_natCast]; exact rfl) | exact rfl) ?_
        | refine sk_true rfl rfl rfl rfl rfl rfl rfl (by omega) ?_
        | refine sk_false rfl rfl rfl rfl rfl rfl rfl (by omega) ?_
        | refine sk_netrue rfl rfl rfl rfl rfl rfl (by omega) ?_
        | refine sk_nefalse rfl rfl rfl rfl rfl rfl (by omega) ?_
        | refine sk_fork rfl rfl rfl rfl rfl rfl rfl (fun _ => ?_) (fun _ => ?_)
        | refine sk_forkn rfl rfl rfl rfl rfl rfl (fun _ => ?_) (fun _ => ?_)
        | refine sk_nil rfl rfl rfl rfl rfl ?_
        | refine sk_idxa rfl rfl rfl rfl rfl rfl (by omega) (by first | (simp only [Nat.zero_add, Nat.mul_one, Nat.reduceAdd, Nat.reduceMul, Int.reduceToNat, Nat.add_zero, Int.toNat_natCast]; exact rfl) | exact rfl) ?_
        | refine sk_loadall rfl rfl rfl rfl rfl rfl rfl ?_
        | refine sk_loada rfl rfl rfl rfl rfl rfl (by decide) rfl ?_
        | refine sk_quo rfl rfl rfl rfl rfl rfl (by omega) (by omega) ?_
        | refine sk_rem rfl rfl rfl rfl rfl rfl (by omega) (by omega) ?_
        | refine sk_max rfl rfl rfl rfl rfl rfl (Int.max_eq_left (by omega)) ?_
        | refine sk_max rfl rfl rfl rfl rfl rfl (Int.max_eq_right (by omega)) ?_
        | refine sk_max rfl rfl rfl rfl rfl rfl rfl ?_
        | refine sk_min rfl rfl rfl rfl rfl rfl (Int.min_eq_left (by omega)) ?_
        | refine sk_min rfl rfl rfl rfl rfl rfl (Int.min_eq_right (by omega)) ?_
        | refine sk_min rfl rfl rfl rfl rfl rfl rfl ?_
        | refine sk_conv rfl rfl rfl rfl rfl (by first | exact IntWalk.i64_in _ (by omega) | rfl) ?_
        | refine sk_pickT rfl rfl rfl rfl rfl rfl ?_
        | refine sk_pickF rfl rfl rfl rfl rfl rfl ?_
        | refine sk_not rfl rfl rfl rfl rfl rfl ?_
        | refine sk_build0 rfl rfl rfl rfl ?_
        | refine sk_build0A rfl rfl rfl rfl ?_
        | refine sk_buildA rfl rfl rfl rfl rfl rfl (by first | (simp only [List.cons_append, List.nil_append, List.append_nil]; exact rfl) | exact rfl) ?_
        | refine sk_buildS rfl rfl rfl rfl rfl rfl (by first | (simp only [List.cons_append, List.nil_append, List.append_nil]; exact rfl) | exact rfl) ?_
        | refine sk_nnp rfl rfl rfl rfl rfl ?_
        | refine sk_makemap rfl rfl rfl rfl (by first | (simp only [List.length_cons, List.length_nil, List.length_append, Nat.reduceAdd, Nat.zero_add]; exact rfl) | exact rfl) rfl (by first | (simp only [List.cons_append, List.nil_append]; exact rfl) | exact rfl) ?_
        | refine sk_alloc rfl rfl rfl rfl (by first | (simp only [List.length_cons, List.length_nil, List.length_append, Nat.reduceAdd, Nat.zero_add]; exact rfl) | exact rfl) rfl (by first | (simp only [List.cons_append, List.nil_append]; exact rfl) | exact rfl) ?_
        | refine sk_box rfl rfl rfl rfl rfl (by first | (simp only [List.length_cons, List.length_nil, List.length_append, Nat.reduceAdd, Nat.zero_add]; exact rfl) | exact rfl) rfl (by first | (simp only [List.cons_append, List.nil_append]; exact rfl) | exact rfl) ?_
        | refine sk_store rfl rfl rfl rfl rfl rfl (by decide) (by first | (simp only [List.set_cons_succ, List.set_cons_zero]; exact rfl) | exact rfl) (by first | (simp only [List.set_cons_succ, List.set_cons_zero]; exact rfl) | exact rfl) ?_
        | refine sk_storea rfl rfl rfl rfl rfl rfl rfl rfl (by first | (simp only [List.set_cons_succ, List.set_cons_zero]; exact rfl) | exact rfl) ?_
        | refine sk_ext rfl rfl rfl rfl rfl rfl ?_
        | refine sk_exta rfl rfl rfl rfl rfl rfl ?_
        | refine sk_idxs rfl rfl rfl rfl rfl rfl (by omega) (by first | (simp only [Nat.zero_add, Nat.mul_one, Nat.reduceAdd, Nat.reduceMul, Int.reduceToNat, Nat.add_zero, Int.toNat_natCast]; exact rfl) | exact rfl) ?_
        | refine sk_lens rfl rfl rfl rfl rfl ?_
        | refine sk_field rfl rfl rfl rfl rfl rfl ?_
        | refine sk_move rfl rfl rfl rfl (c := .agg _) rfl ?_
        | refine sk_assign rfl rfl rfl rfl (c := .agg _) rfl ?_
        | refine sk_move rfl rfl rfl rfl (c := .tup _) rfl ?_
        | refine sk_assign rfl rfl rfl rfl (c := .tup _) rfl ?_
        | refine sk_skip rfl rfl rfl ?_
        | refine sk_skip0 rfl rfl ?_
        | refine sk_pure rfl rfl rfl rfl ?_)
      | refine WX.seq ?_
      | refine WX.actsC ?_
      | refine sk_last (by first | exact Consistent.nil | exact Consistent.one _ | exact Consistent.ofL (by repeat' (first | exact True.intro | refine And.intro ?_ ?_ | exact Compat.ne rfl))) ⟨by kernel_rfl, ?_⟩
      | refine sk_last (by first | exact Consistent.nil | exact Consistent.one _ | exact Consistent.ofL (by repeat' (first | exact True.intro | refine And.intro ?_ ?_ | exact Compat.ne rfl))) ?_
      | refine WX.drawsC mixed (by kernel_rfl) ?_
      | refine WX.condT rfl ?_
      | refine WX.condF rfl ?_
      | refine WX.skip ?_
      | refine WX.block ?_
      | refine WX.exit ?_
      | refine WX.ret ?_)
    all_goals
      show KCon _ _ _ _ _ _ _ _
      refine kcon_leave (junk := _) (.inr rfl) (ResL.two rfl (.cell rfl rfl (load_whole rfl) (.tmp rfl .nil))) ?_ (found_ok _ _) rfl (tabH_ok _ _ _ _ _)
      rfl
  · rw [if_neg hin]
    rcases hp with rfl | rfl | rfl
    all_goals
      refine con_of_wx Try.func22 rfl (Nat.le_of_ble_eq_true rfl) (Nat.le_of_ble_eq_true rfl) (Nat.le_of_ble_eq_true rfl) (Nat.le_of_ble_eq_true rfl) ?_
      repeat' (first
        | (refine sk_id ?_; first
          | refine sk_look rfl rfl rfl rfl ikey_ok zero38 rfl rfl rfl ?_
          | refine sk_move rfl rfl rfl rfl (c := .one _) rfl ?_
          | refine sk_assign rfl rfl rfl rfl (c := .one _) rfl ?_
          | refine sk_add rfl rfl rfl rfl rfl rfl (by omega) ?_
          | refine sk_sub rfl rfl rfl rfl rfl rfl (by omega) ?_
          | refine sk_mul rfl rfl rfl rfl rfl rfl (by omega) ?_
          | refine sk_load rfl rfl rfl rfl rfl rfl rfl ?_
          | refine sk_fld rfl rfl rfl rfl rfl (by first | (simp only [Nat.zero_add, Nat.mul_one, Nat.reduceAdd, Nat.reduceMul, Int.reduceToNat, Nat.add_zero, Int.toNat_natCast]; exact rfl) | exact rfl) ?_
          | refine sk_true rfl rfl rfl rfl rfl rfl rfl (by omega) ?_
          | refine sk_false rfl rfl rfl rfl rfl rfl rfl (by omega) ?_
          | refine sk_netrue rfl rfl rfl rfl rfl rfl (by omega) ?_
          | refine sk_nefalse rfl rfl rfl rfl rfl rfl (by omega) ?_
          | refine sk_fork rfl rfl rfl rfl rfl rfl rfl (fun _ => ?_) (fun _ => ?_)
          | refine sk_forkn rfl rfl rfl rfl rfl rfl (fun _ => ?_) (fun _ => ?_)
          | refine sk_nil rfl rfl rfl rfl rfl ?_
          | refine sk_idxa rfl rfl rfl rfl rfl rfl (by omega) (by first | (simp only [Nat.zero_add, Nat.mul_one, Nat.reduceAdd, Nat.reduceMul, Int.reduceToNat, Nat.add_zero, Int.toNat_natCast]; exact rfl) | exact rfl) ?_
          | refine sk_loadall rfl rfl rfl rfl rfl rfl rfl ?_
          | refine sk_loada rfl rfl rfl rfl rfl rfl (by decide) rfl ?_
          | refine sk_quo rfl rfl rfl rfl rfl rfl (by omega) (by omega) ?_
          | refine sk_rem rfl rfl rfl rfl rfl rfl (by omega) (by omega) ?_
          | refine sk_max rfl rfl rfl rfl rfl rfl (Int.max_eq_left (by omega)) ?_
          | refine sk_max rfl rfl rfl rfl rfl rfl (Int.max_eq_right (by omega)) ?_
          | refine sk_max rfl rfl rfl rfl rfl rfl rfl ?_
          | refine sk_min rfl rfl rfl rfl rfl rfl (Int.min_eq_left (by omega)) ?_
          | refine sk_min rfl rfl rfl rfl rfl rfl (Int.min_eq_right (by omega)) ?_
          | refine sk_min rfl rfl rfl rfl rfl rfl rfl ?_
          | refine sk_conv rfl rfl rfl rfl rfl (by first | exact IntWalk.i64_in _ (by omega) | rfl) ?_
          | refine sk_pickT rfl rfl rfl rfl rfl rfl ?_
          | refine sk_pickF rfl rfl rfl rfl rfl rfl ?_
          | refine sk_not rfl rfl rfl rfl rfl rfl ?_
          | refine sk_build0 rfl rfl rfl rfl ?_
          | refine sk_build0A rfl rfl rfl rfl ?_
          | refine sk_buildA rfl rfl rfl rfl rfl rfl (by first | (simp only [List.cons_append, List.nil_append, List.append_nil]; exact rfl) | exact rfl) ?_
          | refine sk_buildS rfl rfl rfl rfl rfl rfl (by first | (simp only [List.cons_append, List.nil_append, List.append_nil]; exact rfl) | exact rfl) ?_
          | refine sk_nnp rfl rfl rfl rfl rfl ?_
          | refine sk_makemap rfl rfl rfl rfl (by first | (simp only [List.length_cons, List.length_nil, List.length_append, Nat.reduceAdd, Nat.zero_add]; exact rfl) | exact rfl) rfl (by first | (simp only [List.cons_append, List.nil_append]; exact rfl) | exact rfl) ?_
          | refine sk_alloc rfl rfl rfl rfl (by first | (simp only [List.length_cons, List.length_nil, List.length_append, Nat.reduceAdd, Nat.zero_add]; exact rfl) | exact rfl) rfl (by first | (simp only [List.cons_append, List.nil_append]; exact rfl) | exact rfl) ?_
          | refine sk_box rfl rfl rfl rfl rfl (by first | (simp only [List.length_cons, List.length_nil, List.length_append, Nat.reduceAdd, Nat.zero_add]; exact rfl) | exact rfl) rfl (by first | (simp only [List.cons_append, List.nil_append]; exact rfl) | exact rfl) ?_
          | refine sk_store rfl rfl rfl rfl rfl rfl (by decide) (by first | (simp only [List.set_cons_succ, List.set_cons_zero]; exact rfl) | exact rfl) (by first | (simp only [List.set_cons_succ, List.set_cons_zero]; exact rfl) | exact rfl) ?_
          | refine sk_storea rfl rfl rfl rfl rfl rfl rfl rfl (by first | (simp only [List.set_cons_succ, List.set_cons_zero]; exact rfl) | exact rfl) ?_
          | refine sk_ext rfl rfl rfl rfl rfl rfl ?_
          | refine sk_exta rfl rfl rfl rfl rfl rfl ?_
          | refine sk_idxs rfl rfl rfl rfl rfl rfl (by omega) (by first | (simp only [Nat.zero_add, Nat.mul_one, Nat.reduceAdd, Nat.reduceMul, Int.reduceToNat, Nat.add_zero, Int.toNat_natCast]; exact rfl) | exact rfl) ?_
          | refine sk_lens rfl rfl rfl rfl rfl ?_
          | refine sk_field rfl rfl rfl rfl rfl rfl ?_
          | refine sk_move rfl rfl rfl rfl (c := .agg _) rfl ?_
          | refine sk_assign rfl rfl rfl rfl (c := .agg _) rfl ?_
          | refine sk_move rfl rfl rfl rfl (c := .tup _) rfl ?_
          | refine sk_assign rfl rfl rfl rfl (c := .tup _) rfl ?_
          | refine sk_skip rfl rfl rfl ?_
          | refine sk_skip0 rfl rfl ?_
          | refine sk_pure rfl rfl rfl rfl ?_)
        | refine WX.seq ?_
        | refine WX.actsC ?_
        | refine sk_last (by first | exact Consistent.nil | exact Consistent.one _ | exact Consistent.ofL (by repeat' (first | exact True.intro | refine And.intro ?_ ?_ | exact Compat.ne rfl))) ⟨by kernel_rfl, ?_⟩
        | refine sk_last (by first | exact Consistent.nil | exact Consistent.one _ | exact Consistent.ofL (by repeat' (first | exact True.intro | refine And.intro ?_ ?_ | exact Compat.ne rfl))) ?_
        | refine WX.drawsC mixed (by kernel_rfl) ?_
        | refine WX.condT rfl ?_
        | refine WX.condF rfl ?_
        | refine WX.skip ?_
        | refine WX.block ?_
        | refine WX.exit ?_
        | refine WX.ret ?_)
      show KCon _ _ _ _ _ _ _ _
      refine kcon_leave (junk := _) (.inr rfl) (ResL.two rfl (.cell rfl rfl (load_whole rfl) (.tmp rfl .nil))) ?_ (found_ok _ _) rfl (tabH_ok _ _ _ _ _)
      rfl

/-- A table's reading function, where the table lies among other objects. -/
theorem inst_tab {f : FuncId} {args : List XV} {v : XV} {cols rows : Int} {A B C : Tab} {HS : Heap} (hc : Con Try.prog f (.one (.ptr 0 0) :: args) (tabH cols rows A B C) v (tabH cols rows A B C)) (a b c d : Nat) (hd : [a, b, c, d].Nodup) (ha : HS[a]? = some (.cells [.int .i64 cols, .int .i64 rows, .map b, .map c, .map d] 55 false false)) (hb : HS[b]? = some (.map (tabEnts A))) (hcc : HS[c]? = some (.map (tabEnts B))) (hdd : HS[d]? = some (.map (tabEnts C)))
    (hs : args.all XV.shut = true) (hv : v.shut = true) (hbd : Nat.blt HS.length Mem.bound = true) : Inst.Sound Try.prog ⟨f, .one (.ptr a 0) :: args, HS, v, HS, []⟩ := by
  have hs' : ∀ x ∈ args, x.shut = true := List.all_eq_true.1 hs
  refine inst_read hc (tabH_view a b c d hd ha hb hcc hdd) (tabH_live _ _ _ _ _) (fun x hx => ?_) ?_ (XV.okN_shut hv _) (XV.ren_shut hv _) hbd rfl
  · rcases List.mem_cons.1 hx with rfl | hx
    · show 0 < 4; omega
    · exact XV.okN_shut (hs' x hx) _
  · show XV.ren _ _ :: args.map _ = _
    rw [args_ren_shut hs']
    rfl

theorem kc_setlv (b : Kn) (j : Nat) (x : Int) (h : j < 64) : (kcells b).set j (.int .i64 x) = kcells ⟨upd b.lv j x, b.qp⟩ := by
  unfold kcells
  rw [List.set_append_left _ _ (by rw [ti_len]; exact h), ti_set]
theorem kc_setqp (b : Kn) (x : Int) : (kcells b).set 64 (.int .i64 x) = kcells ⟨b.lv, x⟩ := by
  unfold kcells
  rw [List.set_append_right _ _ (by rw [ti_len]; omega), ti_len]; rfl
end Go.Proofs.Ytlgbbgicicnijaa
