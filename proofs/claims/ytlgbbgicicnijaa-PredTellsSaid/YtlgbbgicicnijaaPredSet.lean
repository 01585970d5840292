/-
  Contracts: a new table; a block put into it; what an act says is known.
-/
import Derived.Test.YtlgbbgicicnijaaPredAt
namespace Go.Proofs.Ytlgbbgicicnijaa
open Go.Xm
set_option linter.unusedVariables false
set_option linter.unusedSectionVars false
set_option linter.unusedSimpArgs false
variable [Atoms]

set_option maxRecDepth 10000 in
theorem new_con (cols rows : Int) (hc : 0 ≤ cols ∧ cols ≤ 8) (hr : 0 ≤ rows ∧ rows ≤ 8) : Con Try.prog 9 [.one (.int .i64 cols), .one (.int .i64 rows)] [] (.one (.ptr 0 0)) (tabH cols rows [] [] []) := by
  refine con_of_wx Try.func9 rfl (Nat.le_of_ble_eq_true rfl) (Nat.le_of_ble_eq_true rfl) (Nat.le_of_ble_eq_true rfl) (Nat.le_of_ble_eq_true rfl) ?_
  repeat' (first
    | (refine sk_id ?_; first
      | refine sk_move rfl rfl rfl rfl (c := .one _) rfl ?_
      | refine sk_assign rfl rfl rfl rfl (c := .one _) rfl ?_
      | refine sk_add rfl rfl rfl rfl rfl rfl (by omega) ?_
      | refine sk_sub rfl rfl rfl rfl rfl rfl (by omega) ?_
      | refine sk_mul rfl rfl rfl rfl rfl rfl (by omega) ?_
      | refine sk_load rfl rfl rfl rfl rfl rfl rfl ?_
      | refine sk_fld rfl rfl rfl rfl rfl (by first | (simp only [Nat.zero_add, Nat.mul_one, Nat.reduceAdd, Nat.reduceMul, Int.reduceToNat, Nat.add_zero, Int.toNat_natCast]; exact rfl) | exact rfl) ?_
      | refine sk_true rfl rfl rfl rfl rfl rfl rfl (by omega) ?_
      | refine sk_false rfl rfl rfl rfl rfl rfl rfl (by omega) ?_
      | refine sk_netrue rfl rfl rfl rfl rfl rfl (by omega) ?_
      | refine sk_nefalse rfl rfl rfl rfl rfl rfl (by omega) ?_
      | refine sk_fork rfl rfl rfl rfl rfl rfl rfl (fun _ => ?_) (fun _ => ?_)
      | refine sk_forkn rfl rfl rfl rfl rfl rfl (fun _ => ?_) (fun _ => ?_)
      | refine sk_nil rfl rfl rfl rfl rfl ?_
      | refine sk_idxa rfl rfl rfl rfl rfl rfl (by omega) (by first | (simp only [Nat.zero_add, Nat.mul_one, Nat.reduceAdd, Nat.reduceMul, Int.reduceToNat, Nat.add_zero, Int.toNat_natCast]; exact rfl) | exact rfl) ?_
      | refine sk_loadall rfl rfl rfl rfl rfl rfl rfl ?_
      | refine sk_loada rfl rfl rfl rfl rfl rfl (by decide) rfl ?_
      | refine sk_quo rfl rfl rfl rfl rfl rfl (by omega) (by omega) ?_
      | refine sk_rem rfl rfl rfl rfl rfl rfl (by omega) (by omega) ?_
      | refine sk_max rfl rfl rfl rfl rfl rfl (Int.max_eq_left (by omega)) ?_
      | refine sk_max rfl rfl rfl rfl rfl rfl (Int.max_eq_right (by omega)) ?_
      | refine sk_max rfl rfl rfl rfl rfl rfl rfl ?_
      | refine sk_min rfl rfl rfl rfl rfl rfl (Int.min_eq_left (by omega)) ?_
      | refine sk_min rfl rfl rfl rfl rfl rfl (Int.min_eq_right (by omega)) ?_
      | refine sk_min rfl rfl rfl rfl rfl rfl rfl ?_
      | refine sk_conv rfl rfl rfl rfl rfl (by first | exact IntWalk.i64_in _ (by omega) | rfl) ?_
      | refine sk_pickT rfl rfl rfl rfl rfl rfl ?_
      | refine sk_pickF rfl rfl rfl rfl rfl rfl ?_
      | refine sk_not rfl rfl rfl rfl rfl rfl ?_
      | refine sk_build0 rfl rfl rfl rfl ?_
      | refine sk_build0A rfl rfl rfl rfl ?_
      | refine sk_buildA rfl rfl rfl rfl rfl rfl (by first | (simp only [List.cons_append, List.nil_append, List.append_nil]; exact rfl) | exact rfl) ?_
      | refine sk_buildS rfl rfl rfl rfl rfl rfl (by first | (simp only [List.cons_append, List.nil_append, List.append_nil]; exact rfl) | exact rfl) ?_
      | refine sk_nnp rfl rfl rfl rfl rfl ?_
      | refine sk_makemap rfl rfl rfl rfl (by first | (simp only [List.length_cons, List.length_nil, List.length_append, Nat.reduceAdd, Nat.zero_add]; exact rfl) | exact rfl) rfl (by first | (simp only [List.cons_append, List.nil_append]; exact rfl) | exact rfl) ?_
      | refine sk_alloc rfl rfl rfl rfl (by first | (simp only [List.length_cons, List.length_nil, List.length_append, Nat.reduceAdd, Nat.zero_add]; exact rfl) | exact rfl) rfl (by first | (simp only [List.cons_append, List.nil_append]; exact rfl) | exact rfl) ?_
      | refine sk_box rfl rfl rfl rfl rfl (by first | (simp only [List.length_cons, List.length_nil, List.length_append, Nat.reduceAdd, Nat.zero_add]; exact rfl) | exact rfl) rfl (by first | (simp only [List.cons_append, List.nil_append]; exact rfl) | exact rfl) ?_
      | refine sk_store rfl rfl rfl rfl rfl rfl (by decide) (by first | (simp only [List.set_cons_succ, List.set_cons_zero]; exact rfl) | exact rfl) (by first | (simp only [List.set_cons_succ, List.set_cons_zero]; exact rfl) | exact rfl) ?_
      | refine sk_storea rfl rfl rfl rfl rfl rfl rfl rfl (by first | (simp only [List.set_cons_succ, List.set_cons_zero]; exact rfl) | exact rfl) ?_
      | refine sk_ext rfl rfl rfl rfl rfl rfl ?_
      | refine sk_exta rfl rfl rfl rfl rfl rfl ?_
      | refine sk_idxs rfl rfl rfl rfl rfl rfl (by omega) (by first | (simp only [Nat.zero_add, Nat.mul_one, Nat.reduceAdd, Nat.reduceMul, Int.reduceToNat, Nat.add_zero, Int.toNat_natCast]; exact rfl) | exact rfl) ?_
      | refine sk_lens rfl rfl rfl rfl rfl ?_
      | refine sk_field rfl rfl rfl rfl rfl rfl ?_
      | refine sk_move rfl rfl rfl rfl (c := .agg _) rfl ?_
      | refine sk_assign rfl rfl rfl rfl (c := .agg _) rfl ?_
      | refine sk_move rfl rfl rfl rfl (c := .tup _) rfl ?_
      | refine sk_assign rfl rfl rfl rfl (c := .tup _) rfl ?_
      | refine sk_skip rfl rfl rfl ?_
      | refine sk_skip0 rfl rfl ?_
      | refine sk_pure rfl rfl rfl rfl ?_)
    | refine WX.seq ?_
    | refine WX.actsC ?_
    | refine sk_last (by first | exact Consistent.nil | exact Consistent.one _ | exact Consistent.ofL (by repeat' (first | exact True.intro | refine And.intro ?_ ?_ | exact Compat.ne rfl))) ⟨by kernel_rfl, ?_⟩
    | refine sk_last (by first | exact Consistent.nil | exact Consistent.one _ | exact Consistent.ofL (by repeat' (first | exact True.intro | refine And.intro ?_ ?_ | exact Compat.ne rfl))) ?_
    | refine WX.drawsC mixed (by kernel_rfl) ?_
    | refine WX.condT rfl ?_
    | refine WX.condF rfl ?_
    | refine WX.skip ?_
    | refine WX.block ?_
    | refine WX.exit ?_
    | refine WX.ret ?_)
  show KCon _ _ _ _ _ _ _ _
  refine kcon_of (nth [3, 0, 1, 2]) (.inr rfl) (fun m hm => rfl) rfl (show 0 < 4 by omega) ?_ (fun j hj => absurd hj (Nat.not_lt_zero j))
  refine viewL [3, 0, 1, 2] rfl (by decide) (tabH_ok _ _ _ _ _) fun j o hj => ?_
  match j, hj with
  | 0, hj => cases hj; rfl
  | 1, hj => cases hj; rfl
  | 2, hj => cases hj; rfl
  | 3, hj => cases hj; rfl
  | j + 4, hj => simp [tabH] at hj

/-- A block that is put. -/
def setT (p q : Int) (T : Tab) (key : Int) (b : Kn) : Tab := if p = q then putm T key b else T
set_option maxRecDepth 10000 in
set_option maxHeartbeats 1000000 in
theorem set_core (cols rows mb k p w x y : Int) (b : Kn) (A B C : Tab) (hin : insideB cols rows mb k = true) (hcr : 0 ≤ cols * rows ∧ cols * rows ≤ 64)
    (hpl : Con Try.prog 20 [.one (.ptr 0 0), .one (.int .i64 mb), .one (.int .i64 k)] (tabH cols rows A B C) (.tup [.one (.int .i64 p), .one (.int .i64 w), .one (.int .i64 x), .one (.int .i64 y)]) (tabH cols rows A B C))
    (hp : p = 0 ∨ p = 1 ∨ p = 2) (hyw : 0 ≤ y * w ∧ y * w ≤ 10000) (hx : 0 ≤ x ∧ x ≤ 10000) :
    Con Try.prog 10 [.one (.ptr 0 0), .one (.int .i64 mb), .one (.int .i64 k), .agg (kcells b)] (tabH cols rows A B C) (.tup []) (tabH cols rows (setT p 0 A (y * w + x) b) (setT p 1 B (y * w + x) b) (setT p 2 C (y * w + x) b)) := by
  have hI := inside_con cols rows mb k A B C hcr
  rw [hin] at hI
  rcases hp with rfl | rfl | rfl
  all_goals
    refine con_of_wx Try.func10 rfl (Nat.le_of_ble_eq_true rfl) (Nat.le_of_ble_eq_true rfl) (Nat.le_of_ble_eq_true rfl) (Nat.le_of_ble_eq_true rfl) ?_
    repeat' (first
      | (refine sk_id ?_; first
        | refine sk_call (inst_tab hI 0 1 2 3 (by decide) rfl rfl rfl rfl rfl rfl rfl) rfl rfl rfl rfl rfl rfl (by kernel_rfl) rfl ?_
        | refine sk_call (inst_tab hpl 0 1 2 3 (by decide) rfl rfl rfl rfl rfl rfl rfl) rfl rfl rfl rfl rfl rfl (by kernel_rfl) rfl ?_
        | refine sk_mapup (vc := kval) rfl rfl rfl ikey_ok rfl rfl rfl rfl (by first | (simp only [List.set_cons_succ, List.set_cons_zero]; exact rfl) | exact rfl) ?_
        | refine sk_move rfl rfl rfl rfl (c := .one _) rfl ?_
        | refine sk_assign rfl rfl rfl rfl (c := .one _) rfl ?_
        | refine sk_add rfl rfl rfl rfl rfl rfl (by omega) ?_
        | refine sk_sub rfl rfl rfl rfl rfl rfl (by omega) ?_
        | refine sk_mul rfl rfl rfl rfl rfl rfl (by omega) ?_
        | refine sk_load rfl rfl rfl rfl rfl rfl rfl ?_
        | refine sk_fld rfl rfl rfl rfl rfl (by first | (simp only [Nat.zero_add, Nat.mul_one, Nat.reduceAdd, Nat.reduceMul, Int.reduceToNat, Nat.add_zero, Int.toNat_natCast]; exact rfl) | exact rfl) ?_
        | refine sk_true rfl rfl rfl rfl rfl rfl rfl (by omega) ?_
        | refine sk_false rfl rfl rfl rfl rfl rfl rfl (by omega) ?_
        | refine sk_netrue rfl rfl rfl rfl rfl rfl (by omega) ?_
        | refine sk_nefalse rfl rfl rfl rfl rfl rfl (by omega) ?_
        | refine sk_fork rfl rfl rfl rfl rfl rfl rfl (fun _ => ?_) (fun _ => ?_)
        | refine sk_forkn rfl rfl rfl rfl rfl rfl (fun _ => ?_) (fun _ => ?_)
        | refine sk_nil rfl rfl rfl rfl rfl ?_
        | refine sk_idxa rfl rfl rfl rfl rfl rfl (by omega) (by first | (simp only [Nat.zero_add, Nat.mul_one, Nat.reduceAdd, Nat.reduceMul, Int.reduceToNat, Nat.add_zero, Int.toNat_natCast]; exact rfl) | exact rfl) ?_
        | refine sk_loadall rfl rfl rfl rfl rfl rfl rfl ?_
        | refine sk_loada rfl rfl rfl rfl rfl rfl (by decide) rfl ?_
        | refine sk_quo rfl rfl rfl rfl rfl rfl (by omega) (by omega) ?_
        | refine sk_rem rfl rfl rfl rfl rfl rfl (by omega) (by omega) ?_
        | refine sk_max rfl rfl rfl rfl rfl rfl (Int.max_eq_left (by omega)) ?_
        | refine sk_max rfl rfl rfl rfl rfl rfl (Int.max_eq_right (by omega)) ?_
        | refine sk_max rfl rfl rfl rfl rfl rfl rfl ?_
        | refine sk_min rfl rfl rfl rfl rfl rfl (Int.min_eq_left (by omega)) ?_
        | refine sk_min rfl rfl rfl rfl rfl rfl (Int.min_eq_right (by omega)) ?_
        | refine sk_min rfl rfl rfl rfl rfl rfl rfl ?_
        | refine sk_conv rfl rfl rfl rfl rfl (by first | exact IntWalk.i64_in _ (by omega) | rfl) ?_
        | refine sk_pickT rfl rfl rfl rfl rfl rfl ?_
        | refine sk_pickF rfl rfl rfl rfl rfl rfl ?_
        | refine sk_not rfl rfl rfl rfl rfl rfl ?_
        | refine sk_build0 rfl rfl rfl rfl ?_
        | refine sk_build0A rfl rfl rfl rfl ?_
        | refine sk_buildA rfl rfl rfl rfl rfl rfl (by first | (simp only [List.cons_append, List.nil_append, List.append_nil]; exact rfl) | exact rfl) ?_
        | refine sk_buildS rfl rfl rfl rfl rfl rfl (by first | (simp only [List.cons_append, List.nil_append, List.append_nil]; exact rfl) | exact rfl) ?_
        | refine sk_nnp rfl rfl rfl rfl rfl ?_
        | refine sk_makemap rfl rfl rfl rfl (by first | (simp only [List.length_cons, List.length_nil, List.length_append, Nat.reduceAdd, Nat.zero_add]; exact rfl) | exact rfl) rfl (by first | (simp only [List.cons_append, List.nil_append]; exact rfl) | exact rfl) ?_
        | refine sk_alloc rfl rfl rfl rfl (by first | (simp only [List.length_cons, List.length_nil, List.length_append, Nat.reduceAdd, Nat.zero_add]; exact rfl) | exact rfl) rfl (by first | (simp only [List.cons_append, List.nil_append]; exact rfl) | exact rfl) ?_
        | refine sk_box rfl rfl rfl rfl rfl (by first | (simp only [List.length_cons, List.length_nil, List.length_append, Nat.reduceAdd, Nat.zero_add]; exact rfl) | exact rfl) rfl (by first | (simp only [List.cons_append, List.nil_append]; exact rfl) | exact rfl) ?_
        | refine sk_store rfl rfl rfl rfl rfl rfl (by decide) (by first | (simp only [List.set_cons_succ, List.set_cons_zero]; exact rfl) | exact rfl) (by first | (simp only [List.set_cons_succ, List.set_cons_zero]; exact rfl) | exact rfl) ?_
        | refine sk_storea rfl rfl rfl rfl rfl rfl rfl rfl (by first | (simp only [List.set_cons_succ, List.set_cons_zero]; exact rfl) | exact rfl) ?_
        | refine sk_ext rfl rfl rfl rfl rfl rfl ?_
        | refine sk_exta rfl rfl rfl rfl rfl rfl ?_
        | refine sk_idxs rfl rfl rfl rfl rfl rfl (by omega) (by first | (simp only [Nat.zero_add, Nat.mul_one, Nat.reduceAdd, Nat.reduceMul, Int.reduceToNat, Nat.add_zero, Int.toNat_natCast]; exact rfl) | exact rfl) ?_
        | refine sk_lens rfl rfl rfl rfl rfl ?_
        | refine sk_field rfl rfl rfl rfl rfl rfl ?_
        | refine sk_move rfl rfl rfl rfl (c := .agg _) rfl ?_
        | refine sk_assign rfl rfl rfl rfl (c := .agg _) rfl ?_
        | refine sk_move rfl rfl rfl rfl (c := .tup _) rfl ?_
        | refine sk_assign rfl rfl rfl rfl (c := .tup _) rfl ?_
        | refine sk_skip rfl rfl rfl ?_
        | refine sk_skip0 rfl rfl ?_
        | refine sk_pure rfl rfl rfl rfl ?_)
      | refine WX.seq ?_
      | refine WX.actsC ?_
      | refine sk_last (by first | exact Consistent.nil | exact Consistent.one _ | exact Consistent.ofL (by repeat' (first | exact True.intro | refine And.intro ?_ ?_ | exact Compat.ne rfl))) ⟨by kernel_rfl, ?_⟩
      | refine sk_last (by first | exact Consistent.nil | exact Consistent.one _ | exact Consistent.ofL (by repeat' (first | exact True.intro | refine And.intro ?_ ?_ | exact Compat.ne rfl))) ?_
      | refine WX.drawsC mixed (by kernel_rfl) ?_
      | refine WX.condT rfl ?_
      | refine WX.condF rfl ?_
      | refine WX.skip ?_
      | refine WX.block ?_
      | refine WX.exit ?_
      | refine WX.ret ?_)
    show KCon _ _ _ _ _ _ _ _
    refine kcon_leave (junk := _) (by first | exact .inr rfl | exact .inl rfl) (ResL.zero rfl .nil) rfl (fun _ h => by cases h) rfl (tabH_ok _ _ _ _ _)

/-- So far new ones, then old ones. -/
def midf (g z : Nat → Int) (i j : Nat) : Int := if j < i then g j else z j
theorem midf_zero (g z : Nat → Int) : midf g z 0 = z := by funext j; simp [midf]
theorem midf_succ (g z : Nat → Int) (i : Nat) : upd (midf g z i) i (g i) = midf g z (i + 1) := by
  funext j
  unfold upd midf
  by_cases h : j = i
  · subst h; simp
  · by_cases h1 : j < i
    · rw [if_neg h, if_pos h1, if_pos (by omega)]
    · rw [if_neg h, if_neg h1, if_neg (by omega)]
theorem kc_congr {b b' : Kn} (h : ∀ i, i < 64 → b.lv i = b'.lv i) (hq : b.qp = b'.qp) : kcells b = kcells b' := by
  unfold kcells
  rw [ti_congr h, hq]

/-- What an act says is known. -/
def seedLv (seed : Int) (i : Nat) : Int := seed * ((i : Int) + 3) % 41 - 20
def knOf (first qp seed : Int) : Kn := ⟨fun i => if i = 0 then first % 128 else seedLv seed i, 1 + qp % 31⟩
def knRegs (i : Nat) : Regs := [(5, .one (.int .i64 (i : Nat))), (1, .one (.ptr 0 0)), (2, .one (.ptr 1 0)), (3, .one (.ptr 2 0))]
def knHeap (act : List XC) (seed : Int) (i : Nat) : Heap := [.cells act 35 false false, .cells (kcells noKn) 38 false false, .cells (kcells ⟨midf (seedLv seed) (fun _ => 0) i, 0⟩) 38 false false]
set_option maxRecDepth 10000 in
set_option maxHeartbeats 1000000 in
theorem known_con (mb k first qp seed : Int) (h1 : 0 ≤ first ∧ first < 256) (h2 : 0 ≤ qp ∧ qp < 256) (h3 : 0 ≤ seed ∧ seed < 65536) :
    Con Try.prog 11 [.agg [.int .u8 mb, .int .u8 k, .int .u8 first, .int .u8 qp, .int .u16 seed]] [] (.agg (kcells (knOf first qp seed))) [] := by
  refine con_of_wx Try.func11 rfl (Nat.le_of_ble_eq_true rfl) (Nat.le_of_ble_eq_true rfl) (Nat.le_of_ble_eq_true rfl) (Nat.le_of_ble_eq_true rfl) ?_
  repeat' (first
    | (refine sk_id ?_; first
      | refine sk_move rfl rfl rfl rfl (c := .one _) rfl ?_
      | refine sk_assign rfl rfl rfl rfl (c := .one _) rfl ?_
      | refine sk_add rfl rfl rfl rfl rfl rfl (by omega) ?_
      | refine sk_sub rfl rfl rfl rfl rfl rfl (by omega) ?_
      | refine sk_mul rfl rfl rfl rfl rfl rfl (by omega) ?_
      | refine sk_load rfl rfl rfl rfl rfl rfl rfl ?_
      | refine sk_fld rfl rfl rfl rfl rfl (by first | (simp only [Nat.zero_add, Nat.mul_one, Nat.reduceAdd, Nat.reduceMul, Int.reduceToNat, Nat.add_zero, Int.toNat_natCast]; exact rfl) | exact rfl) ?_
      | refine sk_true rfl rfl rfl rfl rfl rfl rfl (by omega) ?_
      | refine sk_false rfl rfl rfl rfl rfl rfl rfl (by omega) ?_
      | refine sk_netrue rfl rfl rfl rfl rfl rfl (by omega) ?_
      | refine sk_nefalse rfl rfl rfl rfl rfl rfl (by omega) ?_
      | refine sk_fork rfl rfl rfl rfl rfl rfl rfl (fun _ => ?_) (fun _ => ?_)
      | refine sk_forkn rfl rfl rfl rfl rfl rfl (fun _ => ?_) (fun _ => ?_)
      | refine sk_nil rfl rfl rfl rfl rfl ?_
      | refine sk_idxa rfl rfl rfl rfl rfl rfl (by omega) (by first | (simp only [Nat.zero_add, Nat.mul_one, Nat.reduceAdd, Nat.reduceMul, Int.reduceToNat, Nat.add_zero, Int.toNat_natCast]; exact rfl) | exact rfl) ?_
      | refine sk_loadall rfl rfl rfl rfl rfl rfl rfl ?_
      | refine sk_loada rfl rfl rfl rfl rfl rfl (by decide) rfl ?_
      | refine sk_quo rfl rfl rfl rfl rfl rfl (by omega) (by omega) ?_
      | refine sk_rem rfl rfl rfl rfl rfl rfl (by omega) (by omega) ?_
      | refine sk_max rfl rfl rfl rfl rfl rfl (Int.max_eq_left (by omega)) ?_
      | refine sk_max rfl rfl rfl rfl rfl rfl (Int.max_eq_right (by omega)) ?_
      | refine sk_max rfl rfl rfl rfl rfl rfl rfl ?_
      | refine sk_min rfl rfl rfl rfl rfl rfl (Int.min_eq_left (by omega)) ?_
      | refine sk_min rfl rfl rfl rfl rfl rfl (Int.min_eq_right (by omega)) ?_
      | refine sk_min rfl rfl rfl rfl rfl rfl rfl ?_
      | refine sk_conv rfl rfl rfl rfl rfl (by first | exact IntWalk.i64_in _ (by omega) | rfl) ?_
      | refine sk_pickT rfl rfl rfl rfl rfl rfl ?_
      | refine sk_pickF rfl rfl rfl rfl rfl rfl ?_
      | refine sk_not rfl rfl rfl rfl rfl rfl ?_
      | refine sk_build0 rfl rfl rfl rfl ?_
      | refine sk_build0A rfl rfl rfl rfl ?_
      | refine sk_buildA rfl rfl rfl rfl rfl rfl (by first | (simp only [List.cons_append, List.nil_append, List.append_nil]; exact rfl) | exact rfl) ?_
      | refine sk_buildS rfl rfl rfl rfl rfl rfl (by first | (simp only [List.cons_append, List.nil_append, List.append_nil]; exact rfl) | exact rfl) ?_
      | refine sk_nnp rfl rfl rfl rfl rfl ?_
      | refine sk_makemap rfl rfl rfl rfl (by first | (simp only [List.length_cons, List.length_nil, List.length_append, Nat.reduceAdd, Nat.zero_add]; exact rfl) | exact rfl) rfl (by first | (simp only [List.cons_append, List.nil_append]; exact rfl) | exact rfl) ?_
      | refine sk_alloc rfl rfl rfl rfl (by first | (simp only [List.length_cons, List.length_nil, List.length_append, Nat.reduceAdd, Nat.zero_add]; exact rfl) | exact rfl) rfl (by first | (simp only [List.cons_append, List.nil_append]; exact rfl) | exact rfl) ?_
      | refine sk_box rfl rfl rfl rfl rfl (by first | (simp only [List.length_cons, List.length_nil, List.length_append, Nat.reduceAdd, Nat.zero_add]; exact rfl) | exact rfl) rfl (by first | (simp only [List.cons_append, List.nil_append]; exact rfl) | exact rfl) ?_
      | refine sk_store rfl rfl rfl rfl rfl rfl (by decide) (by first | (simp only [List.set_cons_succ, List.set_cons_zero]; exact rfl) | exact rfl) (by first | (simp only [List.set_cons_succ, List.set_cons_zero]; exact rfl) | exact rfl) ?_
      | refine sk_storea rfl rfl rfl rfl rfl rfl rfl rfl (by first | (simp only [List.set_cons_succ, List.set_cons_zero]; exact rfl) | exact rfl) ?_
      | refine sk_ext rfl rfl rfl rfl rfl rfl ?_
      | refine sk_exta rfl rfl rfl rfl rfl rfl ?_
      | refine sk_idxs rfl rfl rfl rfl rfl rfl (by omega) (by first | (simp only [Nat.zero_add, Nat.mul_one, Nat.reduceAdd, Nat.reduceMul, Int.reduceToNat, Nat.add_zero, Int.toNat_natCast]; exact rfl) | exact rfl) ?_
      | refine sk_lens rfl rfl rfl rfl rfl ?_
      | refine sk_field rfl rfl rfl rfl rfl rfl ?_
      | refine sk_move rfl rfl rfl rfl (c := .agg _) rfl ?_
      | refine sk_assign rfl rfl rfl rfl (c := .agg _) rfl ?_
      | refine sk_move rfl rfl rfl rfl (c := .tup _) rfl ?_
      | refine sk_assign rfl rfl rfl rfl (c := .tup _) rfl ?_
      | refine sk_skip rfl rfl rfl ?_
      | refine sk_skip0 rfl rfl ?_
      | refine sk_pure rfl rfl rfl rfl ?_)
    | refine WX.seq ?_
    | refine WX.actsC ?_
    | refine sk_last (by first | exact Consistent.nil | exact Consistent.one _ | exact Consistent.ofL (by repeat' (first | exact True.intro | refine And.intro ?_ ?_ | exact Compat.ne rfl))) ⟨by kernel_rfl, ?_⟩
    | refine sk_last (by first | exact Consistent.nil | exact Consistent.one _ | exact Consistent.ofL (by repeat' (first | exact True.intro | refine And.intro ?_ ?_ | exact Compat.ne rfl))) ?_
    | refine WX.drawsC mixed (by kernel_rfl) ?_
    | refine WX.condT rfl ?_
    | refine WX.condF rfl ?_
    | refine WX.skip ?_
    | refine WX.block ?_
    | refine WX.exit ?_
    | refine WX.ret ?_)
  refine WX.loop ?_
  refine WX.at (al' := knRegs 0) (hs' := knHeap [.int .u8 mb, .int .u8 k, .int .u8 first, .int .u8 qp, .int .u16 seed] seed 0) (less_cons rfl (less_cons rfl (less_cons rfl (less_cons rfl (less_nil _))))) (by unfold knHeap; rw [midf_zero]; rfl) ?_
  refine WX.count knRegs (knHeap [.int .u8 mb, .int .u8 k, .int .u8 first, .int .u8 qp, .int .u16 seed] seed) (fun _ => True) 64 trivial ?_
  intro i hi _ ih
  refine WX.round ?_
  unfold knRegs knHeap
  by_cases hlt : i < 64
  · have hm : 0 ≤ seed * ((i : Int) + 3) ∧ seed * ((i : Int) + 3) ≤ 65535 * 66 := ⟨Int.mul_nonneg h3.1 (by omega), Int.mul_le_mul (by omega) (by omega) (by omega) (by omega)⟩
    repeat' (first
      | (refine sk_id ?_; first
        | refine sk_store rfl rfl rfl rfl rfl rfl (by rw [kc_len]; omega) (kc_setlv _ _ _ (by omega)) (by first | (simp only [List.set_cons_succ, List.set_cons_zero]; exact rfl) | exact rfl) ?_
        | refine sk_move rfl rfl rfl rfl (c := .one _) rfl ?_
        | refine sk_assign rfl rfl rfl rfl (c := .one _) rfl ?_
        | refine sk_add rfl rfl rfl rfl rfl rfl (by omega) ?_
        | refine sk_sub rfl rfl rfl rfl rfl rfl (by omega) ?_
        | refine sk_mul rfl rfl rfl rfl rfl rfl (by omega) ?_
        | refine sk_load rfl rfl rfl rfl rfl rfl rfl ?_
        | refine sk_fld rfl rfl rfl rfl rfl (by first | (simp only [Nat.zero_add, Nat.mul_one, Nat.reduceAdd, Nat.reduceMul, Int.reduceToNat, Nat.add_zero, Int.toNat_natCast]; exact rfl) | exact rfl) ?_
        | refine sk_true rfl rfl rfl rfl rfl rfl rfl (by omega) ?_
        | refine sk_false rfl rfl rfl rfl rfl rfl rfl (by omega) ?_
        | refine sk_netrue rfl rfl rfl rfl rfl rfl (by omega) ?_
        | refine sk_nefalse rfl rfl rfl rfl rfl rfl (by omega) ?_
        | refine sk_fork rfl rfl rfl rfl rfl rfl rfl (fun _ => ?_) (fun _ => ?_)
        | refine sk_forkn rfl rfl rfl rfl rfl rfl (fun _ => ?_) (fun _ => ?_)
        | refine sk_nil rfl rfl rfl rfl rfl ?_
        | refine sk_idxa rfl rfl rfl rfl rfl rfl (by omega) (by first | (simp only [Nat.zero_add, Nat.mul_one, Nat.reduceAdd, Nat.reduceMul, Int.reduceToNat, Nat.add_zero, Int.toNat_natCast]; exact rfl) | exact rfl) ?_
        | refine sk_loadall rfl rfl rfl rfl rfl rfl rfl ?_
        | refine sk_loada rfl rfl rfl rfl rfl rfl (by decide) rfl ?_
        | refine sk_quo rfl rfl rfl rfl rfl rfl (by omega) (by omega) ?_
        | refine sk_rem rfl rfl rfl rfl rfl rfl (by omega) (by omega) ?_
        | refine sk_max rfl rfl rfl rfl rfl rfl (Int.max_eq_left (by omega)) ?_
        | refine sk_max rfl rfl rfl rfl rfl rfl (Int.max_eq_right (by omega)) ?_
        | refine sk_max rfl rfl rfl rfl rfl rfl rfl ?_
        | refine sk_min rfl rfl rfl rfl rfl rfl (Int.min_eq_left (by omega)) ?_
        | refine sk_min rfl rfl rfl rfl rfl rfl (Int.min_eq_right (by omega)) ?_
        | refine sk_min rfl rfl rfl rfl rfl rfl rfl ?_
        | refine sk_conv rfl rfl rfl rfl rfl (by first | exact IntWalk.i64_in _ (by omega) | rfl) ?_
        | refine sk_pickT rfl rfl rfl rfl rfl rfl ?_
        | refine sk_pickF rfl rfl rfl rfl rfl rfl ?_
        | refine sk_not rfl rfl rfl rfl rfl rfl ?_
        | refine sk_build0 rfl rfl rfl rfl ?_
        | refine sk_build0A rfl rfl rfl rfl ?_
        | refine sk_buildA rfl rfl rfl rfl rfl rfl (by first | (simp only [List.cons_append, List.nil_append, List.append_nil]; exact rfl) | exact rfl) ?_
        | refine sk_buildS rfl rfl rfl rfl rfl rfl (by first | (simp only [List.cons_append, List.nil_append, List.append_nil]; exact rfl) | exact rfl) ?_
        | refine sk_nnp rfl rfl rfl rfl rfl ?_
        | refine sk_makemap rfl rfl rfl rfl (by first | (simp only [List.length_cons, List.length_nil, List.length_append, Nat.reduceAdd, Nat.zero_add]; exact rfl) | exact rfl) rfl (by first | (simp only [List.cons_append, List.nil_append]; exact rfl) | exact rfl) ?_
        | refine sk_alloc rfl rfl rfl rfl (by first | (simp only [List.length_cons, List.length_nil, List.length_append, Nat.reduceAdd, Nat.zero_add]; exact rfl) | exact rfl) rfl (by first | (simp only [List.cons_append, List.nil_append]; exact rfl) | exact rfl) ?_
        | refine sk_box rfl rfl rfl rfl rfl (by first | (simp only [List.length_cons, List.length_nil, List.length_append, Nat.reduceAdd, Nat.zero_add]; exact rfl) | exact rfl) rfl (by first | (simp only [List.cons_append, List.nil_append]; exact rfl) | exact rfl) ?_
        | refine sk_store rfl rfl rfl rfl rfl rfl (by decide) (by first | (simp only [List.set_cons_succ, List.set_cons_zero]; exact rfl) | exact rfl) (by first | (simp only [List.set_cons_succ, List.set_cons_zero]; exact rfl) | exact rfl) ?_
        | refine sk_storea rfl rfl rfl rfl rfl rfl rfl rfl (by first | (simp only [List.set_cons_succ, List.set_cons_zero]; exact rfl) | exact rfl) ?_
        | refine sk_ext rfl rfl rfl rfl rfl rfl ?_
        | refine sk_exta rfl rfl rfl rfl rfl rfl ?_
        | refine sk_idxs rfl rfl rfl rfl rfl rfl (by omega) (by first | (simp only [Nat.zero_add, Nat.mul_one, Nat.reduceAdd, Nat.reduceMul, Int.reduceToNat, Nat.add_zero, Int.toNat_natCast]; exact rfl) | exact rfl) ?_
        | refine sk_lens rfl rfl rfl rfl rfl ?_
        | refine sk_field rfl rfl rfl rfl rfl rfl ?_
        | refine sk_move rfl rfl rfl rfl (c := .agg _) rfl ?_
        | refine sk_assign rfl rfl rfl rfl (c := .agg _) rfl ?_
        | refine sk_move rfl rfl rfl rfl (c := .tup _) rfl ?_
        | refine sk_assign rfl rfl rfl rfl (c := .tup _) rfl ?_
        | refine sk_skip rfl rfl rfl ?_
        | refine sk_skip0 rfl rfl ?_
        | refine sk_pure rfl rfl rfl rfl ?_)
      | refine WX.seq ?_
      | refine WX.actsC ?_
      | refine sk_last (by first | exact Consistent.nil | exact Consistent.one _ | exact Consistent.ofL (by repeat' (first | exact True.intro | refine And.intro ?_ ?_ | exact Compat.ne rfl))) ⟨by kernel_rfl, ?_⟩
      | refine sk_last (by first | exact Consistent.nil | exact Consistent.one _ | exact Consistent.ofL (by repeat' (first | exact True.intro | refine And.intro ?_ ?_ | exact Compat.ne rfl))) ?_
      | refine WX.drawsC mixed (by kernel_rfl) ?_
      | refine WX.condT rfl ?_
      | refine WX.condF rfl ?_
      | refine WX.skip ?_
      | refine WX.block ?_
      | refine WX.exit ?_
      | refine WX.ret ?_)
    refine WX.at ?_ ?_ (ih hlt trivial)
    · exact less_cons rfl (less_cons rfl (less_cons rfl (less_cons rfl (less_nil _))))
    · unfold knHeap
      rw [← midf_succ]
      rfl
  · obtain rfl : i = 64 := by omega
    clear ih
    repeat' (first
      | (refine sk_id ?_; first
        | refine sk_store rfl rfl rfl rfl rfl rfl (by rw [kc_len]; omega) (kc_setlv _ _ _ (by omega)) (by first | (simp only [List.set_cons_succ, List.set_cons_zero]; exact rfl) | exact rfl) ?_
        | refine sk_store rfl rfl rfl rfl rfl rfl (by rw [kc_len]; omega) (kc_setqp _ _) (by first | (simp only [List.set_cons_succ, List.set_cons_zero]; exact rfl) | exact rfl) ?_
        | refine sk_move rfl rfl rfl rfl (c := .one _) rfl ?_
        | refine sk_assign rfl rfl rfl rfl (c := .one _) rfl ?_
        | refine sk_add rfl rfl rfl rfl rfl rfl (by omega) ?_
        | refine sk_sub rfl rfl rfl rfl rfl rfl (by omega) ?_
        | refine sk_mul rfl rfl rfl rfl rfl rfl (by omega) ?_
        | refine sk_load rfl rfl rfl rfl rfl rfl rfl ?_
        | refine sk_fld rfl rfl rfl rfl rfl (by first | (simp only [Nat.zero_add, Nat.mul_one, Nat.reduceAdd, Nat.reduceMul, Int.reduceToNat, Nat.add_zero, Int.toNat_natCast]; exact rfl) | exact rfl) ?_
        | refine sk_true rfl rfl rfl rfl rfl rfl rfl (by omega) ?_
        | refine sk_false rfl rfl rfl rfl rfl rfl rfl (by omega) ?_
        | refine sk_netrue rfl rfl rfl rfl rfl rfl (by omega) ?_
        | refine sk_nefalse rfl rfl rfl rfl rfl rfl (by omega) ?_
        | refine sk_fork rfl rfl rfl rfl rfl rfl rfl (fun _ => ?_) (fun _ => ?_)
        | refine sk_forkn rfl rfl rfl rfl rfl rfl (fun _ => ?_) (fun _ => ?_)
        | refine sk_nil rfl rfl rfl rfl rfl ?_
        | refine sk_idxa rfl rfl rfl rfl rfl rfl (by omega) (by first | (simp only [Nat.zero_add, Nat.mul_one, Nat.reduceAdd, Nat.reduceMul, Int.reduceToNat, Nat.add_zero, Int.toNat_natCast]; exact rfl) | exact rfl) ?_
        | refine sk_loadall rfl rfl rfl rfl rfl rfl rfl ?_
        | refine sk_loada rfl rfl rfl rfl rfl rfl (by decide) rfl ?_
        | refine sk_quo rfl rfl rfl rfl rfl rfl (by omega) (by omega) ?_
        | refine sk_rem rfl rfl rfl rfl rfl rfl (by omega) (by omega) ?_
        | refine sk_max rfl rfl rfl rfl rfl rfl (Int.max_eq_left (by omega)) ?_
        | refine sk_max rfl rfl rfl rfl rfl rfl (Int.max_eq_right (by omega)) ?_
        | refine sk_max rfl rfl rfl rfl rfl rfl rfl ?_
        | refine sk_min rfl rfl rfl rfl rfl rfl (Int.min_eq_left (by omega)) ?_
        | refine sk_min rfl rfl rfl rfl rfl rfl (Int.min_eq_right (by omega)) ?_
        | refine sk_min rfl rfl rfl rfl rfl rfl rfl ?_
        | refine sk_conv rfl rfl rfl rfl rfl (by first | exact IntWalk.i64_in _ (by omega) | rfl) ?_
        | refine sk_pickT rfl rfl rfl rfl rfl rfl ?_
        | refine sk_pickF rfl rfl rfl rfl rfl rfl ?_
        | refine sk_not rfl rfl rfl rfl rfl rfl ?_
        | refine sk_build0 rfl rfl rfl rfl ?_
        | refine sk_build0A rfl rfl rfl rfl ?_
        | refine sk_buildA rfl rfl rfl rfl rfl rfl (by first | (simp only [List.cons_append, List.nil_append, List.append_nil]; exact rfl) | exact rfl) ?_
        | refine sk_buildS rfl rfl rfl rfl rfl rfl (by first | (simp only [List.cons_append, List.nil_append, List.append_nil]; exact rfl) | exact rfl) ?_
        | refine sk_nnp rfl rfl rfl rfl rfl ?_
        | refine sk_makemap rfl rfl rfl rfl (by first | (simp only [List.length_cons, List.length_nil, List.length_append, Nat.reduceAdd, Nat.zero_add]; exact rfl) | exact rfl) rfl (by first | (simp only [List.cons_append, List.nil_append]; exact rfl) | exact rfl) ?_
        | refine sk_alloc rfl rfl rfl rfl (by first | (simp only [List.length_cons, List.length_nil, List.length_append, Nat.reduceAdd, Nat.zero_add]; exact rfl) | exact rfl) rfl (by first | (simp only [List.cons_append, List.nil_append]; exact rfl) | exact rfl) ?_
        | refine sk_box rfl rfl rfl rfl rfl (by first | (simp only [List.length_cons, List.length_nil, List.length_append, Nat.reduceAdd, Nat.zero_add]; exact rfl) | exact rfl) rfl (by first | (simp only [List.cons_append, List.nil_append]; exact rfl) | exact rfl) ?_
        | refine sk_store rfl rfl rfl rfl rfl rfl (by decide) (by first | (simp only [List.set_cons_succ, List.set_cons_zero]; exact rfl) | exact rfl) (by first | (simp only [List.set_cons_succ, List.set_cons_zero]; exact rfl) | exact rfl) ?_
        | refine sk_storea rfl rfl rfl rfl rfl rfl rfl rfl (by first | (simp only [List.set_cons_succ, List.set_cons_zero]; exact rfl) | exact rfl) ?_
        | refine sk_ext rfl rfl rfl rfl rfl rfl ?_
        | refine sk_exta rfl rfl rfl rfl rfl rfl ?_
        | refine sk_idxs rfl rfl rfl rfl rfl rfl (by omega) (by first | (simp only [Nat.zero_add, Nat.mul_one, Nat.reduceAdd, Nat.reduceMul, Int.reduceToNat, Nat.add_zero, Int.toNat_natCast]; exact rfl) | exact rfl) ?_
        | refine sk_lens rfl rfl rfl rfl rfl ?_
        | refine sk_field rfl rfl rfl rfl rfl rfl ?_
        | refine sk_move rfl rfl rfl rfl (c := .agg _) rfl ?_
        | refine sk_assign rfl rfl rfl rfl (c := .agg _) rfl ?_
        | refine sk_move rfl rfl rfl rfl (c := .tup _) rfl ?_
        | refine sk_assign rfl rfl rfl rfl (c := .tup _) rfl ?_
        | refine sk_skip rfl rfl rfl ?_
        | refine sk_skip0 rfl rfl ?_
        | refine sk_pure rfl rfl rfl rfl ?_)
      | refine WX.seq ?_
      | refine WX.actsC ?_
      | refine sk_last (by first | exact Consistent.nil | exact Consistent.one _ | exact Consistent.ofL (by repeat' (first | exact True.intro | refine And.intro ?_ ?_ | exact Compat.ne rfl))) ⟨by kernel_rfl, ?_⟩
      | refine sk_last (by first | exact Consistent.nil | exact Consistent.one _ | exact Consistent.ofL (by repeat' (first | exact True.intro | refine And.intro ?_ ?_ | exact Compat.ne rfl))) ?_
      | refine WX.drawsC mixed (by kernel_rfl) ?_
      | refine WX.condT rfl ?_
      | refine WX.condF rfl ?_
      | refine WX.skip ?_
      | refine WX.block ?_
      | refine WX.exit ?_
      | refine WX.ret ?_)
    refine kcon_pure (.inr rfl) (ResL.one rfl (.cell rfl rfl (load_whole rfl) .nil)) ?_ (kc_shut _)
    refine congrArg XV.agg (kc_congr (fun i hi => ?_) rfl)
    show upd (midf (seedLv seed) (fun _ => 0) 64) 0 (first % 128) i = if i = 0 then first % 128 else seedLv seed i
    unfold upd midf
    rw [if_pos hi]
end Go.Proofs.Ytlgbbgicicnijaa
