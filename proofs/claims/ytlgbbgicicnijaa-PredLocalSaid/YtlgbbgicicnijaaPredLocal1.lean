/-
  PredLocal, for all its arguments: the walk.
-/
import Derived.Test.YtlgbbgicicnijaaPredLocal0
namespace Go.Proofs.Ytlgbbgicicnijaa
open Go.Xm
set_option linter.unusedVariables false
set_option linter.unusedSectionVars false
set_option linter.unusedSimpArgs false
variable [Atoms]

theorem view_dead {hs : Heap} {n : Nat} (h : n ≤ hs.length) : View id hs (List.replicate n .dead) := by
  refine ⟨fun j hj => ?_, fun _ _ _ _ h => h, fun j o hj => ?_, fun j o hj => ?_⟩
  · simp only [List.length_replicate] at hj
    show j < hs.length
    omega
  · rw [List.eq_of_mem_replicate (List.mem_of_getElem? hj)]; trivial
  · exact .inl (List.eq_of_mem_replicate (List.mem_of_getElem? hj))

/-- A round's acts, put into two tables. -/
abbrev St : Type := Nat × Tab × Tab × Tab

set_option maxRecDepth 10000 in
set_option maxHeartbeats 4000000 in
theorem local_con (la lb : List ActV) (has : ∀ a ∈ la, a.Ok) (hbs : ∀ a ∈ lb, a.Ok) (sa sb : XC) (oA oB : XObj) (hsa : SlOk sa 0 la.length) (hsb : SlOk sb 1 lb.length) (hoA : 0 < la.length → ∃ e, oA = .cells (flatActs la) e true true) (hoB : 0 < lb.length → ∃ e, oB = .cells (flatActs lb) e true true)
    (okA : ∀ n, oA.okN n) (okB : ∀ n, oB.okN n) (hlla : la.length ≤ 9223372036854775807) (hllb : lb.length ≤ 9223372036854775807) (mb k qp : Int) (hmb : 0 ≤ mb ∧ mb < 256) (hk : 0 ≤ k ∧ k < 256) (hqp : 0 ≤ qp ∧ qp < 256) :
    Con Try.prog 5 [.one sa, .one sb, .one (.int .u8 mb), .one (.int .u8 k), .one (.int .u8 qp)] [oA, oB] (.one (.bool true)) [.dead, .dead] := by
  obtain ⟨⟨p, x, y⟩, hpl⟩ : ∃ P, placeOf 3 (mb % 9) (k % 6) = P := ⟨_, rfl⟩
  have hc3 : (1 : Int) ≤ 3 ∧ (3 : Int) ≤ 8 := by omega
  have hr3 : (0 : Int) ≤ 3 ∧ (3 : Int) ≤ 8 := by omega
  have hin : insideB 3 3 (mb % 9) (k % 6) = true := insideB_iff.2 (by omega)
  have hlp := lplace_con 3 (mb % 9) (k % 6) hc3 (by omega) (by omega)
  rw [hpl] at hlp
  simp only at hlp
  by_cases hlen : 60 < la.length ∨ 60 < lb.length
  · refine con_of_wx Try.func5 rfl (Nat.le_of_ble_eq_true rfl) (Nat.le_of_ble_eq_true rfl) (Nat.le_of_ble_eq_true rfl) (Nat.le_of_ble_eq_true rfl) ?_
    repeat' (first
      | (refine sk_id ?_; first
        | refine sk_call (inst_pure awake_con rfl rfl rfl) rfl rfl rfl rfl rfl rfl (by kernel_rfl) rfl ?_
        | refine sk_lenv rfl rfl rfl rfl rfl hsa ?_
        | refine sk_lenv rfl rfl rfl rfl rfl hsb ?_
        | refine sk_move rfl rfl rfl rfl (c := .one _) rfl ?_
        | refine sk_assign rfl rfl rfl rfl (c := .one _) rfl ?_
        | refine sk_add rfl rfl rfl rfl rfl rfl (by omega) ?_
        | refine sk_sub rfl rfl rfl rfl rfl rfl (by omega) ?_
        | refine sk_mul rfl rfl rfl rfl rfl rfl (by omega) ?_
        | refine sk_load rfl rfl rfl rfl rfl rfl rfl ?_
        | refine sk_fld rfl rfl rfl rfl rfl (by first | (simp only [Nat.zero_add, Nat.mul_one, Nat.reduceAdd, Nat.reduceMul, Int.reduceToNat, Nat.add_zero, Int.toNat_natCast]; exact rfl) | exact rfl) ?_
        | refine sk_true rfl rfl rfl rfl rfl rfl rfl (by omega) ?_
        | refine sk_false rfl rfl rfl rfl rfl rfl rfl (by omega) ?_
        | refine sk_netrue rfl rfl rfl rfl rfl rfl (by omega) ?_
        | refine sk_nefalse rfl rfl rfl rfl rfl rfl (by omega) ?_
        | refine sk_fork rfl rfl rfl rfl rfl rfl rfl (fun _ => ?_) (fun _ => ?_)
        | refine sk_forkn rfl rfl rfl rfl rfl rfl (fun _ => ?_) (fun _ => ?_)
        | refine sk_nil rfl rfl rfl rfl rfl ?_
        | refine sk_idxa rfl rfl rfl rfl rfl rfl (by omega) (by first | (simp only [Nat.zero_add, Nat.mul_one, Nat.reduceAdd, Nat.reduceMul, Int.reduceToNat, Nat.add_zero, Int.toNat_natCast]; exact rfl) | exact rfl) ?_
        | refine sk_loadall rfl rfl rfl rfl rfl rfl rfl ?_
        | refine sk_loada rfl rfl rfl rfl rfl rfl (by decide) rfl ?_
        | refine sk_quo rfl rfl rfl rfl rfl rfl (by omega) (by omega) ?_
        | refine sk_rem rfl rfl rfl rfl rfl rfl (by omega) (by omega) ?_
        | refine sk_max rfl rfl rfl rfl rfl rfl (Int.max_eq_left (by omega)) ?_
        | refine sk_max rfl rfl rfl rfl rfl rfl (Int.max_eq_right (by omega)) ?_
        | refine sk_max rfl rfl rfl rfl rfl rfl rfl ?_
        | refine sk_min rfl rfl rfl rfl rfl rfl (Int.min_eq_left (by omega)) ?_
        | refine sk_min rfl rfl rfl rfl rfl rfl (Int.min_eq_right (by omega)) ?_
        | refine sk_min rfl rfl rfl rfl rfl rfl rfl ?_
        | refine sk_conv rfl rfl rfl rfl rfl (by first | exact IntWalk.i64_in _ (by omega) | rfl) ?_
        | refine sk_pickT rfl rfl rfl rfl rfl rfl ?_
        | refine sk_pickF rfl rfl rfl rfl rfl rfl ?_
        | refine sk_not rfl rfl rfl rfl rfl rfl ?_
        | refine sk_build0 rfl rfl rfl rfl ?_
        | refine sk_build0A rfl rfl rfl rfl ?_
        | refine sk_buildA rfl rfl rfl rfl rfl rfl (by first | (simp only [List.cons_append, List.nil_append, List.append_nil]; exact rfl) | exact rfl) ?_
        | refine sk_buildS rfl rfl rfl rfl rfl rfl (by first | (simp only [List.cons_append, List.nil_append, List.append_nil]; exact rfl) | exact rfl) ?_
        | refine sk_nnp rfl rfl rfl rfl rfl ?_
        | refine sk_makemap rfl rfl rfl rfl (by first | (simp only [List.length_cons, List.length_nil, List.length_append, Nat.reduceAdd, Nat.zero_add]; exact rfl) | exact rfl) rfl (by first | (simp only [List.cons_append, List.nil_append]; exact rfl) | exact rfl) ?_
        | refine sk_alloc rfl rfl rfl rfl (by first | (simp only [List.length_cons, List.length_nil, List.length_append, Nat.reduceAdd, Nat.zero_add]; exact rfl) | exact rfl) rfl (by first | (simp only [List.cons_append, List.nil_append]; exact rfl) | exact rfl) ?_
        | refine sk_box rfl rfl rfl rfl rfl (by first | (simp only [List.length_cons, List.length_nil, List.length_append, Nat.reduceAdd, Nat.zero_add]; exact rfl) | exact rfl) rfl (by first | (simp only [List.cons_append, List.nil_append]; exact rfl) | exact rfl) ?_
        | refine sk_store rfl rfl rfl rfl rfl rfl (by decide) (by first | (simp only [List.set_cons_succ, List.set_cons_zero]; exact rfl) | exact rfl) (by first | (simp only [List.set_cons_succ, List.set_cons_zero]; exact rfl) | exact rfl) ?_
        | refine sk_storea rfl rfl rfl rfl rfl rfl rfl rfl (by first | (simp only [List.set_cons_succ, List.set_cons_zero]; exact rfl) | exact rfl) ?_
        | refine sk_ext rfl rfl rfl rfl rfl rfl ?_
        | refine sk_exta rfl rfl rfl rfl rfl rfl ?_
        | refine sk_idxs rfl rfl rfl rfl rfl rfl (by omega) (by first | (simp only [Nat.zero_add, Nat.mul_one, Nat.reduceAdd, Nat.reduceMul, Int.reduceToNat, Nat.add_zero, Int.toNat_natCast]; exact rfl) | exact rfl) ?_
        | refine sk_lens rfl rfl rfl rfl rfl ?_
        | refine sk_field rfl rfl rfl rfl rfl rfl ?_
        | refine sk_move rfl rfl rfl rfl (c := .agg _) rfl ?_
        | refine sk_assign rfl rfl rfl rfl (c := .agg _) rfl ?_
        | refine sk_move rfl rfl rfl rfl (c := .tup _) rfl ?_
        | refine sk_assign rfl rfl rfl rfl (c := .tup _) rfl ?_
        | refine sk_skip rfl rfl rfl ?_
        | refine sk_skip0 rfl rfl ?_
        | refine sk_pure rfl rfl rfl rfl ?_)
      | refine WX.seq ?_
      | refine WX.actsC ?_
      | refine sk_last (by first | exact Consistent.nil | exact Consistent.one _ | exact Consistent.ofL (by repeat' (first | exact True.intro | refine And.intro ?_ ?_ | exact Compat.ne rfl))) ⟨by kernel_rfl, ?_⟩
      | refine sk_last (by first | exact Consistent.nil | exact Consistent.one _ | exact Consistent.ofL (by repeat' (first | exact True.intro | refine And.intro ?_ ?_ | exact Compat.ne rfl))) ?_
      | refine WX.drawsC mixed (by kernel_rfl) ?_
      | refine WX.condT rfl ?_
      | refine WX.condF rfl ?_
      | refine WX.skip ?_
      | refine WX.block ?_
      | refine WX.exit ?_
      | refine WX.ret ?_)
    all_goals
      show KCon _ _ _ _ _ _ _ _
      refine kcon_of id (.inr rfl) (fun m hm => rfl) ?_ trivial (view_dead (n := 2) (Nat.le_of_ble_eq_true rfl)) (fun _ _ => rfl)
      rfl
  · have hokp := place_ok (cols := 3) (rows := 3) (mb := mb % 9) (k := k % 6) hc3 hr3 (by omega) (by omega)
    rw [hpl] at hokp
    refine con_of_wx Try.func5 rfl (Nat.le_of_ble_eq_true rfl) (Nat.le_of_ble_eq_true rfl) (Nat.le_of_ble_eq_true rfl) (Nat.le_of_ble_eq_true rfl) ?_
    repeat' (first
      | (refine sk_id ?_; first
        | refine sk_call (inst_pure awake_con rfl rfl rfl) rfl rfl rfl rfl rfl rfl (by kernel_rfl) rfl ?_
        | refine sk_lenv rfl rfl rfl rfl rfl hsa ?_
        | refine sk_lenv rfl rfl rfl rfl rfl hsb ?_
        | refine sk_call (inst_new hr3 hr3 (by first | (simp only [List.length_cons, List.length_nil, List.length_append, Nat.reduceAdd, Nat.zero_add]; exact rfl) | exact rfl) (by first | (simp only [List.cons_append, List.nil_append]; exact rfl) | exact rfl) rfl) rfl rfl rfl rfl rfl rfl (by kernel_rfl) rfl ?_
        | refine sk_call (inst_pure hlp rfl rfl rfl) rfl rfl rfl rfl rfl rfl (by kernel_rfl) rfl ?_
        | refine sk_move rfl rfl rfl rfl (c := .one _) rfl ?_
        | refine sk_assign rfl rfl rfl rfl (c := .one _) rfl ?_
        | refine sk_add rfl rfl rfl rfl rfl rfl (by omega) ?_
        | refine sk_sub rfl rfl rfl rfl rfl rfl (by omega) ?_
        | refine sk_mul rfl rfl rfl rfl rfl rfl (by omega) ?_
        | refine sk_load rfl rfl rfl rfl rfl rfl rfl ?_
        | refine sk_fld rfl rfl rfl rfl rfl (by first | (simp only [Nat.zero_add, Nat.mul_one, Nat.reduceAdd, Nat.reduceMul, Int.reduceToNat, Nat.add_zero, Int.toNat_natCast]; exact rfl) | exact rfl) ?_
        | refine sk_true rfl rfl rfl rfl rfl rfl rfl (by omega) ?_
        | refine sk_false rfl rfl rfl rfl rfl rfl rfl (by omega) ?_
        | refine sk_netrue rfl rfl rfl rfl rfl rfl (by omega) ?_
        | refine sk_nefalse rfl rfl rfl rfl rfl rfl (by omega) ?_
        | refine sk_fork rfl rfl rfl rfl rfl rfl rfl (fun _ => ?_) (fun _ => ?_)
        | refine sk_forkn rfl rfl rfl rfl rfl rfl (fun _ => ?_) (fun _ => ?_)
        | refine sk_nil rfl rfl rfl rfl rfl ?_
        | refine sk_idxa rfl rfl rfl rfl rfl rfl (by omega) (by first | (simp only [Nat.zero_add, Nat.mul_one, Nat.reduceAdd, Nat.reduceMul, Int.reduceToNat, Nat.add_zero, Int.toNat_natCast]; exact rfl) | exact rfl) ?_
        | refine sk_loadall rfl rfl rfl rfl rfl rfl rfl ?_
        | refine sk_loada rfl rfl rfl rfl rfl rfl (by decide) rfl ?_
        | refine sk_quo rfl rfl rfl rfl rfl rfl (by omega) (by omega) ?_
        | refine sk_rem rfl rfl rfl rfl rfl rfl (by omega) (by omega) ?_
        | refine sk_max rfl rfl rfl rfl rfl rfl (Int.max_eq_left (by omega)) ?_
        | refine sk_max rfl rfl rfl rfl rfl rfl (Int.max_eq_right (by omega)) ?_
        | refine sk_max rfl rfl rfl rfl rfl rfl rfl ?_
        | refine sk_min rfl rfl rfl rfl rfl rfl (Int.min_eq_left (by omega)) ?_
        | refine sk_min rfl rfl rfl rfl rfl rfl (Int.min_eq_right (by omega)) ?_
        | refine sk_min rfl rfl rfl rfl rfl rfl rfl ?_
        | refine sk_conv rfl rfl rfl rfl rfl (by first | exact IntWalk.i64_in _ (by omega) | rfl) ?_
        | refine sk_pickT rfl rfl rfl rfl rfl rfl ?_
        | refine sk_pickF rfl rfl rfl rfl rfl rfl ?_
        | refine sk_not rfl rfl rfl rfl rfl rfl ?_
        | refine sk_build0 rfl rfl rfl rfl ?_
        | refine sk_build0A rfl rfl rfl rfl ?_
        | refine sk_buildA rfl rfl rfl rfl rfl rfl (by first | (simp only [List.cons_append, List.nil_append, List.append_nil]; exact rfl) | exact rfl) ?_
        | refine sk_buildS rfl rfl rfl rfl rfl rfl (by first | (simp only [List.cons_append, List.nil_append, List.append_nil]; exact rfl) | exact rfl) ?_
        | refine sk_nnp rfl rfl rfl rfl rfl ?_
        | refine sk_makemap rfl rfl rfl rfl (by first | (simp only [List.length_cons, List.length_nil, List.length_append, Nat.reduceAdd, Nat.zero_add]; exact rfl) | exact rfl) rfl (by first | (simp only [List.cons_append, List.nil_append]; exact rfl) | exact rfl) ?_
        | refine sk_alloc rfl rfl rfl rfl (by first | (simp only [List.length_cons, List.length_nil, List.length_append, Nat.reduceAdd, Nat.zero_add]; exact rfl) | exact rfl) rfl (by first | (simp only [List.cons_append, List.nil_append]; exact rfl) | exact rfl) ?_
        | refine sk_box rfl rfl rfl rfl rfl (by first | (simp only [List.length_cons, List.length_nil, List.length_append, Nat.reduceAdd, Nat.zero_add]; exact rfl) | exact rfl) rfl (by first | (simp only [List.cons_append, List.nil_append]; exact rfl) | exact rfl) ?_
        | refine sk_store rfl rfl rfl rfl rfl rfl (by decide) (by first | (simp only [List.set_cons_succ, List.set_cons_zero]; exact rfl) | exact rfl) (by first | (simp only [List.set_cons_succ, List.set_cons_zero]; exact rfl) | exact rfl) ?_
        | refine sk_storea rfl rfl rfl rfl rfl rfl rfl rfl (by first | (simp only [List.set_cons_succ, List.set_cons_zero]; exact rfl) | exact rfl) ?_
        | refine sk_ext rfl rfl rfl rfl rfl rfl ?_
        | refine sk_exta rfl rfl rfl rfl rfl rfl ?_
        | refine sk_idxs rfl rfl rfl rfl rfl rfl (by omega) (by first | (simp only [Nat.zero_add, Nat.mul_one, Nat.reduceAdd, Nat.reduceMul, Int.reduceToNat, Nat.add_zero, Int.toNat_natCast]; exact rfl) | exact rfl) ?_
        | refine sk_lens rfl rfl rfl rfl rfl ?_
        | refine sk_field rfl rfl rfl rfl rfl rfl ?_
        | refine sk_move rfl rfl rfl rfl (c := .agg _) rfl ?_
        | refine sk_assign rfl rfl rfl rfl (c := .agg _) rfl ?_
        | refine sk_move rfl rfl rfl rfl (c := .tup _) rfl ?_
        | refine sk_assign rfl rfl rfl rfl (c := .tup _) rfl ?_
        | refine sk_skip rfl rfl rfl ?_
        | refine sk_skip0 rfl rfl ?_
        | refine sk_pure rfl rfl rfl rfl ?_)
      | refine WX.seq ?_
      | refine WX.actsC ?_
      | refine sk_last (by first | exact Consistent.nil | exact Consistent.one _ | exact Consistent.ofL (by repeat' (first | exact True.intro | refine And.intro ?_ ?_ | exact Compat.ne rfl | exact (fun _ _ h => by have h' := congrArg List.length h; simp at h')))) ⟨by kernel_rfl, ?_⟩
      | refine sk_last (by first | exact Consistent.nil | exact Consistent.one _ | exact Consistent.ofL (by repeat' (first | exact True.intro | refine And.intro ?_ ?_ | exact Compat.ne rfl | exact (fun _ _ h => by have h' := congrArg List.length h; simp at h')))) ?_
      | refine WX.drawsC mixed (by kernel_rfl) ?_
      | refine WX.condT rfl ?_
      | refine WX.condF rfl ?_
      | refine WX.skip ?_
      | refine WX.block ?_
      | refine WX.exit ?_
      | refine WX.ret ?_)
    refine WX.loop ?_
    refine WX.drop (al2 := lR1 sa sb (mb % 9) (k % 6) (1 + qp % 31) la.length 0) (hs2 := lH oA oB [] [] [] [] [] [] p x y) (junk := []) (less10 rfl rfl rfl rfl rfl rfl rfl rfl rfl rfl) rfl (Nat.le_of_ble_eq_true rfl) rfl (lH_ok okA okB) (lR1_ok hsa hsb) ?_
    refine WX.while (σ := St) (fun s => lR1 sa sb (mb % 9) (k % 6) (1 + qp % 31) la.length s.1) (fun s => lH oA oB s.2.1 s.2.2.1 s.2.2.2 s.2.1 s.2.2.1 s.2.2.2 p x y) (fun s => s.1 ≤ la.length) (fun s => la.length - s.1) (0, [], [], []) (Nat.zero_le _) ?_
    rintro ⟨i, A, B, C⟩ hi ih
    simp only at hi ih
    refine WX.round ?_
    simp only [lR1, lH]
    by_cases hlt : i < la.length
    · have hag : la[i]? = some la[i] := List.getElem?_eq_getElem hlt
      have hao : (la[i]).Ok := has _ (List.getElem_mem hlt)
      have hfl := flat_at actCells 5 la (fun _ _ => rfl) i _ hag
      obtain ⟨a, haa⟩ : ∃ a, la[i] = a := ⟨_, rfl⟩
      rw [haa] at hao hfl
      clear hag haa
      have hkn := known_at a hao
      have h1 := hao.hmb
      have h2 := hao.hk
      have hini : insideB 3 3 (a.mb % 9) (a.k % 6) = true := insideB_iff.2 (by omega)
      obtain ⟨⟨pa, xa, ya⟩, hpa⟩ : ∃ P, placeOf 3 (a.mb % 9) (a.k % 6) = P := ⟨_, rfl⟩
      have hset := set_con (A := A) (B := B) (C := C) hc3 hr3 hini hpa (actKn a)
      repeat' (first
        | (refine sk_id ?_; first
          | refine sk_idxv rfl rfl rfl rfl rfl rfl hsa (by omega) (by first | (simp only [Nat.zero_add, Nat.mul_one, Nat.reduceAdd, Nat.reduceMul, Int.reduceToNat, Nat.add_zero, Int.toNat_natCast]; exact rfl) | exact rfl) ?_
          | refine sk_loadaE rfl rfl rfl rfl rfl rfl (hoA (by omega)) hfl.1 hfl.2 ?_
          | refine sk_call (inst_pure hkn rfl (kc_shut _) rfl) rfl rfl rfl rfl rfl rfl (by kernel_rfl) rfl ?_
          | refine sk_call (inst_set hset 2 3 4 5 (by decide) rfl rfl rfl rfl (by first | (simp only [List.set_cons_succ, List.set_cons_zero]; exact rfl) | exact rfl) rfl) rfl rfl rfl rfl rfl rfl (by kernel_rfl) rfl ?_
          | refine sk_call (inst_set hset 6 7 8 9 (by decide) rfl rfl rfl rfl (by first | (simp only [List.set_cons_succ, List.set_cons_zero]; exact rfl) | exact rfl) rfl) rfl rfl rfl rfl rfl rfl (by kernel_rfl) rfl ?_
          | refine sk_move rfl rfl rfl rfl (c := .one _) rfl ?_
          | refine sk_assign rfl rfl rfl rfl (c := .one _) rfl ?_
          | refine sk_add rfl rfl rfl rfl rfl rfl (by omega) ?_
          | refine sk_sub rfl rfl rfl rfl rfl rfl (by omega) ?_
          | refine sk_mul rfl rfl rfl rfl rfl rfl (by omega) ?_
          | refine sk_load rfl rfl rfl rfl rfl rfl rfl ?_
          | refine sk_fld rfl rfl rfl rfl rfl (by first | (simp only [Nat.zero_add, Nat.mul_one, Nat.reduceAdd, Nat.reduceMul, Int.reduceToNat, Nat.add_zero, Int.toNat_natCast]; exact rfl) | exact rfl) ?_
          | refine sk_true rfl rfl rfl rfl rfl rfl rfl (by omega) ?_
          | refine sk_false rfl rfl rfl rfl rfl rfl rfl (by omega) ?_
          | refine sk_netrue rfl rfl rfl rfl rfl rfl (by omega) ?_
          | refine sk_nefalse rfl rfl rfl rfl rfl rfl (by omega) ?_
          | refine sk_fork rfl rfl rfl rfl rfl rfl rfl (fun _ => ?_) (fun _ => ?_)
          | refine sk_forkn rfl rfl rfl rfl rfl rfl (fun _ => ?_) (fun _ => ?_)
          | refine sk_nil rfl rfl rfl rfl rfl ?_
          | refine sk_idxa rfl rfl rfl rfl rfl rfl (by omega) (by first | (simp only [Nat.zero_add, Nat.mul_one, Nat.reduceAdd, Nat.reduceMul, Int.reduceToNat, Nat.add_zero, Int.toNat_natCast]; exact rfl) | exact rfl) ?_
          | refine sk_loadall rfl rfl rfl rfl rfl rfl rfl ?_
          | refine sk_loada rfl rfl rfl rfl rfl rfl (by decide) rfl ?_
          | refine sk_quo rfl rfl rfl rfl rfl rfl (by omega) (by omega) ?_
          | refine sk_rem rfl rfl rfl rfl rfl rfl (by omega) (by omega) ?_
          | refine sk_max rfl rfl rfl rfl rfl rfl (Int.max_eq_left (by omega)) ?_
          | refine sk_max rfl rfl rfl rfl rfl rfl (Int.max_eq_right (by omega)) ?_
          | refine sk_max rfl rfl rfl rfl rfl rfl rfl ?_
          | refine sk_min rfl rfl rfl rfl rfl rfl (Int.min_eq_left (by omega)) ?_
          | refine sk_min rfl rfl rfl rfl rfl rfl (Int.min_eq_right (by omega)) ?_
          | refine sk_min rfl rfl rfl rfl rfl rfl rfl ?_
          | refine sk_conv rfl rfl rfl rfl rfl (by first | exact IntWalk.i64_in _ (by omega) | rfl) ?_
          | refine sk_pickT rfl rfl rfl rfl rfl rfl ?_
          | refine sk_pickF rfl rfl rfl rfl rfl rfl ?_
          | refine sk_not rfl rfl rfl rfl rfl rfl ?_
          | refine sk_build0 rfl rfl rfl rfl ?_
          | refine sk_build0A rfl rfl rfl rfl ?_
          | refine sk_buildA rfl rfl rfl rfl rfl rfl (by first | (simp only [List.cons_append, List.nil_append, List.append_nil]; exact rfl) | exact rfl) ?_
          | refine sk_buildS rfl rfl rfl rfl rfl rfl (by first | (simp only [List.cons_append, List.nil_append, List.append_nil]; exact rfl) | exact rfl) ?_
          | refine sk_nnp rfl rfl rfl rfl rfl ?_
          | refine sk_makemap rfl rfl rfl rfl (by first | (simp only [List.length_cons, List.length_nil, List.length_append, Nat.reduceAdd, Nat.zero_add]; exact rfl) | exact rfl) rfl (by first | (simp only [List.cons_append, List.nil_append]; exact rfl) | exact rfl) ?_
          | refine sk_alloc rfl rfl rfl rfl (by first | (simp only [List.length_cons, List.length_nil, List.length_append, Nat.reduceAdd, Nat.zero_add]; exact rfl) | exact rfl) rfl (by first | (simp only [List.cons_append, List.nil_append]; exact rfl) | exact rfl) ?_
          | refine sk_box rfl rfl rfl rfl rfl (by first | (simp only [List.length_cons, List.length_nil, List.length_append, Nat.reduceAdd, Nat.zero_add]; exact rfl) | exact rfl) rfl (by first | (simp only [List.cons_append, List.nil_append]; exact rfl) | exact rfl) ?_
          | refine sk_store rfl rfl rfl rfl rfl rfl (by decide) (by first | (simp only [List.set_cons_succ, List.set_cons_zero]; exact rfl) | exact rfl) (by first | (simp only [List.set_cons_succ, List.set_cons_zero]; exact rfl) | exact rfl) ?_
          | refine sk_storea rfl rfl rfl rfl rfl rfl rfl rfl (by first | (simp only [List.set_cons_succ, List.set_cons_zero]; exact rfl) | exact rfl) ?_
          | refine sk_ext rfl rfl rfl rfl rfl rfl ?_
          | refine sk_exta rfl rfl rfl rfl rfl rfl ?_
          | refine sk_idxs rfl rfl rfl rfl rfl rfl (by omega) (by first | (simp only [Nat.zero_add, Nat.mul_one, Nat.reduceAdd, Nat.reduceMul, Int.reduceToNat, Nat.add_zero, Int.toNat_natCast]; exact rfl) | exact rfl) ?_
          | refine sk_lens rfl rfl rfl rfl rfl ?_
          | refine sk_field rfl rfl rfl rfl rfl rfl ?_
          | refine sk_move rfl rfl rfl rfl (c := .agg _) rfl ?_
          | refine sk_assign rfl rfl rfl rfl (c := .agg _) rfl ?_
          | refine sk_move rfl rfl rfl rfl (c := .tup _) rfl ?_
          | refine sk_assign rfl rfl rfl rfl (c := .tup _) rfl ?_
          | refine sk_skip rfl rfl rfl ?_
          | refine sk_skip0 rfl rfl ?_
          | refine sk_pure rfl rfl rfl rfl ?_)
        | refine WX.seq ?_
        | refine WX.actsC ?_
        | refine sk_last (by first | exact Consistent.nil | exact Consistent.one _ | exact Consistent.ofL (by repeat' (first | exact True.intro | refine And.intro ?_ ?_ | exact Compat.ne rfl))) ⟨by kernel_rfl, ?_⟩
        | refine sk_last (by first | exact Consistent.nil | exact Consistent.one _ | exact Consistent.ofL (by repeat' (first | exact True.intro | refine And.intro ?_ ?_ | exact Compat.ne rfl))) ?_
        | refine WX.drawsC mixed (by kernel_rfl) ?_
        | refine WX.condT rfl ?_
        | refine WX.condF rfl ?_
        | refine WX.skip ?_
        | refine WX.block ?_
        | refine WX.exit ?_
        | refine WX.ret ?_)
      refine WX.drop (al2 := lR1 sa sb (mb % 9) (k % 6) (1 + qp % 31) la.length (i + 1)) (hs2 := lH oA oB (setT pa 0 A (ya * wideOf 3 pa + xa) (actKn a)) (setT pa 1 B (ya * wideOf 3 pa + xa) (actKn a)) (setT pa 2 C (ya * wideOf 3 pa + xa) (actKn a)) (setT pa 0 A (ya * wideOf 3 pa + xa) (actKn a)) (setT pa 1 B (ya * wideOf 3 pa + xa) (actKn a)) (setT pa 2 C (ya * wideOf 3 pa + xa) (actKn a)) p x y) (junk := _) (less10 rfl rfl rfl rfl rfl rfl rfl rfl rfl rfl) rfl (Nat.le_of_ble_eq_true rfl) rfl (lH_ok okA okB) (lR1_ok hsa hsb) (ih (i + 1, _, _, _) hlt (by simp only; omega))
    · obtain rfl : i = la.length := by omega
      clear ih
      repeat' (first
        | (refine sk_id ?_; first
          | refine sk_lenv rfl rfl rfl rfl rfl hsb ?_
          | refine sk_move rfl rfl rfl rfl (c := .one _) rfl ?_
          | refine sk_assign rfl rfl rfl rfl (c := .one _) rfl ?_
          | refine sk_add rfl rfl rfl rfl rfl rfl (by omega) ?_
          | refine sk_sub rfl rfl rfl rfl rfl rfl (by omega) ?_
          | refine sk_mul rfl rfl rfl rfl rfl rfl (by omega) ?_
          | refine sk_load rfl rfl rfl rfl rfl rfl rfl ?_
          | refine sk_fld rfl rfl rfl rfl rfl (by first | (simp only [Nat.zero_add, Nat.mul_one, Nat.reduceAdd, Nat.reduceMul, Int.reduceToNat, Nat.add_zero, Int.toNat_natCast]; exact rfl) | exact rfl) ?_
          | refine sk_true rfl rfl rfl rfl rfl rfl rfl (by omega) ?_
          | refine sk_false rfl rfl rfl rfl rfl rfl rfl (by omega) ?_
          | refine sk_netrue rfl rfl rfl rfl rfl rfl (by omega) ?_
          | refine sk_nefalse rfl rfl rfl rfl rfl rfl (by omega) ?_
          | refine sk_fork rfl rfl rfl rfl rfl rfl rfl (fun _ => ?_) (fun _ => ?_)
          | refine sk_forkn rfl rfl rfl rfl rfl rfl (fun _ => ?_) (fun _ => ?_)
          | refine sk_nil rfl rfl rfl rfl rfl ?_
          | refine sk_idxa rfl rfl rfl rfl rfl rfl (by omega) (by first | (simp only [Nat.zero_add, Nat.mul_one, Nat.reduceAdd, Nat.reduceMul, Int.reduceToNat, Nat.add_zero, Int.toNat_natCast]; exact rfl) | exact rfl) ?_
          | refine sk_loadall rfl rfl rfl rfl rfl rfl rfl ?_
          | refine sk_loada rfl rfl rfl rfl rfl rfl (by decide) rfl ?_
          | refine sk_quo rfl rfl rfl rfl rfl rfl (by omega) (by omega) ?_
          | refine sk_rem rfl rfl rfl rfl rfl rfl (by omega) (by omega) ?_
          | refine sk_max rfl rfl rfl rfl rfl rfl (Int.max_eq_left (by omega)) ?_
          | refine sk_max rfl rfl rfl rfl rfl rfl (Int.max_eq_right (by omega)) ?_
          | refine sk_max rfl rfl rfl rfl rfl rfl rfl ?_
          | refine sk_min rfl rfl rfl rfl rfl rfl (Int.min_eq_left (by omega)) ?_
          | refine sk_min rfl rfl rfl rfl rfl rfl (Int.min_eq_right (by omega)) ?_
          | refine sk_min rfl rfl rfl rfl rfl rfl rfl ?_
          | refine sk_conv rfl rfl rfl rfl rfl (by first | exact IntWalk.i64_in _ (by omega) | rfl) ?_
          | refine sk_pickT rfl rfl rfl rfl rfl rfl ?_
          | refine sk_pickF rfl rfl rfl rfl rfl rfl ?_
          | refine sk_not rfl rfl rfl rfl rfl rfl ?_
          | refine sk_build0 rfl rfl rfl rfl ?_
          | refine sk_build0A rfl rfl rfl rfl ?_
          | refine sk_buildA rfl rfl rfl rfl rfl rfl (by first | (simp only [List.cons_append, List.nil_append, List.append_nil]; exact rfl) | exact rfl) ?_
          | refine sk_buildS rfl rfl rfl rfl rfl rfl (by first | (simp only [List.cons_append, List.nil_append, List.append_nil]; exact rfl) | exact rfl) ?_
          | refine sk_nnp rfl rfl rfl rfl rfl ?_
          | refine sk_makemap rfl rfl rfl rfl (by first | (simp only [List.length_cons, List.length_nil, List.length_append, Nat.reduceAdd, Nat.zero_add]; exact rfl) | exact rfl) rfl (by first | (simp only [List.cons_append, List.nil_append]; exact rfl) | exact rfl) ?_
          | refine sk_alloc rfl rfl rfl rfl (by first | (simp only [List.length_cons, List.length_nil, List.length_append, Nat.reduceAdd, Nat.zero_add]; exact rfl) | exact rfl) rfl (by first | (simp only [List.cons_append, List.nil_append]; exact rfl) | exact rfl) ?_
          | refine sk_box rfl rfl rfl rfl rfl (by first | (simp only [List.length_cons, List.length_nil, List.length_append, Nat.reduceAdd, Nat.zero_add]; exact rfl) | exact rfl) rfl (by first | (simp only [List.cons_append, List.nil_append]; exact rfl) | exact rfl) ?_
          | refine sk_store rfl rfl rfl rfl rfl rfl (by decide) (by first | (simp only [List.set_cons_succ, List.set_cons_zero]; exact rfl) | exact rfl) (by first | (simp only [List.set_cons_succ, List.set_cons_zero]; exact rfl) | exact rfl) ?_
          | refine sk_storea rfl rfl rfl rfl rfl rfl rfl rfl (by first | (simp only [List.set_cons_succ, List.set_cons_zero]; exact rfl) | exact rfl) ?_
          | refine sk_ext rfl rfl rfl rfl rfl rfl ?_
          | refine sk_exta rfl rfl rfl rfl rfl rfl ?_
          | refine sk_idxs rfl rfl rfl rfl rfl rfl (by omega) (by first | (simp only [Nat.zero_add, Nat.mul_one, Nat.reduceAdd, Nat.reduceMul, Int.reduceToNat, Nat.add_zero, Int.toNat_natCast]; exact rfl) | exact rfl) ?_
          | refine sk_lens rfl rfl rfl rfl rfl ?_
          | refine sk_field rfl rfl rfl rfl rfl rfl ?_
          | refine sk_move rfl rfl rfl rfl (c := .agg _) rfl ?_
          | refine sk_assign rfl rfl rfl rfl (c := .agg _) rfl ?_
          | refine sk_move rfl rfl rfl rfl (c := .tup _) rfl ?_
          | refine sk_assign rfl rfl rfl rfl (c := .tup _) rfl ?_
          | refine sk_skip rfl rfl rfl ?_
          | refine sk_skip0 rfl rfl ?_
          | refine sk_pure rfl rfl rfl rfl ?_)
        | refine WX.seq ?_
        | refine WX.actsC ?_
        | refine sk_last (by first | exact Consistent.nil | exact Consistent.one _ | exact Consistent.ofL (by repeat' (first | exact True.intro | refine And.intro ?_ ?_ | exact Compat.ne rfl))) ⟨by kernel_rfl, ?_⟩
        | refine sk_last (by first | exact Consistent.nil | exact Consistent.one _ | exact Consistent.ofL (by repeat' (first | exact True.intro | refine And.intro ?_ ?_ | exact Compat.ne rfl))) ?_
        | refine WX.drawsC mixed (by kernel_rfl) ?_
        | refine WX.condT rfl ?_
        | refine WX.condF rfl ?_
        | refine WX.skip ?_
        | refine WX.block ?_
        | refine WX.exit ?_
        | refine WX.ret ?_)
      obtain ⟨na, hna⟩ : ∃ o, blk A B C 3 p (x - 1) y = o := ⟨_, rfl⟩
      obtain ⟨nb, hnb⟩ : ∃ o, blk A B C 3 p x (y - 1) = o := ⟨_, rfl⟩
      obtain ⟨nc, hnc⟩ : ∃ o, blk A B C 3 p (x - 1) (y - 1) = o := ⟨_, rfl⟩
      refine WX.loop ?_
      refine WX.drop (al2 := lR2 sb (mb % 9) (k % 6) (1 + qp % 31) lb.length 0) (hs2 := lH oA oB A B C A B C p x y) (junk := []) (less_cons rfl (less_cons rfl (less_cons rfl (less_cons rfl (less_cons rfl (less_cons rfl (less_cons rfl (less_cons rfl (less_cons rfl (less_nil _)))))))))) rfl (Nat.le_of_ble_eq_true rfl) rfl (lH_ok okA okB) (lR2_ok hsb) ?_
      refine WX.while (σ := St) (fun s => lR2 sb (mb % 9) (k % 6) (1 + qp % 31) lb.length s.1) (fun s => lH oA oB A B C s.2.1 s.2.2.1 s.2.2.2 p x y) (fun s => s.1 ≤ lb.length ∧ blk s.2.1 s.2.2.1 s.2.2.2 3 p (x - 1) y = na ∧ blk s.2.1 s.2.2.1 s.2.2.2 3 p x (y - 1) = nb ∧ blk s.2.1 s.2.2.1 s.2.2.2 3 p (x - 1) (y - 1) = nc) (fun s => lb.length - s.1) (0, A, B, C) ⟨Nat.zero_le _, hna, hnb, hnc⟩ ?_
      rintro ⟨i, A', B', C'⟩ ⟨hi, hna', hnb', hnc'⟩ ih
      simp only at hi hna' hnb' hnc' ih
      refine WX.round ?_
      simp only [lR2, lH]
      by_cases hlt : i < lb.length
      · have hag : lb[i]? = some lb[i] := List.getElem?_eq_getElem hlt
        have hao : (lb[i]).Ok := hbs _ (List.getElem_mem hlt)
        have hfl := flat_at actCells 5 lb (fun _ _ => rfl) i _ hag
        obtain ⟨a, haa⟩ : ∃ a, lb[i] = a := ⟨_, rfl⟩
        rw [haa] at hao hfl
        clear hag haa
        have hkn := known_at a hao
        have h1 := hao.hmb
        have h2 := hao.hk
        have hini : insideB 3 3 (a.mb % 9) (a.k % 6) = true := insideB_iff.2 (by omega)
        obtain ⟨⟨pa, xa, ya⟩, hpa⟩ : ∃ P, placeOf 3 (a.mb % 9) (a.k % 6) = P := ⟨_, rfl⟩
        have hset := set_con (A := A') (B := B') (C := C') hc3 hr3 hini hpa (actKn a)
        have hlpa := lplace_con 3 (a.mb % 9) (a.k % 6) hc3 (by omega) (by omega)
        have hoka := place_ok (cols := 3) (rows := 3) (mb := a.mb % 9) (k := a.k % 6) hc3 hr3 (by omega) (by omega)
        rw [hpa] at hlpa hoka
        simp only at hlpa
        have q1 : 0 ≤ xa ∧ xa < wideOf 3 pa := ⟨hoka.x0, hoka.x1⟩
        have q2 : 0 ≤ ya ∧ ya ≤ 200 := hoka.yy
        have q3 : 0 ≤ x ∧ x < wideOf 3 p := ⟨hokp.x0, hokp.x1⟩
        have q4 : 0 ≤ y ∧ y ≤ 200 := hokp.yy
        have q5 : 1 ≤ wideOf 3 pa ∧ wideOf 3 pa ≤ 16 := hoka.ww
        have q6 : 1 ≤ wideOf 3 p ∧ wideOf 3 p ≤ 16 := hokp.ww
        by_cases hnn : pa = p ∧ 0 ≤ x - xa ∧ x - xa ≤ 1 ∧ 0 ≤ y - ya ∧ y - ya ≤ 1 ∧ 0 < (x - xa) + (y - ya)
        · obtain ⟨z1, z2, z3, z4, z5, z6⟩ := hnn
          repeat' (first
            | (refine sk_id ?_; first
              | refine sk_idxv rfl rfl rfl rfl rfl rfl hsb (by omega) (by first | (simp only [Nat.zero_add, Nat.mul_one, Nat.reduceAdd, Nat.reduceMul, Int.reduceToNat, Nat.add_zero, Int.toNat_natCast]; exact rfl) | exact rfl) ?_
              | refine sk_loadaE rfl rfl rfl rfl rfl rfl (hoB (by omega)) hfl.1 hfl.2 ?_
              | refine sk_call (inst_pure hlpa rfl rfl rfl) rfl rfl rfl rfl rfl rfl (by kernel_rfl) rfl ?_
              | refine sk_move rfl rfl rfl rfl (c := .one _) rfl ?_
              | refine sk_assign rfl rfl rfl rfl (c := .one _) rfl ?_
              | refine sk_add rfl rfl rfl rfl rfl rfl (by omega) ?_
              | refine sk_sub rfl rfl rfl rfl rfl rfl (by omega) ?_
              | refine sk_mul rfl rfl rfl rfl rfl rfl (by omega) ?_
              | refine sk_load rfl rfl rfl rfl rfl rfl rfl ?_
              | refine sk_fld rfl rfl rfl rfl rfl (by first | (simp only [Nat.zero_add, Nat.mul_one, Nat.reduceAdd, Nat.reduceMul, Int.reduceToNat, Nat.add_zero, Int.toNat_natCast]; exact rfl) | exact rfl) ?_
              | refine sk_true rfl rfl rfl rfl rfl rfl rfl (by omega) ?_
              | refine sk_false rfl rfl rfl rfl rfl rfl rfl (by omega) ?_
              | refine sk_netrue rfl rfl rfl rfl rfl rfl (by omega) ?_
              | refine sk_nefalse rfl rfl rfl rfl rfl rfl (by omega) ?_
              | refine sk_fork rfl rfl rfl rfl rfl rfl rfl (fun _ => ?_) (fun _ => ?_)
              | refine sk_forkn rfl rfl rfl rfl rfl rfl (fun _ => ?_) (fun _ => ?_)
              | refine sk_nil rfl rfl rfl rfl rfl ?_
              | refine sk_idxa rfl rfl rfl rfl rfl rfl (by omega) (by first | (simp only [Nat.zero_add, Nat.mul_one, Nat.reduceAdd, Nat.reduceMul, Int.reduceToNat, Nat.add_zero, Int.toNat_natCast]; exact rfl) | exact rfl) ?_
              | refine sk_loadall rfl rfl rfl rfl rfl rfl rfl ?_
              | refine sk_loada rfl rfl rfl rfl rfl rfl (by decide) rfl ?_
              | refine sk_quo rfl rfl rfl rfl rfl rfl (by omega) (by omega) ?_
              | refine sk_rem rfl rfl rfl rfl rfl rfl (by omega) (by omega) ?_
              | refine sk_max rfl rfl rfl rfl rfl rfl (Int.max_eq_left (by omega)) ?_
              | refine sk_max rfl rfl rfl rfl rfl rfl (Int.max_eq_right (by omega)) ?_
              | refine sk_max rfl rfl rfl rfl rfl rfl rfl ?_
              | refine sk_min rfl rfl rfl rfl rfl rfl (Int.min_eq_left (by omega)) ?_
              | refine sk_min rfl rfl rfl rfl rfl rfl (Int.min_eq_right (by omega)) ?_
              | refine sk_min rfl rfl rfl rfl rfl rfl rfl ?_
              | refine sk_conv rfl rfl rfl rfl rfl (by first | exact IntWalk.i64_in _ (by omega) | rfl) ?_
              | refine sk_pickT rfl rfl rfl rfl rfl rfl ?_
              | refine sk_pickF rfl rfl rfl rfl rfl rfl ?_
              | refine sk_not rfl rfl rfl rfl rfl rfl ?_
              | refine sk_build0 rfl rfl rfl rfl ?_
              | refine sk_build0A rfl rfl rfl rfl ?_
              | refine sk_buildA rfl rfl rfl rfl rfl rfl (by first | (simp only [List.cons_append, List.nil_append, List.append_nil]; exact rfl) | exact rfl) ?_
              | refine sk_buildS rfl rfl rfl rfl rfl rfl (by first | (simp only [List.cons_append, List.nil_append, List.append_nil]; exact rfl) | exact rfl) ?_
              | refine sk_nnp rfl rfl rfl rfl rfl ?_
              | refine sk_makemap rfl rfl rfl rfl (by first | (simp only [List.length_cons, List.length_nil, List.length_append, Nat.reduceAdd, Nat.zero_add]; exact rfl) | exact rfl) rfl (by first | (simp only [List.cons_append, List.nil_append]; exact rfl) | exact rfl) ?_
              | refine sk_alloc rfl rfl rfl rfl (by first | (simp only [List.length_cons, List.length_nil, List.length_append, Nat.reduceAdd, Nat.zero_add]; exact rfl) | exact rfl) rfl (by first | (simp only [List.cons_append, List.nil_append]; exact rfl) | exact rfl) ?_
              | refine sk_box rfl rfl rfl rfl rfl (by first | (simp only [List.length_cons, List.length_nil, List.length_append, Nat.reduceAdd, Nat.zero_add]; exact rfl) | exact rfl) rfl (by first | (simp only [List.cons_append, List.nil_append]; exact rfl) | exact rfl) ?_
              | refine sk_store rfl rfl rfl rfl rfl rfl (by decide) (by first | (simp only [List.set_cons_succ, List.set_cons_zero]; exact rfl) | exact rfl) (by first | (simp only [List.set_cons_succ, List.set_cons_zero]; exact rfl) | exact rfl) ?_
              | refine sk_storea rfl rfl rfl rfl rfl rfl rfl rfl (by first | (simp only [List.set_cons_succ, List.set_cons_zero]; exact rfl) | exact rfl) ?_
              | refine sk_ext rfl rfl rfl rfl rfl rfl ?_
              | refine sk_exta rfl rfl rfl rfl rfl rfl ?_
              | refine sk_idxs rfl rfl rfl rfl rfl rfl (by omega) (by first | (simp only [Nat.zero_add, Nat.mul_one, Nat.reduceAdd, Nat.reduceMul, Int.reduceToNat, Nat.add_zero, Int.toNat_natCast]; exact rfl) | exact rfl) ?_
              | refine sk_lens rfl rfl rfl rfl rfl ?_
              | refine sk_field rfl rfl rfl rfl rfl rfl ?_
              | refine sk_move rfl rfl rfl rfl (c := .agg _) rfl ?_
              | refine sk_assign rfl rfl rfl rfl (c := .agg _) rfl ?_
              | refine sk_move rfl rfl rfl rfl (c := .tup _) rfl ?_
              | refine sk_assign rfl rfl rfl rfl (c := .tup _) rfl ?_
              | refine sk_skip rfl rfl rfl ?_
              | refine sk_skip0 rfl rfl ?_
              | refine sk_pure rfl rfl rfl rfl ?_)
            | refine WX.seq ?_
            | refine WX.actsC ?_
            | refine sk_last (by first | exact Consistent.nil | exact Consistent.one _ | exact Consistent.ofL (by repeat' (first | exact True.intro | refine And.intro ?_ ?_ | exact Compat.ne rfl))) ⟨by kernel_rfl, ?_⟩
            | refine sk_last (by first | exact Consistent.nil | exact Consistent.one _ | exact Consistent.ofL (by repeat' (first | exact True.intro | refine And.intro ?_ ?_ | exact Compat.ne rfl))) ?_
            | refine WX.drawsC mixed (by kernel_rfl) ?_
            | refine WX.condT rfl ?_
            | refine WX.condF rfl ?_
            | refine WX.skip ?_
            | refine WX.block ?_
            | refine WX.exit ?_
            | refine WX.ret ?_)
          refine WX.drop (al2 := lR2 sb (mb % 9) (k % 6) (1 + qp % 31) lb.length (i + 1)) (hs2 := lH oA oB A B C A' B' C' p x y) (junk := _) (less_cons rfl (less_cons rfl (less_cons rfl (less_cons rfl (less_cons rfl (less_cons rfl (less_cons rfl (less_cons rfl (less_cons rfl (less_nil _)))))))))) rfl (Nat.le_of_ble_eq_true rfl) rfl (lH_ok okA okB) (lR2_ok hsb) (ih (i + 1, _, _, _) ⟨hlt, hna', hnb', hnc'⟩ (by simp only; omega))
        · repeat' (first
            | (refine sk_id ?_; first
              | refine sk_idxv rfl rfl rfl rfl rfl rfl hsb (by omega) (by first | (simp only [Nat.zero_add, Nat.mul_one, Nat.reduceAdd, Nat.reduceMul, Int.reduceToNat, Nat.add_zero, Int.toNat_natCast]; exact rfl) | exact rfl) ?_
              | refine sk_loadaE rfl rfl rfl rfl rfl rfl (hoB (by omega)) hfl.1 hfl.2 ?_
              | refine sk_call (inst_pure hlpa rfl rfl rfl) rfl rfl rfl rfl rfl rfl (by kernel_rfl) rfl ?_
              | refine sk_call (inst_pure hkn rfl (kc_shut _) rfl) rfl rfl rfl rfl rfl rfl (by kernel_rfl) rfl ?_
              | refine sk_call (inst_set hset 6 7 8 9 (by decide) rfl rfl rfl rfl (by first | (simp only [lH, List.cons_append, List.nil_append, List.set_cons_succ, List.set_cons_zero]; exact rfl) | exact rfl) rfl) rfl rfl rfl rfl rfl rfl (by kernel_rfl) rfl ?_
              | refine sk_move rfl rfl rfl rfl (c := .one _) rfl ?_
              | refine sk_assign rfl rfl rfl rfl (c := .one _) rfl ?_
              | refine sk_add rfl rfl rfl rfl rfl rfl (by omega) ?_
              | refine sk_sub rfl rfl rfl rfl rfl rfl (by omega) ?_
              | refine sk_mul rfl rfl rfl rfl rfl rfl (by omega) ?_
              | refine sk_load rfl rfl rfl rfl rfl rfl rfl ?_
              | refine sk_fld rfl rfl rfl rfl rfl (by first | (simp only [Nat.zero_add, Nat.mul_one, Nat.reduceAdd, Nat.reduceMul, Int.reduceToNat, Nat.add_zero, Int.toNat_natCast]; exact rfl) | exact rfl) ?_
              | refine sk_true rfl rfl rfl rfl rfl rfl rfl (by omega) ?_
              | refine sk_false rfl rfl rfl rfl rfl rfl rfl (by omega) ?_
              | refine sk_netrue rfl rfl rfl rfl rfl rfl (by omega) ?_
              | refine sk_nefalse rfl rfl rfl rfl rfl rfl (by omega) ?_
              | refine sk_fork rfl rfl rfl rfl rfl rfl rfl (fun _ => ?_) (fun _ => ?_)
              | refine sk_forkn rfl rfl rfl rfl rfl rfl (fun _ => ?_) (fun _ => ?_)
              | refine sk_nil rfl rfl rfl rfl rfl ?_
              | refine sk_idxa rfl rfl rfl rfl rfl rfl (by omega) (by first | (simp only [Nat.zero_add, Nat.mul_one, Nat.reduceAdd, Nat.reduceMul, Int.reduceToNat, Nat.add_zero, Int.toNat_natCast]; exact rfl) | exact rfl) ?_
              | refine sk_loadall rfl rfl rfl rfl rfl rfl rfl ?_
              | refine sk_loada rfl rfl rfl rfl rfl rfl (by decide) rfl ?_
              | refine sk_quo rfl rfl rfl rfl rfl rfl (by omega) (by omega) ?_
              | refine sk_rem rfl rfl rfl rfl rfl rfl (by omega) (by omega) ?_
              | refine sk_max rfl rfl rfl rfl rfl rfl (Int.max_eq_left (by omega)) ?_
              | refine sk_max rfl rfl rfl rfl rfl rfl (Int.max_eq_right (by omega)) ?_
              | refine sk_max rfl rfl rfl rfl rfl rfl rfl ?_
              | refine sk_min rfl rfl rfl rfl rfl rfl (Int.min_eq_left (by omega)) ?_
              | refine sk_min rfl rfl rfl rfl rfl rfl (Int.min_eq_right (by omega)) ?_
              | refine sk_min rfl rfl rfl rfl rfl rfl rfl ?_
              | refine sk_conv rfl rfl rfl rfl rfl (by first | exact IntWalk.i64_in _ (by omega) | rfl) ?_
              | refine sk_pickT rfl rfl rfl rfl rfl rfl ?_
              | refine sk_pickF rfl rfl rfl rfl rfl rfl ?_
              | refine sk_not rfl rfl rfl rfl rfl rfl ?_
              | refine sk_build0 rfl rfl rfl rfl ?_
              | refine sk_build0A rfl rfl rfl rfl ?_
              | refine sk_buildA rfl rfl rfl rfl rfl rfl (by first | (simp only [List.cons_append, List.nil_append, List.append_nil]; exact rfl) | exact rfl) ?_
              | refine sk_buildS rfl rfl rfl rfl rfl rfl (by first | (simp only [List.cons_append, List.nil_append, List.append_nil]; exact rfl) | exact rfl) ?_
              | refine sk_nnp rfl rfl rfl rfl rfl ?_
              | refine sk_makemap rfl rfl rfl rfl (by first | (simp only [List.length_cons, List.length_nil, List.length_append, Nat.reduceAdd, Nat.zero_add]; exact rfl) | exact rfl) rfl (by first | (simp only [List.cons_append, List.nil_append]; exact rfl) | exact rfl) ?_
              | refine sk_alloc rfl rfl rfl rfl (by first | (simp only [List.length_cons, List.length_nil, List.length_append, Nat.reduceAdd, Nat.zero_add]; exact rfl) | exact rfl) rfl (by first | (simp only [List.cons_append, List.nil_append]; exact rfl) | exact rfl) ?_
              | refine sk_box rfl rfl rfl rfl rfl (by first | (simp only [List.length_cons, List.length_nil, List.length_append, Nat.reduceAdd, Nat.zero_add]; exact rfl) | exact rfl) rfl (by first | (simp only [List.cons_append, List.nil_append]; exact rfl) | exact rfl) ?_
              | refine sk_store rfl rfl rfl rfl rfl rfl (by decide) (by first | (simp only [List.set_cons_succ, List.set_cons_zero]; exact rfl) | exact rfl) (by first | (simp only [List.set_cons_succ, List.set_cons_zero]; exact rfl) | exact rfl) ?_
              | refine sk_storea rfl rfl rfl rfl rfl rfl rfl rfl (by first | (simp only [List.set_cons_succ, List.set_cons_zero]; exact rfl) | exact rfl) ?_
              | refine sk_ext rfl rfl rfl rfl rfl rfl ?_
              | refine sk_exta rfl rfl rfl rfl rfl rfl ?_
              | refine sk_idxs rfl rfl rfl rfl rfl rfl (by omega) (by first | (simp only [Nat.zero_add, Nat.mul_one, Nat.reduceAdd, Nat.reduceMul, Int.reduceToNat, Nat.add_zero, Int.toNat_natCast]; exact rfl) | exact rfl) ?_
              | refine sk_lens rfl rfl rfl rfl rfl ?_
              | refine sk_field rfl rfl rfl rfl rfl rfl ?_
              | refine sk_move rfl rfl rfl rfl (c := .agg _) rfl ?_
              | refine sk_assign rfl rfl rfl rfl (c := .agg _) rfl ?_
              | refine sk_move rfl rfl rfl rfl (c := .tup _) rfl ?_
              | refine sk_assign rfl rfl rfl rfl (c := .tup _) rfl ?_
              | refine sk_skip rfl rfl rfl ?_
              | refine sk_skip0 rfl rfl ?_
              | refine sk_pure rfl rfl rfl rfl ?_)
            | (refine WX.seqR 19 ?_; refine WX.seqAt [(20, .one (.ptr 11 0)), (86, .one (.int .i64 (i : Nat))), (85, .one (.int .i64 (lb.length : Nat))), (84, .one sb), (11, .one (.ptr 2 0)), (12, .one (.ptr 6 0)), (13, .one (.int .i64 (mb % 9))), (14, .one (.int .i64 (k % 6))), (15, .one (.int .i64 (1 + qp % 31))), (16, .one (.ptr 10 0))] (lH oA oB A B C A' B' C' p x y ++ [.cells (actCells a) 35 false false, .cells [.int .i64 pa, .int .i64 xa, .int .i64 ya] 40 false false]) ?_ ?_)
            | refine WX.seq ?_
            | refine WX.actsC ?_
            | refine sk_last (by first | exact Consistent.nil | exact Consistent.one _ | exact Consistent.ofL (by repeat' (first | exact True.intro | refine And.intro ?_ ?_ | exact Compat.ne rfl))) ⟨by kernel_rfl, ?_⟩
            | refine sk_last (by first | exact Consistent.nil | exact Consistent.one _ | exact Consistent.ofL (by repeat' (first | exact True.intro | refine And.intro ?_ ?_ | exact Compat.ne rfl))) ?_
            | refine WX.drawsC mixed (by kernel_rfl) ?_
            | refine WX.condT rfl ?_
            | refine WX.condF rfl ?_
            | refine WX.skip ?_
            | refine WX.block ?_
            | refine WX.exit ?_
            | refine WX.ret ?_)
          all_goals first
            | (exfalso; omega)
            | exact ⟨rfl, less_cons rfl (less_cons rfl (less_cons rfl (less_cons rfl (less_cons rfl (less_cons rfl (less_cons rfl (less_cons rfl (less_cons rfl (less_cons rfl (less_nil _)))))))))), rfl⟩
            | refine WX.drop (al2 := lR2 sb (mb % 9) (k % 6) (1 + qp % 31) lb.length (i + 1)) (hs2 := lH oA oB A B C (setT pa 0 A' (ya * wideOf 3 pa + xa) (actKn a)) (setT pa 1 B' (ya * wideOf 3 pa + xa) (actKn a)) (setT pa 2 C' (ya * wideOf 3 pa + xa) (actKn a)) p x y) (junk := _) (less_cons rfl (less_cons rfl (less_cons rfl (less_cons rfl (less_cons rfl (less_cons rfl (less_cons rfl (less_cons rfl (less_cons rfl (less_nil _)))))))))) rfl (Nat.le_of_ble_eq_true rfl) rfl (lH_ok okA okB) (lR2_ok hsb) (ih (i + 1, _, _, _) ⟨hlt, (blk_set hoka.pp hokp.pp q1 q2.1).trans ((if_neg (by omega)).trans hna'), (blk_set hoka.pp hokp.pp q1 q2.1).trans ((if_neg (by omega)).trans hnb'), (blk_set hoka.pp hokp.pp q1 q2.1).trans ((if_neg (by omega)).trans hnc')⟩ (by simp only; omega))
      · obtain rfl : i = lb.length := by omega
        clear ih
        have e1 := expected_con (q := 1 + qp % 31) hc3 hr3 hin hpl hna hnb hnc
        have e2 := expected_con (q := 1 + qp % 31) hc3 hr3 hin hpl hna' hnb' hnc'
        have e3 := edge_con (q := 1 + qp % 31) hc3 hr3 hin hpl hna hnb hnc
        have e4 := edge_con (q := 1 + qp % 31) hc3 hr3 hin hpl hna' hnb' hnc'
        have ts : (XV.agg (ti .i64 64 (edgeF na nb nc (1 + qp % 31)))).shut = true := by simp [XV.shut, ti, XC.shut]
        repeat' (first
          | (refine sk_id ?_; first
            | refine sk_call (inst_tab e1 2 3 4 5 (by decide) rfl rfl rfl rfl rfl rfl rfl) rfl rfl rfl rfl rfl rfl (by kernel_rfl) rfl ?_
            | refine sk_call (inst_tab e2 6 7 8 9 (by decide) rfl rfl rfl rfl rfl rfl rfl) rfl rfl rfl rfl rfl rfl (by kernel_rfl) rfl ?_
            | refine sk_call (inst_tab e3 2 3 4 5 (by decide) rfl rfl rfl rfl rfl ts rfl) rfl rfl rfl rfl rfl rfl (by kernel_rfl) rfl ?_
            | refine sk_call (inst_tab e4 6 7 8 9 (by decide) rfl rfl rfl rfl rfl ts rfl) rfl rfl rfl rfl rfl rfl (by kernel_rfl) rfl ?_
            | refine sk_eqti rfl (by kernel_rfl) rfl rfl rfl rfl rfl (fun _ _ => rfl) ?_
            | refine sk_move rfl rfl rfl rfl (c := .one _) rfl ?_
            | refine sk_assign rfl rfl rfl rfl (c := .one _) rfl ?_
            | refine sk_add rfl rfl rfl rfl rfl rfl (by omega) ?_
            | refine sk_sub rfl rfl rfl rfl rfl rfl (by omega) ?_
            | refine sk_mul rfl rfl rfl rfl rfl rfl (by omega) ?_
            | refine sk_load rfl rfl rfl rfl rfl rfl rfl ?_
            | refine sk_fld rfl rfl rfl rfl rfl (by first | (simp only [Nat.zero_add, Nat.mul_one, Nat.reduceAdd, Nat.reduceMul, Int.reduceToNat, Nat.add_zero, Int.toNat_natCast]; exact rfl) | exact rfl) ?_
            | refine sk_true rfl rfl rfl rfl rfl rfl rfl (by omega) ?_
            | refine sk_false rfl rfl rfl rfl rfl rfl rfl (by omega) ?_
            | refine sk_netrue rfl rfl rfl rfl rfl rfl (by omega) ?_
            | refine sk_nefalse rfl rfl rfl rfl rfl rfl (by omega) ?_
            | refine sk_fork rfl rfl rfl rfl rfl rfl rfl (fun _ => ?_) (fun _ => ?_)
            | refine sk_forkn rfl rfl rfl rfl rfl rfl (fun _ => ?_) (fun _ => ?_)
            | refine sk_nil rfl rfl rfl rfl rfl ?_
            | refine sk_idxa rfl rfl rfl rfl rfl rfl (by omega) (by first | (simp only [Nat.zero_add, Nat.mul_one, Nat.reduceAdd, Nat.reduceMul, Int.reduceToNat, Nat.add_zero, Int.toNat_natCast]; exact rfl) | exact rfl) ?_
            | refine sk_loadall rfl rfl rfl rfl rfl rfl rfl ?_
            | refine sk_loada rfl rfl rfl rfl rfl rfl (by decide) rfl ?_
            | refine sk_quo rfl rfl rfl rfl rfl rfl (by omega) (by omega) ?_
            | refine sk_rem rfl rfl rfl rfl rfl rfl (by omega) (by omega) ?_
            | refine sk_max rfl rfl rfl rfl rfl rfl (Int.max_eq_left (by omega)) ?_
            | refine sk_max rfl rfl rfl rfl rfl rfl (Int.max_eq_right (by omega)) ?_
            | refine sk_max rfl rfl rfl rfl rfl rfl rfl ?_
            | refine sk_min rfl rfl rfl rfl rfl rfl (Int.min_eq_left (by omega)) ?_
            | refine sk_min rfl rfl rfl rfl rfl rfl (Int.min_eq_right (by omega)) ?_
            | refine sk_min rfl rfl rfl rfl rfl rfl rfl ?_
            | refine sk_conv rfl rfl rfl rfl rfl (by first | exact IntWalk.i64_in _ (by omega) | rfl) ?_
            | refine sk_pickT rfl rfl rfl rfl rfl rfl ?_
            | refine sk_pickF rfl rfl rfl rfl rfl rfl ?_
            | refine sk_not rfl rfl rfl rfl rfl rfl ?_
            | refine sk_build0 rfl rfl rfl rfl ?_
            | refine sk_build0A rfl rfl rfl rfl ?_
            | refine sk_buildA rfl rfl rfl rfl rfl rfl (by first | (simp only [List.cons_append, List.nil_append, List.append_nil]; exact rfl) | exact rfl) ?_
            | refine sk_buildS rfl rfl rfl rfl rfl rfl (by first | (simp only [List.cons_append, List.nil_append, List.append_nil]; exact rfl) | exact rfl) ?_
            | refine sk_nnp rfl rfl rfl rfl rfl ?_
            | refine sk_makemap rfl rfl rfl rfl (by first | (simp only [List.length_cons, List.length_nil, List.length_append, Nat.reduceAdd, Nat.zero_add]; exact rfl) | exact rfl) rfl (by first | (simp only [List.cons_append, List.nil_append]; exact rfl) | exact rfl) ?_
            | refine sk_alloc rfl rfl rfl rfl (by first | (simp only [List.length_cons, List.length_nil, List.length_append, Nat.reduceAdd, Nat.zero_add]; exact rfl) | exact rfl) rfl (by first | (simp only [List.cons_append, List.nil_append]; exact rfl) | exact rfl) ?_
            | refine sk_box rfl rfl rfl rfl rfl (by first | (simp only [List.length_cons, List.length_nil, List.length_append, Nat.reduceAdd, Nat.zero_add]; exact rfl) | exact rfl) rfl (by first | (simp only [List.cons_append, List.nil_append]; exact rfl) | exact rfl) ?_
            | refine sk_store rfl rfl rfl rfl rfl rfl (by decide) (by first | (simp only [List.set_cons_succ, List.set_cons_zero]; exact rfl) | exact rfl) (by first | (simp only [List.set_cons_succ, List.set_cons_zero]; exact rfl) | exact rfl) ?_
            | refine sk_storea rfl rfl rfl rfl rfl rfl rfl rfl (by first | (simp only [List.set_cons_succ, List.set_cons_zero]; exact rfl) | exact rfl) ?_
            | refine sk_ext rfl rfl rfl rfl rfl rfl ?_
            | refine sk_exta rfl rfl rfl rfl rfl rfl ?_
            | refine sk_idxs rfl rfl rfl rfl rfl rfl (by omega) (by first | (simp only [Nat.zero_add, Nat.mul_one, Nat.reduceAdd, Nat.reduceMul, Int.reduceToNat, Nat.add_zero, Int.toNat_natCast]; exact rfl) | exact rfl) ?_
            | refine sk_lens rfl rfl rfl rfl rfl ?_
            | refine sk_field rfl rfl rfl rfl rfl rfl ?_
            | refine sk_move rfl rfl rfl rfl (c := .agg _) rfl ?_
            | refine sk_assign rfl rfl rfl rfl (c := .agg _) rfl ?_
            | refine sk_move rfl rfl rfl rfl (c := .tup _) rfl ?_
            | refine sk_assign rfl rfl rfl rfl (c := .tup _) rfl ?_
            | refine sk_skip rfl rfl rfl ?_
            | refine sk_skip0 rfl rfl ?_
            | refine sk_pure rfl rfl rfl rfl ?_)
          | refine WX.seq ?_
          | refine WX.actsC ?_
          | refine sk_last (by first | exact Consistent.nil | exact Consistent.one _ | exact Consistent.ofL (by repeat' (first | exact True.intro | refine And.intro ?_ ?_ | exact Compat.ne rfl | exact (fun _ h _ => by simp at h)))) ⟨by kernel_rfl, ?_⟩
          | refine sk_last (by first | exact Consistent.nil | exact Consistent.one _ | exact Consistent.ofL (by repeat' (first | exact True.intro | refine And.intro ?_ ?_ | exact Compat.ne rfl | exact (fun _ h _ => by simp at h)))) ?_
          | refine WX.drawsC mixed (by kernel_rfl) ?_
          | refine WX.condT rfl ?_
          | refine WX.condF rfl ?_
          | refine WX.skip ?_
          | refine WX.block ?_
          | refine WX.exit ?_
          | refine WX.ret ?_)
        show KCon _ _ _ _ _ _ _ _
        refine kcon_of id (.inr rfl) (fun m hm => rfl) ?_ trivial (view_dead (n := 2) (Nat.le_of_ble_eq_true rfl)) (fun _ _ => rfl)
        rfl
end Go.Proofs.Ytlgbbgicicnijaa
