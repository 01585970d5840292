/-
  PredTells, for all its arguments: the walk.
-/
import Derived.Test.YtlgbbgicicnijaaPredTells0
namespace Go.Proofs.Ytlgbbgicicnijaa
open Go.Xm
set_option linter.unusedVariables false
set_option linter.unusedSectionVars false
set_option linter.unusedSimpArgs false
variable [Atoms]

theorem cr16 {c r : Int} (hc : 1 ≤ c ∧ c ≤ 4) (hr : 1 ≤ r ∧ r ≤ 4) : 1 ≤ c * r ∧ c * r ≤ 16 := by
  have h : c = 1 ∨ c = 2 ∨ c = 3 ∨ c = 4 := by omega
  rcases h with rfl | rfl | rfl | rfl <;> omega
theorem view_dead1 {hs : Heap} (h : 1 ≤ hs.length) : View id hs [.dead] := by
  refine ⟨fun j hj => ?_, fun _ _ _ _ h => h, fun j o hj => ?_, fun j o hj => ?_⟩
  · simp only [List.length_cons, List.length_nil] at hj
    show j < hs.length
    omega
  · have : o ∈ [XObj.dead] := List.mem_of_getElem? hj
    simp only [List.mem_singleton] at this
    rw [this]; trivial
  · have : o ∈ [XObj.dead] := List.mem_of_getElem? hj
    simp only [List.mem_singleton] at this
    exact .inl this

/-- The acts' loop: so many are done. -/
abbrev St5 : Type := Nat × Tab × Tab × Tab × MT
abbrev St4 : Type := Tab × Tab × Tab × MT

set_option maxRecDepth 10000 in
set_option maxHeartbeats 8000000 in
theorem tells_con (l : List ActV) (hl : ∀ a ∈ l, a.Ok) (sa : XC) (oA : XObj) (hsa : SlOk sa 0 l.length) (hoA : 0 < l.length → ∃ e, oA = .cells (flatActs l) e true true) (okA : ∀ n, oA.okN n) (hlen : l.length ≤ 9223372036854775807)
    (cols rows qp : Int) (h1 : 0 ≤ cols ∧ cols < 256) (h2 : 0 ≤ rows ∧ rows < 256) (h3 : 0 ≤ qp ∧ qp < 256) :
    Con Try.prog 4 [.one (.int .u8 cols), .one (.int .u8 rows), .one sa, .one (.int .u8 qp)] [oA] (.one (.bool true)) [.dead] := by
  obtain ⟨c, hc⟩ : ∃ c, 1 + cols % 4 = c := ⟨_, rfl⟩
  obtain ⟨r, hr⟩ : ∃ r, 1 + rows % 4 = r := ⟨_, rfl⟩
  obtain ⟨q, hq⟩ : ∃ q, 1 + qp % 31 = q := ⟨_, rfl⟩
  have hc4 : 1 ≤ c ∧ c ≤ 4 := by omega
  have hr4 : 1 ≤ r ∧ r ≤ 4 := by omega
  have hq31 : 1 ≤ q ∧ q ≤ 31 := by omega
  have hc8 : 1 ≤ c ∧ c ≤ 8 := by omega
  have hr8 : 0 ≤ r ∧ r ≤ 8 := by omega
  have hcr := cr16 hc4 hr4
  refine con_of_wx Try.func4 rfl (Nat.le_of_ble_eq_true rfl) (Nat.le_of_ble_eq_true rfl) (Nat.le_of_ble_eq_true rfl) (Nat.le_of_ble_eq_true rfl) ?_
  repeat' (first
    | (refine sk_id ?_; first
      | refine sk_call (inst_pure awake_con rfl rfl rfl) rfl rfl rfl rfl rfl rfl (by kernel_rfl) rfl ?_
      | refine sk_lenv rfl rfl rfl rfl rfl hsa ?_
      | refine sk_call (inst_new ⟨by omega, by omega⟩ ⟨by omega, by omega⟩ (by first | (simp only [List.length_cons, List.length_nil, List.length_append, Nat.reduceAdd, Nat.zero_add]; exact rfl) | exact rfl) (by first | (simp only [List.cons_append, List.nil_append]; exact rfl) | exact rfl) rfl) rfl rfl rfl rfl rfl rfl (by kernel_rfl) rfl ?_
      | refine sk_move rfl rfl rfl rfl (c := .one _) rfl ?_
      | refine sk_assign rfl rfl rfl rfl (c := .one _) rfl ?_
      | refine sk_add rfl rfl rfl rfl rfl rfl (by omega) ?_
      | refine sk_sub rfl rfl rfl rfl rfl rfl (by omega) ?_
      | refine sk_mul rfl rfl rfl rfl rfl rfl (by omega) ?_
      | refine sk_load rfl rfl rfl rfl rfl rfl rfl ?_
      | refine sk_fld rfl rfl rfl rfl rfl (by first | (simp only [Nat.zero_add, Nat.mul_one, Nat.reduceAdd, Nat.reduceMul, Int.reduceToNat, Nat.add_zero, Int.toNat_natCast]; exact rfl) | exact rfl) ?_
      | refine sk_true rfl rfl rfl rfl rfl rfl rfl (by omega) ?_
      | refine sk_false rfl rfl rfl rfl rfl rfl rfl (by omega) ?_
      | refine sk_netrue rfl rfl rfl rfl rfl rfl (by omega) ?_
      | refine sk_nefalse rfl rfl rfl rfl rfl rfl (by omega) ?_
      | refine sk_fork rfl rfl rfl rfl rfl rfl rfl (fun _ => ?_) (fun _ => ?_)
      | refine sk_forkn rfl rfl rfl rfl rfl rfl (fun _ => ?_) (fun _ => ?_)
      | refine sk_nil rfl rfl rfl rfl rfl ?_
      | refine sk_idxa rfl rfl rfl rfl rfl rfl (by omega) (by first | (simp only [Nat.zero_add, Nat.mul_one, Nat.reduceAdd, Nat.reduceMul, Int.reduceToNat, Nat.add_zero, Int.toNat_natCast]; exact rfl) | exact rfl) ?_
      | refine sk_loadall rfl rfl rfl rfl rfl rfl rfl ?_
      | refine sk_loada rfl rfl rfl rfl rfl rfl (by decide) rfl ?_
      | refine sk_quo rfl rfl rfl rfl rfl rfl (by omega) (by omega) ?_
      | refine sk_rem rfl rfl rfl rfl rfl rfl (by omega) (by omega) ?_
      | refine sk_max rfl rfl rfl rfl rfl rfl (Int.max_eq_left (by omega)) ?_
      | refine sk_max rfl rfl rfl rfl rfl rfl (Int.max_eq_right (by omega)) ?_
      | refine sk_max rfl rfl rfl rfl rfl rfl rfl ?_
      | refine sk_min rfl rfl rfl rfl rfl rfl (Int.min_eq_left (by omega)) ?_
      | refine sk_min rfl rfl rfl rfl rfl rfl (Int.min_eq_right (by omega)) ?_
      | refine sk_min rfl rfl rfl rfl rfl rfl rfl ?_
      | refine sk_conv rfl rfl rfl rfl rfl (by first | exact IntWalk.i64_in _ (by omega) | rfl) ?_
      | refine sk_pickT rfl rfl rfl rfl rfl rfl ?_
      | refine sk_pickF rfl rfl rfl rfl rfl rfl ?_
      | refine sk_not rfl rfl rfl rfl rfl rfl ?_
      | refine sk_build0 rfl rfl rfl rfl ?_
      | refine sk_build0A rfl rfl rfl rfl ?_
      | refine sk_buildA rfl rfl rfl rfl rfl rfl (by first | (simp only [List.cons_append, List.nil_append, List.append_nil]; exact rfl) | exact rfl) ?_
      | refine sk_buildS rfl rfl rfl rfl rfl rfl (by first | (simp only [List.cons_append, List.nil_append, List.append_nil]; exact rfl) | exact rfl) ?_
      | refine sk_nnp rfl rfl rfl rfl rfl ?_
      | refine sk_makemap rfl rfl rfl rfl (by first | (simp only [List.length_cons, List.length_nil, List.length_append, Nat.reduceAdd, Nat.zero_add]; exact rfl) | exact rfl) rfl (by first | (simp only [List.cons_append, List.nil_append]; exact rfl) | exact rfl) ?_
      | refine sk_alloc rfl rfl rfl rfl (by first | (simp only [List.length_cons, List.length_nil, List.length_append, Nat.reduceAdd, Nat.zero_add]; exact rfl) | exact rfl) rfl (by first | (simp only [List.cons_append, List.nil_append]; exact rfl) | exact rfl) ?_
      | refine sk_box rfl rfl rfl rfl rfl (by first | (simp only [List.length_cons, List.length_nil, List.length_append, Nat.reduceAdd, Nat.zero_add]; exact rfl) | exact rfl) rfl (by first | (simp only [List.cons_append, List.nil_append]; exact rfl) | exact rfl) ?_
      | refine sk_store rfl rfl rfl rfl rfl rfl (by decide) (by first | (simp only [List.set_cons_succ, List.set_cons_zero]; exact rfl) | exact rfl) (by first | (simp only [List.set_cons_succ, List.set_cons_zero]; exact rfl) | exact rfl) ?_
      | refine sk_storea rfl rfl rfl rfl rfl rfl rfl rfl (by first | (simp only [List.set_cons_succ, List.set_cons_zero]; exact rfl) | exact rfl) ?_
      | refine sk_ext rfl rfl rfl rfl rfl rfl ?_
      | refine sk_exta rfl rfl rfl rfl rfl rfl ?_
      | refine sk_idxs rfl rfl rfl rfl rfl rfl (by omega) (by first | (simp only [Nat.zero_add, Nat.mul_one, Nat.reduceAdd, Nat.reduceMul, Int.reduceToNat, Nat.add_zero, Int.toNat_natCast]; exact rfl) | exact rfl) ?_
      | refine sk_lens rfl rfl rfl rfl rfl ?_
      | refine sk_field rfl rfl rfl rfl rfl rfl ?_
      | refine sk_move rfl rfl rfl rfl (c := .agg _) rfl ?_
      | refine sk_assign rfl rfl rfl rfl (c := .agg _) rfl ?_
      | refine sk_move rfl rfl rfl rfl (c := .tup _) rfl ?_
      | refine sk_assign rfl rfl rfl rfl (c := .tup _) rfl ?_
      | refine sk_skip rfl rfl rfl ?_
      | refine sk_skip0 rfl rfl ?_
      | refine sk_pure rfl rfl rfl rfl ?_)
    | (refine WX.seqR 6 ?_; refine WX.seqI (σ := St4) (fun _ => tR0 c r q) (fun s => tH oA c r s.1 s.2.1 s.2.2.1 s.2.2.2) (fun s => Agree c s.1 s.2.1 s.2.2.1 s.2.2.2 ∧ AllOk s.2.2.2) ?_ (fun s => ⟨Nat.le_of_ble_eq_true rfl, rfl, tH_ok okA, tR0_ok⟩) (fun s hI => ?_))
    | refine WX.seq ?_
    | refine WX.actsC ?_
    | refine sk_last (by first | exact Consistent.nil | exact Consistent.one _ | exact Consistent.ofL (by repeat' (first | exact True.intro | refine And.intro ?_ ?_ | exact Compat.ne rfl))) ⟨by kernel_rfl, ?_⟩
    | refine sk_last (by first | exact Consistent.nil | exact Consistent.one _ | exact Consistent.ofL (by repeat' (first | exact True.intro | refine And.intro ?_ ?_ | exact Compat.ne rfl))) ?_
    | refine WX.drawsC mixed (by kernel_rfl) ?_
    | refine WX.condT rfl ?_
    | refine WX.condF rfl ?_
    | refine WX.skip ?_
    | refine WX.block ?_
    | refine WX.exit ?_
    | refine WX.ret ?_)
  · refine WX.loop ?_
    refine WX.drop (al2 := tR1 sa c r q l.length 0) (hs2 := tH oA c r [] [] [] []) (junk := []) (less_cons rfl (less_cons rfl (less_cons rfl (less_cons (by rw [← hc]; rfl) (less_cons (by rw [← hr]; rfl) (less_cons (by rw [← hq]; rfl) (less_cons rfl (less_cons rfl (less_nil _))))))))) (by rw [← hc, ← hr]; rfl) (Nat.le_of_ble_eq_true rfl) rfl (tH_ok okA) (tR1_ok hsa) ?_
    refine WX.while (σ := St5) (fun s => tR1 sa c r q l.length s.1) (fun s => tH oA c r s.2.1 s.2.2.1 s.2.2.2.1 s.2.2.2.2) (fun s => s.1 ≤ l.length ∧ Agree c s.2.1 s.2.2.1 s.2.2.2.1 s.2.2.2.2 ∧ AllOk s.2.2.2.2) (fun s => l.length - s.1) (0, [], [], [], []) ⟨Nat.zero_le _, agree_nil c, fun _ _ h => by cases h⟩ ?_
    rintro ⟨i, A, B, C, M⟩ ⟨hi, hag, hall⟩ ih
    simp only at hi hag hall ih
    refine WX.round ?_
    simp only [tR1, tH]
    by_cases hlt : i < l.length
    · have hgt : l[i]? = some l[i] := List.getElem?_eq_getElem hlt
      have hao : (l[i]).Ok := hl _ (List.getElem_mem hlt)
      have hfl := flat_at actCells 5 l (fun _ _ => rfl) i _ hgt
      obtain ⟨a, haa⟩ : ∃ a, l[i] = a := ⟨_, rfl⟩
      rw [haa] at hao hfl
      clear hgt haa
      have hkn := known_at a hao
      have hko := actKn_ok hao
      have g1 := hao.hmb
      have g2 := hao.hk
      have m0 : 0 ≤ a.mb % (c * r + 1) := Int.emod_nonneg _ (by omega)
      have m1 : a.mb % (c * r + 1) < c * r + 1 := Int.emod_lt_of_pos _ (by omega)
      by_cases h60 : 60 ≤ i
      · clear ih
        repeat' (first
          | (refine sk_id ?_; first
            | refine sk_idxv rfl rfl rfl rfl rfl rfl hsa (by omega) (by first | (simp only [Nat.zero_add, Nat.mul_one, Nat.reduceAdd, Nat.reduceMul, Int.reduceToNat, Nat.add_zero, Int.toNat_natCast]; exact rfl) | exact rfl) ?_
            | refine sk_loadaE rfl rfl rfl rfl rfl rfl (hoA (by omega)) hfl.1 hfl.2 ?_
            | refine sk_move rfl rfl rfl rfl (c := .one _) rfl ?_
            | refine sk_assign rfl rfl rfl rfl (c := .one _) rfl ?_
            | refine sk_add rfl rfl rfl rfl rfl rfl (by omega) ?_
            | refine sk_sub rfl rfl rfl rfl rfl rfl (by omega) ?_
            | refine sk_mul rfl rfl rfl rfl rfl rfl (by omega) ?_
            | refine sk_load rfl rfl rfl rfl rfl rfl rfl ?_
            | refine sk_fld rfl rfl rfl rfl rfl (by first | (simp only [Nat.zero_add, Nat.mul_one, Nat.reduceAdd, Nat.reduceMul, Int.reduceToNat, Nat.add_zero, Int.toNat_natCast]; exact rfl) | exact rfl) ?_
            | refine sk_true rfl rfl rfl rfl rfl rfl rfl (by omega) ?_
            | refine sk_false rfl rfl rfl rfl rfl rfl rfl (by omega) ?_
            | refine sk_netrue rfl rfl rfl rfl rfl rfl (by omega) ?_
            | refine sk_nefalse rfl rfl rfl rfl rfl rfl (by omega) ?_
            | refine sk_fork rfl rfl rfl rfl rfl rfl rfl (fun _ => ?_) (fun _ => ?_)
            | refine sk_forkn rfl rfl rfl rfl rfl rfl (fun _ => ?_) (fun _ => ?_)
            | refine sk_nil rfl rfl rfl rfl rfl ?_
            | refine sk_idxa rfl rfl rfl rfl rfl rfl (by omega) (by first | (simp only [Nat.zero_add, Nat.mul_one, Nat.reduceAdd, Nat.reduceMul, Int.reduceToNat, Nat.add_zero, Int.toNat_natCast]; exact rfl) | exact rfl) ?_
            | refine sk_loadall rfl rfl rfl rfl rfl rfl rfl ?_
            | refine sk_loada rfl rfl rfl rfl rfl rfl (by decide) rfl ?_
            | refine sk_quo rfl rfl rfl rfl rfl rfl (by omega) (by omega) ?_
            | refine sk_rem rfl rfl rfl rfl rfl rfl (by omega) (by omega) ?_
            | refine sk_max rfl rfl rfl rfl rfl rfl (Int.max_eq_left (by omega)) ?_
            | refine sk_max rfl rfl rfl rfl rfl rfl (Int.max_eq_right (by omega)) ?_
            | refine sk_max rfl rfl rfl rfl rfl rfl rfl ?_
            | refine sk_min rfl rfl rfl rfl rfl rfl (Int.min_eq_left (by omega)) ?_
            | refine sk_min rfl rfl rfl rfl rfl rfl (Int.min_eq_right (by omega)) ?_
            | refine sk_min rfl rfl rfl rfl rfl rfl rfl ?_
            | refine sk_conv rfl rfl rfl rfl rfl (by first | exact IntWalk.i64_in _ (by omega) | rfl) ?_
            | refine sk_pickT rfl rfl rfl rfl rfl rfl ?_
            | refine sk_pickF rfl rfl rfl rfl rfl rfl ?_
            | refine sk_not rfl rfl rfl rfl rfl rfl ?_
            | refine sk_build0 rfl rfl rfl rfl ?_
            | refine sk_build0A rfl rfl rfl rfl ?_
            | refine sk_buildA rfl rfl rfl rfl rfl rfl (by first | (simp only [List.cons_append, List.nil_append, List.append_nil]; exact rfl) | exact rfl) ?_
            | refine sk_buildS rfl rfl rfl rfl rfl rfl (by first | (simp only [List.cons_append, List.nil_append, List.append_nil]; exact rfl) | exact rfl) ?_
            | refine sk_nnp rfl rfl rfl rfl rfl ?_
            | refine sk_makemap rfl rfl rfl rfl (by first | (simp only [List.length_cons, List.length_nil, List.length_append, Nat.reduceAdd, Nat.zero_add]; exact rfl) | exact rfl) rfl (by first | (simp only [List.cons_append, List.nil_append]; exact rfl) | exact rfl) ?_
            | refine sk_alloc rfl rfl rfl rfl (by first | (simp only [List.length_cons, List.length_nil, List.length_append, Nat.reduceAdd, Nat.zero_add]; exact rfl) | exact rfl) rfl (by first | (simp only [List.cons_append, List.nil_append]; exact rfl) | exact rfl) ?_
            | refine sk_box rfl rfl rfl rfl rfl (by first | (simp only [List.length_cons, List.length_nil, List.length_append, Nat.reduceAdd, Nat.zero_add]; exact rfl) | exact rfl) rfl (by first | (simp only [List.cons_append, List.nil_append]; exact rfl) | exact rfl) ?_
            | refine sk_store rfl rfl rfl rfl rfl rfl (by decide) (by first | (simp only [List.set_cons_succ, List.set_cons_zero]; exact rfl) | exact rfl) (by first | (simp only [List.set_cons_succ, List.set_cons_zero]; exact rfl) | exact rfl) ?_
            | refine sk_storea rfl rfl rfl rfl rfl rfl rfl rfl (by first | (simp only [List.set_cons_succ, List.set_cons_zero]; exact rfl) | exact rfl) ?_
            | refine sk_ext rfl rfl rfl rfl rfl rfl ?_
            | refine sk_exta rfl rfl rfl rfl rfl rfl ?_
            | refine sk_idxs rfl rfl rfl rfl rfl rfl (by omega) (by first | (simp only [Nat.zero_add, Nat.mul_one, Nat.reduceAdd, Nat.reduceMul, Int.reduceToNat, Nat.add_zero, Int.toNat_natCast]; exact rfl) | exact rfl) ?_
            | refine sk_lens rfl rfl rfl rfl rfl ?_
            | refine sk_field rfl rfl rfl rfl rfl rfl ?_
            | refine sk_move rfl rfl rfl rfl (c := .agg _) rfl ?_
            | refine sk_assign rfl rfl rfl rfl (c := .agg _) rfl ?_
            | refine sk_move rfl rfl rfl rfl (c := .tup _) rfl ?_
            | refine sk_assign rfl rfl rfl rfl (c := .tup _) rfl ?_
            | refine sk_skip rfl rfl rfl ?_
            | refine sk_skip0 rfl rfl ?_
            | refine sk_pure rfl rfl rfl rfl ?_)
          | refine WX.seq ?_
          | refine WX.actsC ?_
          | refine sk_last (by first | exact Consistent.nil | exact Consistent.one _ | exact Consistent.ofL (by repeat' (first | exact True.intro | refine And.intro ?_ ?_ | exact Compat.ne rfl))) ⟨by kernel_rfl, ?_⟩
          | refine sk_last (by first | exact Consistent.nil | exact Consistent.one _ | exact Consistent.ofL (by repeat' (first | exact True.intro | refine And.intro ?_ ?_ | exact Compat.ne rfl))) ?_
          | refine WX.drawsC mixed (by kernel_rfl) ?_
          | refine WX.condT rfl ?_
          | refine WX.condF rfl ?_
          | refine WX.skip ?_
          | refine WX.block ?_
          | refine WX.exit ?_
          | refine WX.ret ?_)
        exact ⟨rfl, (A, B, C, M), _, ⟨hag, hall⟩, (less_cons rfl (less_cons rfl (less_cons rfl (less_cons rfl (less_cons rfl (less_nil _)))))), rfl⟩
      · cases hin : insideB c r (a.mb % (c * r + 1)) (a.k % 7) with
        | true =>
          have hii := insideB_iff.1 hin
          obtain ⟨⟨pa, xa, ya⟩, hpa⟩ : ∃ P, placeOf c (a.mb % (c * r + 1)) (a.k % 7) = P := ⟨_, rfl⟩
          have hset := set_con (A := A) (B := B) (C := C) hc8 hr8 hin hpa (actKn a)
          have hlpa := lplace_con c (a.mb % (c * r + 1)) (a.k % 7) hc8 (by omega) (by omega)
          have hoka := place_ok hc8 hr8 ⟨hii.1, hii.2.1⟩ hii.2.2
          rw [hpa] at hlpa hoka
          simp only at hlpa
          repeat' (first
            | (refine sk_id ?_; first
              | refine sk_idxv rfl rfl rfl rfl rfl rfl hsa (by omega) (by first | (simp only [Nat.zero_add, Nat.mul_one, Nat.reduceAdd, Nat.reduceMul, Int.reduceToNat, Nat.add_zero, Int.toNat_natCast]; exact rfl) | exact rfl) ?_
              | refine sk_loadaE rfl rfl rfl rfl rfl rfl (hoA (by omega)) hfl.1 hfl.2 ?_
              | refine sk_call (inst_pure hlpa rfl rfl rfl) rfl rfl rfl rfl rfl rfl (by kernel_rfl) rfl ?_
              | refine sk_call (inst_pure hkn rfl (kc_shut _) rfl) rfl rfl rfl rfl rfl rfl (by kernel_rfl) rfl ?_
              | refine sk_call (inst_set hset 1 2 3 4 (by decide) rfl rfl rfl rfl (by first | (simp only [List.set_cons_succ, List.set_cons_zero]; exact rfl) | exact rfl) rfl) rfl rfl rfl rfl rfl rfl (by kernel_rfl) rfl ?_
              | refine sk_mapup (vc := kval) (k := (pa, xa, ya)) rfl rfl rfl key3_ok rfl rfl rfl rfl (by first | (simp only [List.set_cons_succ, List.set_cons_zero]; exact rfl) | exact rfl) ?_
              | refine sk_move rfl rfl rfl rfl (c := .one _) rfl ?_
              | refine sk_assign rfl rfl rfl rfl (c := .one _) rfl ?_
              | refine sk_add rfl rfl rfl rfl rfl rfl (by omega) ?_
              | refine sk_sub rfl rfl rfl rfl rfl rfl (by omega) ?_
              | refine sk_mul rfl rfl rfl rfl rfl rfl (by omega) ?_
              | refine sk_load rfl rfl rfl rfl rfl rfl rfl ?_
              | refine sk_fld rfl rfl rfl rfl rfl (by first | (simp only [Nat.zero_add, Nat.mul_one, Nat.reduceAdd, Nat.reduceMul, Int.reduceToNat, Nat.add_zero, Int.toNat_natCast]; exact rfl) | exact rfl) ?_
              | refine sk_true rfl rfl rfl rfl rfl rfl rfl (by omega) ?_
              | refine sk_false rfl rfl rfl rfl rfl rfl rfl (by omega) ?_
              | refine sk_netrue rfl rfl rfl rfl rfl rfl (by omega) ?_
              | refine sk_nefalse rfl rfl rfl rfl rfl rfl (by omega) ?_
              | refine sk_fork rfl rfl rfl rfl rfl rfl rfl (fun _ => ?_) (fun _ => ?_)
              | refine sk_forkn rfl rfl rfl rfl rfl rfl (fun _ => ?_) (fun _ => ?_)
              | refine sk_nil rfl rfl rfl rfl rfl ?_
              | refine sk_idxa rfl rfl rfl rfl rfl rfl (by omega) (by first | (simp only [Nat.zero_add, Nat.mul_one, Nat.reduceAdd, Nat.reduceMul, Int.reduceToNat, Nat.add_zero, Int.toNat_natCast]; exact rfl) | exact rfl) ?_
              | refine sk_loadall rfl rfl rfl rfl rfl rfl rfl ?_
              | refine sk_loada rfl rfl rfl rfl rfl rfl (by decide) rfl ?_
              | refine sk_quo rfl rfl rfl rfl rfl rfl (by omega) (by omega) ?_
              | refine sk_rem rfl rfl rfl rfl rfl rfl (by omega) (by omega) ?_
              | refine sk_max rfl rfl rfl rfl rfl rfl (Int.max_eq_left (by omega)) ?_
              | refine sk_max rfl rfl rfl rfl rfl rfl (Int.max_eq_right (by omega)) ?_
              | refine sk_max rfl rfl rfl rfl rfl rfl rfl ?_
              | refine sk_min rfl rfl rfl rfl rfl rfl (Int.min_eq_left (by omega)) ?_
              | refine sk_min rfl rfl rfl rfl rfl rfl (Int.min_eq_right (by omega)) ?_
              | refine sk_min rfl rfl rfl rfl rfl rfl rfl ?_
              | refine sk_conv rfl rfl rfl rfl rfl (by first | exact IntWalk.i64_in _ (by omega) | rfl) ?_
              | refine sk_pickT rfl rfl rfl rfl rfl rfl ?_
              | refine sk_pickF rfl rfl rfl rfl rfl rfl ?_
              | refine sk_not rfl rfl rfl rfl rfl rfl ?_
              | refine sk_build0 rfl rfl rfl rfl ?_
              | refine sk_build0A rfl rfl rfl rfl ?_
              | refine sk_buildA rfl rfl rfl rfl rfl rfl (by first | (simp only [List.cons_append, List.nil_append, List.append_nil]; exact rfl) | exact rfl) ?_
              | refine sk_buildS rfl rfl rfl rfl rfl rfl (by first | (simp only [List.cons_append, List.nil_append, List.append_nil]; exact rfl) | exact rfl) ?_
              | refine sk_nnp rfl rfl rfl rfl rfl ?_
              | refine sk_makemap rfl rfl rfl rfl (by first | (simp only [List.length_cons, List.length_nil, List.length_append, Nat.reduceAdd, Nat.zero_add]; exact rfl) | exact rfl) rfl (by first | (simp only [List.cons_append, List.nil_append]; exact rfl) | exact rfl) ?_
              | refine sk_alloc rfl rfl rfl rfl (by first | (simp only [List.length_cons, List.length_nil, List.length_append, Nat.reduceAdd, Nat.zero_add]; exact rfl) | exact rfl) rfl (by first | (simp only [List.cons_append, List.nil_append]; exact rfl) | exact rfl) ?_
              | refine sk_box rfl rfl rfl rfl rfl (by first | (simp only [List.length_cons, List.length_nil, List.length_append, Nat.reduceAdd, Nat.zero_add]; exact rfl) | exact rfl) rfl (by first | (simp only [List.cons_append, List.nil_append]; exact rfl) | exact rfl) ?_
              | refine sk_store rfl rfl rfl rfl rfl rfl (by decide) (by first | (simp only [List.set_cons_succ, List.set_cons_zero]; exact rfl) | exact rfl) (by first | (simp only [List.set_cons_succ, List.set_cons_zero]; exact rfl) | exact rfl) ?_
              | refine sk_storea rfl rfl rfl rfl rfl rfl rfl rfl (by first | (simp only [List.set_cons_succ, List.set_cons_zero]; exact rfl) | exact rfl) ?_
              | refine sk_ext rfl rfl rfl rfl rfl rfl ?_
              | refine sk_exta rfl rfl rfl rfl rfl rfl ?_
              | refine sk_idxs rfl rfl rfl rfl rfl rfl (by omega) (by first | (simp only [Nat.zero_add, Nat.mul_one, Nat.reduceAdd, Nat.reduceMul, Int.reduceToNat, Nat.add_zero, Int.toNat_natCast]; exact rfl) | exact rfl) ?_
              | refine sk_lens rfl rfl rfl rfl rfl ?_
              | refine sk_field rfl rfl rfl rfl rfl rfl ?_
              | refine sk_move rfl rfl rfl rfl (c := .agg _) rfl ?_
              | refine sk_assign rfl rfl rfl rfl (c := .agg _) rfl ?_
              | refine sk_move rfl rfl rfl rfl (c := .tup _) rfl ?_
              | refine sk_assign rfl rfl rfl rfl (c := .tup _) rfl ?_
              | refine sk_skip rfl rfl rfl ?_
              | refine sk_skip0 rfl rfl ?_
              | refine sk_pure rfl rfl rfl rfl ?_)
            | refine WX.seq ?_
            | refine WX.actsC ?_
            | refine sk_last (by first | exact Consistent.nil | exact Consistent.one _ | exact Consistent.ofL (by repeat' (first | exact True.intro | refine And.intro ?_ ?_ | exact Compat.ne rfl))) ⟨by kernel_rfl, ?_⟩
            | refine sk_last (by first | exact Consistent.nil | exact Consistent.one _ | exact Consistent.ofL (by repeat' (first | exact True.intro | refine And.intro ?_ ?_ | exact Compat.ne rfl))) ?_
            | refine WX.drawsC mixed (by kernel_rfl) ?_
            | refine WX.condT rfl ?_
            | refine WX.condF rfl ?_
            | refine WX.skip ?_
            | refine WX.block ?_
            | refine WX.exit ?_
            | refine WX.ret ?_)
          refine WX.drop (al2 := tR1 sa c r q l.length (i + 1)) (hs2 := tH oA c r (setT pa 0 A (ya * wideOf c pa + xa) (actKn a)) (setT pa 1 B (ya * wideOf c pa + xa) (actKn a)) (setT pa 2 C (ya * wideOf c pa + xa) (actKn a)) (putm M (pa, xa, ya) (actKn a))) (junk := _) (less_cons rfl (less_cons rfl (less_cons rfl (less_cons rfl (less_cons rfl (less_cons rfl (less_cons rfl (less_cons rfl (less_nil _))))))))) rfl (Nat.le_of_ble_eq_true rfl) rfl (tH_ok okA) (tR1_ok hsa) (ih (i + 1, _, _, _, _) ⟨hlt, agree_put hag hoka.pp ⟨hoka.x0, hoka.x1⟩ hoka.yy.1, allOk_put hall hko⟩ (by simp only; omega))
        | false =>
          have hii : ¬ (0 ≤ a.mb % (c * r + 1) ∧ a.mb % (c * r + 1) < c * r ∧ 0 ≤ a.k % 7 ∧ a.k % 7 < 6) := fun h => by rw [insideB_iff.2 h] at hin; cases hin
          have hset := set_out c r (a.mb % (c * r + 1)) (a.k % 7) (actKn a) A B C hin ⟨by omega, by omega⟩
          repeat' (first
            | (refine sk_id ?_; first
              | refine sk_idxv rfl rfl rfl rfl rfl rfl hsa (by omega) (by first | (simp only [Nat.zero_add, Nat.mul_one, Nat.reduceAdd, Nat.reduceMul, Int.reduceToNat, Nat.add_zero, Int.toNat_natCast]; exact rfl) | exact rfl) ?_
              | refine sk_loadaE rfl rfl rfl rfl rfl rfl (hoA (by omega)) hfl.1 hfl.2 ?_
              | refine sk_call (inst_pure hkn rfl (kc_shut _) rfl) rfl rfl rfl rfl rfl rfl (by kernel_rfl) rfl ?_
              | refine sk_call (inst_tab hset 1 2 3 4 (by decide) rfl rfl rfl rfl (by simp [XV.shut, kc_shut, XC.shut]) rfl rfl) rfl rfl rfl rfl rfl rfl (by kernel_rfl) rfl ?_
              | refine sk_move rfl rfl rfl rfl (c := .one _) rfl ?_
              | refine sk_assign rfl rfl rfl rfl (c := .one _) rfl ?_
              | refine sk_add rfl rfl rfl rfl rfl rfl (by omega) ?_
              | refine sk_sub rfl rfl rfl rfl rfl rfl (by omega) ?_
              | refine sk_mul rfl rfl rfl rfl rfl rfl (by omega) ?_
              | refine sk_load rfl rfl rfl rfl rfl rfl rfl ?_
              | refine sk_fld rfl rfl rfl rfl rfl (by first | (simp only [Nat.zero_add, Nat.mul_one, Nat.reduceAdd, Nat.reduceMul, Int.reduceToNat, Nat.add_zero, Int.toNat_natCast]; exact rfl) | exact rfl) ?_
              | refine sk_true rfl rfl rfl rfl rfl rfl rfl (by omega) ?_
              | refine sk_false rfl rfl rfl rfl rfl rfl rfl (by omega) ?_
              | refine sk_netrue rfl rfl rfl rfl rfl rfl (by omega) ?_
              | refine sk_nefalse rfl rfl rfl rfl rfl rfl (by omega) ?_
              | refine sk_fork rfl rfl rfl rfl rfl rfl rfl (fun _ => ?_) (fun _ => ?_)
              | refine sk_forkn rfl rfl rfl rfl rfl rfl (fun _ => ?_) (fun _ => ?_)
              | refine sk_nil rfl rfl rfl rfl rfl ?_
              | refine sk_idxa rfl rfl rfl rfl rfl rfl (by omega) (by first | (simp only [Nat.zero_add, Nat.mul_one, Nat.reduceAdd, Nat.reduceMul, Int.reduceToNat, Nat.add_zero, Int.toNat_natCast]; exact rfl) | exact rfl) ?_
              | refine sk_loadall rfl rfl rfl rfl rfl rfl rfl ?_
              | refine sk_loada rfl rfl rfl rfl rfl rfl (by decide) rfl ?_
              | refine sk_quo rfl rfl rfl rfl rfl rfl (by omega) (by omega) ?_
              | refine sk_rem rfl rfl rfl rfl rfl rfl (by omega) (by omega) ?_
              | refine sk_max rfl rfl rfl rfl rfl rfl (Int.max_eq_left (by omega)) ?_
              | refine sk_max rfl rfl rfl rfl rfl rfl (Int.max_eq_right (by omega)) ?_
              | refine sk_max rfl rfl rfl rfl rfl rfl rfl ?_
              | refine sk_min rfl rfl rfl rfl rfl rfl (Int.min_eq_left (by omega)) ?_
              | refine sk_min rfl rfl rfl rfl rfl rfl (Int.min_eq_right (by omega)) ?_
              | refine sk_min rfl rfl rfl rfl rfl rfl rfl ?_
              | refine sk_conv rfl rfl rfl rfl rfl (by first | exact IntWalk.i64_in _ (by omega) | rfl) ?_
              | refine sk_pickT rfl rfl rfl rfl rfl rfl ?_
              | refine sk_pickF rfl rfl rfl rfl rfl rfl ?_
              | refine sk_not rfl rfl rfl rfl rfl rfl ?_
              | refine sk_build0 rfl rfl rfl rfl ?_
              | refine sk_build0A rfl rfl rfl rfl ?_
              | refine sk_buildA rfl rfl rfl rfl rfl rfl (by first | (simp only [List.cons_append, List.nil_append, List.append_nil]; exact rfl) | exact rfl) ?_
              | refine sk_buildS rfl rfl rfl rfl rfl rfl (by first | (simp only [List.cons_append, List.nil_append, List.append_nil]; exact rfl) | exact rfl) ?_
              | refine sk_nnp rfl rfl rfl rfl rfl ?_
              | refine sk_makemap rfl rfl rfl rfl (by first | (simp only [List.length_cons, List.length_nil, List.length_append, Nat.reduceAdd, Nat.zero_add]; exact rfl) | exact rfl) rfl (by first | (simp only [List.cons_append, List.nil_append]; exact rfl) | exact rfl) ?_
              | refine sk_alloc rfl rfl rfl rfl (by first | (simp only [List.length_cons, List.length_nil, List.length_append, Nat.reduceAdd, Nat.zero_add]; exact rfl) | exact rfl) rfl (by first | (simp only [List.cons_append, List.nil_append]; exact rfl) | exact rfl) ?_
              | refine sk_box rfl rfl rfl rfl rfl (by first | (simp only [List.length_cons, List.length_nil, List.length_append, Nat.reduceAdd, Nat.zero_add]; exact rfl) | exact rfl) rfl (by first | (simp only [List.cons_append, List.nil_append]; exact rfl) | exact rfl) ?_
              | refine sk_store rfl rfl rfl rfl rfl rfl (by decide) (by first | (simp only [List.set_cons_succ, List.set_cons_zero]; exact rfl) | exact rfl) (by first | (simp only [List.set_cons_succ, List.set_cons_zero]; exact rfl) | exact rfl) ?_
              | refine sk_storea rfl rfl rfl rfl rfl rfl rfl rfl (by first | (simp only [List.set_cons_succ, List.set_cons_zero]; exact rfl) | exact rfl) ?_
              | refine sk_ext rfl rfl rfl rfl rfl rfl ?_
              | refine sk_exta rfl rfl rfl rfl rfl rfl ?_
              | refine sk_idxs rfl rfl rfl rfl rfl rfl (by omega) (by first | (simp only [Nat.zero_add, Nat.mul_one, Nat.reduceAdd, Nat.reduceMul, Int.reduceToNat, Nat.add_zero, Int.toNat_natCast]; exact rfl) | exact rfl) ?_
              | refine sk_lens rfl rfl rfl rfl rfl ?_
              | refine sk_field rfl rfl rfl rfl rfl rfl ?_
              | refine sk_move rfl rfl rfl rfl (c := .agg _) rfl ?_
              | refine sk_assign rfl rfl rfl rfl (c := .agg _) rfl ?_
              | refine sk_move rfl rfl rfl rfl (c := .tup _) rfl ?_
              | refine sk_assign rfl rfl rfl rfl (c := .tup _) rfl ?_
              | refine sk_skip rfl rfl rfl ?_
              | refine sk_skip0 rfl rfl ?_
              | refine sk_pure rfl rfl rfl rfl ?_)
            | refine WX.seq ?_
            | refine WX.actsC ?_
            | refine sk_last (by first | exact Consistent.nil | exact Consistent.one _ | exact Consistent.ofL (by repeat' (first | exact True.intro | refine And.intro ?_ ?_ | exact Compat.ne rfl))) ⟨by kernel_rfl, ?_⟩
            | refine sk_last (by first | exact Consistent.nil | exact Consistent.one _ | exact Consistent.ofL (by repeat' (first | exact True.intro | refine And.intro ?_ ?_ | exact Compat.ne rfl))) ?_
            | refine WX.drawsC mixed (by kernel_rfl) ?_
            | refine WX.condT rfl ?_
            | refine WX.condF rfl ?_
            | refine WX.skip ?_
            | refine WX.block ?_
            | refine WX.exit ?_
            | refine WX.ret ?_)
          all_goals
            refine WX.drop (al2 := tR1 sa c r q l.length (i + 1)) (hs2 := tH oA c r A B C M) (junk := _) (less_cons rfl (less_cons rfl (less_cons rfl (less_cons rfl (less_cons rfl (less_cons rfl (less_cons rfl (less_cons rfl (less_nil _))))))))) rfl (Nat.le_of_ble_eq_true rfl) rfl (tH_ok okA) (tR1_ok hsa) (ih (i + 1, _, _, _, _) ⟨hlt, hag, hall⟩ (by simp only; omega))
    · obtain rfl : i = l.length := by omega
      clear ih
      repeat' (first
        | (refine sk_id ?_; first
          | refine sk_move rfl rfl rfl rfl (c := .one _) rfl ?_
          | refine sk_assign rfl rfl rfl rfl (c := .one _) rfl ?_
          | refine sk_add rfl rfl rfl rfl rfl rfl (by omega) ?_
          | refine sk_sub rfl rfl rfl rfl rfl rfl (by omega) ?_
          | refine sk_mul rfl rfl rfl rfl rfl rfl (by omega) ?_
          | refine sk_load rfl rfl rfl rfl rfl rfl rfl ?_
          | refine sk_fld rfl rfl rfl rfl rfl (by first | (simp only [Nat.zero_add, Nat.mul_one, Nat.reduceAdd, Nat.reduceMul, Int.reduceToNat, Nat.add_zero, Int.toNat_natCast]; exact rfl) | exact rfl) ?_
          | refine sk_true rfl rfl rfl rfl rfl rfl rfl (by omega) ?_
          | refine sk_false rfl rfl rfl rfl rfl rfl rfl (by omega) ?_
          | refine sk_netrue rfl rfl rfl rfl rfl rfl (by omega) ?_
          | refine sk_nefalse rfl rfl rfl rfl rfl rfl (by omega) ?_
          | refine sk_fork rfl rfl rfl rfl rfl rfl rfl (fun _ => ?_) (fun _ => ?_)
          | refine sk_forkn rfl rfl rfl rfl rfl rfl (fun _ => ?_) (fun _ => ?_)
          | refine sk_nil rfl rfl rfl rfl rfl ?_
          | refine sk_idxa rfl rfl rfl rfl rfl rfl (by omega) (by first | (simp only [Nat.zero_add, Nat.mul_one, Nat.reduceAdd, Nat.reduceMul, Int.reduceToNat, Nat.add_zero, Int.toNat_natCast]; exact rfl) | exact rfl) ?_
          | refine sk_loadall rfl rfl rfl rfl rfl rfl rfl ?_
          | refine sk_loada rfl rfl rfl rfl rfl rfl (by decide) rfl ?_
          | refine sk_quo rfl rfl rfl rfl rfl rfl (by omega) (by omega) ?_
          | refine sk_rem rfl rfl rfl rfl rfl rfl (by omega) (by omega) ?_
          | refine sk_max rfl rfl rfl rfl rfl rfl (Int.max_eq_left (by omega)) ?_
          | refine sk_max rfl rfl rfl rfl rfl rfl (Int.max_eq_right (by omega)) ?_
          | refine sk_max rfl rfl rfl rfl rfl rfl rfl ?_
          | refine sk_min rfl rfl rfl rfl rfl rfl (Int.min_eq_left (by omega)) ?_
          | refine sk_min rfl rfl rfl rfl rfl rfl (Int.min_eq_right (by omega)) ?_
          | refine sk_min rfl rfl rfl rfl rfl rfl rfl ?_
          | refine sk_conv rfl rfl rfl rfl rfl (by first | exact IntWalk.i64_in _ (by omega) | rfl) ?_
          | refine sk_pickT rfl rfl rfl rfl rfl rfl ?_
          | refine sk_pickF rfl rfl rfl rfl rfl rfl ?_
          | refine sk_not rfl rfl rfl rfl rfl rfl ?_
          | refine sk_build0 rfl rfl rfl rfl ?_
          | refine sk_build0A rfl rfl rfl rfl ?_
          | refine sk_buildA rfl rfl rfl rfl rfl rfl (by first | (simp only [List.cons_append, List.nil_append, List.append_nil]; exact rfl) | exact rfl) ?_
          | refine sk_buildS rfl rfl rfl rfl rfl rfl (by first | (simp only [List.cons_append, List.nil_append, List.append_nil]; exact rfl) | exact rfl) ?_
          | refine sk_nnp rfl rfl rfl rfl rfl ?_
          | refine sk_makemap rfl rfl rfl rfl (by first | (simp only [List.length_cons, List.length_nil, List.length_append, Nat.reduceAdd, Nat.zero_add]; exact rfl) | exact rfl) rfl (by first | (simp only [List.cons_append, List.nil_append]; exact rfl) | exact rfl) ?_
          | refine sk_alloc rfl rfl rfl rfl (by first | (simp only [List.length_cons, List.length_nil, List.length_append, Nat.reduceAdd, Nat.zero_add]; exact rfl) | exact rfl) rfl (by first | (simp only [List.cons_append, List.nil_append]; exact rfl) | exact rfl) ?_
          | refine sk_box rfl rfl rfl rfl rfl (by first | (simp only [List.length_cons, List.length_nil, List.length_append, Nat.reduceAdd, Nat.zero_add]; exact rfl) | exact rfl) rfl (by first | (simp only [List.cons_append, List.nil_append]; exact rfl) | exact rfl) ?_
          | refine sk_store rfl rfl rfl rfl rfl rfl (by decide) (by first | (simp only [List.set_cons_succ, List.set_cons_zero]; exact rfl) | exact rfl) (by first | (simp only [List.set_cons_succ, List.set_cons_zero]; exact rfl) | exact rfl) ?_
          | refine sk_storea rfl rfl rfl rfl rfl rfl rfl rfl (by first | (simp only [List.set_cons_succ, List.set_cons_zero]; exact rfl) | exact rfl) ?_
          | refine sk_ext rfl rfl rfl rfl rfl rfl ?_
          | refine sk_exta rfl rfl rfl rfl rfl rfl ?_
          | refine sk_idxs rfl rfl rfl rfl rfl rfl (by omega) (by first | (simp only [Nat.zero_add, Nat.mul_one, Nat.reduceAdd, Nat.reduceMul, Int.reduceToNat, Nat.add_zero, Int.toNat_natCast]; exact rfl) | exact rfl) ?_
          | refine sk_lens rfl rfl rfl rfl rfl ?_
          | refine sk_field rfl rfl rfl rfl rfl rfl ?_
          | refine sk_move rfl rfl rfl rfl (c := .agg _) rfl ?_
          | refine sk_assign rfl rfl rfl rfl (c := .agg _) rfl ?_
          | refine sk_move rfl rfl rfl rfl (c := .tup _) rfl ?_
          | refine sk_assign rfl rfl rfl rfl (c := .tup _) rfl ?_
          | refine sk_skip rfl rfl rfl ?_
          | refine sk_skip0 rfl rfl ?_
          | refine sk_pure rfl rfl rfl rfl ?_)
        | refine WX.seq ?_
        | refine WX.actsC ?_
        | refine sk_last (by first | exact Consistent.nil | exact Consistent.one _ | exact Consistent.ofL (by repeat' (first | exact True.intro | refine And.intro ?_ ?_ | exact Compat.ne rfl))) ⟨by kernel_rfl, ?_⟩
        | refine sk_last (by first | exact Consistent.nil | exact Consistent.one _ | exact Consistent.ofL (by repeat' (first | exact True.intro | refine And.intro ?_ ?_ | exact Compat.ne rfl))) ?_
        | refine WX.drawsC mixed (by kernel_rfl) ?_
        | refine WX.condT rfl ?_
        | refine WX.condF rfl ?_
        | refine WX.skip ?_
        | refine WX.block ?_
        | refine WX.exit ?_
        | refine WX.ret ?_)
      exact ⟨rfl, (A, B, C, M), [], ⟨hag, hall⟩, (less_cons rfl (less_cons rfl (less_cons rfl (less_cons rfl (less_cons rfl (less_nil _)))))), rfl⟩
  · obtain ⟨A, B, C, M⟩ := s
    obtain ⟨hag, hall⟩ := hI
    simp only at hag hall
    simp only [tR0, tH]
    repeat' (first
      | (refine sk_id ?_; first
        | refine sk_move rfl rfl rfl rfl (c := .one _) rfl ?_
        | refine sk_assign rfl rfl rfl rfl (c := .one _) rfl ?_
        | refine sk_add rfl rfl rfl rfl rfl rfl (by omega) ?_
        | refine sk_sub rfl rfl rfl rfl rfl rfl (by omega) ?_
        | refine sk_mul rfl rfl rfl rfl rfl rfl (by omega) ?_
        | refine sk_load rfl rfl rfl rfl rfl rfl rfl ?_
        | refine sk_fld rfl rfl rfl rfl rfl (by first | (simp only [Nat.zero_add, Nat.mul_one, Nat.reduceAdd, Nat.reduceMul, Int.reduceToNat, Nat.add_zero, Int.toNat_natCast]; exact rfl) | exact rfl) ?_
        | refine sk_true rfl rfl rfl rfl rfl rfl rfl (by omega) ?_
        | refine sk_false rfl rfl rfl rfl rfl rfl rfl (by omega) ?_
        | refine sk_netrue rfl rfl rfl rfl rfl rfl (by omega) ?_
        | refine sk_nefalse rfl rfl rfl rfl rfl rfl (by omega) ?_
        | refine sk_fork rfl rfl rfl rfl rfl rfl rfl (fun _ => ?_) (fun _ => ?_)
        | refine sk_forkn rfl rfl rfl rfl rfl rfl (fun _ => ?_) (fun _ => ?_)
        | refine sk_nil rfl rfl rfl rfl rfl ?_
        | refine sk_idxa rfl rfl rfl rfl rfl rfl (by omega) (by first | (simp only [Nat.zero_add, Nat.mul_one, Nat.reduceAdd, Nat.reduceMul, Int.reduceToNat, Nat.add_zero, Int.toNat_natCast]; exact rfl) | exact rfl) ?_
        | refine sk_loadall rfl rfl rfl rfl rfl rfl rfl ?_
        | refine sk_loada rfl rfl rfl rfl rfl rfl (by decide) rfl ?_
        | refine sk_quo rfl rfl rfl rfl rfl rfl (by omega) (by omega) ?_
        | refine sk_rem rfl rfl rfl rfl rfl rfl (by omega) (by omega) ?_
        | refine sk_max rfl rfl rfl rfl rfl rfl (Int.max_eq_left (by omega)) ?_
        | refine sk_max rfl rfl rfl rfl rfl rfl (Int.max_eq_right (by omega)) ?_
        | refine sk_max rfl rfl rfl rfl rfl rfl rfl ?_
        | refine sk_min rfl rfl rfl rfl rfl rfl (Int.min_eq_left (by omega)) ?_
        | refine sk_min rfl rfl rfl rfl rfl rfl (Int.min_eq_right (by omega)) ?_
        | refine sk_min rfl rfl rfl rfl rfl rfl rfl ?_
        | refine sk_conv rfl rfl rfl rfl rfl (by first | exact IntWalk.i64_in _ (by omega) | rfl) ?_
        | refine sk_pickT rfl rfl rfl rfl rfl rfl ?_
        | refine sk_pickF rfl rfl rfl rfl rfl rfl ?_
        | refine sk_not rfl rfl rfl rfl rfl rfl ?_
        | refine sk_build0 rfl rfl rfl rfl ?_
        | refine sk_build0A rfl rfl rfl rfl ?_
        | refine sk_buildA rfl rfl rfl rfl rfl rfl (by first | (simp only [List.cons_append, List.nil_append, List.append_nil]; exact rfl) | exact rfl) ?_
        | refine sk_buildS rfl rfl rfl rfl rfl rfl (by first | (simp only [List.cons_append, List.nil_append, List.append_nil]; exact rfl) | exact rfl) ?_
        | refine sk_nnp rfl rfl rfl rfl rfl ?_
        | refine sk_makemap rfl rfl rfl rfl (by first | (simp only [List.length_cons, List.length_nil, List.length_append, Nat.reduceAdd, Nat.zero_add]; exact rfl) | exact rfl) rfl (by first | (simp only [List.cons_append, List.nil_append]; exact rfl) | exact rfl) ?_
        | refine sk_alloc rfl rfl rfl rfl (by first | (simp only [List.length_cons, List.length_nil, List.length_append, Nat.reduceAdd, Nat.zero_add]; exact rfl) | exact rfl) rfl (by first | (simp only [List.cons_append, List.nil_append]; exact rfl) | exact rfl) ?_
        | refine sk_box rfl rfl rfl rfl rfl (by first | (simp only [List.length_cons, List.length_nil, List.length_append, Nat.reduceAdd, Nat.zero_add]; exact rfl) | exact rfl) rfl (by first | (simp only [List.cons_append, List.nil_append]; exact rfl) | exact rfl) ?_
        | refine sk_store rfl rfl rfl rfl rfl rfl (by decide) (by first | (simp only [List.set_cons_succ, List.set_cons_zero]; exact rfl) | exact rfl) (by first | (simp only [List.set_cons_succ, List.set_cons_zero]; exact rfl) | exact rfl) ?_
        | refine sk_storea rfl rfl rfl rfl rfl rfl rfl rfl (by first | (simp only [List.set_cons_succ, List.set_cons_zero]; exact rfl) | exact rfl) ?_
        | refine sk_ext rfl rfl rfl rfl rfl rfl ?_
        | refine sk_exta rfl rfl rfl rfl rfl rfl ?_
        | refine sk_idxs rfl rfl rfl rfl rfl rfl (by omega) (by first | (simp only [Nat.zero_add, Nat.mul_one, Nat.reduceAdd, Nat.reduceMul, Int.reduceToNat, Nat.add_zero, Int.toNat_natCast]; exact rfl) | exact rfl) ?_
        | refine sk_lens rfl rfl rfl rfl rfl ?_
        | refine sk_field rfl rfl rfl rfl rfl rfl ?_
        | refine sk_move rfl rfl rfl rfl (c := .agg _) rfl ?_
        | refine sk_assign rfl rfl rfl rfl (c := .agg _) rfl ?_
        | refine sk_move rfl rfl rfl rfl (c := .tup _) rfl ?_
        | refine sk_assign rfl rfl rfl rfl (c := .tup _) rfl ?_
        | refine sk_skip rfl rfl rfl ?_
        | refine sk_skip0 rfl rfl ?_
        | refine sk_pure rfl rfl rfl rfl ?_)
      | refine WX.seq ?_
      | refine WX.actsC ?_
      | refine sk_last (by first | exact Consistent.nil | exact Consistent.one _ | exact Consistent.ofL (by repeat' (first | exact True.intro | refine And.intro ?_ ?_ | exact Compat.ne rfl))) ⟨by kernel_rfl, ?_⟩
      | refine sk_last (by first | exact Consistent.nil | exact Consistent.one _ | exact Consistent.ofL (by repeat' (first | exact True.intro | refine And.intro ?_ ?_ | exact Compat.ne rfl))) ?_
      | refine WX.drawsC mixed (by kernel_rfl) ?_
      | refine WX.condT rfl ?_
      | refine WX.condF rfl ?_
      | refine WX.skip ?_
      | refine WX.block ?_
      | refine WX.exit ?_
      | refine WX.ret ?_)
    obtain ⟨N, hN⟩ : ∃ N : Nat, c * r = N := ⟨(c * r).toNat, by omega⟩
    refine WX.loop ?_
    refine WX.drop (al2 := tR2 c r q 0) (hs2 := tH oA c r A B C M) (junk := []) (less_cons rfl (less_cons rfl (less_cons rfl (less_cons rfl (less_cons rfl (less_cons rfl (less_cons rfl (less_cons rfl (less_nil _))))))))) rfl (Nat.le_of_ble_eq_true rfl) rfl (tH_ok okA) tR2_ok ?_
    refine WX.count (tR2 c r q) (fun _ => tH oA c r A B C M) (fun _ => True) N trivial ?_
    intro j hj _ ihj
    replace ihj := Held.mk ihj
    refine WX.round ?_
    simp only [tR2, tH]
    by_cases hjn : j < N
    · repeat' (first
        | (refine sk_id ?_; first
          | refine sk_move rfl rfl rfl rfl (c := .one _) rfl ?_
          | refine sk_assign rfl rfl rfl rfl (c := .one _) rfl ?_
          | refine sk_add rfl rfl rfl rfl rfl rfl (by omega) ?_
          | refine sk_sub rfl rfl rfl rfl rfl rfl (by omega) ?_
          | refine sk_mul rfl rfl rfl rfl rfl rfl (by omega) ?_
          | refine sk_load rfl rfl rfl rfl rfl rfl rfl ?_
          | refine sk_fld rfl rfl rfl rfl rfl (by first | (simp only [Nat.zero_add, Nat.mul_one, Nat.reduceAdd, Nat.reduceMul, Int.reduceToNat, Nat.add_zero, Int.toNat_natCast]; exact rfl) | exact rfl) ?_
          | refine sk_true rfl rfl rfl rfl rfl rfl rfl (by omega) ?_
          | refine sk_false rfl rfl rfl rfl rfl rfl rfl (by omega) ?_
          | refine sk_netrue rfl rfl rfl rfl rfl rfl (by omega) ?_
          | refine sk_nefalse rfl rfl rfl rfl rfl rfl (by omega) ?_
          | refine sk_fork rfl rfl rfl rfl rfl rfl rfl (fun _ => ?_) (fun _ => ?_)
          | refine sk_forkn rfl rfl rfl rfl rfl rfl (fun _ => ?_) (fun _ => ?_)
          | refine sk_nil rfl rfl rfl rfl rfl ?_
          | refine sk_idxa rfl rfl rfl rfl rfl rfl (by omega) (by first | (simp only [Nat.zero_add, Nat.mul_one, Nat.reduceAdd, Nat.reduceMul, Int.reduceToNat, Nat.add_zero, Int.toNat_natCast]; exact rfl) | exact rfl) ?_
          | refine sk_loadall rfl rfl rfl rfl rfl rfl rfl ?_
          | refine sk_loada rfl rfl rfl rfl rfl rfl (by decide) rfl ?_
          | refine sk_quo rfl rfl rfl rfl rfl rfl (by omega) (by omega) ?_
          | refine sk_rem rfl rfl rfl rfl rfl rfl (by omega) (by omega) ?_
          | refine sk_max rfl rfl rfl rfl rfl rfl (Int.max_eq_left (by omega)) ?_
          | refine sk_max rfl rfl rfl rfl rfl rfl (Int.max_eq_right (by omega)) ?_
          | refine sk_max rfl rfl rfl rfl rfl rfl rfl ?_
          | refine sk_min rfl rfl rfl rfl rfl rfl (Int.min_eq_left (by omega)) ?_
          | refine sk_min rfl rfl rfl rfl rfl rfl (Int.min_eq_right (by omega)) ?_
          | refine sk_min rfl rfl rfl rfl rfl rfl rfl ?_
          | refine sk_conv rfl rfl rfl rfl rfl (by first | exact IntWalk.i64_in _ (by omega) | rfl) ?_
          | refine sk_pickT rfl rfl rfl rfl rfl rfl ?_
          | refine sk_pickF rfl rfl rfl rfl rfl rfl ?_
          | refine sk_not rfl rfl rfl rfl rfl rfl ?_
          | refine sk_build0 rfl rfl rfl rfl ?_
          | refine sk_build0A rfl rfl rfl rfl ?_
          | refine sk_buildA rfl rfl rfl rfl rfl rfl (by first | (simp only [List.cons_append, List.nil_append, List.append_nil]; exact rfl) | exact rfl) ?_
          | refine sk_buildS rfl rfl rfl rfl rfl rfl (by first | (simp only [List.cons_append, List.nil_append, List.append_nil]; exact rfl) | exact rfl) ?_
          | refine sk_nnp rfl rfl rfl rfl rfl ?_
          | refine sk_makemap rfl rfl rfl rfl (by first | (simp only [List.length_cons, List.length_nil, List.length_append, Nat.reduceAdd, Nat.zero_add]; exact rfl) | exact rfl) rfl (by first | (simp only [List.cons_append, List.nil_append]; exact rfl) | exact rfl) ?_
          | refine sk_alloc rfl rfl rfl rfl (by first | (simp only [List.length_cons, List.length_nil, List.length_append, Nat.reduceAdd, Nat.zero_add]; exact rfl) | exact rfl) rfl (by first | (simp only [List.cons_append, List.nil_append]; exact rfl) | exact rfl) ?_
          | refine sk_box rfl rfl rfl rfl rfl (by first | (simp only [List.length_cons, List.length_nil, List.length_append, Nat.reduceAdd, Nat.zero_add]; exact rfl) | exact rfl) rfl (by first | (simp only [List.cons_append, List.nil_append]; exact rfl) | exact rfl) ?_
          | refine sk_store rfl rfl rfl rfl rfl rfl (by decide) (by first | (simp only [List.set_cons_succ, List.set_cons_zero]; exact rfl) | exact rfl) (by first | (simp only [List.set_cons_succ, List.set_cons_zero]; exact rfl) | exact rfl) ?_
          | refine sk_storea rfl rfl rfl rfl rfl rfl rfl rfl (by first | (simp only [List.set_cons_succ, List.set_cons_zero]; exact rfl) | exact rfl) ?_
          | refine sk_ext rfl rfl rfl rfl rfl rfl ?_
          | refine sk_exta rfl rfl rfl rfl rfl rfl ?_
          | refine sk_idxs rfl rfl rfl rfl rfl rfl (by omega) (by first | (simp only [Nat.zero_add, Nat.mul_one, Nat.reduceAdd, Nat.reduceMul, Int.reduceToNat, Nat.add_zero, Int.toNat_natCast]; exact rfl) | exact rfl) ?_
          | refine sk_lens rfl rfl rfl rfl rfl ?_
          | refine sk_field rfl rfl rfl rfl rfl rfl ?_
          | refine sk_move rfl rfl rfl rfl (c := .agg _) rfl ?_
          | refine sk_assign rfl rfl rfl rfl (c := .agg _) rfl ?_
          | refine sk_move rfl rfl rfl rfl (c := .tup _) rfl ?_
          | refine sk_assign rfl rfl rfl rfl (c := .tup _) rfl ?_
          | refine sk_skip rfl rfl rfl ?_
          | refine sk_skip0 rfl rfl ?_
          | refine sk_pure rfl rfl rfl rfl ?_)
        | refine WX.seq ?_
        | refine WX.actsC ?_
        | refine sk_last (by first | exact Consistent.nil | exact Consistent.one _ | exact Consistent.ofL (by repeat' (first | exact True.intro | refine And.intro ?_ ?_ | exact Compat.ne rfl))) ⟨by kernel_rfl, ?_⟩
        | refine sk_last (by first | exact Consistent.nil | exact Consistent.one _ | exact Consistent.ofL (by repeat' (first | exact True.intro | refine And.intro ?_ ?_ | exact Compat.ne rfl))) ?_
        | refine WX.drawsC mixed (by kernel_rfl) ?_
        | refine WX.condT rfl ?_
        | refine WX.condF rfl ?_
        | refine WX.skip ?_
        | refine WX.block ?_
        | refine WX.exit ?_
        | refine WX.ret ?_)
      refine WX.loop ?_
      refine WX.drop (al2 := tR3 c r q j 0) (hs2 := tH oA c r A B C M) (junk := []) (less_cons rfl (less_cons rfl (less_cons rfl (less_cons rfl (less_cons rfl (less_cons rfl (less_cons rfl (less_cons rfl (less_cons rfl (less_cons rfl (less_nil _))))))))))) rfl (Nat.le_of_ble_eq_true rfl) rfl (tH_ok okA) tR3_ok ?_
      refine WX.count (tR3 c r q j) (fun _ => tH oA c r A B C M) (fun _ => True) 6 trivial ?_
      intro k hk _ ihk
      replace ihk := Held.mk ihk
      refine WX.round ?_
      simp only [tR3, tH]
      by_cases hk6 : k < 6
      · have hin : insideB c r j k = true := insideB_iff.2 (by omega)
        obtain ⟨⟨p, x, y⟩, hpl⟩ : ∃ P, placeOf c j k = P := ⟨_, rfl⟩
        have hlp := lplace_con c j k hc8 (by omega) (by omega)
        have hokp := place_ok (mb := (j : Int)) (k := (k : Int)) hc8 hr8 (by omega) (by omega)
        rw [hpl] at hlp hokp
        simp only at hlp
        have hpp : p = 0 ∨ p = 1 ∨ p = 2 := hokp.pp
        have x0 : 0 ≤ x := hokp.x0
        have x1 : x < wideOf c p := hokp.x1
        have yy : 0 ≤ y ∧ y ≤ 200 := hokp.yy
        have ww : wideOf c p ≤ 16 := hokp.ww.2
        obtain ⟨la, hla⟩ : ∃ o, mlook M (p, x - 1, y) = o := ⟨_, rfl⟩
        obtain ⟨lb, hlb⟩ : ∃ o, mlook M (p, x, y - 1) = o := ⟨_, rfl⟩
        obtain ⟨lc, hlc⟩ : ∃ o, mlook M (p, x - 1, y - 1) = o := ⟨_, rfl⟩
        have hba := (hag p (x - 1) y hpp).symm.trans hla
        have hbb := (hag p x (y - 1) hpp).symm.trans hlb
        have hbc := (hag p (x - 1) (y - 1) hpp).symm.trans hlc
        have oka : ∀ b, la = some b → b.Ok := fun b h => hall _ b (hla.trans h)
        have okb : ∀ b, lb = some b → b.Ok := fun b h => hall _ b (hlb.trans h)
        have okc : ∀ b, lc = some b → b.Ok := fun b h => hall _ b (hlc.trans h)
        clear hpp
        obtain ⟨⟨fr, fb0, kn⟩, hsel⟩ : ∃ s, sel la lb (midOf lc) = s := ⟨_, rfl⟩
        have he := expected_con (q := q) hc8 hr8 hin hpl hba hbb hbc
        have hed := edge_con (q := q) hc8 hr8 hin hpl hba hbb hbc
        rw [sel_expd hsel] at he
        rw [sel_edge hsel] at hed
        unfold expV at he
        simp only at he
        have ts : (XV.agg (ti .i64 64 (edgeSel fr kn q))).shut = true := by simp [XV.shut, ti, XC.shut]
        repeat' (first
          | (refine sk_id ?_; first
            | refine sk_call (inst_pure hlp rfl rfl rfl) rfl rfl rfl rfl rfl rfl (by kernel_rfl) rfl ?_
            | refine sk_lookE rfl rfl rfl rfl key3_ok zero38 rfl rfl hla rfl ?_
            | refine sk_lookE rfl rfl rfl rfl key3_ok zero38 rfl rfl hlb rfl ?_
            | refine sk_lookE rfl rfl rfl rfl key3_ok zero38 rfl rfl hlc rfl ?_
            | refine sk_call (inst_pure (lfirst_con _ _ (by omega) (by omega)) rfl rfl rfl) rfl rfl rfl rfl rfl rfl (by kernel_rfl) rfl ?_
            | refine sk_clo rfl rfl rfl rfl rfl ?_
            | refine sk_call (inst_tab he 1 2 3 4 (by decide) rfl rfl rfl rfl rfl rfl rfl) rfl rfl rfl rfl rfl rfl (by kernel_rfl) rfl ?_
            | refine sk_call (inst_tab hed 1 2 3 4 (by decide) rfl rfl rfl rfl rfl ts rfl) rfl rfl rfl rfl rfl rfl (by kernel_rfl) rfl ?_
            | refine sk_netis rfl (by kernel_rfl) rfl rfl rfl rfl rfl (fun _ _ => rfl) ?_
            | refine sk_move rfl rfl rfl rfl (c := .one _) rfl ?_
            | refine sk_assign rfl rfl rfl rfl (c := .one _) rfl ?_
            | refine sk_add rfl rfl rfl rfl rfl rfl (by omega) ?_
            | refine sk_sub rfl rfl rfl rfl rfl rfl (by omega) ?_
            | refine sk_mul rfl rfl rfl rfl rfl rfl (by omega) ?_
            | refine sk_load rfl rfl rfl rfl rfl rfl rfl ?_
            | refine sk_fld rfl rfl rfl rfl rfl (by first | (simp only [Nat.zero_add, Nat.mul_one, Nat.reduceAdd, Nat.reduceMul, Int.reduceToNat, Nat.add_zero, Int.toNat_natCast]; exact rfl) | exact rfl) ?_
            | refine sk_true rfl rfl rfl rfl rfl rfl rfl (by omega) ?_
            | refine sk_false rfl rfl rfl rfl rfl rfl rfl (by omega) ?_
            | refine sk_netrue rfl rfl rfl rfl rfl rfl (by omega) ?_
            | refine sk_nefalse rfl rfl rfl rfl rfl rfl (by omega) ?_
            | refine sk_fork rfl rfl rfl rfl rfl rfl rfl (fun _ => ?_) (fun _ => ?_)
            | refine sk_forkn rfl rfl rfl rfl rfl rfl (fun _ => ?_) (fun _ => ?_)
            | refine sk_nil rfl rfl rfl rfl rfl ?_
            | refine sk_idxa rfl rfl rfl rfl rfl rfl (by omega) (by first | (simp only [Nat.zero_add, Nat.mul_one, Nat.reduceAdd, Nat.reduceMul, Int.reduceToNat, Nat.add_zero, Int.toNat_natCast]; exact rfl) | exact rfl) ?_
            | refine sk_loadall rfl rfl rfl rfl rfl rfl rfl ?_
            | refine sk_loada rfl rfl rfl rfl rfl rfl (by decide) rfl ?_
            | refine sk_quo rfl rfl rfl rfl rfl rfl (by omega) (by omega) ?_
            | refine sk_rem rfl rfl rfl rfl rfl rfl (by omega) (by omega) ?_
            | refine sk_max rfl rfl rfl rfl rfl rfl (Int.max_eq_left (by omega)) ?_
            | refine sk_max rfl rfl rfl rfl rfl rfl (Int.max_eq_right (by omega)) ?_
            | refine sk_max rfl rfl rfl rfl rfl rfl rfl ?_
            | refine sk_min rfl rfl rfl rfl rfl rfl (Int.min_eq_left (by omega)) ?_
            | refine sk_min rfl rfl rfl rfl rfl rfl (Int.min_eq_right (by omega)) ?_
            | refine sk_min rfl rfl rfl rfl rfl rfl rfl ?_
            | refine sk_conv rfl rfl rfl rfl rfl (by first | exact IntWalk.i64_in _ (by omega) | rfl) ?_
            | refine sk_pickT rfl rfl rfl rfl rfl rfl ?_
            | refine sk_pickF rfl rfl rfl rfl rfl rfl ?_
            | refine sk_not rfl rfl rfl rfl rfl rfl ?_
            | refine sk_build0 rfl rfl rfl rfl ?_
            | refine sk_build0A rfl rfl rfl rfl ?_
            | refine sk_buildA rfl rfl rfl rfl rfl rfl (by first | (simp only [List.cons_append, List.nil_append, List.append_nil]; exact rfl) | exact rfl) ?_
            | refine sk_buildS rfl rfl rfl rfl rfl rfl (by first | (simp only [List.cons_append, List.nil_append, List.append_nil]; exact rfl) | exact rfl) ?_
            | refine sk_nnp rfl rfl rfl rfl rfl ?_
            | refine sk_makemap rfl rfl rfl rfl (by first | (simp only [List.length_cons, List.length_nil, List.length_append, Nat.reduceAdd, Nat.zero_add]; exact rfl) | exact rfl) rfl (by first | (simp only [List.cons_append, List.nil_append]; exact rfl) | exact rfl) ?_
            | refine sk_alloc rfl rfl rfl rfl (by first | (simp only [List.length_cons, List.length_nil, List.length_append, Nat.reduceAdd, Nat.zero_add]; exact rfl) | exact rfl) rfl (by first | (simp only [List.cons_append, List.nil_append]; exact rfl) | exact rfl) ?_
            | refine sk_box rfl rfl rfl rfl rfl (by first | (simp only [List.length_cons, List.length_nil, List.length_append, Nat.reduceAdd, Nat.zero_add]; exact rfl) | exact rfl) rfl (by first | (simp only [List.cons_append, List.nil_append]; exact rfl) | exact rfl) ?_
            | refine sk_store rfl rfl rfl rfl rfl rfl (by decide) (by first | (simp only [List.set_cons_succ, List.set_cons_zero]; exact rfl) | exact rfl) (by first | (simp only [List.set_cons_succ, List.set_cons_zero]; exact rfl) | exact rfl) ?_
            | refine sk_storea rfl rfl rfl rfl rfl rfl rfl rfl (by first | (simp only [List.set_cons_succ, List.set_cons_zero]; exact rfl) | exact rfl) ?_
            | refine sk_ext rfl rfl rfl rfl rfl rfl ?_
            | refine sk_exta rfl rfl rfl rfl rfl rfl ?_
            | refine sk_idxs rfl rfl rfl rfl rfl rfl (by omega) (by first | (simp only [Nat.zero_add, Nat.mul_one, Nat.reduceAdd, Nat.reduceMul, Int.reduceToNat, Nat.add_zero, Int.toNat_natCast]; exact rfl) | exact rfl) ?_
            | refine sk_lens rfl rfl rfl rfl rfl ?_
            | refine sk_field rfl rfl rfl rfl rfl rfl ?_
            | refine sk_move rfl rfl rfl rfl (c := .agg _) rfl ?_
            | refine sk_assign rfl rfl rfl rfl (c := .agg _) rfl ?_
            | refine sk_move rfl rfl rfl rfl (c := .tup _) rfl ?_
            | refine sk_assign rfl rfl rfl rfl (c := .tup _) rfl ?_
            | refine sk_skip rfl rfl rfl ?_
            | refine sk_skip0 rfl rfl ?_
            | refine sk_pure rfl rfl rfl rfl ?_)
          | (refine WX.seqR 28 ?_; refine WX.seqAt [(105, .one (.int .i64 (k : Nat))), (19, .one (.int .i64 (j : Nat))), (102, .one (.int .i64 (j : Nat))), (101, .one (.int .i64 (c * r))), (9, .one (.int .i64 c)), (10, .one (.int .i64 r)), (11, .one (.int .i64 q)), (12, .one (.ptr 1 0)), (13, .one (.map 5)), (18, .one (.fn 13)), (20, .one (.int .i64 (k : Nat))), (22, .one (.ptr 7 0)), (24, .one (.ptr 8 0)), (23, .one (.bool la.isSome)), (25, .one (.bool lb.isSome)), (28, .one (.int .u8 0)), (29, .one (.int .i64 (firstLevel 8192 q))), (30, .one (.ptr 10 0))] [oA, .cells [.int .i64 c, .int .i64 r, .map 2, .map 3, .map 4] 55 false false, .map (tabEnts A), .map (tabEnts B), .map (tabEnts C), .map (mEnts M), .cells [.int .i64 p, .int .i64 x, .int .i64 y] 40 false false, .cells (kcells (la.getD noKn)) 38 false false, .cells (kcells (lb.getD noKn)) 38 false false, .cells (kcells (lc.getD noKn)) 38 false false, .cells [.int .i64 (midOf lc)] 3 false false] (Held.out ?_) ?_)
          | (refine WX.seqB 6 ?_; refine WX.seqAt [(105, .one (.int .i64 (k : Nat))), (19, .one (.int .i64 (j : Nat))), (102, .one (.int .i64 (j : Nat))), (101, .one (.int .i64 (c * r))), (9, .one (.int .i64 c)), (10, .one (.int .i64 r)), (11, .one (.int .i64 q)), (12, .one (.ptr 1 0)), (13, .one (.map 5)), (18, .one (.fn 13)), (20, .one (.int .i64 (k : Nat))), (28, .one (.int .u8 fr)), (29, .one (.int .i64 (firstLevel fb0 q))), (32, .one (.ptr 11 0))] [oA, .cells [.int .i64 c, .int .i64 r, .map 2, .map 3, .map 4] 55 false false, .map (tabEnts A), .map (tabEnts B), .map (tabEnts C), .map (mEnts M), .cells [.int .i64 p, .int .i64 x, .int .i64 y] 40 false false, .cells (kcells (la.getD noKn)) 38 false false, .cells (kcells (lb.getD noKn)) 38 false false, .cells (kcells (lc.getD noKn)) 38 false false, .cells [.int .i64 (midOf lc)] 3 false false, .cells (kcells kn) 38 false false] (Held.out ?_) ?_)
          | (refine WX.seqR 37 ?_; refine WX.seqAt [(105, .one (.int .i64 (k : Nat))), (19, .one (.int .i64 (j : Nat))), (102, .one (.int .i64 (j : Nat))), (101, .one (.int .i64 (c * r))), (9, .one (.int .i64 c)), (10, .one (.int .i64 r)), (11, .one (.int .i64 q)), (12, .one (.ptr 1 0)), (13, .one (.map 5)), (18, .one (.fn 13)), (20, .one (.int .i64 (k : Nat))), (28, .one (.int .u8 fr)), (29, .one (.int .i64 (firstLevel fb0 q))), (33, .one (.ptr 12 0))] [oA, .cells [.int .i64 c, .int .i64 r, .map 2, .map 3, .map 4] 55 false false, .map (tabEnts A), .map (tabEnts B), .map (tabEnts C), .map (mEnts M), .cells [.int .i64 p, .int .i64 x, .int .i64 y] 40 false false, .cells (kcells (la.getD noKn)) 38 false false, .cells (kcells (lb.getD noKn)) 38 false false, .cells (kcells (lc.getD noKn)) 38 false false, .cells [.int .i64 (midOf lc)] 3 false false, .cells (kcells kn) 38 false false, .cells (ti .i64 64 (edgeSel fr kn q)) 25 false false] (Held.out ?_) ?_)
          | refine WX.seq ?_
          | refine WX.actsC ?_
          | refine sk_last (by first | exact Consistent.nil | exact Consistent.one _ | exact Consistent.ofL (by repeat' (first | exact True.intro | refine And.intro ?_ ?_ | exact Compat.ne rfl))) ⟨by kernel_rfl, ?_⟩
          | refine sk_last (by first | exact Consistent.nil | exact Consistent.one _ | exact Consistent.ofL (by repeat' (first | exact True.intro | refine And.intro ?_ ?_ | exact Compat.ne rfl))) ?_
          | refine WX.drawsC mixed (by kernel_rfl) ?_
          | refine WX.condT rfl ?_
          | refine WX.condF rfl ?_
          | refine WX.skip ?_
          | refine WX.block ?_
          | refine WX.exit ?_
          | refine WX.ret ?_)
        · refine Held.mk ?_
          clear ihj ihk
          have hfc := fbOf_bnd
          cases lc with
          | none =>
            repeat' (first
              | (refine sk_id ?_; first
                | refine sk_move rfl rfl rfl rfl (c := .one _) rfl ?_
                | refine sk_assign rfl rfl rfl rfl (c := .one _) rfl ?_
                | refine sk_add rfl rfl rfl rfl rfl rfl (by omega) ?_
                | refine sk_sub rfl rfl rfl rfl rfl rfl (by omega) ?_
                | refine sk_mul rfl rfl rfl rfl rfl rfl (by omega) ?_
                | refine sk_load rfl rfl rfl rfl rfl rfl rfl ?_
                | refine sk_fld rfl rfl rfl rfl rfl (by first | (simp only [Nat.zero_add, Nat.mul_one, Nat.reduceAdd, Nat.reduceMul, Int.reduceToNat, Nat.add_zero, Int.toNat_natCast]; exact rfl) | exact rfl) ?_
                | refine sk_true rfl rfl rfl rfl rfl rfl rfl (by omega) ?_
                | refine sk_false rfl rfl rfl rfl rfl rfl rfl (by omega) ?_
                | refine sk_netrue rfl rfl rfl rfl rfl rfl (by omega) ?_
                | refine sk_nefalse rfl rfl rfl rfl rfl rfl (by omega) ?_
                | refine sk_fork rfl rfl rfl rfl rfl rfl rfl (fun _ => ?_) (fun _ => ?_)
                | refine sk_forkn rfl rfl rfl rfl rfl rfl (fun _ => ?_) (fun _ => ?_)
                | refine sk_nil rfl rfl rfl rfl rfl ?_
                | refine sk_idxa rfl rfl rfl rfl rfl rfl (by omega) (by first | (simp only [Nat.zero_add, Nat.mul_one, Nat.reduceAdd, Nat.reduceMul, Int.reduceToNat, Nat.add_zero, Int.toNat_natCast]; exact rfl) | exact rfl) ?_
                | refine sk_loadall rfl rfl rfl rfl rfl rfl rfl ?_
                | refine sk_loada rfl rfl rfl rfl rfl rfl (by decide) rfl ?_
                | refine sk_quo rfl rfl rfl rfl rfl rfl (by omega) (by omega) ?_
                | refine sk_rem rfl rfl rfl rfl rfl rfl (by omega) (by omega) ?_
                | refine sk_max rfl rfl rfl rfl rfl rfl (Int.max_eq_left (by omega)) ?_
                | refine sk_max rfl rfl rfl rfl rfl rfl (Int.max_eq_right (by omega)) ?_
                | refine sk_max rfl rfl rfl rfl rfl rfl rfl ?_
                | refine sk_min rfl rfl rfl rfl rfl rfl (Int.min_eq_left (by omega)) ?_
                | refine sk_min rfl rfl rfl rfl rfl rfl (Int.min_eq_right (by omega)) ?_
                | refine sk_min rfl rfl rfl rfl rfl rfl rfl ?_
                | refine sk_conv rfl rfl rfl rfl rfl (by first | exact IntWalk.i64_in _ (by omega) | rfl) ?_
                | refine sk_pickT rfl rfl rfl rfl rfl rfl ?_
                | refine sk_pickF rfl rfl rfl rfl rfl rfl ?_
                | refine sk_not rfl rfl rfl rfl rfl rfl ?_
                | refine sk_build0 rfl rfl rfl rfl ?_
                | refine sk_build0A rfl rfl rfl rfl ?_
                | refine sk_buildA rfl rfl rfl rfl rfl rfl (by first | (simp only [List.cons_append, List.nil_append, List.append_nil]; exact rfl) | exact rfl) ?_
                | refine sk_buildS rfl rfl rfl rfl rfl rfl (by first | (simp only [List.cons_append, List.nil_append, List.append_nil]; exact rfl) | exact rfl) ?_
                | refine sk_nnp rfl rfl rfl rfl rfl ?_
                | refine sk_makemap rfl rfl rfl rfl (by first | (simp only [List.length_cons, List.length_nil, List.length_append, Nat.reduceAdd, Nat.zero_add]; exact rfl) | exact rfl) rfl (by first | (simp only [List.cons_append, List.nil_append]; exact rfl) | exact rfl) ?_
                | refine sk_alloc rfl rfl rfl rfl (by first | (simp only [List.length_cons, List.length_nil, List.length_append, Nat.reduceAdd, Nat.zero_add]; exact rfl) | exact rfl) rfl (by first | (simp only [List.cons_append, List.nil_append]; exact rfl) | exact rfl) ?_
                | refine sk_box rfl rfl rfl rfl rfl (by first | (simp only [List.length_cons, List.length_nil, List.length_append, Nat.reduceAdd, Nat.zero_add]; exact rfl) | exact rfl) rfl (by first | (simp only [List.cons_append, List.nil_append]; exact rfl) | exact rfl) ?_
                | refine sk_store rfl rfl rfl rfl rfl rfl (by decide) (by first | (simp only [List.set_cons_succ, List.set_cons_zero]; exact rfl) | exact rfl) (by first | (simp only [List.set_cons_succ, List.set_cons_zero]; exact rfl) | exact rfl) ?_
                | refine sk_storea rfl rfl rfl rfl rfl rfl rfl rfl (by first | (simp only [List.set_cons_succ, List.set_cons_zero]; exact rfl) | exact rfl) ?_
                | refine sk_ext rfl rfl rfl rfl rfl rfl ?_
                | refine sk_exta rfl rfl rfl rfl rfl rfl ?_
                | refine sk_idxs rfl rfl rfl rfl rfl rfl (by omega) (by first | (simp only [Nat.zero_add, Nat.mul_one, Nat.reduceAdd, Nat.reduceMul, Int.reduceToNat, Nat.add_zero, Int.toNat_natCast]; exact rfl) | exact rfl) ?_
                | refine sk_lens rfl rfl rfl rfl rfl ?_
                | refine sk_field rfl rfl rfl rfl rfl rfl ?_
                | refine sk_move rfl rfl rfl rfl (c := .agg _) rfl ?_
                | refine sk_assign rfl rfl rfl rfl (c := .agg _) rfl ?_
                | refine sk_move rfl rfl rfl rfl (c := .tup _) rfl ?_
                | refine sk_assign rfl rfl rfl rfl (c := .tup _) rfl ?_
                | refine sk_skip rfl rfl rfl ?_
                | refine sk_skip0 rfl rfl ?_
                | refine sk_pure rfl rfl rfl rfl ?_)
              | refine WX.seq ?_
              | refine WX.actsC ?_
              | refine sk_last (by first | exact Consistent.nil | exact Consistent.one _ | exact Consistent.ofL (by repeat' (first | exact True.intro | refine And.intro ?_ ?_ | exact Compat.ne rfl))) ⟨by kernel_rfl, ?_⟩
              | refine sk_last (by first | exact Consistent.nil | exact Consistent.one _ | exact Consistent.ofL (by repeat' (first | exact True.intro | refine And.intro ?_ ?_ | exact Compat.ne rfl))) ?_
              | refine WX.drawsC mixed (by kernel_rfl) ?_
              | refine WX.condT rfl ?_
              | refine WX.condF rfl ?_
              | refine WX.skip ?_
              | refine WX.block ?_
              | refine WX.exit ?_
              | refine WX.ret ?_)
            first | exact ⟨rfl, (less_cons rfl (less_cons rfl (less_cons rfl (less_cons rfl (less_cons rfl (less_cons rfl (less_cons rfl (less_cons rfl (less_cons rfl (less_cons rfl (less_cons rfl (less_cons rfl (less_cons rfl (less_cons rfl (less_cons rfl (less_cons rfl (less_cons rfl (less_cons rfl (less_nil _))))))))))))))))))), rfl⟩ | exact ⟨(less_cons rfl (less_cons rfl (less_cons rfl (less_cons rfl (less_cons rfl (less_cons rfl (less_cons rfl (less_cons rfl (less_cons rfl (less_cons rfl (less_cons rfl (less_cons rfl (less_cons rfl (less_cons rfl (less_cons rfl (less_cons rfl (less_cons rfl (less_cons rfl (less_nil _))))))))))))))))))), rfl⟩
          | some cc =>
            repeat' (first
              | (refine sk_id ?_; first
                | refine sk_call (inst_pure (number_at (okc cc rfl)) (by simp [XV.shut, kc_shut]) rfl rfl) rfl rfl rfl rfl rfl rfl (by kernel_rfl) rfl ?_
                | refine sk_move rfl rfl rfl rfl (c := .one _) rfl ?_
                | refine sk_assign rfl rfl rfl rfl (c := .one _) rfl ?_
                | refine sk_add rfl rfl rfl rfl rfl rfl (by omega) ?_
                | refine sk_sub rfl rfl rfl rfl rfl rfl (by omega) ?_
                | refine sk_mul rfl rfl rfl rfl rfl rfl (by omega) ?_
                | refine sk_load rfl rfl rfl rfl rfl rfl rfl ?_
                | refine sk_fld rfl rfl rfl rfl rfl (by first | (simp only [Nat.zero_add, Nat.mul_one, Nat.reduceAdd, Nat.reduceMul, Int.reduceToNat, Nat.add_zero, Int.toNat_natCast]; exact rfl) | exact rfl) ?_
                | refine sk_true rfl rfl rfl rfl rfl rfl rfl (by omega) ?_
                | refine sk_false rfl rfl rfl rfl rfl rfl rfl (by omega) ?_
                | refine sk_netrue rfl rfl rfl rfl rfl rfl (by omega) ?_
                | refine sk_nefalse rfl rfl rfl rfl rfl rfl (by omega) ?_
                | refine sk_fork rfl rfl rfl rfl rfl rfl rfl (fun _ => ?_) (fun _ => ?_)
                | refine sk_forkn rfl rfl rfl rfl rfl rfl (fun _ => ?_) (fun _ => ?_)
                | refine sk_nil rfl rfl rfl rfl rfl ?_
                | refine sk_idxa rfl rfl rfl rfl rfl rfl (by omega) (by first | (simp only [Nat.zero_add, Nat.mul_one, Nat.reduceAdd, Nat.reduceMul, Int.reduceToNat, Nat.add_zero, Int.toNat_natCast]; exact rfl) | exact rfl) ?_
                | refine sk_loadall rfl rfl rfl rfl rfl rfl rfl ?_
                | refine sk_loada rfl rfl rfl rfl rfl rfl (by decide) rfl ?_
                | refine sk_quo rfl rfl rfl rfl rfl rfl (by omega) (by omega) ?_
                | refine sk_rem rfl rfl rfl rfl rfl rfl (by omega) (by omega) ?_
                | refine sk_max rfl rfl rfl rfl rfl rfl (Int.max_eq_left (by omega)) ?_
                | refine sk_max rfl rfl rfl rfl rfl rfl (Int.max_eq_right (by omega)) ?_
                | refine sk_max rfl rfl rfl rfl rfl rfl rfl ?_
                | refine sk_min rfl rfl rfl rfl rfl rfl (Int.min_eq_left (by omega)) ?_
                | refine sk_min rfl rfl rfl rfl rfl rfl (Int.min_eq_right (by omega)) ?_
                | refine sk_min rfl rfl rfl rfl rfl rfl rfl ?_
                | refine sk_conv rfl rfl rfl rfl rfl (by first | exact IntWalk.i64_in _ (by omega) | rfl) ?_
                | refine sk_pickT rfl rfl rfl rfl rfl rfl ?_
                | refine sk_pickF rfl rfl rfl rfl rfl rfl ?_
                | refine sk_not rfl rfl rfl rfl rfl rfl ?_
                | refine sk_build0 rfl rfl rfl rfl ?_
                | refine sk_build0A rfl rfl rfl rfl ?_
                | refine sk_buildA rfl rfl rfl rfl rfl rfl (by first | (simp only [List.cons_append, List.nil_append, List.append_nil]; exact rfl) | exact rfl) ?_
                | refine sk_buildS rfl rfl rfl rfl rfl rfl (by first | (simp only [List.cons_append, List.nil_append, List.append_nil]; exact rfl) | exact rfl) ?_
                | refine sk_nnp rfl rfl rfl rfl rfl ?_
                | refine sk_makemap rfl rfl rfl rfl (by first | (simp only [List.length_cons, List.length_nil, List.length_append, Nat.reduceAdd, Nat.zero_add]; exact rfl) | exact rfl) rfl (by first | (simp only [List.cons_append, List.nil_append]; exact rfl) | exact rfl) ?_
                | refine sk_alloc rfl rfl rfl rfl (by first | (simp only [List.length_cons, List.length_nil, List.length_append, Nat.reduceAdd, Nat.zero_add]; exact rfl) | exact rfl) rfl (by first | (simp only [List.cons_append, List.nil_append]; exact rfl) | exact rfl) ?_
                | refine sk_box rfl rfl rfl rfl rfl (by first | (simp only [List.length_cons, List.length_nil, List.length_append, Nat.reduceAdd, Nat.zero_add]; exact rfl) | exact rfl) rfl (by first | (simp only [List.cons_append, List.nil_append]; exact rfl) | exact rfl) ?_
                | refine sk_store rfl rfl rfl rfl rfl rfl (by decide) (by first | (simp only [List.set_cons_succ, List.set_cons_zero]; exact rfl) | exact rfl) (by first | (simp only [List.set_cons_succ, List.set_cons_zero]; exact rfl) | exact rfl) ?_
                | refine sk_storea rfl rfl rfl rfl rfl rfl rfl rfl (by first | (simp only [List.set_cons_succ, List.set_cons_zero]; exact rfl) | exact rfl) ?_
                | refine sk_ext rfl rfl rfl rfl rfl rfl ?_
                | refine sk_exta rfl rfl rfl rfl rfl rfl ?_
                | refine sk_idxs rfl rfl rfl rfl rfl rfl (by omega) (by first | (simp only [Nat.zero_add, Nat.mul_one, Nat.reduceAdd, Nat.reduceMul, Int.reduceToNat, Nat.add_zero, Int.toNat_natCast]; exact rfl) | exact rfl) ?_
                | refine sk_lens rfl rfl rfl rfl rfl ?_
                | refine sk_field rfl rfl rfl rfl rfl rfl ?_
                | refine sk_move rfl rfl rfl rfl (c := .agg _) rfl ?_
                | refine sk_assign rfl rfl rfl rfl (c := .agg _) rfl ?_
                | refine sk_move rfl rfl rfl rfl (c := .tup _) rfl ?_
                | refine sk_assign rfl rfl rfl rfl (c := .tup _) rfl ?_
                | refine sk_skip rfl rfl rfl ?_
                | refine sk_skip0 rfl rfl ?_
                | refine sk_pure rfl rfl rfl rfl ?_)
              | refine WX.seq ?_
              | refine WX.actsC ?_
              | refine sk_last (by first | exact Consistent.nil | exact Consistent.one _ | exact Consistent.ofL (by repeat' (first | exact True.intro | refine And.intro ?_ ?_ | exact Compat.ne rfl))) ⟨by kernel_rfl, ?_⟩
              | refine sk_last (by first | exact Consistent.nil | exact Consistent.one _ | exact Consistent.ofL (by repeat' (first | exact True.intro | refine And.intro ?_ ?_ | exact Compat.ne rfl))) ?_
              | refine WX.drawsC mixed (by kernel_rfl) ?_
              | refine WX.condT rfl ?_
              | refine WX.condF rfl ?_
              | refine WX.skip ?_
              | refine WX.block ?_
              | refine WX.exit ?_
              | refine WX.ret ?_)
            first | exact ⟨rfl, (less_cons rfl (less_cons rfl (less_cons rfl (less_cons rfl (less_cons rfl (less_cons rfl (less_cons rfl (less_cons rfl (less_cons rfl (less_cons rfl (less_cons rfl (less_cons rfl (less_cons rfl (less_cons rfl (less_cons rfl (less_cons rfl (less_cons rfl (less_cons rfl (less_nil _))))))))))))))))))), rfl⟩ | exact ⟨(less_cons rfl (less_cons rfl (less_cons rfl (less_cons rfl (less_cons rfl (less_cons rfl (less_cons rfl (less_cons rfl (less_cons rfl (less_cons rfl (less_cons rfl (less_cons rfl (less_cons rfl (less_cons rfl (less_cons rfl (less_cons rfl (less_cons rfl (less_cons rfl (less_nil _))))))))))))))))))), rfl⟩
        · refine Held.mk ?_
          clear ihj ihk
          have hm := midOf_bnd lc
          cases la with
          | some a =>
            have ha := fbOf_bnd a
            cases lb with
            | some b =>
              have hb := fbOf_bnd b
              by_cases hcmp : max (fbOf b - midOf lc) (midOf lc - fbOf b) ≤ max (fbOf a - midOf lc) (midOf lc - fbOf a)
              · have hs : sel (some a) (some b) (midOf lc) = (1, fbOf a, a) := if_pos hcmp
                rw [hs] at hsel
                cases hsel
                repeat' (first
                  | (refine sk_id ?_; first
                    | refine sk_call (inst_pure (number_at (oka _ rfl)) (by simp [XV.shut, kc_shut]) rfl rfl) rfl rfl rfl rfl rfl rfl (by kernel_rfl) rfl ?_
                    | refine sk_call (inst_pure (number_at (okb _ rfl)) (by simp [XV.shut, kc_shut]) rfl rfl) rfl rfl rfl rfl rfl rfl (by kernel_rfl) rfl ?_
                    | refine sk_call (inst_to (by omega) (by omega) 10 rfl rfl) rfl rfl rfl rfl rfl rfl (by kernel_rfl) rfl ?_
                    | refine sk_call (inst_pure (lfirst_con _ _ (by omega) (by omega)) rfl rfl rfl) rfl rfl rfl rfl rfl rfl (by kernel_rfl) rfl ?_
                    | refine sk_move rfl rfl rfl rfl (c := .one _) rfl ?_
                    | refine sk_assign rfl rfl rfl rfl (c := .one _) rfl ?_
                    | refine sk_add rfl rfl rfl rfl rfl rfl (by omega) ?_
                    | refine sk_sub rfl rfl rfl rfl rfl rfl (by omega) ?_
                    | refine sk_mul rfl rfl rfl rfl rfl rfl (by omega) ?_
                    | refine sk_load rfl rfl rfl rfl rfl rfl rfl ?_
                    | refine sk_fld rfl rfl rfl rfl rfl (by first | (simp only [Nat.zero_add, Nat.mul_one, Nat.reduceAdd, Nat.reduceMul, Int.reduceToNat, Nat.add_zero, Int.toNat_natCast]; exact rfl) | exact rfl) ?_
                    | refine sk_true rfl rfl rfl rfl rfl rfl rfl (by omega) ?_
                    | refine sk_false rfl rfl rfl rfl rfl rfl rfl (by omega) ?_
                    | refine sk_netrue rfl rfl rfl rfl rfl rfl (by omega) ?_
                    | refine sk_nefalse rfl rfl rfl rfl rfl rfl (by omega) ?_
                    | refine sk_fork rfl rfl rfl rfl rfl rfl rfl (fun _ => ?_) (fun _ => ?_)
                    | refine sk_forkn rfl rfl rfl rfl rfl rfl (fun _ => ?_) (fun _ => ?_)
                    | refine sk_nil rfl rfl rfl rfl rfl ?_
                    | refine sk_idxa rfl rfl rfl rfl rfl rfl (by omega) (by first | (simp only [Nat.zero_add, Nat.mul_one, Nat.reduceAdd, Nat.reduceMul, Int.reduceToNat, Nat.add_zero, Int.toNat_natCast]; exact rfl) | exact rfl) ?_
                    | refine sk_loadall rfl rfl rfl rfl rfl rfl rfl ?_
                    | refine sk_loada rfl rfl rfl rfl rfl rfl (by decide) rfl ?_
                    | refine sk_quo rfl rfl rfl rfl rfl rfl (by omega) (by omega) ?_
                    | refine sk_rem rfl rfl rfl rfl rfl rfl (by omega) (by omega) ?_
                    | refine sk_max rfl rfl rfl rfl rfl rfl (Int.max_eq_left (by omega)) ?_
                    | refine sk_max rfl rfl rfl rfl rfl rfl (Int.max_eq_right (by omega)) ?_
                    | refine sk_max rfl rfl rfl rfl rfl rfl rfl ?_
                    | refine sk_min rfl rfl rfl rfl rfl rfl (Int.min_eq_left (by omega)) ?_
                    | refine sk_min rfl rfl rfl rfl rfl rfl (Int.min_eq_right (by omega)) ?_
                    | refine sk_min rfl rfl rfl rfl rfl rfl rfl ?_
                    | refine sk_conv rfl rfl rfl rfl rfl (by first | exact IntWalk.i64_in _ (by omega) | rfl) ?_
                    | refine sk_pickT rfl rfl rfl rfl rfl rfl ?_
                    | refine sk_pickF rfl rfl rfl rfl rfl rfl ?_
                    | refine sk_not rfl rfl rfl rfl rfl rfl ?_
                    | refine sk_build0 rfl rfl rfl rfl ?_
                    | refine sk_build0A rfl rfl rfl rfl ?_
                    | refine sk_buildA rfl rfl rfl rfl rfl rfl (by first | (simp only [List.cons_append, List.nil_append, List.append_nil]; exact rfl) | exact rfl) ?_
                    | refine sk_buildS rfl rfl rfl rfl rfl rfl (by first | (simp only [List.cons_append, List.nil_append, List.append_nil]; exact rfl) | exact rfl) ?_
                    | refine sk_nnp rfl rfl rfl rfl rfl ?_
                    | refine sk_makemap rfl rfl rfl rfl (by first | (simp only [List.length_cons, List.length_nil, List.length_append, Nat.reduceAdd, Nat.zero_add]; exact rfl) | exact rfl) rfl (by first | (simp only [List.cons_append, List.nil_append]; exact rfl) | exact rfl) ?_
                    | refine sk_alloc rfl rfl rfl rfl (by first | (simp only [List.length_cons, List.length_nil, List.length_append, Nat.reduceAdd, Nat.zero_add]; exact rfl) | exact rfl) rfl (by first | (simp only [List.cons_append, List.nil_append]; exact rfl) | exact rfl) ?_
                    | refine sk_box rfl rfl rfl rfl rfl (by first | (simp only [List.length_cons, List.length_nil, List.length_append, Nat.reduceAdd, Nat.zero_add]; exact rfl) | exact rfl) rfl (by first | (simp only [List.cons_append, List.nil_append]; exact rfl) | exact rfl) ?_
                    | refine sk_store rfl rfl rfl rfl rfl rfl (by decide) (by first | (simp only [List.set_cons_succ, List.set_cons_zero]; exact rfl) | exact rfl) (by first | (simp only [List.set_cons_succ, List.set_cons_zero]; exact rfl) | exact rfl) ?_
                    | refine sk_storea rfl rfl rfl rfl rfl rfl rfl rfl (by first | (simp only [List.set_cons_succ, List.set_cons_zero]; exact rfl) | exact rfl) ?_
                    | refine sk_ext rfl rfl rfl rfl rfl rfl ?_
                    | refine sk_exta rfl rfl rfl rfl rfl rfl ?_
                    | refine sk_idxs rfl rfl rfl rfl rfl rfl (by omega) (by first | (simp only [Nat.zero_add, Nat.mul_one, Nat.reduceAdd, Nat.reduceMul, Int.reduceToNat, Nat.add_zero, Int.toNat_natCast]; exact rfl) | exact rfl) ?_
                    | refine sk_lens rfl rfl rfl rfl rfl ?_
                    | refine sk_field rfl rfl rfl rfl rfl rfl ?_
                    | refine sk_move rfl rfl rfl rfl (c := .agg _) rfl ?_
                    | refine sk_assign rfl rfl rfl rfl (c := .agg _) rfl ?_
                    | refine sk_move rfl rfl rfl rfl (c := .tup _) rfl ?_
                    | refine sk_assign rfl rfl rfl rfl (c := .tup _) rfl ?_
                    | refine sk_skip rfl rfl rfl ?_
                    | refine sk_skip0 rfl rfl ?_
                    | refine sk_pure rfl rfl rfl rfl ?_)
                  | refine WX.seq ?_
                  | refine WX.actsC ?_
                  | refine sk_last (by first | exact Consistent.nil | exact Consistent.one _ | exact Consistent.ofL (by repeat' (first | exact True.intro | refine And.intro ?_ ?_ | exact Compat.ne rfl | exact compat_number id | exact compat_to id))) ⟨by kernel_rfl, ?_⟩
                  | refine sk_last (by first | exact Consistent.nil | exact Consistent.one _ | exact Consistent.ofL (by repeat' (first | exact True.intro | refine And.intro ?_ ?_ | exact Compat.ne rfl | exact compat_number id | exact compat_to id))) ?_
                  | refine WX.drawsC mixed (by kernel_rfl) ?_
                  | refine WX.condT rfl ?_
                  | refine WX.condF rfl ?_
                  | refine WX.skip ?_
                  | refine WX.block ?_
                  | refine WX.exit ?_
                  | refine WX.ret ?_)
                first | exact ⟨rfl, (less_cons rfl (less_cons rfl (less_cons rfl (less_cons rfl (less_cons rfl (less_cons rfl (less_cons rfl (less_cons rfl (less_cons rfl (less_cons rfl (less_cons rfl (less_cons rfl (less_cons rfl (less_cons rfl (less_nil _))))))))))))))), rfl⟩ | exact ⟨(less_cons rfl (less_cons rfl (less_cons rfl (less_cons rfl (less_cons rfl (less_cons rfl (less_cons rfl (less_cons rfl (less_cons rfl (less_cons rfl (less_cons rfl (less_cons rfl (less_cons rfl (less_cons rfl (less_nil _))))))))))))))), rfl⟩
              · have hs : sel (some a) (some b) (midOf lc) = (2, fbOf b, b) := if_neg hcmp
                rw [hs] at hsel
                cases hsel
                repeat' (first
                  | (refine sk_id ?_; first
                    | refine sk_call (inst_pure (number_at (oka _ rfl)) (by simp [XV.shut, kc_shut]) rfl rfl) rfl rfl rfl rfl rfl rfl (by kernel_rfl) rfl ?_
                    | refine sk_call (inst_pure (number_at (okb _ rfl)) (by simp [XV.shut, kc_shut]) rfl rfl) rfl rfl rfl rfl rfl rfl (by kernel_rfl) rfl ?_
                    | refine sk_call (inst_to (by omega) (by omega) 10 rfl rfl) rfl rfl rfl rfl rfl rfl (by kernel_rfl) rfl ?_
                    | refine sk_call (inst_pure (lfirst_con _ _ (by omega) (by omega)) rfl rfl rfl) rfl rfl rfl rfl rfl rfl (by kernel_rfl) rfl ?_
                    | refine sk_move rfl rfl rfl rfl (c := .one _) rfl ?_
                    | refine sk_assign rfl rfl rfl rfl (c := .one _) rfl ?_
                    | refine sk_add rfl rfl rfl rfl rfl rfl (by omega) ?_
                    | refine sk_sub rfl rfl rfl rfl rfl rfl (by omega) ?_
                    | refine sk_mul rfl rfl rfl rfl rfl rfl (by omega) ?_
                    | refine sk_load rfl rfl rfl rfl rfl rfl rfl ?_
                    | refine sk_fld rfl rfl rfl rfl rfl (by first | (simp only [Nat.zero_add, Nat.mul_one, Nat.reduceAdd, Nat.reduceMul, Int.reduceToNat, Nat.add_zero, Int.toNat_natCast]; exact rfl) | exact rfl) ?_
                    | refine sk_true rfl rfl rfl rfl rfl rfl rfl (by omega) ?_
                    | refine sk_false rfl rfl rfl rfl rfl rfl rfl (by omega) ?_
                    | refine sk_netrue rfl rfl rfl rfl rfl rfl (by omega) ?_
                    | refine sk_nefalse rfl rfl rfl rfl rfl rfl (by omega) ?_
                    | refine sk_fork rfl rfl rfl rfl rfl rfl rfl (fun _ => ?_) (fun _ => ?_)
                    | refine sk_forkn rfl rfl rfl rfl rfl rfl (fun _ => ?_) (fun _ => ?_)
                    | refine sk_nil rfl rfl rfl rfl rfl ?_
                    | refine sk_idxa rfl rfl rfl rfl rfl rfl (by omega) (by first | (simp only [Nat.zero_add, Nat.mul_one, Nat.reduceAdd, Nat.reduceMul, Int.reduceToNat, Nat.add_zero, Int.toNat_natCast]; exact rfl) | exact rfl) ?_
                    | refine sk_loadall rfl rfl rfl rfl rfl rfl rfl ?_
                    | refine sk_loada rfl rfl rfl rfl rfl rfl (by decide) rfl ?_
                    | refine sk_quo rfl rfl rfl rfl rfl rfl (by omega) (by omega) ?_
                    | refine sk_rem rfl rfl rfl rfl rfl rfl (by omega) (by omega) ?_
                    | refine sk_max rfl rfl rfl rfl rfl rfl (Int.max_eq_left (by omega)) ?_
                    | refine sk_max rfl rfl rfl rfl rfl rfl (Int.max_eq_right (by omega)) ?_
                    | refine sk_max rfl rfl rfl rfl rfl rfl rfl ?_
                    | refine sk_min rfl rfl rfl rfl rfl rfl (Int.min_eq_left (by omega)) ?_
                    | refine sk_min rfl rfl rfl rfl rfl rfl (Int.min_eq_right (by omega)) ?_
                    | refine sk_min rfl rfl rfl rfl rfl rfl rfl ?_
                    | refine sk_conv rfl rfl rfl rfl rfl (by first | exact IntWalk.i64_in _ (by omega) | rfl) ?_
                    | refine sk_pickT rfl rfl rfl rfl rfl rfl ?_
                    | refine sk_pickF rfl rfl rfl rfl rfl rfl ?_
                    | refine sk_not rfl rfl rfl rfl rfl rfl ?_
                    | refine sk_build0 rfl rfl rfl rfl ?_
                    | refine sk_build0A rfl rfl rfl rfl ?_
                    | refine sk_buildA rfl rfl rfl rfl rfl rfl (by first | (simp only [List.cons_append, List.nil_append, List.append_nil]; exact rfl) | exact rfl) ?_
                    | refine sk_buildS rfl rfl rfl rfl rfl rfl (by first | (simp only [List.cons_append, List.nil_append, List.append_nil]; exact rfl) | exact rfl) ?_
                    | refine sk_nnp rfl rfl rfl rfl rfl ?_
                    | refine sk_makemap rfl rfl rfl rfl (by first | (simp only [List.length_cons, List.length_nil, List.length_append, Nat.reduceAdd, Nat.zero_add]; exact rfl) | exact rfl) rfl (by first | (simp only [List.cons_append, List.nil_append]; exact rfl) | exact rfl) ?_
                    | refine sk_alloc rfl rfl rfl rfl (by first | (simp only [List.length_cons, List.length_nil, List.length_append, Nat.reduceAdd, Nat.zero_add]; exact rfl) | exact rfl) rfl (by first | (simp only [List.cons_append, List.nil_append]; exact rfl) | exact rfl) ?_
                    | refine sk_box rfl rfl rfl rfl rfl (by first | (simp only [List.length_cons, List.length_nil, List.length_append, Nat.reduceAdd, Nat.zero_add]; exact rfl) | exact rfl) rfl (by first | (simp only [List.cons_append, List.nil_append]; exact rfl) | exact rfl) ?_
                    | refine sk_store rfl rfl rfl rfl rfl rfl (by decide) (by first | (simp only [List.set_cons_succ, List.set_cons_zero]; exact rfl) | exact rfl) (by first | (simp only [List.set_cons_succ, List.set_cons_zero]; exact rfl) | exact rfl) ?_
                    | refine sk_storea rfl rfl rfl rfl rfl rfl rfl rfl (by first | (simp only [List.set_cons_succ, List.set_cons_zero]; exact rfl) | exact rfl) ?_
                    | refine sk_ext rfl rfl rfl rfl rfl rfl ?_
                    | refine sk_exta rfl rfl rfl rfl rfl rfl ?_
                    | refine sk_idxs rfl rfl rfl rfl rfl rfl (by omega) (by first | (simp only [Nat.zero_add, Nat.mul_one, Nat.reduceAdd, Nat.reduceMul, Int.reduceToNat, Nat.add_zero, Int.toNat_natCast]; exact rfl) | exact rfl) ?_
                    | refine sk_lens rfl rfl rfl rfl rfl ?_
                    | refine sk_field rfl rfl rfl rfl rfl rfl ?_
                    | refine sk_move rfl rfl rfl rfl (c := .agg _) rfl ?_
                    | refine sk_assign rfl rfl rfl rfl (c := .agg _) rfl ?_
                    | refine sk_move rfl rfl rfl rfl (c := .tup _) rfl ?_
                    | refine sk_assign rfl rfl rfl rfl (c := .tup _) rfl ?_
                    | refine sk_skip rfl rfl rfl ?_
                    | refine sk_skip0 rfl rfl ?_
                    | refine sk_pure rfl rfl rfl rfl ?_)
                  | refine WX.seq ?_
                  | refine WX.actsC ?_
                  | refine sk_last (by first | exact Consistent.nil | exact Consistent.one _ | exact Consistent.ofL (by repeat' (first | exact True.intro | refine And.intro ?_ ?_ | exact Compat.ne rfl | exact compat_number id | exact compat_to id))) ⟨by kernel_rfl, ?_⟩
                  | refine sk_last (by first | exact Consistent.nil | exact Consistent.one _ | exact Consistent.ofL (by repeat' (first | exact True.intro | refine And.intro ?_ ?_ | exact Compat.ne rfl | exact compat_number id | exact compat_to id))) ?_
                  | refine WX.drawsC mixed (by kernel_rfl) ?_
                  | refine WX.condT rfl ?_
                  | refine WX.condF rfl ?_
                  | refine WX.skip ?_
                  | refine WX.block ?_
                  | refine WX.exit ?_
                  | refine WX.ret ?_)
                first | exact ⟨rfl, (less_cons rfl (less_cons rfl (less_cons rfl (less_cons rfl (less_cons rfl (less_cons rfl (less_cons rfl (less_cons rfl (less_cons rfl (less_cons rfl (less_cons rfl (less_cons rfl (less_cons rfl (less_cons rfl (less_nil _))))))))))))))), rfl⟩ | exact ⟨(less_cons rfl (less_cons rfl (less_cons rfl (less_cons rfl (less_cons rfl (less_cons rfl (less_cons rfl (less_cons rfl (less_cons rfl (less_cons rfl (less_cons rfl (less_cons rfl (less_cons rfl (less_cons rfl (less_nil _))))))))))))))), rfl⟩
            | none =>
              cases hsel
              repeat' (first
                | (refine sk_id ?_; first
                  | refine sk_call (inst_pure (number_at (oka _ rfl)) (by simp [XV.shut, kc_shut]) rfl rfl) rfl rfl rfl rfl rfl rfl (by kernel_rfl) rfl ?_
                  | refine sk_call (inst_pure (lfirst_con _ _ (by omega) (by omega)) rfl rfl rfl) rfl rfl rfl rfl rfl rfl (by kernel_rfl) rfl ?_
                  | refine sk_move rfl rfl rfl rfl (c := .one _) rfl ?_
                  | refine sk_assign rfl rfl rfl rfl (c := .one _) rfl ?_
                  | refine sk_add rfl rfl rfl rfl rfl rfl (by omega) ?_
                  | refine sk_sub rfl rfl rfl rfl rfl rfl (by omega) ?_
                  | refine sk_mul rfl rfl rfl rfl rfl rfl (by omega) ?_
                  | refine sk_load rfl rfl rfl rfl rfl rfl rfl ?_
                  | refine sk_fld rfl rfl rfl rfl rfl (by first | (simp only [Nat.zero_add, Nat.mul_one, Nat.reduceAdd, Nat.reduceMul, Int.reduceToNat, Nat.add_zero, Int.toNat_natCast]; exact rfl) | exact rfl) ?_
                  | refine sk_true rfl rfl rfl rfl rfl rfl rfl (by omega) ?_
                  | refine sk_false rfl rfl rfl rfl rfl rfl rfl (by omega) ?_
                  | refine sk_netrue rfl rfl rfl rfl rfl rfl (by omega) ?_
                  | refine sk_nefalse rfl rfl rfl rfl rfl rfl (by omega) ?_
                  | refine sk_fork rfl rfl rfl rfl rfl rfl rfl (fun _ => ?_) (fun _ => ?_)
                  | refine sk_forkn rfl rfl rfl rfl rfl rfl (fun _ => ?_) (fun _ => ?_)
                  | refine sk_nil rfl rfl rfl rfl rfl ?_
                  | refine sk_idxa rfl rfl rfl rfl rfl rfl (by omega) (by first | (simp only [Nat.zero_add, Nat.mul_one, Nat.reduceAdd, Nat.reduceMul, Int.reduceToNat, Nat.add_zero, Int.toNat_natCast]; exact rfl) | exact rfl) ?_
                  | refine sk_loadall rfl rfl rfl rfl rfl rfl rfl ?_
                  | refine sk_loada rfl rfl rfl rfl rfl rfl (by decide) rfl ?_
                  | refine sk_quo rfl rfl rfl rfl rfl rfl (by omega) (by omega) ?_
                  | refine sk_rem rfl rfl rfl rfl rfl rfl (by omega) (by omega) ?_
                  | refine sk_max rfl rfl rfl rfl rfl rfl (Int.max_eq_left (by omega)) ?_
                  | refine sk_max rfl rfl rfl rfl rfl rfl (Int.max_eq_right (by omega)) ?_
                  | refine sk_max rfl rfl rfl rfl rfl rfl rfl ?_
                  | refine sk_min rfl rfl rfl rfl rfl rfl (Int.min_eq_left (by omega)) ?_
                  | refine sk_min rfl rfl rfl rfl rfl rfl (Int.min_eq_right (by omega)) ?_
                  | refine sk_min rfl rfl rfl rfl rfl rfl rfl ?_
                  | refine sk_conv rfl rfl rfl rfl rfl (by first | exact IntWalk.i64_in _ (by omega) | rfl) ?_
                  | refine sk_pickT rfl rfl rfl rfl rfl rfl ?_
                  | refine sk_pickF rfl rfl rfl rfl rfl rfl ?_
                  | refine sk_not rfl rfl rfl rfl rfl rfl ?_
                  | refine sk_build0 rfl rfl rfl rfl ?_
                  | refine sk_build0A rfl rfl rfl rfl ?_
                  | refine sk_buildA rfl rfl rfl rfl rfl rfl (by first | (simp only [List.cons_append, List.nil_append, List.append_nil]; exact rfl) | exact rfl) ?_
                  | refine sk_buildS rfl rfl rfl rfl rfl rfl (by first | (simp only [List.cons_append, List.nil_append, List.append_nil]; exact rfl) | exact rfl) ?_
                  | refine sk_nnp rfl rfl rfl rfl rfl ?_
                  | refine sk_makemap rfl rfl rfl rfl (by first | (simp only [List.length_cons, List.length_nil, List.length_append, Nat.reduceAdd, Nat.zero_add]; exact rfl) | exact rfl) rfl (by first | (simp only [List.cons_append, List.nil_append]; exact rfl) | exact rfl) ?_
                  | refine sk_alloc rfl rfl rfl rfl (by first | (simp only [List.length_cons, List.length_nil, List.length_append, Nat.reduceAdd, Nat.zero_add]; exact rfl) | exact rfl) rfl (by first | (simp only [List.cons_append, List.nil_append]; exact rfl) | exact rfl) ?_
                  | refine sk_box rfl rfl rfl rfl rfl (by first | (simp only [List.length_cons, List.length_nil, List.length_append, Nat.reduceAdd, Nat.zero_add]; exact rfl) | exact rfl) rfl (by first | (simp only [List.cons_append, List.nil_append]; exact rfl) | exact rfl) ?_
                  | refine sk_store rfl rfl rfl rfl rfl rfl (by decide) (by first | (simp only [List.set_cons_succ, List.set_cons_zero]; exact rfl) | exact rfl) (by first | (simp only [List.set_cons_succ, List.set_cons_zero]; exact rfl) | exact rfl) ?_
                  | refine sk_storea rfl rfl rfl rfl rfl rfl rfl rfl (by first | (simp only [List.set_cons_succ, List.set_cons_zero]; exact rfl) | exact rfl) ?_
                  | refine sk_ext rfl rfl rfl rfl rfl rfl ?_
                  | refine sk_exta rfl rfl rfl rfl rfl rfl ?_
                  | refine sk_idxs rfl rfl rfl rfl rfl rfl (by omega) (by first | (simp only [Nat.zero_add, Nat.mul_one, Nat.reduceAdd, Nat.reduceMul, Int.reduceToNat, Nat.add_zero, Int.toNat_natCast]; exact rfl) | exact rfl) ?_
                  | refine sk_lens rfl rfl rfl rfl rfl ?_
                  | refine sk_field rfl rfl rfl rfl rfl rfl ?_
                  | refine sk_move rfl rfl rfl rfl (c := .agg _) rfl ?_
                  | refine sk_assign rfl rfl rfl rfl (c := .agg _) rfl ?_
                  | refine sk_move rfl rfl rfl rfl (c := .tup _) rfl ?_
                  | refine sk_assign rfl rfl rfl rfl (c := .tup _) rfl ?_
                  | refine sk_skip rfl rfl rfl ?_
                  | refine sk_skip0 rfl rfl ?_
                  | refine sk_pure rfl rfl rfl rfl ?_)
                | refine WX.seq ?_
                | refine WX.actsC ?_
                | refine sk_last (by first | exact Consistent.nil | exact Consistent.one _ | exact Consistent.ofL (by repeat' (first | exact True.intro | refine And.intro ?_ ?_ | exact Compat.ne rfl))) ⟨by kernel_rfl, ?_⟩
                | refine sk_last (by first | exact Consistent.nil | exact Consistent.one _ | exact Consistent.ofL (by repeat' (first | exact True.intro | refine And.intro ?_ ?_ | exact Compat.ne rfl))) ?_
                | refine WX.drawsC mixed (by kernel_rfl) ?_
                | refine WX.condT rfl ?_
                | refine WX.condF rfl ?_
                | refine WX.skip ?_
                | refine WX.block ?_
                | refine WX.exit ?_
                | refine WX.ret ?_)
              first | exact ⟨rfl, (less_cons rfl (less_cons rfl (less_cons rfl (less_cons rfl (less_cons rfl (less_cons rfl (less_cons rfl (less_cons rfl (less_cons rfl (less_cons rfl (less_cons rfl (less_cons rfl (less_cons rfl (less_cons rfl (less_nil _))))))))))))))), rfl⟩ | exact ⟨(less_cons rfl (less_cons rfl (less_cons rfl (less_cons rfl (less_cons rfl (less_cons rfl (less_cons rfl (less_cons rfl (less_cons rfl (less_cons rfl (less_cons rfl (less_cons rfl (less_cons rfl (less_cons rfl (less_nil _))))))))))))))), rfl⟩
          | none =>
            cases lb with
            | some b =>
              have hb := fbOf_bnd b
              cases hsel
              repeat' (first
                | (refine sk_id ?_; first
                  | refine sk_call (inst_pure (number_at (okb _ rfl)) (by simp [XV.shut, kc_shut]) rfl rfl) rfl rfl rfl rfl rfl rfl (by kernel_rfl) rfl ?_
                  | refine sk_call (inst_pure (lfirst_con _ _ (by omega) (by omega)) rfl rfl rfl) rfl rfl rfl rfl rfl rfl (by kernel_rfl) rfl ?_
                  | refine sk_move rfl rfl rfl rfl (c := .one _) rfl ?_
                  | refine sk_assign rfl rfl rfl rfl (c := .one _) rfl ?_
                  | refine sk_add rfl rfl rfl rfl rfl rfl (by omega) ?_
                  | refine sk_sub rfl rfl rfl rfl rfl rfl (by omega) ?_
                  | refine sk_mul rfl rfl rfl rfl rfl rfl (by omega) ?_
                  | refine sk_load rfl rfl rfl rfl rfl rfl rfl ?_
                  | refine sk_fld rfl rfl rfl rfl rfl (by first | (simp only [Nat.zero_add, Nat.mul_one, Nat.reduceAdd, Nat.reduceMul, Int.reduceToNat, Nat.add_zero, Int.toNat_natCast]; exact rfl) | exact rfl) ?_
                  | refine sk_true rfl rfl rfl rfl rfl rfl rfl (by omega) ?_
                  | refine sk_false rfl rfl rfl rfl rfl rfl rfl (by omega) ?_
                  | refine sk_netrue rfl rfl rfl rfl rfl rfl (by omega) ?_
                  | refine sk_nefalse rfl rfl rfl rfl rfl rfl (by omega) ?_
                  | refine sk_fork rfl rfl rfl rfl rfl rfl rfl (fun _ => ?_) (fun _ => ?_)
                  | refine sk_forkn rfl rfl rfl rfl rfl rfl (fun _ => ?_) (fun _ => ?_)
                  | refine sk_nil rfl rfl rfl rfl rfl ?_
                  | refine sk_idxa rfl rfl rfl rfl rfl rfl (by omega) (by first | (simp only [Nat.zero_add, Nat.mul_one, Nat.reduceAdd, Nat.reduceMul, Int.reduceToNat, Nat.add_zero, Int.toNat_natCast]; exact rfl) | exact rfl) ?_
                  | refine sk_loadall rfl rfl rfl rfl rfl rfl rfl ?_
                  | refine sk_loada rfl rfl rfl rfl rfl rfl (by decide) rfl ?_
                  | refine sk_quo rfl rfl rfl rfl rfl rfl (by omega) (by omega) ?_
                  | refine sk_rem rfl rfl rfl rfl rfl rfl (by omega) (by omega) ?_
                  | refine sk_max rfl rfl rfl rfl rfl rfl (Int.max_eq_left (by omega)) ?_
                  | refine sk_max rfl rfl rfl rfl rfl rfl (Int.max_eq_right (by omega)) ?_
                  | refine sk_max rfl rfl rfl rfl rfl rfl rfl ?_
                  | refine sk_min rfl rfl rfl rfl rfl rfl (Int.min_eq_left (by omega)) ?_
                  | refine sk_min rfl rfl rfl rfl rfl rfl (Int.min_eq_right (by omega)) ?_
                  | refine sk_min rfl rfl rfl rfl rfl rfl rfl ?_
                  | refine sk_conv rfl rfl rfl rfl rfl (by first | exact IntWalk.i64_in _ (by omega) | rfl) ?_
                  | refine sk_pickT rfl rfl rfl rfl rfl rfl ?_
                  | refine sk_pickF rfl rfl rfl rfl rfl rfl ?_
                  | refine sk_not rfl rfl rfl rfl rfl rfl ?_
                  | refine sk_build0 rfl rfl rfl rfl ?_
                  | refine sk_build0A rfl rfl rfl rfl ?_
                  | refine sk_buildA rfl rfl rfl rfl rfl rfl (by first | (simp only [List.cons_append, List.nil_append, List.append_nil]; exact rfl) | exact rfl) ?_
                  | refine sk_buildS rfl rfl rfl rfl rfl rfl (by first | (simp only [List.cons_append, List.nil_append, List.append_nil]; exact rfl) | exact rfl) ?_
                  | refine sk_nnp rfl rfl rfl rfl rfl ?_
                  | refine sk_makemap rfl rfl rfl rfl (by first | (simp only [List.length_cons, List.length_nil, List.length_append, Nat.reduceAdd, Nat.zero_add]; exact rfl) | exact rfl) rfl (by first | (simp only [List.cons_append, List.nil_append]; exact rfl) | exact rfl) ?_
                  | refine sk_alloc rfl rfl rfl rfl (by first | (simp only [List.length_cons, List.length_nil, List.length_append, Nat.reduceAdd, Nat.zero_add]; exact rfl) | exact rfl) rfl (by first | (simp only [List.cons_append, List.nil_append]; exact rfl) | exact rfl) ?_
                  | refine sk_box rfl rfl rfl rfl rfl (by first | (simp only [List.length_cons, List.length_nil, List.length_append, Nat.reduceAdd, Nat.zero_add]; exact rfl) | exact rfl) rfl (by first | (simp only [List.cons_append, List.nil_append]; exact rfl) | exact rfl) ?_
                  | refine sk_store rfl rfl rfl rfl rfl rfl (by decide) (by first | (simp only [List.set_cons_succ, List.set_cons_zero]; exact rfl) | exact rfl) (by first | (simp only [List.set_cons_succ, List.set_cons_zero]; exact rfl) | exact rfl) ?_
                  | refine sk_storea rfl rfl rfl rfl rfl rfl rfl rfl (by first | (simp only [List.set_cons_succ, List.set_cons_zero]; exact rfl) | exact rfl) ?_
                  | refine sk_ext rfl rfl rfl rfl rfl rfl ?_
                  | refine sk_exta rfl rfl rfl rfl rfl rfl ?_
                  | refine sk_idxs rfl rfl rfl rfl rfl rfl (by omega) (by first | (simp only [Nat.zero_add, Nat.mul_one, Nat.reduceAdd, Nat.reduceMul, Int.reduceToNat, Nat.add_zero, Int.toNat_natCast]; exact rfl) | exact rfl) ?_
                  | refine sk_lens rfl rfl rfl rfl rfl ?_
                  | refine sk_field rfl rfl rfl rfl rfl rfl ?_
                  | refine sk_move rfl rfl rfl rfl (c := .agg _) rfl ?_
                  | refine sk_assign rfl rfl rfl rfl (c := .agg _) rfl ?_
                  | refine sk_move rfl rfl rfl rfl (c := .tup _) rfl ?_
                  | refine sk_assign rfl rfl rfl rfl (c := .tup _) rfl ?_
                  | refine sk_skip rfl rfl rfl ?_
                  | refine sk_skip0 rfl rfl ?_
                  | refine sk_pure rfl rfl rfl rfl ?_)
                | refine WX.seq ?_
                | refine WX.actsC ?_
                | refine sk_last (by first | exact Consistent.nil | exact Consistent.one _ | exact Consistent.ofL (by repeat' (first | exact True.intro | refine And.intro ?_ ?_ | exact Compat.ne rfl))) ⟨by kernel_rfl, ?_⟩
                | refine sk_last (by first | exact Consistent.nil | exact Consistent.one _ | exact Consistent.ofL (by repeat' (first | exact True.intro | refine And.intro ?_ ?_ | exact Compat.ne rfl))) ?_
                | refine WX.drawsC mixed (by kernel_rfl) ?_
                | refine WX.condT rfl ?_
                | refine WX.condF rfl ?_
                | refine WX.skip ?_
                | refine WX.block ?_
                | refine WX.exit ?_
                | refine WX.ret ?_)
              first | exact ⟨rfl, (less_cons rfl (less_cons rfl (less_cons rfl (less_cons rfl (less_cons rfl (less_cons rfl (less_cons rfl (less_cons rfl (less_cons rfl (less_cons rfl (less_cons rfl (less_cons rfl (less_cons rfl (less_cons rfl (less_nil _))))))))))))))), rfl⟩ | exact ⟨(less_cons rfl (less_cons rfl (less_cons rfl (less_cons rfl (less_cons rfl (less_cons rfl (less_cons rfl (less_cons rfl (less_cons rfl (less_cons rfl (less_cons rfl (less_cons rfl (less_cons rfl (less_cons rfl (less_nil _))))))))))))))), rfl⟩
            | none =>
              cases hsel
              repeat' (first
                | (refine sk_id ?_; first
                  | refine sk_move rfl rfl rfl rfl (c := .one _) rfl ?_
                  | refine sk_assign rfl rfl rfl rfl (c := .one _) rfl ?_
                  | refine sk_add rfl rfl rfl rfl rfl rfl (by omega) ?_
                  | refine sk_sub rfl rfl rfl rfl rfl rfl (by omega) ?_
                  | refine sk_mul rfl rfl rfl rfl rfl rfl (by omega) ?_
                  | refine sk_load rfl rfl rfl rfl rfl rfl rfl ?_
                  | refine sk_fld rfl rfl rfl rfl rfl (by first | (simp only [Nat.zero_add, Nat.mul_one, Nat.reduceAdd, Nat.reduceMul, Int.reduceToNat, Nat.add_zero, Int.toNat_natCast]; exact rfl) | exact rfl) ?_
                  | refine sk_true rfl rfl rfl rfl rfl rfl rfl (by omega) ?_
                  | refine sk_false rfl rfl rfl rfl rfl rfl rfl (by omega) ?_
                  | refine sk_netrue rfl rfl rfl rfl rfl rfl (by omega) ?_
                  | refine sk_nefalse rfl rfl rfl rfl rfl rfl (by omega) ?_
                  | refine sk_fork rfl rfl rfl rfl rfl rfl rfl (fun _ => ?_) (fun _ => ?_)
                  | refine sk_forkn rfl rfl rfl rfl rfl rfl (fun _ => ?_) (fun _ => ?_)
                  | refine sk_nil rfl rfl rfl rfl rfl ?_
                  | refine sk_idxa rfl rfl rfl rfl rfl rfl (by omega) (by first | (simp only [Nat.zero_add, Nat.mul_one, Nat.reduceAdd, Nat.reduceMul, Int.reduceToNat, Nat.add_zero, Int.toNat_natCast]; exact rfl) | exact rfl) ?_
                  | refine sk_loadall rfl rfl rfl rfl rfl rfl rfl ?_
                  | refine sk_loada rfl rfl rfl rfl rfl rfl (by decide) rfl ?_
                  | refine sk_quo rfl rfl rfl rfl rfl rfl (by omega) (by omega) ?_
                  | refine sk_rem rfl rfl rfl rfl rfl rfl (by omega) (by omega) ?_
                  | refine sk_max rfl rfl rfl rfl rfl rfl (Int.max_eq_left (by omega)) ?_
                  | refine sk_max rfl rfl rfl rfl rfl rfl (Int.max_eq_right (by omega)) ?_
                  | refine sk_max rfl rfl rfl rfl rfl rfl rfl ?_
                  | refine sk_min rfl rfl rfl rfl rfl rfl (Int.min_eq_left (by omega)) ?_
                  | refine sk_min rfl rfl rfl rfl rfl rfl (Int.min_eq_right (by omega)) ?_
                  | refine sk_min rfl rfl rfl rfl rfl rfl rfl ?_
                  | refine sk_conv rfl rfl rfl rfl rfl (by first | exact IntWalk.i64_in _ (by omega) | rfl) ?_
                  | refine sk_pickT rfl rfl rfl rfl rfl rfl ?_
                  | refine sk_pickF rfl rfl rfl rfl rfl rfl ?_
                  | refine sk_not rfl rfl rfl rfl rfl rfl ?_
                  | refine sk_build0 rfl rfl rfl rfl ?_
                  | refine sk_build0A rfl rfl rfl rfl ?_
                  | refine sk_buildA rfl rfl rfl rfl rfl rfl (by first | (simp only [List.cons_append, List.nil_append, List.append_nil]; exact rfl) | exact rfl) ?_
                  | refine sk_buildS rfl rfl rfl rfl rfl rfl (by first | (simp only [List.cons_append, List.nil_append, List.append_nil]; exact rfl) | exact rfl) ?_
                  | refine sk_nnp rfl rfl rfl rfl rfl ?_
                  | refine sk_makemap rfl rfl rfl rfl (by first | (simp only [List.length_cons, List.length_nil, List.length_append, Nat.reduceAdd, Nat.zero_add]; exact rfl) | exact rfl) rfl (by first | (simp only [List.cons_append, List.nil_append]; exact rfl) | exact rfl) ?_
                  | refine sk_alloc rfl rfl rfl rfl (by first | (simp only [List.length_cons, List.length_nil, List.length_append, Nat.reduceAdd, Nat.zero_add]; exact rfl) | exact rfl) rfl (by first | (simp only [List.cons_append, List.nil_append]; exact rfl) | exact rfl) ?_
                  | refine sk_box rfl rfl rfl rfl rfl (by first | (simp only [List.length_cons, List.length_nil, List.length_append, Nat.reduceAdd, Nat.zero_add]; exact rfl) | exact rfl) rfl (by first | (simp only [List.cons_append, List.nil_append]; exact rfl) | exact rfl) ?_
                  | refine sk_store rfl rfl rfl rfl rfl rfl (by decide) (by first | (simp only [List.set_cons_succ, List.set_cons_zero]; exact rfl) | exact rfl) (by first | (simp only [List.set_cons_succ, List.set_cons_zero]; exact rfl) | exact rfl) ?_
                  | refine sk_storea rfl rfl rfl rfl rfl rfl rfl rfl (by first | (simp only [List.set_cons_succ, List.set_cons_zero]; exact rfl) | exact rfl) ?_
                  | refine sk_ext rfl rfl rfl rfl rfl rfl ?_
                  | refine sk_exta rfl rfl rfl rfl rfl rfl ?_
                  | refine sk_idxs rfl rfl rfl rfl rfl rfl (by omega) (by first | (simp only [Nat.zero_add, Nat.mul_one, Nat.reduceAdd, Nat.reduceMul, Int.reduceToNat, Nat.add_zero, Int.toNat_natCast]; exact rfl) | exact rfl) ?_
                  | refine sk_lens rfl rfl rfl rfl rfl ?_
                  | refine sk_field rfl rfl rfl rfl rfl rfl ?_
                  | refine sk_move rfl rfl rfl rfl (c := .agg _) rfl ?_
                  | refine sk_assign rfl rfl rfl rfl (c := .agg _) rfl ?_
                  | refine sk_move rfl rfl rfl rfl (c := .tup _) rfl ?_
                  | refine sk_assign rfl rfl rfl rfl (c := .tup _) rfl ?_
                  | refine sk_skip rfl rfl rfl ?_
                  | refine sk_skip0 rfl rfl ?_
                  | refine sk_pure rfl rfl rfl rfl ?_)
                | refine WX.seq ?_
                | refine WX.actsC ?_
                | refine sk_last (by first | exact Consistent.nil | exact Consistent.one _ | exact Consistent.ofL (by repeat' (first | exact True.intro | refine And.intro ?_ ?_ | exact Compat.ne rfl))) ⟨by kernel_rfl, ?_⟩
                | refine sk_last (by first | exact Consistent.nil | exact Consistent.one _ | exact Consistent.ofL (by repeat' (first | exact True.intro | refine And.intro ?_ ?_ | exact Compat.ne rfl))) ?_
                | refine WX.drawsC mixed (by kernel_rfl) ?_
                | refine WX.condT rfl ?_
                | refine WX.condF rfl ?_
                | refine WX.skip ?_
                | refine WX.block ?_
                | refine WX.exit ?_
                | refine WX.ret ?_)
              first | exact ⟨rfl, (less_cons rfl (less_cons rfl (less_cons rfl (less_cons rfl (less_cons rfl (less_cons rfl (less_cons rfl (less_cons rfl (less_cons rfl (less_cons rfl (less_cons rfl (less_cons rfl (less_cons rfl (less_cons rfl (less_nil _))))))))))))))), rfl⟩ | exact ⟨(less_cons rfl (less_cons rfl (less_cons rfl (less_cons rfl (less_cons rfl (less_cons rfl (less_cons rfl (less_cons rfl (less_cons rfl (less_cons rfl (less_cons rfl (less_cons rfl (less_cons rfl (less_cons rfl (less_nil _))))))))))))))), rfl⟩
        · refine Held.mk ?_
          clear ihj ihk
          rcases sel_from hsel with rfl | rfl | rfl
          · have e0 : edgeSel 0 kn q = noEdge := if_neg (fun h => h.1 rfl)
            rw [e0]
            repeat' (first
              | (refine sk_id ?_; first
                | refine sk_move rfl rfl rfl rfl (c := .one _) rfl ?_
                | refine sk_assign rfl rfl rfl rfl (c := .one _) rfl ?_
                | refine sk_add rfl rfl rfl rfl rfl rfl (by omega) ?_
                | refine sk_sub rfl rfl rfl rfl rfl rfl (by omega) ?_
                | refine sk_mul rfl rfl rfl rfl rfl rfl (by omega) ?_
                | refine sk_load rfl rfl rfl rfl rfl rfl rfl ?_
                | refine sk_fld rfl rfl rfl rfl rfl (by first | (simp only [Nat.zero_add, Nat.mul_one, Nat.reduceAdd, Nat.reduceMul, Int.reduceToNat, Nat.add_zero, Int.toNat_natCast]; exact rfl) | exact rfl) ?_
                | refine sk_true rfl rfl rfl rfl rfl rfl rfl (by omega) ?_
                | refine sk_false rfl rfl rfl rfl rfl rfl rfl (by omega) ?_
                | refine sk_netrue rfl rfl rfl rfl rfl rfl (by omega) ?_
                | refine sk_nefalse rfl rfl rfl rfl rfl rfl (by omega) ?_
                | refine sk_fork rfl rfl rfl rfl rfl rfl rfl (fun _ => ?_) (fun _ => ?_)
                | refine sk_forkn rfl rfl rfl rfl rfl rfl (fun _ => ?_) (fun _ => ?_)
                | refine sk_nil rfl rfl rfl rfl rfl ?_
                | refine sk_idxa rfl rfl rfl rfl rfl rfl (by omega) (by first | (simp only [Nat.zero_add, Nat.mul_one, Nat.reduceAdd, Nat.reduceMul, Int.reduceToNat, Nat.add_zero, Int.toNat_natCast]; exact rfl) | exact rfl) ?_
                | refine sk_loadall rfl rfl rfl rfl rfl rfl rfl ?_
                | refine sk_loada rfl rfl rfl rfl rfl rfl (by decide) rfl ?_
                | refine sk_quo rfl rfl rfl rfl rfl rfl (by omega) (by omega) ?_
                | refine sk_rem rfl rfl rfl rfl rfl rfl (by omega) (by omega) ?_
                | refine sk_max rfl rfl rfl rfl rfl rfl (Int.max_eq_left (by omega)) ?_
                | refine sk_max rfl rfl rfl rfl rfl rfl (Int.max_eq_right (by omega)) ?_
                | refine sk_max rfl rfl rfl rfl rfl rfl rfl ?_
                | refine sk_min rfl rfl rfl rfl rfl rfl (Int.min_eq_left (by omega)) ?_
                | refine sk_min rfl rfl rfl rfl rfl rfl (Int.min_eq_right (by omega)) ?_
                | refine sk_min rfl rfl rfl rfl rfl rfl rfl ?_
                | refine sk_conv rfl rfl rfl rfl rfl (by first | exact IntWalk.i64_in _ (by omega) | rfl) ?_
                | refine sk_pickT rfl rfl rfl rfl rfl rfl ?_
                | refine sk_pickF rfl rfl rfl rfl rfl rfl ?_
                | refine sk_not rfl rfl rfl rfl rfl rfl ?_
                | refine sk_build0 rfl rfl rfl rfl ?_
                | refine sk_build0A rfl rfl rfl rfl ?_
                | refine sk_buildA rfl rfl rfl rfl rfl rfl (by first | (simp only [List.cons_append, List.nil_append, List.append_nil]; exact rfl) | exact rfl) ?_
                | refine sk_buildS rfl rfl rfl rfl rfl rfl (by first | (simp only [List.cons_append, List.nil_append, List.append_nil]; exact rfl) | exact rfl) ?_
                | refine sk_nnp rfl rfl rfl rfl rfl ?_
                | refine sk_makemap rfl rfl rfl rfl (by first | (simp only [List.length_cons, List.length_nil, List.length_append, Nat.reduceAdd, Nat.zero_add]; exact rfl) | exact rfl) rfl (by first | (simp only [List.cons_append, List.nil_append]; exact rfl) | exact rfl) ?_
                | refine sk_alloc rfl rfl rfl rfl (by first | (simp only [List.length_cons, List.length_nil, List.length_append, Nat.reduceAdd, Nat.zero_add]; exact rfl) | exact rfl) rfl (by first | (simp only [List.cons_append, List.nil_append]; exact rfl) | exact rfl) ?_
                | refine sk_box rfl rfl rfl rfl rfl (by first | (simp only [List.length_cons, List.length_nil, List.length_append, Nat.reduceAdd, Nat.zero_add]; exact rfl) | exact rfl) rfl (by first | (simp only [List.cons_append, List.nil_append]; exact rfl) | exact rfl) ?_
                | refine sk_store rfl rfl rfl rfl rfl rfl (by decide) (by first | (simp only [List.set_cons_succ, List.set_cons_zero]; exact rfl) | exact rfl) (by first | (simp only [List.set_cons_succ, List.set_cons_zero]; exact rfl) | exact rfl) ?_
                | refine sk_storea rfl rfl rfl rfl rfl rfl rfl rfl (by first | (simp only [List.set_cons_succ, List.set_cons_zero]; exact rfl) | exact rfl) ?_
                | refine sk_ext rfl rfl rfl rfl rfl rfl ?_
                | refine sk_exta rfl rfl rfl rfl rfl rfl ?_
                | refine sk_idxs rfl rfl rfl rfl rfl rfl (by omega) (by first | (simp only [Nat.zero_add, Nat.mul_one, Nat.reduceAdd, Nat.reduceMul, Int.reduceToNat, Nat.add_zero, Int.toNat_natCast]; exact rfl) | exact rfl) ?_
                | refine sk_lens rfl rfl rfl rfl rfl ?_
                | refine sk_field rfl rfl rfl rfl rfl rfl ?_
                | refine sk_move rfl rfl rfl rfl (c := .agg _) rfl ?_
                | refine sk_assign rfl rfl rfl rfl (c := .agg _) rfl ?_
                | refine sk_move rfl rfl rfl rfl (c := .tup _) rfl ?_
                | refine sk_assign rfl rfl rfl rfl (c := .tup _) rfl ?_
                | refine sk_skip rfl rfl rfl ?_
                | refine sk_skip0 rfl rfl ?_
                | refine sk_pure rfl rfl rfl rfl ?_)
              | refine WX.seq ?_
              | refine WX.actsC ?_
              | refine sk_last (by first | exact Consistent.nil | exact Consistent.one _ | exact Consistent.ofL (by repeat' (first | exact True.intro | refine And.intro ?_ ?_ | exact Compat.ne rfl))) ⟨by kernel_rfl, ?_⟩
              | refine sk_last (by first | exact Consistent.nil | exact Consistent.one _ | exact Consistent.ofL (by repeat' (first | exact True.intro | refine And.intro ?_ ?_ | exact Compat.ne rfl))) ?_
              | refine WX.drawsC mixed (by kernel_rfl) ?_
              | refine WX.condT rfl ?_
              | refine WX.condF rfl ?_
              | refine WX.skip ?_
              | refine WX.block ?_
              | refine WX.exit ?_
              | refine WX.ret ?_)
            first | exact ⟨rfl, (less_cons rfl (less_cons rfl (less_cons rfl (less_cons rfl (less_cons rfl (less_cons rfl (less_cons rfl (less_cons rfl (less_cons rfl (less_cons rfl (less_cons rfl (less_cons rfl (less_cons rfl (less_cons rfl (less_nil _))))))))))))))), rfl⟩ | exact ⟨(less_cons rfl (less_cons rfl (less_cons rfl (less_cons rfl (less_cons rfl (less_cons rfl (less_cons rfl (less_cons rfl (less_cons rfl (less_cons rfl (less_cons rfl (less_cons rfl (less_cons rfl (less_cons rfl (less_nil _))))))))))))))), rfl⟩
          · by_cases hqq : kn.qp = q
            · have e0 : edgeSel 1 kn q = em kn 8 7 := (if_pos ⟨by decide, hqq⟩).trans (if_pos rfl)
              rw [e0]
              clear he hed ts e0
              repeat' (first
                | (refine sk_id ?_; first
                  | refine sk_load rfl rfl rfl rfl rfl rfl (kc_qp _) ?_
                  | refine sk_move rfl rfl rfl rfl (c := .one _) rfl ?_
                  | refine sk_assign rfl rfl rfl rfl (c := .one _) rfl ?_
                  | refine sk_add rfl rfl rfl rfl rfl rfl (by omega) ?_
                  | refine sk_sub rfl rfl rfl rfl rfl rfl (by omega) ?_
                  | refine sk_mul rfl rfl rfl rfl rfl rfl (by omega) ?_
                  | refine sk_load rfl rfl rfl rfl rfl rfl rfl ?_
                  | refine sk_fld rfl rfl rfl rfl rfl (by first | (simp only [Nat.zero_add, Nat.mul_one, Nat.reduceAdd, Nat.reduceMul, Int.reduceToNat, Nat.add_zero, Int.toNat_natCast]; exact rfl) | exact rfl) ?_
                  | refine sk_true rfl rfl rfl rfl rfl rfl rfl (by omega) ?_
                  | refine sk_false rfl rfl rfl rfl rfl rfl rfl (by omega) ?_
                  | refine sk_netrue rfl rfl rfl rfl rfl rfl (by omega) ?_
                  | refine sk_nefalse rfl rfl rfl rfl rfl rfl (by omega) ?_
                  | refine sk_fork rfl rfl rfl rfl rfl rfl rfl (fun _ => ?_) (fun _ => ?_)
                  | refine sk_forkn rfl rfl rfl rfl rfl rfl (fun _ => ?_) (fun _ => ?_)
                  | refine sk_nil rfl rfl rfl rfl rfl ?_
                  | refine sk_idxa rfl rfl rfl rfl rfl rfl (by omega) (by first | (simp only [Nat.zero_add, Nat.mul_one, Nat.reduceAdd, Nat.reduceMul, Int.reduceToNat, Nat.add_zero, Int.toNat_natCast]; exact rfl) | exact rfl) ?_
                  | refine sk_loadall rfl rfl rfl rfl rfl rfl rfl ?_
                  | refine sk_loada rfl rfl rfl rfl rfl rfl (by decide) rfl ?_
                  | refine sk_quo rfl rfl rfl rfl rfl rfl (by omega) (by omega) ?_
                  | refine sk_rem rfl rfl rfl rfl rfl rfl (by omega) (by omega) ?_
                  | refine sk_max rfl rfl rfl rfl rfl rfl (Int.max_eq_left (by omega)) ?_
                  | refine sk_max rfl rfl rfl rfl rfl rfl (Int.max_eq_right (by omega)) ?_
                  | refine sk_max rfl rfl rfl rfl rfl rfl rfl ?_
                  | refine sk_min rfl rfl rfl rfl rfl rfl (Int.min_eq_left (by omega)) ?_
                  | refine sk_min rfl rfl rfl rfl rfl rfl (Int.min_eq_right (by omega)) ?_
                  | refine sk_min rfl rfl rfl rfl rfl rfl rfl ?_
                  | refine sk_conv rfl rfl rfl rfl rfl (by first | exact IntWalk.i64_in _ (by omega) | rfl) ?_
                  | refine sk_pickT rfl rfl rfl rfl rfl rfl ?_
                  | refine sk_pickF rfl rfl rfl rfl rfl rfl ?_
                  | refine sk_not rfl rfl rfl rfl rfl rfl ?_
                  | refine sk_build0 rfl rfl rfl rfl ?_
                  | refine sk_build0A rfl rfl rfl rfl ?_
                  | refine sk_buildA rfl rfl rfl rfl rfl rfl (by first | (simp only [List.cons_append, List.nil_append, List.append_nil]; exact rfl) | exact rfl) ?_
                  | refine sk_buildS rfl rfl rfl rfl rfl rfl (by first | (simp only [List.cons_append, List.nil_append, List.append_nil]; exact rfl) | exact rfl) ?_
                  | refine sk_nnp rfl rfl rfl rfl rfl ?_
                  | refine sk_makemap rfl rfl rfl rfl (by first | (simp only [List.length_cons, List.length_nil, List.length_append, Nat.reduceAdd, Nat.zero_add]; exact rfl) | exact rfl) rfl (by first | (simp only [List.cons_append, List.nil_append]; exact rfl) | exact rfl) ?_
                  | refine sk_alloc rfl rfl rfl rfl (by first | (simp only [List.length_cons, List.length_nil, List.length_append, Nat.reduceAdd, Nat.zero_add]; exact rfl) | exact rfl) rfl (by first | (simp only [List.cons_append, List.nil_append]; exact rfl) | exact rfl) ?_
                  | refine sk_box rfl rfl rfl rfl rfl (by first | (simp only [List.length_cons, List.length_nil, List.length_append, Nat.reduceAdd, Nat.zero_add]; exact rfl) | exact rfl) rfl (by first | (simp only [List.cons_append, List.nil_append]; exact rfl) | exact rfl) ?_
                  | refine sk_store rfl rfl rfl rfl rfl rfl (by decide) (by first | (simp only [List.set_cons_succ, List.set_cons_zero]; exact rfl) | exact rfl) (by first | (simp only [List.set_cons_succ, List.set_cons_zero]; exact rfl) | exact rfl) ?_
                  | refine sk_storea rfl rfl rfl rfl rfl rfl rfl rfl (by first | (simp only [List.set_cons_succ, List.set_cons_zero]; exact rfl) | exact rfl) ?_
                  | refine sk_ext rfl rfl rfl rfl rfl rfl ?_
                  | refine sk_exta rfl rfl rfl rfl rfl rfl ?_
                  | refine sk_idxs rfl rfl rfl rfl rfl rfl (by omega) (by first | (simp only [Nat.zero_add, Nat.mul_one, Nat.reduceAdd, Nat.reduceMul, Int.reduceToNat, Nat.add_zero, Int.toNat_natCast]; exact rfl) | exact rfl) ?_
                  | refine sk_lens rfl rfl rfl rfl rfl ?_
                  | refine sk_field rfl rfl rfl rfl rfl rfl ?_
                  | refine sk_move rfl rfl rfl rfl (c := .agg _) rfl ?_
                  | refine sk_assign rfl rfl rfl rfl (c := .agg _) rfl ?_
                  | refine sk_move rfl rfl rfl rfl (c := .tup _) rfl ?_
                  | refine sk_assign rfl rfl rfl rfl (c := .tup _) rfl ?_
                  | refine sk_skip rfl rfl rfl ?_
                  | refine sk_skip0 rfl rfl ?_
                  | refine sk_pure rfl rfl rfl rfl ?_)
                | refine WX.seq ?_
                | refine WX.actsC ?_
                | refine sk_last (by first | exact Consistent.nil | exact Consistent.one _ | exact Consistent.ofL (by repeat' (first | exact True.intro | refine And.intro ?_ ?_ | exact Compat.ne rfl))) ⟨by kernel_rfl, ?_⟩
                | refine sk_last (by first | exact Consistent.nil | exact Consistent.one _ | exact Consistent.ofL (by repeat' (first | exact True.intro | refine And.intro ?_ ?_ | exact Compat.ne rfl))) ?_
                | refine WX.drawsC mixed (by kernel_rfl) ?_
                | refine WX.condT rfl ?_
                | refine WX.condF rfl ?_
                | refine WX.skip ?_
                | refine WX.block ?_
                | refine WX.exit ?_
                | refine WX.ret ?_)
              refine WX.loop ?_
              refine WX.at (al' := [(105, .one (.int .i64 (k : Nat))), (19, .one (.int .i64 (j : Nat))), (102, .one (.int .i64 (j : Nat))), (101, .one (.int .i64 (c * r))), (9, .one (.int .i64 c)), (10, .one (.int .i64 r)), (11, .one (.int .i64 q)), (12, .one (.ptr 1 0)), (13, .one (.map 5)), (18, .one (.fn 13)), (20, .one (.int .i64 (k : Nat))), (28, .one (.int .u8 1)), (29, .one (.int .i64 (firstLevel fb0 q))), (32, .one (.ptr 11 0)), (33, .one (.ptr 12 0)), (34, .one (.int .i64 ((0 + 1 : Nat))))]) (hs' := [oA, .cells [.int .i64 c, .int .i64 r, .map 2, .map 3, .map 4] 55 false false, .map (tabEnts A), .map (tabEnts B), .map (tabEnts C), .map (mEnts M), .cells [.int .i64 p, .int .i64 x, .int .i64 y] 40 false false, .cells (kcells (la.getD noKn)) 38 false false, .cells (kcells (lb.getD noKn)) 38 false false, .cells (kcells (lc.getD noKn)) 38 false false, .cells [.int .i64 (midOf lc)] 3 false false, .cells (kcells kn) 38 false false, .cells (ti .i64 64 (em kn 8 0)) 25 false false]) (less_cons rfl (less_cons rfl (less_cons rfl (less_cons rfl (less_cons rfl (less_cons rfl (less_cons rfl (less_cons rfl (less_cons rfl (less_cons rfl (less_cons rfl (less_cons rfl (less_cons rfl (less_cons rfl (less_cons rfl (less_cons rfl (less_nil _))))))))))))))))) rfl ?_
              refine WX.count (fun n => [(105, .one (.int .i64 (k : Nat))), (19, .one (.int .i64 (j : Nat))), (102, .one (.int .i64 (j : Nat))), (101, .one (.int .i64 (c * r))), (9, .one (.int .i64 c)), (10, .one (.int .i64 r)), (11, .one (.int .i64 q)), (12, .one (.ptr 1 0)), (13, .one (.map 5)), (18, .one (.fn 13)), (20, .one (.int .i64 (k : Nat))), (28, .one (.int .u8 1)), (29, .one (.int .i64 (firstLevel fb0 q))), (32, .one (.ptr 11 0)), (33, .one (.ptr 12 0)), (34, .one (.int .i64 ((n + 1 : Nat))))]) (fun n => [oA, .cells [.int .i64 c, .int .i64 r, .map 2, .map 3, .map 4] 55 false false, .map (tabEnts A), .map (tabEnts B), .map (tabEnts C), .map (mEnts M), .cells [.int .i64 p, .int .i64 x, .int .i64 y] 40 false false, .cells (kcells (la.getD noKn)) 38 false false, .cells (kcells (lb.getD noKn)) 38 false false, .cells (kcells (lc.getD noKn)) 38 false false, .cells [.int .i64 (midOf lc)] 3 false false, .cells (kcells kn) 38 false false, .cells (ti .i64 64 (em kn 8 n)) 25 false false]) (fun _ => True) 7 trivial ?_
              intro n hn _ ihn
              replace ihn := Held.mk ihn
              refine WX.round ?_
              by_cases hn7 : n < 7
              · have hj : ((8 : Int) * ((n + 1 : Nat) : Int)).toNat = (n + 1) * 8 := by omega
                repeat' (first
                  | (refine sk_id ?_; first
                    | refine sk_load rfl rfl rfl rfl rfl rfl (kc_lv _ _ (by omega)) ?_
                    | refine sk_store rfl rfl rfl rfl rfl rfl (by rw [ti_len]; omega) (ti_set _ _ _ _ _) (by first | (simp only [List.set_cons_succ, List.set_cons_zero]; exact rfl) | exact rfl) ?_
                    | refine sk_move rfl rfl rfl rfl (c := .one _) rfl ?_
                    | refine sk_assign rfl rfl rfl rfl (c := .one _) rfl ?_
                    | refine sk_add rfl rfl rfl rfl rfl rfl (by omega) ?_
                    | refine sk_sub rfl rfl rfl rfl rfl rfl (by omega) ?_
                    | refine sk_mul rfl rfl rfl rfl rfl rfl (by omega) ?_
                    | refine sk_load rfl rfl rfl rfl rfl rfl rfl ?_
                    | refine sk_fld rfl rfl rfl rfl rfl (by first | (simp only [Nat.zero_add, Nat.mul_one, Nat.reduceAdd, Nat.reduceMul, Int.reduceToNat, Nat.add_zero, Int.toNat_natCast]; exact rfl) | exact rfl) ?_
                    | refine sk_true rfl rfl rfl rfl rfl rfl rfl (by omega) ?_
                    | refine sk_false rfl rfl rfl rfl rfl rfl rfl (by omega) ?_
                    | refine sk_netrue rfl rfl rfl rfl rfl rfl (by omega) ?_
                    | refine sk_nefalse rfl rfl rfl rfl rfl rfl (by omega) ?_
                    | refine sk_fork rfl rfl rfl rfl rfl rfl rfl (fun _ => ?_) (fun _ => ?_)
                    | refine sk_forkn rfl rfl rfl rfl rfl rfl (fun _ => ?_) (fun _ => ?_)
                    | refine sk_nil rfl rfl rfl rfl rfl ?_
                    | refine sk_idxa rfl rfl rfl rfl rfl rfl (by omega) (by first | (simp only [Nat.zero_add, Nat.mul_one, Nat.reduceAdd, Nat.reduceMul, Int.reduceToNat, Nat.add_zero, Int.toNat_natCast]; exact rfl) | exact rfl) ?_
                    | refine sk_loadall rfl rfl rfl rfl rfl rfl rfl ?_
                    | refine sk_loada rfl rfl rfl rfl rfl rfl (by decide) rfl ?_
                    | refine sk_quo rfl rfl rfl rfl rfl rfl (by omega) (by omega) ?_
                    | refine sk_rem rfl rfl rfl rfl rfl rfl (by omega) (by omega) ?_
                    | refine sk_max rfl rfl rfl rfl rfl rfl (Int.max_eq_left (by omega)) ?_
                    | refine sk_max rfl rfl rfl rfl rfl rfl (Int.max_eq_right (by omega)) ?_
                    | refine sk_max rfl rfl rfl rfl rfl rfl rfl ?_
                    | refine sk_min rfl rfl rfl rfl rfl rfl (Int.min_eq_left (by omega)) ?_
                    | refine sk_min rfl rfl rfl rfl rfl rfl (Int.min_eq_right (by omega)) ?_
                    | refine sk_min rfl rfl rfl rfl rfl rfl rfl ?_
                    | refine sk_conv rfl rfl rfl rfl rfl (by first | exact IntWalk.i64_in _ (by omega) | rfl) ?_
                    | refine sk_pickT rfl rfl rfl rfl rfl rfl ?_
                    | refine sk_pickF rfl rfl rfl rfl rfl rfl ?_
                    | refine sk_not rfl rfl rfl rfl rfl rfl ?_
                    | refine sk_build0 rfl rfl rfl rfl ?_
                    | refine sk_build0A rfl rfl rfl rfl ?_
                    | refine sk_buildA rfl rfl rfl rfl rfl rfl (by first | (simp only [List.cons_append, List.nil_append, List.append_nil]; exact rfl) | exact rfl) ?_
                    | refine sk_buildS rfl rfl rfl rfl rfl rfl (by first | (simp only [List.cons_append, List.nil_append, List.append_nil]; exact rfl) | exact rfl) ?_
                    | refine sk_nnp rfl rfl rfl rfl rfl ?_
                    | refine sk_makemap rfl rfl rfl rfl (by first | (simp only [List.length_cons, List.length_nil, List.length_append, Nat.reduceAdd, Nat.zero_add]; exact rfl) | exact rfl) rfl (by first | (simp only [List.cons_append, List.nil_append]; exact rfl) | exact rfl) ?_
                    | refine sk_alloc rfl rfl rfl rfl (by first | (simp only [List.length_cons, List.length_nil, List.length_append, Nat.reduceAdd, Nat.zero_add]; exact rfl) | exact rfl) rfl (by first | (simp only [List.cons_append, List.nil_append]; exact rfl) | exact rfl) ?_
                    | refine sk_box rfl rfl rfl rfl rfl (by first | (simp only [List.length_cons, List.length_nil, List.length_append, Nat.reduceAdd, Nat.zero_add]; exact rfl) | exact rfl) rfl (by first | (simp only [List.cons_append, List.nil_append]; exact rfl) | exact rfl) ?_
                    | refine sk_store rfl rfl rfl rfl rfl rfl (by decide) (by first | (simp only [List.set_cons_succ, List.set_cons_zero]; exact rfl) | exact rfl) (by first | (simp only [List.set_cons_succ, List.set_cons_zero]; exact rfl) | exact rfl) ?_
                    | refine sk_storea rfl rfl rfl rfl rfl rfl rfl rfl (by first | (simp only [List.set_cons_succ, List.set_cons_zero]; exact rfl) | exact rfl) ?_
                    | refine sk_ext rfl rfl rfl rfl rfl rfl ?_
                    | refine sk_exta rfl rfl rfl rfl rfl rfl ?_
                    | refine sk_idxs rfl rfl rfl rfl rfl rfl (by omega) (by first | (simp only [Nat.zero_add, Nat.mul_one, Nat.reduceAdd, Nat.reduceMul, Int.reduceToNat, Nat.add_zero, Int.toNat_natCast]; exact rfl) | exact rfl) ?_
                    | refine sk_lens rfl rfl rfl rfl rfl ?_
                    | refine sk_field rfl rfl rfl rfl rfl rfl ?_
                    | refine sk_move rfl rfl rfl rfl (c := .agg _) rfl ?_
                    | refine sk_assign rfl rfl rfl rfl (c := .agg _) rfl ?_
                    | refine sk_move rfl rfl rfl rfl (c := .tup _) rfl ?_
                    | refine sk_assign rfl rfl rfl rfl (c := .tup _) rfl ?_
                    | refine sk_skip rfl rfl rfl ?_
                    | refine sk_skip0 rfl rfl ?_
                    | refine sk_pure rfl rfl rfl rfl ?_)
                  | refine WX.seq ?_
                  | refine WX.actsC ?_
                  | refine sk_last (by first | exact Consistent.nil | exact Consistent.one _ | exact Consistent.ofL (by repeat' (first | exact True.intro | refine And.intro ?_ ?_ | exact Compat.ne rfl))) ⟨by kernel_rfl, ?_⟩
                  | refine sk_last (by first | exact Consistent.nil | exact Consistent.one _ | exact Consistent.ofL (by repeat' (first | exact True.intro | refine And.intro ?_ ?_ | exact Compat.ne rfl))) ?_
                  | refine WX.drawsC mixed (by kernel_rfl) ?_
                  | refine WX.condT rfl ?_
                  | refine WX.condF rfl ?_
                  | refine WX.skip ?_
                  | refine WX.block ?_
                  | refine WX.exit ?_
                  | refine WX.ret ?_)
                refine WX.at (less_cons rfl (less_cons rfl (less_cons rfl (less_cons rfl (less_cons rfl (less_cons rfl (less_cons rfl (less_cons rfl (less_cons rfl (less_cons rfl (less_cons rfl (less_cons rfl (less_cons rfl (less_cons rfl (less_cons rfl (less_cons rfl (less_nil _))))))))))))))))) ?_ (ihn.out hn7 trivial)
                rw [em_succ, ← hj]
                all_goals rfl
              · obtain rfl : n = 7 := by omega
                clear ihn
                repeat' (first
                  | (refine sk_id ?_; first
                    | refine sk_move rfl rfl rfl rfl (c := .one _) rfl ?_
                    | refine sk_assign rfl rfl rfl rfl (c := .one _) rfl ?_
                    | refine sk_add rfl rfl rfl rfl rfl rfl (by omega) ?_
                    | refine sk_sub rfl rfl rfl rfl rfl rfl (by omega) ?_
                    | refine sk_mul rfl rfl rfl rfl rfl rfl (by omega) ?_
                    | refine sk_load rfl rfl rfl rfl rfl rfl rfl ?_
                    | refine sk_fld rfl rfl rfl rfl rfl (by first | (simp only [Nat.zero_add, Nat.mul_one, Nat.reduceAdd, Nat.reduceMul, Int.reduceToNat, Nat.add_zero, Int.toNat_natCast]; exact rfl) | exact rfl) ?_
                    | refine sk_true rfl rfl rfl rfl rfl rfl rfl (by omega) ?_
                    | refine sk_false rfl rfl rfl rfl rfl rfl rfl (by omega) ?_
                    | refine sk_netrue rfl rfl rfl rfl rfl rfl (by omega) ?_
                    | refine sk_nefalse rfl rfl rfl rfl rfl rfl (by omega) ?_
                    | refine sk_fork rfl rfl rfl rfl rfl rfl rfl (fun _ => ?_) (fun _ => ?_)
                    | refine sk_forkn rfl rfl rfl rfl rfl rfl (fun _ => ?_) (fun _ => ?_)
                    | refine sk_nil rfl rfl rfl rfl rfl ?_
                    | refine sk_idxa rfl rfl rfl rfl rfl rfl (by omega) (by first | (simp only [Nat.zero_add, Nat.mul_one, Nat.reduceAdd, Nat.reduceMul, Int.reduceToNat, Nat.add_zero, Int.toNat_natCast]; exact rfl) | exact rfl) ?_
                    | refine sk_loadall rfl rfl rfl rfl rfl rfl rfl ?_
                    | refine sk_loada rfl rfl rfl rfl rfl rfl (by decide) rfl ?_
                    | refine sk_quo rfl rfl rfl rfl rfl rfl (by omega) (by omega) ?_
                    | refine sk_rem rfl rfl rfl rfl rfl rfl (by omega) (by omega) ?_
                    | refine sk_max rfl rfl rfl rfl rfl rfl (Int.max_eq_left (by omega)) ?_
                    | refine sk_max rfl rfl rfl rfl rfl rfl (Int.max_eq_right (by omega)) ?_
                    | refine sk_max rfl rfl rfl rfl rfl rfl rfl ?_
                    | refine sk_min rfl rfl rfl rfl rfl rfl (Int.min_eq_left (by omega)) ?_
                    | refine sk_min rfl rfl rfl rfl rfl rfl (Int.min_eq_right (by omega)) ?_
                    | refine sk_min rfl rfl rfl rfl rfl rfl rfl ?_
                    | refine sk_conv rfl rfl rfl rfl rfl (by first | exact IntWalk.i64_in _ (by omega) | rfl) ?_
                    | refine sk_pickT rfl rfl rfl rfl rfl rfl ?_
                    | refine sk_pickF rfl rfl rfl rfl rfl rfl ?_
                    | refine sk_not rfl rfl rfl rfl rfl rfl ?_
                    | refine sk_build0 rfl rfl rfl rfl ?_
                    | refine sk_build0A rfl rfl rfl rfl ?_
                    | refine sk_buildA rfl rfl rfl rfl rfl rfl (by first | (simp only [List.cons_append, List.nil_append, List.append_nil]; exact rfl) | exact rfl) ?_
                    | refine sk_buildS rfl rfl rfl rfl rfl rfl (by first | (simp only [List.cons_append, List.nil_append, List.append_nil]; exact rfl) | exact rfl) ?_
                    | refine sk_nnp rfl rfl rfl rfl rfl ?_
                    | refine sk_makemap rfl rfl rfl rfl (by first | (simp only [List.length_cons, List.length_nil, List.length_append, Nat.reduceAdd, Nat.zero_add]; exact rfl) | exact rfl) rfl (by first | (simp only [List.cons_append, List.nil_append]; exact rfl) | exact rfl) ?_
                    | refine sk_alloc rfl rfl rfl rfl (by first | (simp only [List.length_cons, List.length_nil, List.length_append, Nat.reduceAdd, Nat.zero_add]; exact rfl) | exact rfl) rfl (by first | (simp only [List.cons_append, List.nil_append]; exact rfl) | exact rfl) ?_
                    | refine sk_box rfl rfl rfl rfl rfl (by first | (simp only [List.length_cons, List.length_nil, List.length_append, Nat.reduceAdd, Nat.zero_add]; exact rfl) | exact rfl) rfl (by first | (simp only [List.cons_append, List.nil_append]; exact rfl) | exact rfl) ?_
                    | refine sk_store rfl rfl rfl rfl rfl rfl (by decide) (by first | (simp only [List.set_cons_succ, List.set_cons_zero]; exact rfl) | exact rfl) (by first | (simp only [List.set_cons_succ, List.set_cons_zero]; exact rfl) | exact rfl) ?_
                    | refine sk_storea rfl rfl rfl rfl rfl rfl rfl rfl (by first | (simp only [List.set_cons_succ, List.set_cons_zero]; exact rfl) | exact rfl) ?_
                    | refine sk_ext rfl rfl rfl rfl rfl rfl ?_
                    | refine sk_exta rfl rfl rfl rfl rfl rfl ?_
                    | refine sk_idxs rfl rfl rfl rfl rfl rfl (by omega) (by first | (simp only [Nat.zero_add, Nat.mul_one, Nat.reduceAdd, Nat.reduceMul, Int.reduceToNat, Nat.add_zero, Int.toNat_natCast]; exact rfl) | exact rfl) ?_
                    | refine sk_lens rfl rfl rfl rfl rfl ?_
                    | refine sk_field rfl rfl rfl rfl rfl rfl ?_
                    | refine sk_move rfl rfl rfl rfl (c := .agg _) rfl ?_
                    | refine sk_assign rfl rfl rfl rfl (c := .agg _) rfl ?_
                    | refine sk_move rfl rfl rfl rfl (c := .tup _) rfl ?_
                    | refine sk_assign rfl rfl rfl rfl (c := .tup _) rfl ?_
                    | refine sk_skip rfl rfl rfl ?_
                    | refine sk_skip0 rfl rfl ?_
                    | refine sk_pure rfl rfl rfl rfl ?_)
                  | refine WX.seq ?_
                  | refine WX.actsC ?_
                  | refine sk_last (by first | exact Consistent.nil | exact Consistent.one _ | exact Consistent.ofL (by repeat' (first | exact True.intro | refine And.intro ?_ ?_ | exact Compat.ne rfl))) ⟨by kernel_rfl, ?_⟩
                  | refine sk_last (by first | exact Consistent.nil | exact Consistent.one _ | exact Consistent.ofL (by repeat' (first | exact True.intro | refine And.intro ?_ ?_ | exact Compat.ne rfl))) ?_
                  | refine WX.drawsC mixed (by kernel_rfl) ?_
                  | refine WX.condT rfl ?_
                  | refine WX.condF rfl ?_
                  | refine WX.skip ?_
                  | refine WX.block ?_
                  | refine WX.exit ?_
                  | refine WX.ret ?_)
                first | exact ⟨rfl, (less_cons rfl (less_cons rfl (less_cons rfl (less_cons rfl (less_cons rfl (less_cons rfl (less_cons rfl (less_cons rfl (less_cons rfl (less_cons rfl (less_cons rfl (less_cons rfl (less_cons rfl (less_cons rfl (less_nil _))))))))))))))), rfl⟩ | exact ⟨(less_cons rfl (less_cons rfl (less_cons rfl (less_cons rfl (less_cons rfl (less_cons rfl (less_cons rfl (less_cons rfl (less_cons rfl (less_cons rfl (less_cons rfl (less_cons rfl (less_cons rfl (less_cons rfl (less_nil _))))))))))))))), rfl⟩
            · have e0 : edgeSel 1 kn q = noEdge := if_neg (fun h => hqq h.2)
              rw [e0]
              repeat' (first
                | (refine sk_id ?_; first
                  | refine sk_load rfl rfl rfl rfl rfl rfl (kc_qp _) ?_
                  | refine sk_move rfl rfl rfl rfl (c := .one _) rfl ?_
                  | refine sk_assign rfl rfl rfl rfl (c := .one _) rfl ?_
                  | refine sk_add rfl rfl rfl rfl rfl rfl (by omega) ?_
                  | refine sk_sub rfl rfl rfl rfl rfl rfl (by omega) ?_
                  | refine sk_mul rfl rfl rfl rfl rfl rfl (by omega) ?_
                  | refine sk_load rfl rfl rfl rfl rfl rfl rfl ?_
                  | refine sk_fld rfl rfl rfl rfl rfl (by first | (simp only [Nat.zero_add, Nat.mul_one, Nat.reduceAdd, Nat.reduceMul, Int.reduceToNat, Nat.add_zero, Int.toNat_natCast]; exact rfl) | exact rfl) ?_
                  | refine sk_true rfl rfl rfl rfl rfl rfl rfl (by omega) ?_
                  | refine sk_false rfl rfl rfl rfl rfl rfl rfl (by omega) ?_
                  | refine sk_netrue rfl rfl rfl rfl rfl rfl (by omega) ?_
                  | refine sk_nefalse rfl rfl rfl rfl rfl rfl (by omega) ?_
                  | refine sk_fork rfl rfl rfl rfl rfl rfl rfl (fun _ => ?_) (fun _ => ?_)
                  | refine sk_forkn rfl rfl rfl rfl rfl rfl (fun _ => ?_) (fun _ => ?_)
                  | refine sk_nil rfl rfl rfl rfl rfl ?_
                  | refine sk_idxa rfl rfl rfl rfl rfl rfl (by omega) (by first | (simp only [Nat.zero_add, Nat.mul_one, Nat.reduceAdd, Nat.reduceMul, Int.reduceToNat, Nat.add_zero, Int.toNat_natCast]; exact rfl) | exact rfl) ?_
                  | refine sk_loadall rfl rfl rfl rfl rfl rfl rfl ?_
                  | refine sk_loada rfl rfl rfl rfl rfl rfl (by decide) rfl ?_
                  | refine sk_quo rfl rfl rfl rfl rfl rfl (by omega) (by omega) ?_
                  | refine sk_rem rfl rfl rfl rfl rfl rfl (by omega) (by omega) ?_
                  | refine sk_max rfl rfl rfl rfl rfl rfl (Int.max_eq_left (by omega)) ?_
                  | refine sk_max rfl rfl rfl rfl rfl rfl (Int.max_eq_right (by omega)) ?_
                  | refine sk_max rfl rfl rfl rfl rfl rfl rfl ?_
                  | refine sk_min rfl rfl rfl rfl rfl rfl (Int.min_eq_left (by omega)) ?_
                  | refine sk_min rfl rfl rfl rfl rfl rfl (Int.min_eq_right (by omega)) ?_
                  | refine sk_min rfl rfl rfl rfl rfl rfl rfl ?_
                  | refine sk_conv rfl rfl rfl rfl rfl (by first | exact IntWalk.i64_in _ (by omega) | rfl) ?_
                  | refine sk_pickT rfl rfl rfl rfl rfl rfl ?_
                  | refine sk_pickF rfl rfl rfl rfl rfl rfl ?_
                  | refine sk_not rfl rfl rfl rfl rfl rfl ?_
                  | refine sk_build0 rfl rfl rfl rfl ?_
                  | refine sk_build0A rfl rfl rfl rfl ?_
                  | refine sk_buildA rfl rfl rfl rfl rfl rfl (by first | (simp only [List.cons_append, List.nil_append, List.append_nil]; exact rfl) | exact rfl) ?_
                  | refine sk_buildS rfl rfl rfl rfl rfl rfl (by first | (simp only [List.cons_append, List.nil_append, List.append_nil]; exact rfl) | exact rfl) ?_
                  | refine sk_nnp rfl rfl rfl rfl rfl ?_
                  | refine sk_makemap rfl rfl rfl rfl (by first | (simp only [List.length_cons, List.length_nil, List.length_append, Nat.reduceAdd, Nat.zero_add]; exact rfl) | exact rfl) rfl (by first | (simp only [List.cons_append, List.nil_append]; exact rfl) | exact rfl) ?_
                  | refine sk_alloc rfl rfl rfl rfl (by first | (simp only [List.length_cons, List.length_nil, List.length_append, Nat.reduceAdd, Nat.zero_add]; exact rfl) | exact rfl) rfl (by first | (simp only [List.cons_append, List.nil_append]; exact rfl) | exact rfl) ?_
                  | refine sk_box rfl rfl rfl rfl rfl (by first | (simp only [List.length_cons, List.length_nil, List.length_append, Nat.reduceAdd, Nat.zero_add]; exact rfl) | exact rfl) rfl (by first | (simp only [List.cons_append, List.nil_append]; exact rfl) | exact rfl) ?_
                  | refine sk_store rfl rfl rfl rfl rfl rfl (by decide) (by first | (simp only [List.set_cons_succ, List.set_cons_zero]; exact rfl) | exact rfl) (by first | (simp only [List.set_cons_succ, List.set_cons_zero]; exact rfl) | exact rfl) ?_
                  | refine sk_storea rfl rfl rfl rfl rfl rfl rfl rfl (by first | (simp only [List.set_cons_succ, List.set_cons_zero]; exact rfl) | exact rfl) ?_
                  | refine sk_ext rfl rfl rfl rfl rfl rfl ?_
                  | refine sk_exta rfl rfl rfl rfl rfl rfl ?_
                  | refine sk_idxs rfl rfl rfl rfl rfl rfl (by omega) (by first | (simp only [Nat.zero_add, Nat.mul_one, Nat.reduceAdd, Nat.reduceMul, Int.reduceToNat, Nat.add_zero, Int.toNat_natCast]; exact rfl) | exact rfl) ?_
                  | refine sk_lens rfl rfl rfl rfl rfl ?_
                  | refine sk_field rfl rfl rfl rfl rfl rfl ?_
                  | refine sk_move rfl rfl rfl rfl (c := .agg _) rfl ?_
                  | refine sk_assign rfl rfl rfl rfl (c := .agg _) rfl ?_
                  | refine sk_move rfl rfl rfl rfl (c := .tup _) rfl ?_
                  | refine sk_assign rfl rfl rfl rfl (c := .tup _) rfl ?_
                  | refine sk_skip rfl rfl rfl ?_
                  | refine sk_skip0 rfl rfl ?_
                  | refine sk_pure rfl rfl rfl rfl ?_)
                | refine WX.seq ?_
                | refine WX.actsC ?_
                | refine sk_last (by first | exact Consistent.nil | exact Consistent.one _ | exact Consistent.ofL (by repeat' (first | exact True.intro | refine And.intro ?_ ?_ | exact Compat.ne rfl))) ⟨by kernel_rfl, ?_⟩
                | refine sk_last (by first | exact Consistent.nil | exact Consistent.one _ | exact Consistent.ofL (by repeat' (first | exact True.intro | refine And.intro ?_ ?_ | exact Compat.ne rfl))) ?_
                | refine WX.drawsC mixed (by kernel_rfl) ?_
                | refine WX.condT rfl ?_
                | refine WX.condF rfl ?_
                | refine WX.skip ?_
                | refine WX.block ?_
                | refine WX.exit ?_
                | refine WX.ret ?_)
              first | exact ⟨rfl, (less_cons rfl (less_cons rfl (less_cons rfl (less_cons rfl (less_cons rfl (less_cons rfl (less_cons rfl (less_cons rfl (less_cons rfl (less_cons rfl (less_cons rfl (less_cons rfl (less_cons rfl (less_cons rfl (less_nil _))))))))))))))), rfl⟩ | exact ⟨(less_cons rfl (less_cons rfl (less_cons rfl (less_cons rfl (less_cons rfl (less_cons rfl (less_cons rfl (less_cons rfl (less_cons rfl (less_cons rfl (less_cons rfl (less_cons rfl (less_cons rfl (less_cons rfl (less_nil _))))))))))))))), rfl⟩
          · by_cases hqq : kn.qp = q
            · have e0 : edgeSel 2 kn q = em kn 1 7 := (if_pos ⟨by decide, hqq⟩).trans (if_neg (by decide))
              rw [e0]
              clear he hed ts e0
              repeat' (first
                | (refine sk_id ?_; first
                  | refine sk_load rfl rfl rfl rfl rfl rfl (kc_qp _) ?_
                  | refine sk_move rfl rfl rfl rfl (c := .one _) rfl ?_
                  | refine sk_assign rfl rfl rfl rfl (c := .one _) rfl ?_
                  | refine sk_add rfl rfl rfl rfl rfl rfl (by omega) ?_
                  | refine sk_sub rfl rfl rfl rfl rfl rfl (by omega) ?_
                  | refine sk_mul rfl rfl rfl rfl rfl rfl (by omega) ?_
                  | refine sk_load rfl rfl rfl rfl rfl rfl rfl ?_
                  | refine sk_fld rfl rfl rfl rfl rfl (by first | (simp only [Nat.zero_add, Nat.mul_one, Nat.reduceAdd, Nat.reduceMul, Int.reduceToNat, Nat.add_zero, Int.toNat_natCast]; exact rfl) | exact rfl) ?_
                  | refine sk_true rfl rfl rfl rfl rfl rfl rfl (by omega) ?_
                  | refine sk_false rfl rfl rfl rfl rfl rfl rfl (by omega) ?_
                  | refine sk_netrue rfl rfl rfl rfl rfl rfl (by omega) ?_
                  | refine sk_nefalse rfl rfl rfl rfl rfl rfl (by omega) ?_
                  | refine sk_fork rfl rfl rfl rfl rfl rfl rfl (fun _ => ?_) (fun _ => ?_)
                  | refine sk_forkn rfl rfl rfl rfl rfl rfl (fun _ => ?_) (fun _ => ?_)
                  | refine sk_nil rfl rfl rfl rfl rfl ?_
                  | refine sk_idxa rfl rfl rfl rfl rfl rfl (by omega) (by first | (simp only [Nat.zero_add, Nat.mul_one, Nat.reduceAdd, Nat.reduceMul, Int.reduceToNat, Nat.add_zero, Int.toNat_natCast]; exact rfl) | exact rfl) ?_
                  | refine sk_loadall rfl rfl rfl rfl rfl rfl rfl ?_
                  | refine sk_loada rfl rfl rfl rfl rfl rfl (by decide) rfl ?_
                  | refine sk_quo rfl rfl rfl rfl rfl rfl (by omega) (by omega) ?_
                  | refine sk_rem rfl rfl rfl rfl rfl rfl (by omega) (by omega) ?_
                  | refine sk_max rfl rfl rfl rfl rfl rfl (Int.max_eq_left (by omega)) ?_
                  | refine sk_max rfl rfl rfl rfl rfl rfl (Int.max_eq_right (by omega)) ?_
                  | refine sk_max rfl rfl rfl rfl rfl rfl rfl ?_
                  | refine sk_min rfl rfl rfl rfl rfl rfl (Int.min_eq_left (by omega)) ?_
                  | refine sk_min rfl rfl rfl rfl rfl rfl (Int.min_eq_right (by omega)) ?_
                  | refine sk_min rfl rfl rfl rfl rfl rfl rfl ?_
                  | refine sk_conv rfl rfl rfl rfl rfl (by first | exact IntWalk.i64_in _ (by omega) | rfl) ?_
                  | refine sk_pickT rfl rfl rfl rfl rfl rfl ?_
                  | refine sk_pickF rfl rfl rfl rfl rfl rfl ?_
                  | refine sk_not rfl rfl rfl rfl rfl rfl ?_
                  | refine sk_build0 rfl rfl rfl rfl ?_
                  | refine sk_build0A rfl rfl rfl rfl ?_
                  | refine sk_buildA rfl rfl rfl rfl rfl rfl (by first | (simp only [List.cons_append, List.nil_append, List.append_nil]; exact rfl) | exact rfl) ?_
                  | refine sk_buildS rfl rfl rfl rfl rfl rfl (by first | (simp only [List.cons_append, List.nil_append, List.append_nil]; exact rfl) | exact rfl) ?_
                  | refine sk_nnp rfl rfl rfl rfl rfl ?_
                  | refine sk_makemap rfl rfl rfl rfl (by first | (simp only [List.length_cons, List.length_nil, List.length_append, Nat.reduceAdd, Nat.zero_add]; exact rfl) | exact rfl) rfl (by first | (simp only [List.cons_append, List.nil_append]; exact rfl) | exact rfl) ?_
                  | refine sk_alloc rfl rfl rfl rfl (by first | (simp only [List.length_cons, List.length_nil, List.length_append, Nat.reduceAdd, Nat.zero_add]; exact rfl) | exact rfl) rfl (by first | (simp only [List.cons_append, List.nil_append]; exact rfl) | exact rfl) ?_
                  | refine sk_box rfl rfl rfl rfl rfl (by first | (simp only [List.length_cons, List.length_nil, List.length_append, Nat.reduceAdd, Nat.zero_add]; exact rfl) | exact rfl) rfl (by first | (simp only [List.cons_append, List.nil_append]; exact rfl) | exact rfl) ?_
                  | refine sk_store rfl rfl rfl rfl rfl rfl (by decide) (by first | (simp only [List.set_cons_succ, List.set_cons_zero]; exact rfl) | exact rfl) (by first | (simp only [List.set_cons_succ, List.set_cons_zero]; exact rfl) | exact rfl) ?_
                  | refine sk_storea rfl rfl rfl rfl rfl rfl rfl rfl (by first | (simp only [List.set_cons_succ, List.set_cons_zero]; exact rfl) | exact rfl) ?_
                  | refine sk_ext rfl rfl rfl rfl rfl rfl ?_
                  | refine sk_exta rfl rfl rfl rfl rfl rfl ?_
                  | refine sk_idxs rfl rfl rfl rfl rfl rfl (by omega) (by first | (simp only [Nat.zero_add, Nat.mul_one, Nat.reduceAdd, Nat.reduceMul, Int.reduceToNat, Nat.add_zero, Int.toNat_natCast]; exact rfl) | exact rfl) ?_
                  | refine sk_lens rfl rfl rfl rfl rfl ?_
                  | refine sk_field rfl rfl rfl rfl rfl rfl ?_
                  | refine sk_move rfl rfl rfl rfl (c := .agg _) rfl ?_
                  | refine sk_assign rfl rfl rfl rfl (c := .agg _) rfl ?_
                  | refine sk_move rfl rfl rfl rfl (c := .tup _) rfl ?_
                  | refine sk_assign rfl rfl rfl rfl (c := .tup _) rfl ?_
                  | refine sk_skip rfl rfl rfl ?_
                  | refine sk_skip0 rfl rfl ?_
                  | refine sk_pure rfl rfl rfl rfl ?_)
                | refine WX.seq ?_
                | refine WX.actsC ?_
                | refine sk_last (by first | exact Consistent.nil | exact Consistent.one _ | exact Consistent.ofL (by repeat' (first | exact True.intro | refine And.intro ?_ ?_ | exact Compat.ne rfl))) ⟨by kernel_rfl, ?_⟩
                | refine sk_last (by first | exact Consistent.nil | exact Consistent.one _ | exact Consistent.ofL (by repeat' (first | exact True.intro | refine And.intro ?_ ?_ | exact Compat.ne rfl))) ?_
                | refine WX.drawsC mixed (by kernel_rfl) ?_
                | refine WX.condT rfl ?_
                | refine WX.condF rfl ?_
                | refine WX.skip ?_
                | refine WX.block ?_
                | refine WX.exit ?_
                | refine WX.ret ?_)
              refine WX.loop ?_
              refine WX.at (al' := [(105, .one (.int .i64 (k : Nat))), (19, .one (.int .i64 (j : Nat))), (102, .one (.int .i64 (j : Nat))), (101, .one (.int .i64 (c * r))), (9, .one (.int .i64 c)), (10, .one (.int .i64 r)), (11, .one (.int .i64 q)), (12, .one (.ptr 1 0)), (13, .one (.map 5)), (18, .one (.fn 13)), (20, .one (.int .i64 (k : Nat))), (28, .one (.int .u8 2)), (29, .one (.int .i64 (firstLevel fb0 q))), (32, .one (.ptr 11 0)), (33, .one (.ptr 12 0)), (34, .one (.int .i64 ((0 + 1 : Nat))))]) (hs' := [oA, .cells [.int .i64 c, .int .i64 r, .map 2, .map 3, .map 4] 55 false false, .map (tabEnts A), .map (tabEnts B), .map (tabEnts C), .map (mEnts M), .cells [.int .i64 p, .int .i64 x, .int .i64 y] 40 false false, .cells (kcells (la.getD noKn)) 38 false false, .cells (kcells (lb.getD noKn)) 38 false false, .cells (kcells (lc.getD noKn)) 38 false false, .cells [.int .i64 (midOf lc)] 3 false false, .cells (kcells kn) 38 false false, .cells (ti .i64 64 (em kn 1 0)) 25 false false]) (less_cons rfl (less_cons rfl (less_cons rfl (less_cons rfl (less_cons rfl (less_cons rfl (less_cons rfl (less_cons rfl (less_cons rfl (less_cons rfl (less_cons rfl (less_cons rfl (less_cons rfl (less_cons rfl (less_cons rfl (less_cons rfl (less_nil _))))))))))))))))) rfl ?_
              refine WX.count (fun n => [(105, .one (.int .i64 (k : Nat))), (19, .one (.int .i64 (j : Nat))), (102, .one (.int .i64 (j : Nat))), (101, .one (.int .i64 (c * r))), (9, .one (.int .i64 c)), (10, .one (.int .i64 r)), (11, .one (.int .i64 q)), (12, .one (.ptr 1 0)), (13, .one (.map 5)), (18, .one (.fn 13)), (20, .one (.int .i64 (k : Nat))), (28, .one (.int .u8 2)), (29, .one (.int .i64 (firstLevel fb0 q))), (32, .one (.ptr 11 0)), (33, .one (.ptr 12 0)), (34, .one (.int .i64 ((n + 1 : Nat))))]) (fun n => [oA, .cells [.int .i64 c, .int .i64 r, .map 2, .map 3, .map 4] 55 false false, .map (tabEnts A), .map (tabEnts B), .map (tabEnts C), .map (mEnts M), .cells [.int .i64 p, .int .i64 x, .int .i64 y] 40 false false, .cells (kcells (la.getD noKn)) 38 false false, .cells (kcells (lb.getD noKn)) 38 false false, .cells (kcells (lc.getD noKn)) 38 false false, .cells [.int .i64 (midOf lc)] 3 false false, .cells (kcells kn) 38 false false, .cells (ti .i64 64 (em kn 1 n)) 25 false false]) (fun _ => True) 7 trivial ?_
              intro n hn _ ihn
              replace ihn := Held.mk ihn
              refine WX.round ?_
              by_cases hn7 : n < 7
              · have hj : (((n + 1 : Nat) : Int)).toNat = (n + 1) * 1 := by omega
                repeat' (first
                  | (refine sk_id ?_; first
                    | refine sk_load rfl rfl rfl rfl rfl rfl (kc_lv _ _ (by omega)) ?_
                    | refine sk_store rfl rfl rfl rfl rfl rfl (by rw [ti_len]; omega) (ti_set _ _ _ _ _) (by first | (simp only [List.set_cons_succ, List.set_cons_zero]; exact rfl) | exact rfl) ?_
                    | refine sk_move rfl rfl rfl rfl (c := .one _) rfl ?_
                    | refine sk_assign rfl rfl rfl rfl (c := .one _) rfl ?_
                    | refine sk_add rfl rfl rfl rfl rfl rfl (by omega) ?_
                    | refine sk_sub rfl rfl rfl rfl rfl rfl (by omega) ?_
                    | refine sk_mul rfl rfl rfl rfl rfl rfl (by omega) ?_
                    | refine sk_load rfl rfl rfl rfl rfl rfl rfl ?_
                    | refine sk_fld rfl rfl rfl rfl rfl (by first | (simp only [Nat.zero_add, Nat.mul_one, Nat.reduceAdd, Nat.reduceMul, Int.reduceToNat, Nat.add_zero, Int.toNat_natCast]; exact rfl) | exact rfl) ?_
                    | refine sk_true rfl rfl rfl rfl rfl rfl rfl (by omega) ?_
                    | refine sk_false rfl rfl rfl rfl rfl rfl rfl (by omega) ?_
                    | refine sk_netrue rfl rfl rfl rfl rfl rfl (by omega) ?_
                    | refine sk_nefalse rfl rfl rfl rfl rfl rfl (by omega) ?_
                    | refine sk_fork rfl rfl rfl rfl rfl rfl rfl (fun _ => ?_) (fun _ => ?_)
                    | refine sk_forkn rfl rfl rfl rfl rfl rfl (fun _ => ?_) (fun _ => ?_)
                    | refine sk_nil rfl rfl rfl rfl rfl ?_
                    | refine sk_idxa rfl rfl rfl rfl rfl rfl (by omega) (by first | (simp only [Nat.zero_add, Nat.mul_one, Nat.reduceAdd, Nat.reduceMul, Int.reduceToNat, Nat.add_zero, Int.toNat_natCast]; exact rfl) | exact rfl) ?_
                    | refine sk_loadall rfl rfl rfl rfl rfl rfl rfl ?_
                    | refine sk_loada rfl rfl rfl rfl rfl rfl (by decide) rfl ?_
                    | refine sk_quo rfl rfl rfl rfl rfl rfl (by omega) (by omega) ?_
                    | refine sk_rem rfl rfl rfl rfl rfl rfl (by omega) (by omega) ?_
                    | refine sk_max rfl rfl rfl rfl rfl rfl (Int.max_eq_left (by omega)) ?_
                    | refine sk_max rfl rfl rfl rfl rfl rfl (Int.max_eq_right (by omega)) ?_
                    | refine sk_max rfl rfl rfl rfl rfl rfl rfl ?_
                    | refine sk_min rfl rfl rfl rfl rfl rfl (Int.min_eq_left (by omega)) ?_
                    | refine sk_min rfl rfl rfl rfl rfl rfl (Int.min_eq_right (by omega)) ?_
                    | refine sk_min rfl rfl rfl rfl rfl rfl rfl ?_
                    | refine sk_conv rfl rfl rfl rfl rfl (by first | exact IntWalk.i64_in _ (by omega) | rfl) ?_
                    | refine sk_pickT rfl rfl rfl rfl rfl rfl ?_
                    | refine sk_pickF rfl rfl rfl rfl rfl rfl ?_
                    | refine sk_not rfl rfl rfl rfl rfl rfl ?_
                    | refine sk_build0 rfl rfl rfl rfl ?_
                    | refine sk_build0A rfl rfl rfl rfl ?_
                    | refine sk_buildA rfl rfl rfl rfl rfl rfl (by first | (simp only [List.cons_append, List.nil_append, List.append_nil]; exact rfl) | exact rfl) ?_
                    | refine sk_buildS rfl rfl rfl rfl rfl rfl (by first | (simp only [List.cons_append, List.nil_append, List.append_nil]; exact rfl) | exact rfl) ?_
                    | refine sk_nnp rfl rfl rfl rfl rfl ?_
                    | refine sk_makemap rfl rfl rfl rfl (by first | (simp only [List.length_cons, List.length_nil, List.length_append, Nat.reduceAdd, Nat.zero_add]; exact rfl) | exact rfl) rfl (by first | (simp only [List.cons_append, List.nil_append]; exact rfl) | exact rfl) ?_
                    | refine sk_alloc rfl rfl rfl rfl (by first | (simp only [List.length_cons, List.length_nil, List.length_append, Nat.reduceAdd, Nat.zero_add]; exact rfl) | exact rfl) rfl (by first | (simp only [List.cons_append, List.nil_append]; exact rfl) | exact rfl) ?_
                    | refine sk_box rfl rfl rfl rfl rfl (by first | (simp only [List.length_cons, List.length_nil, List.length_append, Nat.reduceAdd, Nat.zero_add]; exact rfl) | exact rfl) rfl (by first | (simp only [List.cons_append, List.nil_append]; exact rfl) | exact rfl) ?_
                    | refine sk_store rfl rfl rfl rfl rfl rfl (by decide) (by first | (simp only [List.set_cons_succ, List.set_cons_zero]; exact rfl) | exact rfl) (by first | (simp only [List.set_cons_succ, List.set_cons_zero]; exact rfl) | exact rfl) ?_
                    | refine sk_storea rfl rfl rfl rfl rfl rfl rfl rfl (by first | (simp only [List.set_cons_succ, List.set_cons_zero]; exact rfl) | exact rfl) ?_
                    | refine sk_ext rfl rfl rfl rfl rfl rfl ?_
                    | refine sk_exta rfl rfl rfl rfl rfl rfl ?_
                    | refine sk_idxs rfl rfl rfl rfl rfl rfl (by omega) (by first | (simp only [Nat.zero_add, Nat.mul_one, Nat.reduceAdd, Nat.reduceMul, Int.reduceToNat, Nat.add_zero, Int.toNat_natCast]; exact rfl) | exact rfl) ?_
                    | refine sk_lens rfl rfl rfl rfl rfl ?_
                    | refine sk_field rfl rfl rfl rfl rfl rfl ?_
                    | refine sk_move rfl rfl rfl rfl (c := .agg _) rfl ?_
                    | refine sk_assign rfl rfl rfl rfl (c := .agg _) rfl ?_
                    | refine sk_move rfl rfl rfl rfl (c := .tup _) rfl ?_
                    | refine sk_assign rfl rfl rfl rfl (c := .tup _) rfl ?_
                    | refine sk_skip rfl rfl rfl ?_
                    | refine sk_skip0 rfl rfl ?_
                    | refine sk_pure rfl rfl rfl rfl ?_)
                  | refine WX.seq ?_
                  | refine WX.actsC ?_
                  | refine sk_last (by first | exact Consistent.nil | exact Consistent.one _ | exact Consistent.ofL (by repeat' (first | exact True.intro | refine And.intro ?_ ?_ | exact Compat.ne rfl))) ⟨by kernel_rfl, ?_⟩
                  | refine sk_last (by first | exact Consistent.nil | exact Consistent.one _ | exact Consistent.ofL (by repeat' (first | exact True.intro | refine And.intro ?_ ?_ | exact Compat.ne rfl))) ?_
                  | refine WX.drawsC mixed (by kernel_rfl) ?_
                  | refine WX.condT rfl ?_
                  | refine WX.condF rfl ?_
                  | refine WX.skip ?_
                  | refine WX.block ?_
                  | refine WX.exit ?_
                  | refine WX.ret ?_)
                refine WX.at (less_cons rfl (less_cons rfl (less_cons rfl (less_cons rfl (less_cons rfl (less_cons rfl (less_cons rfl (less_cons rfl (less_cons rfl (less_cons rfl (less_cons rfl (less_cons rfl (less_cons rfl (less_cons rfl (less_cons rfl (less_cons rfl (less_nil _))))))))))))))))) ?_ (ihn.out hn7 trivial)
                rw [em_succ, ← hj]
                all_goals rfl
              · obtain rfl : n = 7 := by omega
                clear ihn
                repeat' (first
                  | (refine sk_id ?_; first
                    | refine sk_move rfl rfl rfl rfl (c := .one _) rfl ?_
                    | refine sk_assign rfl rfl rfl rfl (c := .one _) rfl ?_
                    | refine sk_add rfl rfl rfl rfl rfl rfl (by omega) ?_
                    | refine sk_sub rfl rfl rfl rfl rfl rfl (by omega) ?_
                    | refine sk_mul rfl rfl rfl rfl rfl rfl (by omega) ?_
                    | refine sk_load rfl rfl rfl rfl rfl rfl rfl ?_
                    | refine sk_fld rfl rfl rfl rfl rfl (by first | (simp only [Nat.zero_add, Nat.mul_one, Nat.reduceAdd, Nat.reduceMul, Int.reduceToNat, Nat.add_zero, Int.toNat_natCast]; exact rfl) | exact rfl) ?_
                    | refine sk_true rfl rfl rfl rfl rfl rfl rfl (by omega) ?_
                    | refine sk_false rfl rfl rfl rfl rfl rfl rfl (by omega) ?_
                    | refine sk_netrue rfl rfl rfl rfl rfl rfl (by omega) ?_
                    | refine sk_nefalse rfl rfl rfl rfl rfl rfl (by omega) ?_
                    | refine sk_fork rfl rfl rfl rfl rfl rfl rfl (fun _ => ?_) (fun _ => ?_)
                    | refine sk_forkn rfl rfl rfl rfl rfl rfl (fun _ => ?_) (fun _ => ?_)
                    | refine sk_nil rfl rfl rfl rfl rfl ?_
                    | refine sk_idxa rfl rfl rfl rfl rfl rfl (by omega) (by first | (simp only [Nat.zero_add, Nat.mul_one, Nat.reduceAdd, Nat.reduceMul, Int.reduceToNat, Nat.add_zero, Int.toNat_natCast]; exact rfl) | exact rfl) ?_
                    | refine sk_loadall rfl rfl rfl rfl rfl rfl rfl ?_
                    | refine sk_loada rfl rfl rfl rfl rfl rfl (by decide) rfl ?_
                    | refine sk_quo rfl rfl rfl rfl rfl rfl (by omega) (by omega) ?_
                    | refine sk_rem rfl rfl rfl rfl rfl rfl (by omega) (by omega) ?_
                    | refine sk_max rfl rfl rfl rfl rfl rfl (Int.max_eq_left (by omega)) ?_
                    | refine sk_max rfl rfl rfl rfl rfl rfl (Int.max_eq_right (by omega)) ?_
                    | refine sk_max rfl rfl rfl rfl rfl rfl rfl ?_
                    | refine sk_min rfl rfl rfl rfl rfl rfl (Int.min_eq_left (by omega)) ?_
                    | refine sk_min rfl rfl rfl rfl rfl rfl (Int.min_eq_right (by omega)) ?_
                    | refine sk_min rfl rfl rfl rfl rfl rfl rfl ?_
                    | refine sk_conv rfl rfl rfl rfl rfl (by first | exact IntWalk.i64_in _ (by omega) | rfl) ?_
                    | refine sk_pickT rfl rfl rfl rfl rfl rfl ?_
                    | refine sk_pickF rfl rfl rfl rfl rfl rfl ?_
                    | refine sk_not rfl rfl rfl rfl rfl rfl ?_
                    | refine sk_build0 rfl rfl rfl rfl ?_
                    | refine sk_build0A rfl rfl rfl rfl ?_
                    | refine sk_buildA rfl rfl rfl rfl rfl rfl (by first | (simp only [List.cons_append, List.nil_append, List.append_nil]; exact rfl) | exact rfl) ?_
                    | refine sk_buildS rfl rfl rfl rfl rfl rfl (by first | (simp only [List.cons_append, List.nil_append, List.append_nil]; exact rfl) | exact rfl) ?_
                    | refine sk_nnp rfl rfl rfl rfl rfl ?_
                    | refine sk_makemap rfl rfl rfl rfl (by first | (simp only [List.length_cons, List.length_nil, List.length_append, Nat.reduceAdd, Nat.zero_add]; exact rfl) | exact rfl) rfl (by first | (simp only [List.cons_append, List.nil_append]; exact rfl) | exact rfl) ?_
                    | refine sk_alloc rfl rfl rfl rfl (by first | (simp only [List.length_cons, List.length_nil, List.length_append, Nat.reduceAdd, Nat.zero_add]; exact rfl) | exact rfl) rfl (by first | (simp only [List.cons_append, List.nil_append]; exact rfl) | exact rfl) ?_
                    | refine sk_box rfl rfl rfl rfl rfl (by first | (simp only [List.length_cons, List.length_nil, List.length_append, Nat.reduceAdd, Nat.zero_add]; exact rfl) | exact rfl) rfl (by first | (simp only [List.cons_append, List.nil_append]; exact rfl) | exact rfl) ?_
                    | refine sk_store rfl rfl rfl rfl rfl rfl (by decide) (by first | (simp only [List.set_cons_succ, List.set_cons_zero]; exact rfl) | exact rfl) (by first | (simp only [List.set_cons_succ, List.set_cons_zero]; exact rfl) | exact rfl) ?_
                    | refine sk_storea rfl rfl rfl rfl rfl rfl rfl rfl (by first | (simp only [List.set_cons_succ, List.set_cons_zero]; exact rfl) | exact rfl) ?_
                    | refine sk_ext rfl rfl rfl rfl rfl rfl ?_
                    | refine sk_exta rfl rfl rfl rfl rfl rfl ?_
                    | refine sk_idxs rfl rfl rfl rfl rfl rfl (by omega) (by first | (simp only [Nat.zero_add, Nat.mul_one, Nat.reduceAdd, Nat.reduceMul, Int.reduceToNat, Nat.add_zero, Int.toNat_natCast]; exact rfl) | exact rfl) ?_
                    | refine sk_lens rfl rfl rfl rfl rfl ?_
                    | refine sk_field rfl rfl rfl rfl rfl rfl ?_
                    | refine sk_move rfl rfl rfl rfl (c := .agg _) rfl ?_
                    | refine sk_assign rfl rfl rfl rfl (c := .agg _) rfl ?_
                    | refine sk_move rfl rfl rfl rfl (c := .tup _) rfl ?_
                    | refine sk_assign rfl rfl rfl rfl (c := .tup _) rfl ?_
                    | refine sk_skip rfl rfl rfl ?_
                    | refine sk_skip0 rfl rfl ?_
                    | refine sk_pure rfl rfl rfl rfl ?_)
                  | refine WX.seq ?_
                  | refine WX.actsC ?_
                  | refine sk_last (by first | exact Consistent.nil | exact Consistent.one _ | exact Consistent.ofL (by repeat' (first | exact True.intro | refine And.intro ?_ ?_ | exact Compat.ne rfl))) ⟨by kernel_rfl, ?_⟩
                  | refine sk_last (by first | exact Consistent.nil | exact Consistent.one _ | exact Consistent.ofL (by repeat' (first | exact True.intro | refine And.intro ?_ ?_ | exact Compat.ne rfl))) ?_
                  | refine WX.drawsC mixed (by kernel_rfl) ?_
                  | refine WX.condT rfl ?_
                  | refine WX.condF rfl ?_
                  | refine WX.skip ?_
                  | refine WX.block ?_
                  | refine WX.exit ?_
                  | refine WX.ret ?_)
                first | exact ⟨rfl, (less_cons rfl (less_cons rfl (less_cons rfl (less_cons rfl (less_cons rfl (less_cons rfl (less_cons rfl (less_cons rfl (less_cons rfl (less_cons rfl (less_cons rfl (less_cons rfl (less_cons rfl (less_cons rfl (less_nil _))))))))))))))), rfl⟩ | exact ⟨(less_cons rfl (less_cons rfl (less_cons rfl (less_cons rfl (less_cons rfl (less_cons rfl (less_cons rfl (less_cons rfl (less_cons rfl (less_cons rfl (less_cons rfl (less_cons rfl (less_cons rfl (less_cons rfl (less_nil _))))))))))))))), rfl⟩
            · have e0 : edgeSel 2 kn q = noEdge := if_neg (fun h => hqq h.2)
              rw [e0]
              repeat' (first
                | (refine sk_id ?_; first
                  | refine sk_load rfl rfl rfl rfl rfl rfl (kc_qp _) ?_
                  | refine sk_move rfl rfl rfl rfl (c := .one _) rfl ?_
                  | refine sk_assign rfl rfl rfl rfl (c := .one _) rfl ?_
                  | refine sk_add rfl rfl rfl rfl rfl rfl (by omega) ?_
                  | refine sk_sub rfl rfl rfl rfl rfl rfl (by omega) ?_
                  | refine sk_mul rfl rfl rfl rfl rfl rfl (by omega) ?_
                  | refine sk_load rfl rfl rfl rfl rfl rfl rfl ?_
                  | refine sk_fld rfl rfl rfl rfl rfl (by first | (simp only [Nat.zero_add, Nat.mul_one, Nat.reduceAdd, Nat.reduceMul, Int.reduceToNat, Nat.add_zero, Int.toNat_natCast]; exact rfl) | exact rfl) ?_
                  | refine sk_true rfl rfl rfl rfl rfl rfl rfl (by omega) ?_
                  | refine sk_false rfl rfl rfl rfl rfl rfl rfl (by omega) ?_
                  | refine sk_netrue rfl rfl rfl rfl rfl rfl (by omega) ?_
                  | refine sk_nefalse rfl rfl rfl rfl rfl rfl (by omega) ?_
                  | refine sk_fork rfl rfl rfl rfl rfl rfl rfl (fun _ => ?_) (fun _ => ?_)
                  | refine sk_forkn rfl rfl rfl rfl rfl rfl (fun _ => ?_) (fun _ => ?_)
                  | refine sk_nil rfl rfl rfl rfl rfl ?_
                  | refine sk_idxa rfl rfl rfl rfl rfl rfl (by omega) (by first | (simp only [Nat.zero_add, Nat.mul_one, Nat.reduceAdd, Nat.reduceMul, Int.reduceToNat, Nat.add_zero, Int.toNat_natCast]; exact rfl) | exact rfl) ?_
                  | refine sk_loadall rfl rfl rfl rfl rfl rfl rfl ?_
                  | refine sk_loada rfl rfl rfl rfl rfl rfl (by decide) rfl ?_
                  | refine sk_quo rfl rfl rfl rfl rfl rfl (by omega) (by omega) ?_
                  | refine sk_rem rfl rfl rfl rfl rfl rfl (by omega) (by omega) ?_
                  | refine sk_max rfl rfl rfl rfl rfl rfl (Int.max_eq_left (by omega)) ?_
                  | refine sk_max rfl rfl rfl rfl rfl rfl (Int.max_eq_right (by omega)) ?_
                  | refine sk_max rfl rfl rfl rfl rfl rfl rfl ?_
                  | refine sk_min rfl rfl rfl rfl rfl rfl (Int.min_eq_left (by omega)) ?_
                  | refine sk_min rfl rfl rfl rfl rfl rfl (Int.min_eq_right (by omega)) ?_
                  | refine sk_min rfl rfl rfl rfl rfl rfl rfl ?_
                  | refine sk_conv rfl rfl rfl rfl rfl (by first | exact IntWalk.i64_in _ (by omega) | rfl) ?_
                  | refine sk_pickT rfl rfl rfl rfl rfl rfl ?_
                  | refine sk_pickF rfl rfl rfl rfl rfl rfl ?_
                  | refine sk_not rfl rfl rfl rfl rfl rfl ?_
                  | refine sk_build0 rfl rfl rfl rfl ?_
                  | refine sk_build0A rfl rfl rfl rfl ?_
                  | refine sk_buildA rfl rfl rfl rfl rfl rfl (by first | (simp only [List.cons_append, List.nil_append, List.append_nil]; exact rfl) | exact rfl) ?_
                  | refine sk_buildS rfl rfl rfl rfl rfl rfl (by first | (simp only [List.cons_append, List.nil_append, List.append_nil]; exact rfl) | exact rfl) ?_
                  | refine sk_nnp rfl rfl rfl rfl rfl ?_
                  | refine sk_makemap rfl rfl rfl rfl (by first | (simp only [List.length_cons, List.length_nil, List.length_append, Nat.reduceAdd, Nat.zero_add]; exact rfl) | exact rfl) rfl (by first | (simp only [List.cons_append, List.nil_append]; exact rfl) | exact rfl) ?_
                  | refine sk_alloc rfl rfl rfl rfl (by first | (simp only [List.length_cons, List.length_nil, List.length_append, Nat.reduceAdd, Nat.zero_add]; exact rfl) | exact rfl) rfl (by first | (simp only [List.cons_append, List.nil_append]; exact rfl) | exact rfl) ?_
                  | refine sk_box rfl rfl rfl rfl rfl (by first | (simp only [List.length_cons, List.length_nil, List.length_append, Nat.reduceAdd, Nat.zero_add]; exact rfl) | exact rfl) rfl (by first | (simp only [List.cons_append, List.nil_append]; exact rfl) | exact rfl) ?_
                  | refine sk_store rfl rfl rfl rfl rfl rfl (by decide) (by first | (simp only [List.set_cons_succ, List.set_cons_zero]; exact rfl) | exact rfl) (by first | (simp only [List.set_cons_succ, List.set_cons_zero]; exact rfl) | exact rfl) ?_
                  | refine sk_storea rfl rfl rfl rfl rfl rfl rfl rfl (by first | (simp only [List.set_cons_succ, List.set_cons_zero]; exact rfl) | exact rfl) ?_
                  | refine sk_ext rfl rfl rfl rfl rfl rfl ?_
                  | refine sk_exta rfl rfl rfl rfl rfl rfl ?_
                  | refine sk_idxs rfl rfl rfl rfl rfl rfl (by omega) (by first | (simp only [Nat.zero_add, Nat.mul_one, Nat.reduceAdd, Nat.reduceMul, Int.reduceToNat, Nat.add_zero, Int.toNat_natCast]; exact rfl) | exact rfl) ?_
                  | refine sk_lens rfl rfl rfl rfl rfl ?_
                  | refine sk_field rfl rfl rfl rfl rfl rfl ?_
                  | refine sk_move rfl rfl rfl rfl (c := .agg _) rfl ?_
                  | refine sk_assign rfl rfl rfl rfl (c := .agg _) rfl ?_
                  | refine sk_move rfl rfl rfl rfl (c := .tup _) rfl ?_
                  | refine sk_assign rfl rfl rfl rfl (c := .tup _) rfl ?_
                  | refine sk_skip rfl rfl rfl ?_
                  | refine sk_skip0 rfl rfl ?_
                  | refine sk_pure rfl rfl rfl rfl ?_)
                | refine WX.seq ?_
                | refine WX.actsC ?_
                | refine sk_last (by first | exact Consistent.nil | exact Consistent.one _ | exact Consistent.ofL (by repeat' (first | exact True.intro | refine And.intro ?_ ?_ | exact Compat.ne rfl))) ⟨by kernel_rfl, ?_⟩
                | refine sk_last (by first | exact Consistent.nil | exact Consistent.one _ | exact Consistent.ofL (by repeat' (first | exact True.intro | refine And.intro ?_ ?_ | exact Compat.ne rfl))) ?_
                | refine WX.drawsC mixed (by kernel_rfl) ?_
                | refine WX.condT rfl ?_
                | refine WX.condF rfl ?_
                | refine WX.skip ?_
                | refine WX.block ?_
                | refine WX.exit ?_
                | refine WX.ret ?_)
              first | exact ⟨rfl, (less_cons rfl (less_cons rfl (less_cons rfl (less_cons rfl (less_cons rfl (less_cons rfl (less_cons rfl (less_cons rfl (less_cons rfl (less_cons rfl (less_cons rfl (less_cons rfl (less_cons rfl (less_cons rfl (less_nil _))))))))))))))), rfl⟩ | exact ⟨(less_cons rfl (less_cons rfl (less_cons rfl (less_cons rfl (less_cons rfl (less_cons rfl (less_cons rfl (less_cons rfl (less_cons rfl (less_cons rfl (less_cons rfl (less_cons rfl (less_cons rfl (less_cons rfl (less_nil _))))))))))))))), rfl⟩
        · exact WX.drop (al2 := tR3 c r q j (k + 1)) (hs2 := tH oA c r A B C M) (junk := _) (less_cons rfl (less_cons rfl (less_cons rfl (less_cons rfl (less_cons rfl (less_cons rfl (less_cons rfl (less_cons rfl (less_cons rfl (less_cons rfl (less_nil _))))))))))) rfl (Nat.le_of_ble_eq_true rfl) rfl (tH_ok okA) tR3_ok (ihk.out hk6 trivial)
      · obtain rfl : k = 6 := by omega
        clear ihk
        repeat' (first
          | (refine sk_id ?_; first
            | refine sk_move rfl rfl rfl rfl (c := .one _) rfl ?_
            | refine sk_assign rfl rfl rfl rfl (c := .one _) rfl ?_
            | refine sk_add rfl rfl rfl rfl rfl rfl (by omega) ?_
            | refine sk_sub rfl rfl rfl rfl rfl rfl (by omega) ?_
            | refine sk_mul rfl rfl rfl rfl rfl rfl (by omega) ?_
            | refine sk_load rfl rfl rfl rfl rfl rfl rfl ?_
            | refine sk_fld rfl rfl rfl rfl rfl (by first | (simp only [Nat.zero_add, Nat.mul_one, Nat.reduceAdd, Nat.reduceMul, Int.reduceToNat, Nat.add_zero, Int.toNat_natCast]; exact rfl) | exact rfl) ?_
            | refine sk_true rfl rfl rfl rfl rfl rfl rfl (by omega) ?_
            | refine sk_false rfl rfl rfl rfl rfl rfl rfl (by omega) ?_
            | refine sk_netrue rfl rfl rfl rfl rfl rfl (by omega) ?_
            | refine sk_nefalse rfl rfl rfl rfl rfl rfl (by omega) ?_
            | refine sk_fork rfl rfl rfl rfl rfl rfl rfl (fun _ => ?_) (fun _ => ?_)
            | refine sk_forkn rfl rfl rfl rfl rfl rfl (fun _ => ?_) (fun _ => ?_)
            | refine sk_nil rfl rfl rfl rfl rfl ?_
            | refine sk_idxa rfl rfl rfl rfl rfl rfl (by omega) (by first | (simp only [Nat.zero_add, Nat.mul_one, Nat.reduceAdd, Nat.reduceMul, Int.reduceToNat, Nat.add_zero, Int.toNat_natCast]; exact rfl) | exact rfl) ?_
            | refine sk_loadall rfl rfl rfl rfl rfl rfl rfl ?_
            | refine sk_loada rfl rfl rfl rfl rfl rfl (by decide) rfl ?_
            | refine sk_quo rfl rfl rfl rfl rfl rfl (by omega) (by omega) ?_
            | refine sk_rem rfl rfl rfl rfl rfl rfl (by omega) (by omega) ?_
            | refine sk_max rfl rfl rfl rfl rfl rfl (Int.max_eq_left (by omega)) ?_
            | refine sk_max rfl rfl rfl rfl rfl rfl (Int.max_eq_right (by omega)) ?_
            | refine sk_max rfl rfl rfl rfl rfl rfl rfl ?_
            | refine sk_min rfl rfl rfl rfl rfl rfl (Int.min_eq_left (by omega)) ?_
            | refine sk_min rfl rfl rfl rfl rfl rfl (Int.min_eq_right (by omega)) ?_
            | refine sk_min rfl rfl rfl rfl rfl rfl rfl ?_
            | refine sk_conv rfl rfl rfl rfl rfl (by first | exact IntWalk.i64_in _ (by omega) | rfl) ?_
            | refine sk_pickT rfl rfl rfl rfl rfl rfl ?_
            | refine sk_pickF rfl rfl rfl rfl rfl rfl ?_
            | refine sk_not rfl rfl rfl rfl rfl rfl ?_
            | refine sk_build0 rfl rfl rfl rfl ?_
            | refine sk_build0A rfl rfl rfl rfl ?_
            | refine sk_buildA rfl rfl rfl rfl rfl rfl (by first | (simp only [List.cons_append, List.nil_append, List.append_nil]; exact rfl) | exact rfl) ?_
            | refine sk_buildS rfl rfl rfl rfl rfl rfl (by first | (simp only [List.cons_append, List.nil_append, List.append_nil]; exact rfl) | exact rfl) ?_
            | refine sk_nnp rfl rfl rfl rfl rfl ?_
            | refine sk_makemap rfl rfl rfl rfl (by first | (simp only [List.length_cons, List.length_nil, List.length_append, Nat.reduceAdd, Nat.zero_add]; exact rfl) | exact rfl) rfl (by first | (simp only [List.cons_append, List.nil_append]; exact rfl) | exact rfl) ?_
            | refine sk_alloc rfl rfl rfl rfl (by first | (simp only [List.length_cons, List.length_nil, List.length_append, Nat.reduceAdd, Nat.zero_add]; exact rfl) | exact rfl) rfl (by first | (simp only [List.cons_append, List.nil_append]; exact rfl) | exact rfl) ?_
            | refine sk_box rfl rfl rfl rfl rfl (by first | (simp only [List.length_cons, List.length_nil, List.length_append, Nat.reduceAdd, Nat.zero_add]; exact rfl) | exact rfl) rfl (by first | (simp only [List.cons_append, List.nil_append]; exact rfl) | exact rfl) ?_
            | refine sk_store rfl rfl rfl rfl rfl rfl (by decide) (by first | (simp only [List.set_cons_succ, List.set_cons_zero]; exact rfl) | exact rfl) (by first | (simp only [List.set_cons_succ, List.set_cons_zero]; exact rfl) | exact rfl) ?_
            | refine sk_storea rfl rfl rfl rfl rfl rfl rfl rfl (by first | (simp only [List.set_cons_succ, List.set_cons_zero]; exact rfl) | exact rfl) ?_
            | refine sk_ext rfl rfl rfl rfl rfl rfl ?_
            | refine sk_exta rfl rfl rfl rfl rfl rfl ?_
            | refine sk_idxs rfl rfl rfl rfl rfl rfl (by omega) (by first | (simp only [Nat.zero_add, Nat.mul_one, Nat.reduceAdd, Nat.reduceMul, Int.reduceToNat, Nat.add_zero, Int.toNat_natCast]; exact rfl) | exact rfl) ?_
            | refine sk_lens rfl rfl rfl rfl rfl ?_
            | refine sk_field rfl rfl rfl rfl rfl rfl ?_
            | refine sk_move rfl rfl rfl rfl (c := .agg _) rfl ?_
            | refine sk_assign rfl rfl rfl rfl (c := .agg _) rfl ?_
            | refine sk_move rfl rfl rfl rfl (c := .tup _) rfl ?_
            | refine sk_assign rfl rfl rfl rfl (c := .tup _) rfl ?_
            | refine sk_skip rfl rfl rfl ?_
            | refine sk_skip0 rfl rfl ?_
            | refine sk_pure rfl rfl rfl rfl ?_)
          | refine WX.seq ?_
          | refine WX.actsC ?_
          | refine sk_last (by first | exact Consistent.nil | exact Consistent.one _ | exact Consistent.ofL (by repeat' (first | exact True.intro | refine And.intro ?_ ?_ | exact Compat.ne rfl))) ⟨by kernel_rfl, ?_⟩
          | refine sk_last (by first | exact Consistent.nil | exact Consistent.one _ | exact Consistent.ofL (by repeat' (first | exact True.intro | refine And.intro ?_ ?_ | exact Compat.ne rfl))) ?_
          | refine WX.drawsC mixed (by kernel_rfl) ?_
          | refine WX.condT rfl ?_
          | refine WX.condF rfl ?_
          | refine WX.skip ?_
          | refine WX.block ?_
          | refine WX.exit ?_
          | refine WX.ret ?_)
        exact WX.drop (al2 := tR2 c r q (j + 1)) (hs2 := tH oA c r A B C M) (junk := []) (less_cons rfl (less_cons rfl (less_cons rfl (less_cons rfl (less_cons rfl (less_cons rfl (less_cons rfl (less_cons rfl (less_nil _))))))))) rfl (Nat.le_of_ble_eq_true rfl) rfl (tH_ok okA) tR2_ok (ihj.out hjn trivial)
    · obtain rfl : j = N := by omega
      clear ihj
      repeat' (first
        | (refine sk_id ?_; first
          | refine sk_move rfl rfl rfl rfl (c := .one _) rfl ?_
          | refine sk_assign rfl rfl rfl rfl (c := .one _) rfl ?_
          | refine sk_add rfl rfl rfl rfl rfl rfl (by omega) ?_
          | refine sk_sub rfl rfl rfl rfl rfl rfl (by omega) ?_
          | refine sk_mul rfl rfl rfl rfl rfl rfl (by omega) ?_
          | refine sk_load rfl rfl rfl rfl rfl rfl rfl ?_
          | refine sk_fld rfl rfl rfl rfl rfl (by first | (simp only [Nat.zero_add, Nat.mul_one, Nat.reduceAdd, Nat.reduceMul, Int.reduceToNat, Nat.add_zero, Int.toNat_natCast]; exact rfl) | exact rfl) ?_
          | refine sk_true rfl rfl rfl rfl rfl rfl rfl (by omega) ?_
          | refine sk_false rfl rfl rfl rfl rfl rfl rfl (by omega) ?_
          | refine sk_netrue rfl rfl rfl rfl rfl rfl (by omega) ?_
          | refine sk_nefalse rfl rfl rfl rfl rfl rfl (by omega) ?_
          | refine sk_fork rfl rfl rfl rfl rfl rfl rfl (fun _ => ?_) (fun _ => ?_)
          | refine sk_forkn rfl rfl rfl rfl rfl rfl (fun _ => ?_) (fun _ => ?_)
          | refine sk_nil rfl rfl rfl rfl rfl ?_
          | refine sk_idxa rfl rfl rfl rfl rfl rfl (by omega) (by first | (simp only [Nat.zero_add, Nat.mul_one, Nat.reduceAdd, Nat.reduceMul, Int.reduceToNat, Nat.add_zero, Int.toNat_natCast]; exact rfl) | exact rfl) ?_
          | refine sk_loadall rfl rfl rfl rfl rfl rfl rfl ?_
          | refine sk_loada rfl rfl rfl rfl rfl rfl (by decide) rfl ?_
          | refine sk_quo rfl rfl rfl rfl rfl rfl (by omega) (by omega) ?_
          | refine sk_rem rfl rfl rfl rfl rfl rfl (by omega) (by omega) ?_
          | refine sk_max rfl rfl rfl rfl rfl rfl (Int.max_eq_left (by omega)) ?_
          | refine sk_max rfl rfl rfl rfl rfl rfl (Int.max_eq_right (by omega)) ?_
          | refine sk_max rfl rfl rfl rfl rfl rfl rfl ?_
          | refine sk_min rfl rfl rfl rfl rfl rfl (Int.min_eq_left (by omega)) ?_
          | refine sk_min rfl rfl rfl rfl rfl rfl (Int.min_eq_right (by omega)) ?_
          | refine sk_min rfl rfl rfl rfl rfl rfl rfl ?_
          | refine sk_conv rfl rfl rfl rfl rfl (by first | exact IntWalk.i64_in _ (by omega) | rfl) ?_
          | refine sk_pickT rfl rfl rfl rfl rfl rfl ?_
          | refine sk_pickF rfl rfl rfl rfl rfl rfl ?_
          | refine sk_not rfl rfl rfl rfl rfl rfl ?_
          | refine sk_build0 rfl rfl rfl rfl ?_
          | refine sk_build0A rfl rfl rfl rfl ?_
          | refine sk_buildA rfl rfl rfl rfl rfl rfl (by first | (simp only [List.cons_append, List.nil_append, List.append_nil]; exact rfl) | exact rfl) ?_
          | refine sk_buildS rfl rfl rfl rfl rfl rfl (by first | (simp only [List.cons_append, List.nil_append, List.append_nil]; exact rfl) | exact rfl) ?_
          | refine sk_nnp rfl rfl rfl rfl rfl ?_
          | refine sk_makemap rfl rfl rfl rfl (by first | (simp only [List.length_cons, List.length_nil, List.length_append, Nat.reduceAdd, Nat.zero_add]; exact rfl) | exact rfl) rfl (by first | (simp only [List.cons_append, List.nil_append]; exact rfl) | exact rfl) ?_
          | refine sk_alloc rfl rfl rfl rfl (by first | (simp only [List.length_cons, List.length_nil, List.length_append, Nat.reduceAdd, Nat.zero_add]; exact rfl) | exact rfl) rfl (by first | (simp only [List.cons_append, List.nil_append]; exact rfl) | exact rfl) ?_
          | refine sk_box rfl rfl rfl rfl rfl (by first | (simp only [List.length_cons, List.length_nil, List.length_append, Nat.reduceAdd, Nat.zero_add]; exact rfl) | exact rfl) rfl (by first | (simp only [List.cons_append, List.nil_append]; exact rfl) | exact rfl) ?_
          | refine sk_store rfl rfl rfl rfl rfl rfl (by decide) (by first | (simp only [List.set_cons_succ, List.set_cons_zero]; exact rfl) | exact rfl) (by first | (simp only [List.set_cons_succ, List.set_cons_zero]; exact rfl) | exact rfl) ?_
          | refine sk_storea rfl rfl rfl rfl rfl rfl rfl rfl (by first | (simp only [List.set_cons_succ, List.set_cons_zero]; exact rfl) | exact rfl) ?_
          | refine sk_ext rfl rfl rfl rfl rfl rfl ?_
          | refine sk_exta rfl rfl rfl rfl rfl rfl ?_
          | refine sk_idxs rfl rfl rfl rfl rfl rfl (by omega) (by first | (simp only [Nat.zero_add, Nat.mul_one, Nat.reduceAdd, Nat.reduceMul, Int.reduceToNat, Nat.add_zero, Int.toNat_natCast]; exact rfl) | exact rfl) ?_
          | refine sk_lens rfl rfl rfl rfl rfl ?_
          | refine sk_field rfl rfl rfl rfl rfl rfl ?_
          | refine sk_move rfl rfl rfl rfl (c := .agg _) rfl ?_
          | refine sk_assign rfl rfl rfl rfl (c := .agg _) rfl ?_
          | refine sk_move rfl rfl rfl rfl (c := .tup _) rfl ?_
          | refine sk_assign rfl rfl rfl rfl (c := .tup _) rfl ?_
          | refine sk_skip rfl rfl rfl ?_
          | refine sk_skip0 rfl rfl ?_
          | refine sk_pure rfl rfl rfl rfl ?_)
        | refine WX.seq ?_
        | refine WX.actsC ?_
        | refine sk_last (by first | exact Consistent.nil | exact Consistent.one _ | exact Consistent.ofL (by repeat' (first | exact True.intro | refine And.intro ?_ ?_ | exact Compat.ne rfl))) ⟨by kernel_rfl, ?_⟩
        | refine sk_last (by first | exact Consistent.nil | exact Consistent.one _ | exact Consistent.ofL (by repeat' (first | exact True.intro | refine And.intro ?_ ?_ | exact Compat.ne rfl))) ?_
        | refine WX.drawsC mixed (by kernel_rfl) ?_
        | refine WX.condT rfl ?_
        | refine WX.condF rfl ?_
        | refine WX.skip ?_
        | refine WX.block ?_
        | refine WX.exit ?_
        | refine WX.ret ?_)
      show KCon _ _ _ _ _ _ _ _
      refine kcon_of id (.inr rfl) (fun m hm => rfl) ?_ trivial (view_dead1 (Nat.le_of_ble_eq_true rfl)) (fun _ _ => rfl)
      rfl
end Go.Proofs.Ytlgbbgicicnijaa
