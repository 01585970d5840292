/-
  PredTells: what the walk needs besides.
-/
import Derived.Test.YtlgbbgicicnijaaPredLocal0
namespace Go.Xm
set_option linter.unusedSectionVars false
variable [Atoms]
variable {P : Program} {ops : Array Oper} {nt nI : Nat} {al : Regs} {hs : Heap} {o : Oper} {l : List Oper} {L : List Inst} {K : List Ab → Regs → Heap → Prop} {d : Nat}

/-- What is left for later. -/
structure Held (p : Prop) : Prop where out : p
/-- A closure over one cell. -/
theorem sk_clo {f : FuncId} {a : Operand} (ho : o.op = .makeFunc (.func f) #[] #[a]) (hw : xwanted ops (rg al) o = some true) (hd : o.dst = some d) (hlt : Nat.blt d nt = true) {c : XC} (ha : xeval (rg al) a = .one c)
    (hk : SK P ops nt L l ((d, .one (.bind (.fn f) c)) :: al) hs fun bs => K (quiet :: bs)) : SK P ops nt L (o :: l) al hs K :=
  SK.lift hd hlt (fun _ => OpStep.pure hw (by rw [ho]; simp [xpure, ha, xbindAll])) hk
/-- '!=' of two arrays of integers that are the same. -/
theorem sk_netis {t t' e : TypeId} {a b : Operand} {n : Nat} {k : IntKind} (ho : o.op = .binOp .neq t a b t') [hu : TUnd P t (.array n e)] [hv : TUnd P e (.int k)] [hs' : TSize P e 1] [hsc : TScal P e] (hg : P.eqGuardType P.depth t = false) (hw : xwanted ops (rg al) o = some true) (hd : o.dst = some d) (hlt : Nat.blt d nt = true) {f g : Nat → Int} (ha : xeval (rg al) a = .agg (ti k n f)) (hb : xeval (rg al) b = .agg (ti k n g)) (he : ∀ j, j < n → f j = g j)
    (h1 : SK P ops nt L l ((d, .one (.bool false)) :: al) hs fun bs => K (quiet :: bs)) : SK P ops nt L (o :: l) al hs K :=
  sk_neti ho hg hw hd hlt ha hb (fun h => absurd he h) (fun _ => h1)
/-- A look-up whose answer is known. -/
theorem sk_lookE {α γ : Type} [DecidableEq α] {t : TypeId} {x ix : Operand} (ho : o.op = .lookup t x ix true) {kt et : TypeId} [hu : TUnd P t (.map kt et)] (hw : xwanted ops (rg al) o = some true) (hd : o.dst = some d) (hlt : Nat.blt d nt = true) {kc : α → X1} (hko : KeyOk P kt kc) {vc : γ → X1} {z : γ} (hz : xzeroV P et = some (vc z)) {i : Nat} (hx : xeval (rg al) x = .one (.map i)) {M : List (α × γ)} (hi : hs[i]? = some (.map (ents kc vc M)))
    {k : α} {w : Option γ} (he : mlook M k = w) (hk : toX1 (xeval (rg al) ix) = some (kc k)) (hn : SK P ops nt L l ((d, .tup [vc (w.getD z), .one (.bool w.isSome)]) :: al) hs fun bs => K (⟨false, some i, []⟩ :: bs)) : SK P ops nt L (o :: l) al hs K := by
  subst he
  exact sk_look ho hw hd hlt hko hz hx hk hi hn
end Go.Xm

namespace Go.Proofs.Ytlgbbgicicnijaa
open Go.Xm
set_option linter.unusedVariables false
set_option linter.unusedSectionVars false
set_option linter.unusedSimpArgs false
variable [Atoms]

abbrev MT := List ((Int × Int × Int) × Kn)
def key3 (z : Int × Int × Int) : X1 := .agg [.int .i64 z.1, .int .i64 z.2.1, .int .i64 z.2.2]
theorem key3_ok : KeyOk Try.prog 40 key3 := keyInt3
abbrev mEnts (M : MT) : List (X1 × X1) := ents key3 kval M
theorem mEnts_ok (M : MT) (n : Nat) : ∀ p ∈ mEnts M, p.1.ok n ∧ p.2.ok n := by
  intro p hp
  obtain ⟨q, _, rfl⟩ := List.mem_map.1 hp
  exact ⟨X1.ok_of_shut (x := key3 q.1) rfl n, X1.ok_of_shut (x := kval q.2) (kc_shut q.2) n⟩

set_option maxRecDepth 10000 in
theorem set_out (cols rows mb k : Int) (b : Kn) (A B C : Tab) (hin : insideB cols rows mb k = false) (hcr : 0 ≤ cols * rows ∧ cols * rows ≤ 64) :
    Con Try.prog 10 [.one (.ptr 0 0), .one (.int .i64 mb), .one (.int .i64 k), .agg (kcells b)] (tabH cols rows A B C) (.tup []) (tabH cols rows A B C) := by
  have hI := inside_con cols rows mb k A B C hcr
  rw [hin] at hI
  refine con_of_wx Try.func10 rfl (Nat.le_of_ble_eq_true rfl) (Nat.le_of_ble_eq_true rfl) (Nat.le_of_ble_eq_true rfl) (Nat.le_of_ble_eq_true rfl) ?_
  repeat' (first
    | (refine sk_id ?_; first
      | refine sk_call (inst_tab hI 0 1 2 3 (by decide) rfl rfl rfl rfl rfl rfl rfl) rfl rfl rfl rfl rfl rfl (by kernel_rfl) rfl ?_
      | refine sk_move rfl rfl rfl rfl (c := .one _) rfl ?_
      | refine sk_assign rfl rfl rfl rfl (c := .one _) rfl ?_
      | refine sk_add rfl rfl rfl rfl rfl rfl (by omega) ?_
      | refine sk_sub rfl rfl rfl rfl rfl rfl (by omega) ?_
      | refine sk_mul rfl rfl rfl rfl rfl rfl (by omega) ?_
      | refine sk_load rfl rfl rfl rfl rfl rfl rfl ?_
      | refine sk_fld rfl rfl rfl rfl rfl (by first | (simp only [Nat.zero_add, Nat.mul_one, Nat.reduceAdd, Nat.reduceMul, Int.reduceToNat, Nat.add_zero, Int.toNat_natCast]; exact rfl) | exact rfl) ?_
      | refine sk_true rfl rfl rfl rfl rfl rfl rfl (by omega) ?_
      | refine sk_false rfl rfl rfl rfl rfl rfl rfl (by omega) ?_
      | refine sk_netrue rfl rfl rfl rfl rfl rfl (by omega) ?_
      | refine sk_nefalse rfl rfl rfl rfl rfl rfl (by omega) ?_
      | refine sk_fork rfl rfl rfl rfl rfl rfl rfl (fun _ => ?_) (fun _ => ?_)
      | refine sk_forkn rfl rfl rfl rfl rfl rfl (fun _ => ?_) (fun _ => ?_)
      | refine sk_nil rfl rfl rfl rfl rfl ?_
      | refine sk_idxa rfl rfl rfl rfl rfl rfl (by omega) (by first | (simp only [Nat.zero_add, Nat.mul_one, Nat.reduceAdd, Nat.reduceMul, Int.reduceToNat, Nat.add_zero, Int.toNat_natCast]; exact rfl) | exact rfl) ?_
      | refine sk_loadall rfl rfl rfl rfl rfl rfl rfl ?_
      | refine sk_loada rfl rfl rfl rfl rfl rfl (by decide) rfl ?_
      | refine sk_quo rfl rfl rfl rfl rfl rfl (by omega) (by omega) ?_
      | refine sk_rem rfl rfl rfl rfl rfl rfl (by omega) (by omega) ?_
      | refine sk_max rfl rfl rfl rfl rfl rfl (Int.max_eq_left (by omega)) ?_
      | refine sk_max rfl rfl rfl rfl rfl rfl (Int.max_eq_right (by omega)) ?_
      | refine sk_max rfl rfl rfl rfl rfl rfl rfl ?_
      | refine sk_min rfl rfl rfl rfl rfl rfl (Int.min_eq_left (by omega)) ?_
      | refine sk_min rfl rfl rfl rfl rfl rfl (Int.min_eq_right (by omega)) ?_
      | refine sk_min rfl rfl rfl rfl rfl rfl rfl ?_
      | refine sk_conv rfl rfl rfl rfl rfl (by first | exact IntWalk.i64_in _ (by omega) | rfl) ?_
      | refine sk_pickT rfl rfl rfl rfl rfl rfl ?_
      | refine sk_pickF rfl rfl rfl rfl rfl rfl ?_
      | refine sk_not rfl rfl rfl rfl rfl rfl ?_
      | refine sk_build0 rfl rfl rfl rfl ?_
      | refine sk_build0A rfl rfl rfl rfl ?_
      | refine sk_buildA rfl rfl rfl rfl rfl rfl (by first | (simp only [List.cons_append, List.nil_append, List.append_nil]; exact rfl) | exact rfl) ?_
      | refine sk_buildS rfl rfl rfl rfl rfl rfl (by first | (simp only [List.cons_append, List.nil_append, List.append_nil]; exact rfl) | exact rfl) ?_
      | refine sk_nnp rfl rfl rfl rfl rfl ?_
      | refine sk_makemap rfl rfl rfl rfl (by first | (simp only [List.length_cons, List.length_nil, List.length_append, Nat.reduceAdd, Nat.zero_add]; exact rfl) | exact rfl) rfl (by first | (simp only [List.cons_append, List.nil_append]; exact rfl) | exact rfl) ?_
      | refine sk_alloc rfl rfl rfl rfl (by first | (simp only [List.length_cons, List.length_nil, List.length_append, Nat.reduceAdd, Nat.zero_add]; exact rfl) | exact rfl) rfl (by first | (simp only [List.cons_append, List.nil_append]; exact rfl) | exact rfl) ?_
      | refine sk_box rfl rfl rfl rfl rfl (by first | (simp only [List.length_cons, List.length_nil, List.length_append, Nat.reduceAdd, Nat.zero_add]; exact rfl) | exact rfl) rfl (by first | (simp only [List.cons_append, List.nil_append]; exact rfl) | exact rfl) ?_
      | refine sk_store rfl rfl rfl rfl rfl rfl (by decide) (by first | (simp only [List.set_cons_succ, List.set_cons_zero]; exact rfl) | exact rfl) (by first | (simp only [List.set_cons_succ, List.set_cons_zero]; exact rfl) | exact rfl) ?_
      | refine sk_storea rfl rfl rfl rfl rfl rfl rfl rfl (by first | (simp only [List.set_cons_succ, List.set_cons_zero]; exact rfl) | exact rfl) ?_
      | refine sk_ext rfl rfl rfl rfl rfl rfl ?_
      | refine sk_exta rfl rfl rfl rfl rfl rfl ?_
      | refine sk_idxs rfl rfl rfl rfl rfl rfl (by omega) (by first | (simp only [Nat.zero_add, Nat.mul_one, Nat.reduceAdd, Nat.reduceMul, Int.reduceToNat, Nat.add_zero, Int.toNat_natCast]; exact rfl) | exact rfl) ?_
      | refine sk_lens rfl rfl rfl rfl rfl ?_
      | refine sk_field rfl rfl rfl rfl rfl rfl ?_
      | refine sk_move rfl rfl rfl rfl (c := .agg _) rfl ?_
      | refine sk_assign rfl rfl rfl rfl (c := .agg _) rfl ?_
      | refine sk_move rfl rfl rfl rfl (c := .tup _) rfl ?_
      | refine sk_assign rfl rfl rfl rfl (c := .tup _) rfl ?_
      | refine sk_skip rfl rfl rfl ?_
      | refine sk_skip0 rfl rfl ?_
      | refine sk_pure rfl rfl rfl rfl ?_)
    | refine WX.seq ?_
    | refine WX.actsC ?_
    | refine sk_last (by first | exact Consistent.nil | exact Consistent.one _ | exact Consistent.ofL (by repeat' (first | exact True.intro | refine And.intro ?_ ?_ | exact Compat.ne rfl))) ⟨by kernel_rfl, ?_⟩
    | refine sk_last (by first | exact Consistent.nil | exact Consistent.one _ | exact Consistent.ofL (by repeat' (first | exact True.intro | refine And.intro ?_ ?_ | exact Compat.ne rfl))) ?_
    | refine WX.drawsC mixed (by kernel_rfl) ?_
    | refine WX.condT rfl ?_
    | refine WX.condF rfl ?_
    | refine WX.skip ?_
    | refine WX.block ?_
    | refine WX.exit ?_
    | refine WX.ret ?_)
  show KCon _ _ _ _ _ _ _ _
  refine kcon_leave (junk := _) (by first | exact .inr rfl | exact .inl rfl) (ResL.zero rfl .nil) rfl (fun _ h => by cases h) rfl (tabH_ok _ _ _ _ _)

structure Kn.Ok (b : Kn) : Prop where
  lv0 : 0 ≤ b.lv 0 ∧ b.lv 0 ≤ 127
  qp : 1 ≤ b.qp ∧ b.qp ≤ 31
theorem actKn_ok {a : ActV} (h : a.Ok) : (actKn a).Ok := by
  have h1 := h.hf
  have h2 := h.hq
  exact ⟨by show 0 ≤ a.first % 128 ∧ a.first % 128 ≤ 127; omega, by show 1 ≤ 1 + a.qp % 31 ∧ 1 + a.qp % 31 ≤ 31; omega⟩
def midOf (lc : Option Kn) : Int := match lc with
  | some c => fbOf c
  | none => 8192
theorem midOf_bnd (lc : Option Kn) : 0 ≤ midOf lc ∧ midOf lc ≤ 121920 := by
  cases lc with
  | none => exact ⟨by decide, by decide⟩
  | some c => exact fbOf_bnd c
/-- Which block it is expected from, by the law. -/
def sel (la lb : Option Kn) (m : Int) : Int × Int × Kn := match la, lb with
  | some a, some b => if max (fbOf b - m) (m - fbOf b) ≤ max (fbOf a - m) (m - fbOf a) then (1, fbOf a, a) else (2, fbOf b, b)
  | some a, none => (1, fbOf a, a)
  | none, some b => (2, fbOf b, b)
  | none, none => (0, 8192, noKn)
def edgeSel (fr : Int) (kn : Kn) (q : Int) : Nat → Int := if fr ≠ 0 ∧ kn.qp = q then (if fr = 1 then em kn 8 7 else em kn 1 7) else noEdge
theorem sel_ss (a b : Kn) (lc : Option Kn) (q : Int) : expd (some a) (some b) lc q = if max (fbOf a - midOf lc) (midOf lc - fbOf a) < max (midOf lc - fbOf b) (fbOf b - midOf lc) then (2, firstLevel (fbOf b) q) else (1, firstLevel (fbOf a) q) := by
  cases lc <;> rfl
theorem sel_expd {la lb lc : Option Kn} {q fr fb0 : Int} {kn : Kn} (h : sel la lb (midOf lc) = (fr, fb0, kn)) : expd la lb lc q = (fr, firstLevel fb0 q) := by
  cases la with
  | some a => cases lb with
    | some b =>
      rw [sel_ss]
      unfold sel at h
      simp only at h
      by_cases hc : max (fbOf b - midOf lc) (midOf lc - fbOf b) ≤ max (fbOf a - midOf lc) (midOf lc - fbOf a)
      · rw [if_pos hc] at h
        rw [if_neg (by omega)]
        cases h; rfl
      · rw [if_neg hc] at h
        rw [if_pos (by omega)]
        cases h; rfl
    | none => cases h; rfl
  | none => cases lb with
    | some b => cases h; rfl
    | none => cases h; rfl
theorem sel_edge {la lb lc : Option Kn} {q fr fb0 : Int} {kn : Kn} (h : sel la lb (midOf lc) = (fr, fb0, kn)) : edgeF la lb lc q = edgeSel fr kn q := by
  have he := sel_expd (q := q) h
  unfold edgeF
  rw [he]
  unfold edgeSel
  have hs := h
  unfold sel at hs
  split at hs
  · split at hs
    · cases hs; simp [edgeOfKn]
    · cases hs; simp [edgeOfKn]
  · cases hs; simp [edgeOfKn]
  · cases hs; simp [edgeOfKn]
  · cases hs; simp
theorem sel_from {la lb : Option Kn} {m fr fb0 : Int} {kn : Kn} (h : sel la lb m = (fr, fb0, kn)) : fr = 0 ∨ fr = 1 ∨ fr = 2 := by
  unfold sel at h
  split at h
  · split at h <;> cases h <;> simp
  all_goals cases h <;> simp

/-- What both hold: the tables, the law's own map. -/
def Agree (cols : Int) (A B C : Tab) (M : MT) : Prop := ∀ p x y, (p = 0 ∨ p = 1 ∨ p = 2) → mlook M (p, x, y) = blk A B C cols p x y
theorem agree_nil (cols : Int) : Agree cols [] [] [] [] := by
  intro p x y hp
  unfold blk lookAt pickTab
  rcases hp with rfl | rfl | rfl <;> simp [mlook_nil]
theorem agree_put {cols : Int} {A B C : Tab} {M : MT} {p x y : Int} {b : Kn} (h : Agree cols A B C M) (hp : p = 0 ∨ p = 1 ∨ p = 2) (hx : 0 ≤ x ∧ x < wideOf cols p) (hy : 0 ≤ y) :
    Agree cols (setT p 0 A (y * wideOf cols p + x) b) (setT p 1 B (y * wideOf cols p + x) b) (setT p 2 C (y * wideOf cols p + x) b) (putm M (p, x, y) b) := by
  intro p' x' y' hp'
  rw [mlook_put, blk_set hp hp' hx hy, h p' x' y' hp']
  simp only [Prod.mk.injEq]
def AllOk (M : MT) : Prop := ∀ k v, mlook M k = some v → v.Ok
theorem allOk_put {M : MT} {k : Int × Int × Int} {b : Kn} (h : AllOk M) (hb : b.Ok) : AllOk (putm M k b) := by
  intro k' v hv
  rw [mlook_put] at hv
  split at hv
  · cases hv; exact hb
  · exact h k' v hv

theorem number_at {b : Kn} (h : b.Ok) : Con Try.prog 13 [.agg (kcells b)] [] (.one (.int .i64 (fbOf b))) [] := number_con b h.lv0 h.qp
theorem optKn_num {o : Option Kn} (h : ∀ b, o = some b → b.Ok) {b : Kn} (hb : o = some b) : Con Try.prog 13 [.agg (kcells (o.getD noKn))] [] (.one (.int .i64 (fbOf b))) [] := by
  subst hb
  exact number_at (h b rfl)

theorem inst_to {HS : Heap} {x m : Int} (hx : -1000000 ≤ x ∧ x ≤ 1000000) (hm : -1000000 ≤ m ∧ m ≤ 1000000) (i : Nat) (h : HS[i]? = some (.cells [.int .i64 m] 3 false false)) (hb : Nat.blt HS.length Mem.bound = true) : Inst.Sound Try.prog ⟨16, [.one (.int .i64 x), .one (.ptr i 0)], HS, .one (.int .i64 (max (x - m) (m - x))), HS, []⟩ := by
  refine inst_read (to_con x m hx hm) (view1 i h (by simp [XObj.okN, XC.ok])) (fun o ho => ?_) (fun a ha => ?_) rfl trivial rfl hb rfl
  · simp only [List.mem_singleton] at ho; subst ho; rfl
  · simp only [List.mem_cons, List.not_mem_nil, or_false] at ha
    rcases ha with rfl | rfl
    · trivial
    · show 0 < 1; omega
theorem compat_number {a b : Kn} {h h' g g' : Heap} (e : h = g → h' = g') : Compat ⟨13, [.agg (kcells a)], h, .one (.int .i64 (fbOf a)), h', []⟩ ⟨13, [.agg (kcells b)], g, .one (.int .i64 (fbOf b)), g', []⟩ := by
  intro _ h2 h3
  simp only [List.cons.injEq, XV.agg.injEq, and_true] at h2
  have := kc_inj h2
  exact ⟨by show XV.one _ = XV.one _; unfold fbOf; rw [this.1 0 (by omega), this.2], e h3, rfl⟩
theorem compat_to {x y m : Int} {i : Nat} {h h' g g' : Heap} (e : h = g → h' = g') : Compat ⟨16, [.one (.int .i64 x), .one (.ptr i 0)], h, .one (.int .i64 (max (x - m) (m - x))), h', []⟩ ⟨16, [.one (.int .i64 y), .one (.ptr i 0)], g, .one (.int .i64 (max (y - m) (m - y))), g', []⟩ := by
  intro _ h2 h3
  simp only [List.cons.injEq, XV.one.injEq, XC.int.injEq, true_and, and_true] at h2
  subst h2
  exact ⟨rfl, e h3, rfl⟩

/-! ### The states of PredTells -/
def tH (oA : XObj) (c r : Int) (A B C : Tab) (M : MT) : Heap := [oA, .cells [.int .i64 c, .int .i64 r, .map 2, .map 3, .map 4] 55 false false, .map (tabEnts A), .map (tabEnts B), .map (tabEnts C), .map (mEnts M)]
theorem tH_ok {oA : XObj} {c r : Int} {A B C : Tab} {M : MT} (ha : ∀ n, oA.okN n) : ∀ o ∈ tH oA c r A B C M, o.okN 6 := by
  intro o ho
  simp only [tH, List.mem_cons, List.not_mem_nil, or_false] at ho
  rcases ho with rfl | rfl | rfl | rfl | rfl | rfl
  · exact ha 6
  · simp [XObj.okN, XC.ok]
  · exact ents_ok A 6
  · exact ents_ok B 6
  · exact ents_ok C 6
  · exact mEnts_ok M 6
def tR0 (c r q : Int) : Regs := [(9, .one (.int .i64 c)), (10, .one (.int .i64 r)), (11, .one (.int .i64 q)), (12, .one (.ptr 1 0)), (13, .one (.map 5))]
def tR1 (sa : XC) (c r q : Int) (len i : Nat) : Regs := [(57, .one (.int .i64 (i : Nat))), (56, .one (.int .i64 (len : Nat))), (55, .one sa), (9, .one (.int .i64 c)), (10, .one (.int .i64 r)), (11, .one (.int .i64 q)), (12, .one (.ptr 1 0)), (13, .one (.map 5))]
def tR2 (c r q : Int) (j : Nat) : Regs := [(102, .one (.int .i64 (j : Nat))), (101, .one (.int .i64 (c * r))), (9, .one (.int .i64 c)), (10, .one (.int .i64 r)), (11, .one (.int .i64 q)), (12, .one (.ptr 1 0)), (13, .one (.map 5)), (18, .one (.fn 13))]
def tR3 (c r q : Int) (j k : Nat) : Regs := [(105, .one (.int .i64 (k : Nat))), (19, .one (.int .i64 (j : Nat))), (102, .one (.int .i64 (j : Nat))), (101, .one (.int .i64 (c * r))), (9, .one (.int .i64 c)), (10, .one (.int .i64 r)), (11, .one (.int .i64 q)), (12, .one (.ptr 1 0)), (13, .one (.map 5)), (18, .one (.fn 13))]
theorem tR0_ok {c r q : Int} : ∀ p ∈ tR0 c r q, p.2.okN 6 := by
  intro o ho
  simp only [tR0, List.mem_cons, List.not_mem_nil, or_false] at ho
  rcases ho with rfl | rfl | rfl | rfl | rfl <;> first
    | trivial
    | (show (_ : Nat) < 6; omega)
theorem tR1_ok {sa : XC} {c r q : Int} {len i : Nat} (ha : SlOk sa 0 len) : ∀ p ∈ tR1 sa c r q len i, p.2.okN 6 := by
  intro o ho
  simp only [tR1, List.mem_cons, List.not_mem_nil, or_false] at ho
  rcases ho with rfl | rfl | rfl | rfl | rfl | rfl | rfl | rfl <;> first
    | trivial
    | exact slOk_okN ha (by omega)
    | (show (_ : Nat) < 6; omega)
theorem tR2_ok {c r q : Int} {j : Nat} : ∀ p ∈ tR2 c r q j, p.2.okN 6 := by
  intro o ho
  simp only [tR2, List.mem_cons, List.not_mem_nil, or_false] at ho
  rcases ho with rfl | rfl | rfl | rfl | rfl | rfl | rfl | rfl <;> first
    | trivial
    | (show (_ : Nat) < 6; omega)
theorem tR3_ok {c r q : Int} {j k : Nat} : ∀ p ∈ tR3 c r q j k, p.2.okN 6 := by
  intro o ho
  simp only [tR3, List.mem_cons, List.not_mem_nil, or_false] at ho
  rcases ho with rfl | rfl | rfl | rfl | rfl | rfl | rfl | rfl | rfl | rfl <;> first
    | trivial
    | (show (_ : Nat) < 6; omega)
end Go.Proofs.Ytlgbbgicicnijaa
