/-
  The second machine, with variables in its states: rules that choose themselves by the operation.
-/
import Derived.Test.YtaepmifmcohhgaaXvInst
namespace Go.Xm
set_option linter.unusedSectionVars false
variable [Atoms]
variable {P : Program} {ops : Array Oper} {nt nI : Nat} {al : Regs} {hs : Heap} {o : Oper} {l : List Oper} {L : List Inst} {K : List Ab → Regs → Heap → Prop} {d : Nat}

theorem sk_id (h : SK P ops nt L (o :: l) al hs K) : SK P ops nt L (o :: l) al hs K := h

theorem sk_move {a : Operand} (ho : o.op = .move a) (hw : xwanted ops (rg al) o = some true) (hd : o.dst = some d) (hlt : Nat.blt d nt = true) {c : XV} (ha : xeval (rg al) a = c)
    (hk : SK P ops nt L l ((d, c) :: al) hs fun bs => K (quiet :: bs)) : SK P ops nt L (o :: l) al hs K :=
  SK.lift hd hlt (fun _ => OpStep.pure hw (by rw [ho]; simp only [xpure, ha])) hk
theorem sk_assign {a : Operand} (ho : o.op = .assign a) (hw : xwanted ops (rg al) o = some true) (hd : o.dst = some d) (hlt : Nat.blt d nt = true) {c : XV} (ha : xeval (rg al) a = c)
    (hk : SK P ops nt L l ((d, c) :: al) hs fun bs => K (quiet :: bs)) : SK P ops nt L (o :: l) al hs K :=
  SK.lift hd hlt (fun _ => OpStep.pure hw (by rw [ho]; simp only [xpure, ha])) hk
theorem sk_pickT {a b c : Operand} (ho : o.op = .pick c a b) (hw : xwanted ops (rg al) o = some true) (hd : o.dst = some d) (hlt : Nat.blt d nt = true) (hc : xeval (rg al) c = .one (.bool true)) {x : Bool} (ha : xeval (rg al) a = .one (.bool x))
    (hk : SK P ops nt L l ((d, .one (.bool x)) :: al) hs fun bs => K (quiet :: bs)) : SK P ops nt L (o :: l) al hs K :=
  SK.lift hd hlt (fun _ => OpStep.pure hw (by rw [ho]; simp only [xpure, hc, if_true, ha])) hk
theorem sk_pickF {a b c : Operand} (ho : o.op = .pick c a b) (hw : xwanted ops (rg al) o = some true) (hd : o.dst = some d) (hlt : Nat.blt d nt = true) (hc : xeval (rg al) c = .one (.bool false)) {x : Bool} (ha : xeval (rg al) b = .one (.bool x))
    (hk : SK P ops nt L l ((d, .one (.bool x)) :: al) hs fun bs => K (quiet :: bs)) : SK P ops nt L (o :: l) al hs K :=
  SK.lift hd hlt (fun _ => OpStep.pure hw (by rw [ho]; simp only [xpure, hc, Bool.false_eq_true, if_false, ha])) hk
theorem sk_not {a : Operand} {t : TypeId} (ho : o.op = .unOp .not t a) (hw : xwanted ops (rg al) o = some true) (hd : o.dst = some d) (hlt : Nat.blt d nt = true) {x y : Bool} (ha : xeval (rg al) a = .one (.bool x)) (hy : (!x) = y)
    (hk : SK P ops nt L l ((d, .one (.bool y)) :: al) hs fun bs => K (quiet :: bs)) : SK P ops nt L (o :: l) al hs K :=
  SK.lift hd hlt (fun _ => OpStep.pure hw (by rw [ho]; simp only [xpure, ha, xun, hy])) hk

/-! ### Integers -/
section
variable {t t' : TypeId} {a b : Operand} {k k' k'' : IntKind} {x y z : Int}
theorem sk_int {op : BinOp} (ho : o.op = .binOp op t a b t') (hw : xwanted ops (rg al) o = some true) (hd : o.dst = some d) (hlt : Nat.blt d nt = true) (ha : xeval (rg al) a = .one (.int k x)) (hb : xeval (rg al) b = .one (.int k' y))
    (hc : xbinInt op k k' x y = some (.int k'' z)) (hk : SK P ops nt L l ((d, .one (.int k'' z)) :: al) hs fun bs => K (quiet :: bs)) : SK P ops nt L (o :: l) al hs K :=
  SK.lift hd hlt (fun _ => OpStep.bin hw ho ha hb hc) hk
theorem sk_add (ho : o.op = .binOp .add t a b t') (hw : xwanted ops (rg al) o = some true) (hd : o.dst = some d) (hlt : Nat.blt d nt = true) (ha : xeval (rg al) a = .one (.int .i64 x)) (hb : xeval (rg al) b = .one (.int .i64 y))
    (h : -9223372036854775808 ≤ x + y ∧ x + y < 9223372036854775808) (hk : SK P ops nt L l ((d, .one (.int .i64 (x + y))) :: al) hs fun bs => K (quiet :: bs)) : SK P ops nt L (o :: l) al hs K :=
  sk_int ho hw hd hlt ha hb (bin_add64 rfl h) hk
theorem sk_sub (ho : o.op = .binOp .sub t a b t') (hw : xwanted ops (rg al) o = some true) (hd : o.dst = some d) (hlt : Nat.blt d nt = true) (ha : xeval (rg al) a = .one (.int .i64 x)) (hb : xeval (rg al) b = .one (.int .i64 y))
    (h : -9223372036854775808 ≤ x - y ∧ x - y < 9223372036854775808) (hk : SK P ops nt L l ((d, .one (.int .i64 (x - y))) :: al) hs fun bs => K (quiet :: bs)) : SK P ops nt L (o :: l) al hs K :=
  sk_int ho hw hd hlt ha hb (bin_sub64 rfl h) hk
theorem sk_mul (ho : o.op = .binOp .mul t a b t') (hw : xwanted ops (rg al) o = some true) (hd : o.dst = some d) (hlt : Nat.blt d nt = true) (ha : xeval (rg al) a = .one (.int .i64 x)) (hb : xeval (rg al) b = .one (.int .i64 y))
    (h : -9223372036854775808 ≤ x * y ∧ x * y < 9223372036854775808) (hk : SK P ops nt L l ((d, .one (.int .i64 (x * y))) :: al) hs fun bs => K (quiet :: bs)) : SK P ops nt L (o :: l) al hs K :=
  sk_int ho hw hd hlt ha hb (bin_mul64 rfl h) hk
theorem quo64 (hx : 0 ≤ x ∧ x < 9223372036854775808) (hy : 0 < y) : xbinInt .quo .i64 .i64 x y = some (.int .i64 (x / y)) := by
  have h0 : y ≠ 0 := by omega
  have h1 : x.tdiv y = x / y := Int.tdiv_eq_ediv_of_nonneg hx.1
  have h2 : 0 ≤ x / y := Int.ediv_nonneg hx.1 (by omega)
  have h3 : x / y ≤ x := Int.ediv_le_self _ hx.1
  simp only [xbinInt, xsame, if_true, h0, if_false, xwrap_eq, h1]
  rw [IntWalk.i64_in _ ⟨by omega, by omega⟩]
theorem sk_quo (ho : o.op = .binOp .quo t a b t') (hw : xwanted ops (rg al) o = some true) (hd : o.dst = some d) (hlt : Nat.blt d nt = true) (ha : xeval (rg al) a = .one (.int .i64 x)) (hb : xeval (rg al) b = .one (.int .i64 y))
    (hx : 0 ≤ x ∧ x < 9223372036854775808) (hy : 0 < y) (hk : SK P ops nt L l ((d, .one (.int .i64 (x / y))) :: al) hs fun bs => K (quiet :: bs)) : SK P ops nt L (o :: l) al hs K :=
  sk_int ho hw hd hlt ha hb (quo64 hx hy) hk
theorem sk_rem (ho : o.op = .binOp .rem t a b t') (hw : xwanted ops (rg al) o = some true) (hd : o.dst = some d) (hlt : Nat.blt d nt = true) (ha : xeval (rg al) a = .one (.int k x)) (hb : xeval (rg al) b = .one (.int k y))
    (hx : 0 ≤ x) (hy : y ≠ 0) (hk : SK P ops nt L l ((d, .one (.int k (x % y))) :: al) hs fun bs => K (quiet :: bs)) : SK P ops nt L (o :: l) al hs K :=
  sk_int ho hw hd hlt ha hb (by simp only [xbinInt, xsame, if_true, hy, if_false, Int.tmod_eq_emod_of_nonneg hx]) hk

/-- A test: both ways. -/
theorem sk_fork {op : BinOp} (ho : o.op = .binOp op t a b t') (hw : xwanted ops (rg al) o = some true) (hd : o.dst = some d) (hlt : Nat.blt d nt = true) (ha : xeval (rg al) a = .one (.int k x)) (hb : xeval (rg al) b = .one (.int k' y))
    {p : Prop} {dp : Decidable p} (hc : xbinInt op k k' x y = some (.bool (@decide p dp)))
    (h1 : p → SK P ops nt L l ((d, .one (.bool true)) :: al) hs fun bs => K (quiet :: bs)) (h2 : ¬p → SK P ops nt L l ((d, .one (.bool false)) :: al) hs fun bs => K (quiet :: bs)) : SK P ops nt L (o :: l) al hs K := by
  by_cases h : p
  · exact SK.lift hd hlt (fun _ => OpStep.bin hw ho ha hb (by rw [hc]; simp only [h, decide_true])) (h1 h)
  · exact SK.lift hd hlt (fun _ => OpStep.bin hw ho ha hb (by rw [hc]; simp only [h, decide_false])) (h2 h)
theorem sk_forkn (ho : o.op = .binOp .neq t a b t') (hw : xwanted ops (rg al) o = some true) (hd : o.dst = some d) (hlt : Nat.blt d nt = true) (ha : xeval (rg al) a = .one (.int k x)) (hb : xeval (rg al) b = .one (.int k y))
    (h1 : x ≠ y → SK P ops nt L l ((d, .one (.bool true)) :: al) hs fun bs => K (quiet :: bs)) (h2 : x = y → SK P ops nt L l ((d, .one (.bool false)) :: al) hs fun bs => K (quiet :: bs)) : SK P ops nt L (o :: l) al hs K := by
  by_cases h : x = y
  · exact SK.lift hd hlt (fun _ => OpStep.bin hw ho ha hb (bin_neq (b := false) (by simp [h]))) (h2 h)
  · exact SK.lift hd hlt (fun _ => OpStep.bin hw ho ha hb (bin_neq (b := true) (by simpa using h))) (h1 h)
/-- A test that is decided. -/
theorem sk_true {op : BinOp} (ho : o.op = .binOp op t a b t') (hw : xwanted ops (rg al) o = some true) (hd : o.dst = some d) (hlt : Nat.blt d nt = true) (ha : xeval (rg al) a = .one (.int k x)) (hb : xeval (rg al) b = .one (.int k' y))
    {p : Prop} {dp : Decidable p} (hc : xbinInt op k k' x y = some (.bool (@decide p dp))) (h : p)
    (hk : SK P ops nt L l ((d, .one (.bool true)) :: al) hs fun bs => K (quiet :: bs)) : SK P ops nt L (o :: l) al hs K :=
  sk_fork ho hw hd hlt ha hb hc (fun _ => hk) (fun n => absurd h n)
theorem sk_false {op : BinOp} (ho : o.op = .binOp op t a b t') (hw : xwanted ops (rg al) o = some true) (hd : o.dst = some d) (hlt : Nat.blt d nt = true) (ha : xeval (rg al) a = .one (.int k x)) (hb : xeval (rg al) b = .one (.int k' y))
    {p : Prop} {dp : Decidable p} (hc : xbinInt op k k' x y = some (.bool (@decide p dp))) (h : ¬p)
    (hk : SK P ops nt L l ((d, .one (.bool false)) :: al) hs fun bs => K (quiet :: bs)) : SK P ops nt L (o :: l) al hs K :=
  sk_fork ho hw hd hlt ha hb hc (fun n => absurd n h) (fun _ => hk)
theorem sk_netrue (ho : o.op = .binOp .neq t a b t') (hw : xwanted ops (rg al) o = some true) (hd : o.dst = some d) (hlt : Nat.blt d nt = true) (ha : xeval (rg al) a = .one (.int k x)) (hb : xeval (rg al) b = .one (.int k y)) (h : x ≠ y)
    (hk : SK P ops nt L l ((d, .one (.bool true)) :: al) hs fun bs => K (quiet :: bs)) : SK P ops nt L (o :: l) al hs K :=
  sk_forkn ho hw hd hlt ha hb (fun _ => hk) (fun e => absurd e h)
theorem sk_nefalse (ho : o.op = .binOp .neq t a b t') (hw : xwanted ops (rg al) o = some true) (hd : o.dst = some d) (hlt : Nat.blt d nt = true) (ha : xeval (rg al) a = .one (.int k x)) (hb : xeval (rg al) b = .one (.int k y)) (h : x = y)
    (hk : SK P ops nt L l ((d, .one (.bool false)) :: al) hs fun bs => K (quiet :: bs)) : SK P ops nt L (o :: l) al hs K :=
  sk_forkn ho hw hd hlt ha hb (fun n => absurd h n) (fun _ => hk)

theorem sk_max {ts : Array TypeId} (ho : o.op = .call ⟨.builtin .max, #[a, b], ts⟩) (hw : xwanted ops (rg al) o = some true) (hd : o.dst = some d) (hlt : Nat.blt d nt = true) (ha : xeval (rg al) a = .one (.int k x)) (hb : xeval (rg al) b = .one (.int k' y)) (hz : max x y = z)
    (hk : SK P ops nt L l ((d, .one (.int k z)) :: al) hs fun bs => K (quiet :: bs)) : SK P ops nt L (o :: l) al hs K :=
  SK.lift hd hlt (fun _ => OpStep.pure hw (by
    have e : (if y > x then y else x) = z := by rw [← hz, Int.max_def]; by_cases h : y > x <;> by_cases h' : x ≤ y <;> simp [h, h'] <;> omega
    rw [ho]; simp only [xpure, xbuiltin, List.map_cons, List.map_nil, ha, hb, xmax, e, Option.map_some])) hk
theorem sk_min {ts : Array TypeId} (ho : o.op = .call ⟨.builtin .min, #[a, b], ts⟩) (hw : xwanted ops (rg al) o = some true) (hd : o.dst = some d) (hlt : Nat.blt d nt = true) (ha : xeval (rg al) a = .one (.int k x)) (hb : xeval (rg al) b = .one (.int k' y)) (hz : min x y = z)
    (hk : SK P ops nt L l ((d, .one (.int k z)) :: al) hs fun bs => K (quiet :: bs)) : SK P ops nt L (o :: l) al hs K :=
  SK.lift hd hlt (fun _ => OpStep.pure hw (by
    have e : (if y < x then y else x) = z := by rw [← hz, Int.min_def]; by_cases h : y < x <;> by_cases h' : x ≤ y <;> simp [h, h'] <;> omega
    rw [ho]; simp only [xpure, xbuiltin, List.map_cons, List.map_nil, ha, hb, xmin, e, Option.map_some])) hk
end

theorem sk_conv {s t : TypeId} {y : Operand} {u : TypeDesc} (ho : o.op = .convert s t y) (hw : xwanted ops (rg al) o = some true) (hd : o.dst = some d) (hlt : Nat.blt d nt = true) {k k' : IntKind} {x z : Int} (hy : xeval (rg al) y = .one (.int k x)) [TUnd P s u] [h : TUnd P t (.int k')] (hz : k'.wrap x = z)
    (hk : SK P ops nt L l ((d, .one (.int k' z)) :: al) hs fun bs => K (quiet :: bs)) : SK P ops nt L (o :: l) al hs K :=
  SK.lift hd hlt (fun _ => OpStep.conv hw ho hy (by simp only [xconvert, TUnd.out (P := P) (t := s), TUnd.out (P := P) (t := t)]) hz) hk

/-! ### Addresses, parts -/
theorem sk_nil {a : Operand} (ho : o.op = .nilCheck a) (hw : xwanted ops (rg al) o = some true) (hd : o.dst = some d) (hlt : Nat.blt d nt = true) {i off : Nat} (ha : xeval (rg al) a = .one (.ptr i off))
    (hk : SK P ops nt L l ((d, .one (.ptr i off)) :: al) hs fun bs => K (quiet :: bs)) : SK P ops nt L (o :: l) al hs K :=
  SK.lift hd hlt (fun _ => OpStep.pure hw (by rw [ho]; simp only [xpure, ha, xnilCheck])) hk
theorem sk_fld {s : TypeId} {a : Operand} {f : Nat} (ho : o.op = .fieldAddr s a f) (hw : xwanted ops (rg al) o = some true) (hd : o.dst = some d) (hlt : Nat.blt d nt = true) {i off : Nat} (ha : xeval (rg al) a = .one (.ptr i off)) {ft : TypeId} {fo z : Nat} [hf : TFld P s f ft fo] [hz : TSize P ft (z + 1)]
    {p : Nat} (hp : off + fo = p) (hk : SK P ops nt L l ((d, .one (.ptr i p)) :: al) hs fun bs => K (quiet :: bs)) : SK P ops nt L (o :: l) al hs K := by
  obtain ⟨fd, h1, h2, h3⟩ := hf.ex
  exact SK.lift hd hlt (fun _ => OpStep.pure hw (by rw [ho]; simp only [xpure, xfieldAddr, h1, ha, h2, hz.out, h3, hp])) hk
theorem sk_idxa {t : TypeId} {a b : Operand} {len : Nat} {elem : TypeId} {s : Nat} (ho : o.op = .indexAddr t a b) (hw : xwanted ops (rg al) o = some true) (hd : o.dst = some d) (hlt : Nat.blt d nt = true) {i off : Nat} (ha : xeval (rg al) a = .one (.ptr i off)) {k : IntKind} {z : Int} (hb : xeval (rg al) b = .one (.int k z)) [hu : TUnd P t (.array len elem)] [hs' : TSize P elem s] (hz : 0 ≤ z ∧ z < len)
    {p : Nat} (hp : off + z.toNat * s = p) (hk : SK P ops nt L l ((d, .one (.ptr i p)) :: al) hs fun bs => K (quiet :: bs)) : SK P ops nt L (o :: l) al hs K :=
  SK.lift hd hlt (fun _ => OpStep.pure hw (by rw [ho]; simp only [xpure, xindexAddr, ha, hb, hu.out, hs'.out, if_pos hz, Option.map_some, hp])) hk
theorem sk_idxs {t : TypeId} {a b : Operand} {elem : TypeId} {s : Nat} (ho : o.op = .indexAddr t a b) (hw : xwanted ops (rg al) o = some true) (hd : o.dst = some d) (hlt : Nat.blt d nt = true) {i off len : Nat} {cap : Cap} (ha : xeval (rg al) a = .one (.slice i off len cap)) {k : IntKind} {z : Int} (hb : xeval (rg al) b = .one (.int k z)) [hu : TUnd P t (.slice elem)] [hs' : TSize P elem s] (hz : 0 ≤ z ∧ z < len)
    {p : Nat} (hp : off + z.toNat * s = p) (hk : SK P ops nt L l ((d, .one (.ptr i p)) :: al) hs fun bs => K (quiet :: bs)) : SK P ops nt L (o :: l) al hs K :=
  SK.lift hd hlt (fun _ => OpStep.pure hw (by rw [ho]; simp only [xpure, xindexAddr, ha, hb, hu.out, hs'.out, if_pos hz, Option.map_some, hp])) hk
theorem sk_field {s : TypeId} {a : Operand} {f : Nat} (ho : o.op = .field s a f) (hw : xwanted ops (rg al) o = some true) (hd : o.dst = some d) (hlt : Nat.blt d nt = true) {cs : List XC} (ha : xeval (rg al) a = .agg cs) {ft : TypeId} {fo : Nat} [hf : TFld P s f ft fo] [hz : TScal P ft] {c : XC} (hc : cs[fo]? = some c)
    (hk : SK P ops nt L l ((d, .one c) :: al) hs fun bs => K (quiet :: bs)) : SK P ops nt L (o :: l) al hs K := by
  obtain ⟨fd, h1, h2, h3⟩ := hf.ex
  exact SK.lift hd hlt (fun _ => OpStep.pure hw (by rw [ho]; simp only [xpure, xfield, h1, ha, h2, h3, xpart, hz.out, hc, Option.map_some, X1.toV])) hk
theorem sk_fielda {s : TypeId} {a : Operand} {f : Nat} (ho : o.op = .field s a f) (hw : xwanted ops (rg al) o = some true) (hd : o.dst = some d) (hlt : Nat.blt d nt = true) {cs : List XC} (ha : xeval (rg al) a = .agg cs) {ft : TypeId} {fo z : Nat} [hf : TFld P s f ft fo] [hz : TAggr P ft] [hn : TSize P ft z] {cs' : List XC} (hc : (cs.drop fo).take z = cs')
    (hk : SK P ops nt L l ((d, .agg cs') :: al) hs fun bs => K (quiet :: bs)) : SK P ops nt L (o :: l) al hs K := by
  obtain ⟨fd, h1, h2, h3⟩ := hf.ex
  exact SK.lift hd hlt (fun _ => OpStep.pure hw (by rw [ho]; simp only [xpure, xfield, h1, ha, h2, h3, xpart, hz.out, hn.out, hc, Option.map_some, X1.toV])) hk
theorem sk_ext {a : Operand} {i : Nat} (ho : o.op = .extract a i) (hw : xwanted ops (rg al) o = some true) (hd : o.dst = some d) (hlt : Nat.blt d nt = true) {vs : List X1} (ha : xeval (rg al) a = .tup vs) {c : XC} (hc : vs[i]? = some (.one c))
    (hk : SK P ops nt L l ((d, .one c) :: al) hs fun bs => K (quiet :: bs)) : SK P ops nt L (o :: l) al hs K :=
  SK.lift hd hlt (fun _ => OpStep.pure hw (by rw [ho]; simp only [xpure, ha, xextract, hc, Option.map_some, X1.toV])) hk
theorem sk_exta {a : Operand} {i : Nat} (ho : o.op = .extract a i) (hw : xwanted ops (rg al) o = some true) (hd : o.dst = some d) (hlt : Nat.blt d nt = true) {vs : List X1} (ha : xeval (rg al) a = .tup vs) {c : List XC} (hc : vs[i]? = some (.agg c))
    (hk : SK P ops nt L l ((d, .agg c) :: al) hs fun bs => K (quiet :: bs)) : SK P ops nt L (o :: l) al hs K :=
  SK.lift hd hlt (fun _ => OpStep.pure hw (by rw [ho]; simp only [xpure, ha, xextract, hc, Option.map_some, X1.toV])) hk
theorem sk_lens {a : Operand} {t : TypeId} {elem : TypeId} (ho : o.op = .call ⟨.builtin .len, #[a], #[t]⟩) (hw : xwanted ops (rg al) o = some true) (hd : o.dst = some d) (hlt : Nat.blt d nt = true) {i off len : Nat} {cap : Cap} (ha : xeval (rg al) a = .one (.slice i off len cap)) [hu : TUnd P t (.slice elem)]
    (hk : SK P ops nt L l ((d, .one (.int .i64 (len : Nat))) :: al) hs fun bs => K (quiet :: bs)) : SK P ops nt L (o :: l) al hs K :=
  SK.lift hd hlt (fun _ => OpStep.pure hw (by rw [ho]; simp [xpure, xbuiltin, ha, xlen, hu.out])) hk

/-! ### Memory -/
theorem sk_load {t : TypeId} {a : Operand} (ho : o.op = .load t a) [ht : TScal P t] (hw : xwanted ops (rg al) o = some true) (hd : o.dst = some d) (hlt : Nat.blt d nt = true) {i off : Nat} (ha : xeval (rg al) a = .one (.ptr i off)) {vs : List XC} {e : TypeId} {opn ro : Bool} (hi : hs[i]? = some (.cells vs e opn ro)) {c : XC} (hc : vs[off]? = some c)
    (hk : SK P ops nt L l ((d, .one c) :: al) hs fun bs => K (⟨false, some i, []⟩ :: bs)) : SK P ops nt L (o :: l) al hs K :=
  SK.lift hd hlt (fun _ => OpStep.load hw ho ha hi (load_one ht.out hc)) hk
theorem sk_loadall {t : TypeId} {a : Operand} {s : Nat} (ho : o.op = .load t a) [ht : TAggr P t] [hs' : TSize P t s] (hw : xwanted ops (rg al) o = some true) (hd : o.dst = some d) (hlt : Nat.blt d nt = true) {i : Nat} (ha : xeval (rg al) a = .one (.ptr i 0)) {vs : List XC} {e : TypeId} {opn ro : Bool} (hi : hs[i]? = some (.cells vs e opn ro)) (hle : s = vs.length)
    (hk : SK P ops nt L l ((d, .agg vs) :: al) hs fun bs => K (⟨false, some i, []⟩ :: bs)) : SK P ops nt L (o :: l) al hs K :=
  SK.lift hd hlt (fun _ => OpStep.load (x := .agg vs) hw ho ha hi (load_all ht.out (by rw [hs'.out, hle]))) hk
theorem sk_loada {t : TypeId} {a : Operand} {s : Nat} (ho : o.op = .load t a) [ht : TAggr P t] [hs' : TSize P t s] (hw : xwanted ops (rg al) o = some true) (hd : o.dst = some d) (hlt : Nat.blt d nt = true) {i off : Nat} (ha : xeval (rg al) a = .one (.ptr i off)) {vs : List XC} {e : TypeId} {opn ro : Bool} (hi : hs[i]? = some (.cells vs e opn ro)) (hle : off + s ≤ vs.length) {cs : List XC} (hc : (vs.drop off).take s = cs)
    (hk : SK P ops nt L l ((d, .agg cs) :: al) hs fun bs => K (⟨false, some i, []⟩ :: bs)) : SK P ops nt L (o :: l) al hs K :=
  SK.lift hd hlt (fun _ => OpStep.load (x := .agg cs) hw ho ha hi (by simp only [xloadAt, ht.out, hs'.out, if_pos hle, hc])) hk
theorem sk_alloc {t : TypeId} {zs : List XC} (ho : o.op = .alloc t) [hz : TZero P t zs] (hw : xwanted ops (rg al) o = some true) (hd : o.dst = some d) (hlt : Nat.blt d nt = true) {n : Nat} (hn : hs.length = n) (hb : Nat.blt n Mem.bound = true) {hs' : Heap} (hh : hs ++ [.cells zs t false false] = hs')
    (hk : SK P ops nt L l ((d, .one (.ptr n 0)) :: al) hs' fun bs => K (⟨true, .none, [n]⟩ :: bs)) : SK P ops nt L (o :: l) al hs K := by
  subst hn hh
  exact SK.lift hd hlt (fun _ => OpStep.alloc hw ho hz.out hb) hk
theorem sk_box {t : TypeId} {y : Operand} (ho : o.op = .box t y) (hw : xwanted ops (rg al) o = some true) (hd : o.dst = some d) (hlt : Nat.blt d nt = true) {cs : List XC} (hy : xcells (xeval (rg al) y) = some cs) {n : Nat} (hn : hs.length = n) (hb : Nat.blt n Mem.bound = true) {hs' : Heap} (hh : hs ++ [.cells cs t false false] = hs')
    (hk : SK P ops nt L l ((d, .one (.ptr n 0)) :: al) hs' fun bs => K (⟨true, .none, [n]⟩ :: bs)) : SK P ops nt L (o :: l) al hs K := by
  subst hn hh
  exact SK.lift hd hlt (fun _ => OpStep.box hw ho hy hb) hk
theorem sk_store {t : TypeId} {a y : Operand} (ho : o.op = .store t a y) [ht : TSize P t 1] (hw : xwanted ops (rg al) o = some true) (hd : o.dst = .none) {i off : Nat} (ha : xeval (rg al) a = .one (.ptr i off)) {c : XC} (hy : xcells (xeval (rg al) y) = some [c]) {vs : List XC} {e : TypeId} {opn : Bool} (hi : hs[i]? = some (.cells vs e opn false)) (hle : off < vs.length)
    {vs' : List XC} (hv : vs.set off c = vs') {hs' : Heap} (hh : hs.set i (.cells vs' e opn false) = hs') (hk : SK P ops nt L l al hs' fun bs => K (⟨true, .none, [i]⟩ :: bs)) : SK P ops nt L (o :: l) al hs K := by
  subst hv hh
  exact SK.lift0 hd (fun _ => OpStep.store hw ho ha hy ht.out hi (by simp only [List.length_cons, List.length_nil]; omega) (store_one hle)) hk
theorem sk_storea {t : TypeId} {a y : Operand} {s : Nat} (ho : o.op = .store t a y) [ht : TSize P t s] (hw : xwanted ops (rg al) o = some true) (hd : o.dst = .none) {i : Nat} (ha : xeval (rg al) a = .one (.ptr i 0)) {cs : List XC} (hy : xcells (xeval (rg al) y) = some cs) {vs : List XC} {e : TypeId} {opn : Bool} (hi : hs[i]? = some (.cells vs e opn false)) (hs1 : s = cs.length) (hs2 : s = vs.length)
    {hs' : Heap} (hh : hs.set i (.cells cs e opn false) = hs') (hk : SK P ops nt L l al hs' fun bs => K (⟨true, .none, [i]⟩ :: bs)) : SK P ops nt L (o :: l) al hs K := by
  subst hh
  exact SK.lift0 hd (fun _ => OpStep.store hw ho ha hy (by rw [ht.out, hs1]) hi (by omega) (store_all (by omega))) hk
theorem sk_storep {t : TypeId} {a y : Operand} {s : Nat} (ho : o.op = .store t a y) [ht : TSize P t s] (hw : xwanted ops (rg al) o = some true) (hd : o.dst = .none) {i off : Nat} (ha : xeval (rg al) a = .one (.ptr i off)) {cs : List XC} (hy : xcells (xeval (rg al) y) = some cs) {vs : List XC} {e : TypeId} {opn : Bool} (hi : hs[i]? = some (.cells vs e opn false)) (hs1 : s = cs.length) (hs2 : off + s ≤ vs.length)
    {vs' : List XC} (hv : vs.take off ++ cs ++ vs.drop (off + s) = vs') {hs' : Heap} (hh : hs.set i (.cells vs' e opn false) = hs') (hk : SK P ops nt L l al hs' fun bs => K (⟨true, .none, [i]⟩ :: bs)) : SK P ops nt L (o :: l) al hs K := by
  subst hh
  exact SK.lift0 hd (fun _ => OpStep.store hw ho ha hy (by rw [ht.out, hs1]) hi (by omega) (by rw [← hs1]; exact hv)) hk

theorem sk_skip (hw : xwanted ops (rg al) o = some false) (hd : o.dst = some d) (hlt : Nat.blt d nt = true) (hk : SK P ops nt L l ((d, .tup []) :: al) hs fun bs => K (quiet :: bs)) : SK P ops nt L (o :: l) al hs K :=
  SK.lift hd hlt (fun _ => OpStep.skip hw) hk
theorem sk_skip0 (hw : xwanted ops (rg al) o = some false) (hd : o.dst = .none) (hk : SK P ops nt L l al hs fun bs => K (quiet :: bs)) : SK P ops nt L (o :: l) al hs K :=
  SK.lift0 hd (fun _ => OpStep.skip hw) hk
theorem sk_pure (hw : xwanted ops (rg al) o = some true) (hd : o.dst = some d) (hlt : Nat.blt d nt = true) {x : XV} (h : xpure P (xeval (rg al)) o.op = some x) (hk : SK P ops nt L l ((d, x) :: al) hs fun bs => K (quiet :: bs)) : SK P ops nt L (o :: l) al hs K :=
  SK.lift hd hlt (fun _ => OpStep.pure hw h) hk
theorem sk_last (hc : Consistent L) (h : K [] al hs) : SK P ops nt L [] al hs K := SK.nil hc h

theorem XC.ren_id : ∀ c : XC, c.ren id = c := by
  intro c
  induction c with
  | bind g c ih1 ih2 => simp only [XC.ren, ih1, ih2]
  | _ => rfl
theorem X1.ren_id (x : X1) : x.ren id = x := by
  cases x with
  | one c => simp only [X1.ren, XC.ren_id]
  | agg cs => simp only [X1.ren]; rw [show (fun c : XC => c.ren id) = id from funext XC.ren_id, List.map_id]
theorem XObj.ren_id (x : XObj) : x.ren id = x := by
  cases x with
  | dead => rfl
  | cells vs e a b => simp only [XObj.ren]; rw [show (fun c : XC => c.ren id) = id from funext XC.ren_id, List.map_id]
  | map es => simp only [XObj.ren, X1.ren_id]; simp
theorem XV.ren_id (x : XV) : x.ren id = x := by
  cases x with
  | undef => rfl
  | one c => simp only [XV.ren, XC.ren_id]
  | agg cs => simp only [XV.ren]; rw [show (fun c : XC => c.ren id) = id from funext XC.ren_id, List.map_id]
  | tup xs => simp only [XV.ren]; rw [show (fun c : X1 => c.ren id) = id from funext X1.ren_id, List.map_id]

section
variable {K : Post1}
theorem WX.bodyOf {fn : Func} {c : Code} (h : fn.body = some c) (hk : WX P nt nI (.code c) al hs K) : WX P nt nI (.code (fn.body.getD .skip)) al hs K := by
  rw [h]; exact hk
theorem WX.condT {c : Operand} {x y : Code} (hc : xeval (rg al) c = .one (.bool true)) (h : WX P nt nI (.code x) al hs K) : WX P nt nI (.code (.cond c x y)) al hs K :=
  WX.cond hc (fun _ => h) (fun h => by cases h)
theorem WX.condF {c : Operand} {x y : Code} (hc : xeval (rg al) c = .one (.bool false)) (h : WX P nt nI (.code y) al hs K) : WX P nt nI (.code (.cond c x y)) al hs K :=
  WX.cond hc (fun h => by cases h) (fun _ => h)

theorem kcon_of {fn : Func} {n : Nat} {e : XE} {v1 v : XV} {hs' : Heap} (τ : Nat → Nat) (he : e = .normal ∨ e = .ret) (hr : ResX P fn al hs v1) (hv : v1 = v.ren τ) (hok : v.okN hs'.length) (hview : View τ hs hs') (hid : ∀ j, j < n → τ j = j) : KCon P fn n v hs' e al hs :=
  ⟨he, v1, τ, hr, hv, hok, hview, hid⟩
/-- The end of a function that names no memory. -/
theorem kcon_pure {fn : Func} {e : XE} {v1 v : XV} (he : e = .normal ∨ e = .ret) (hr : ResX P fn al hs v1) (hv : v1 = v) (hs' : v.shut = true) : KCon P fn 0 v [] e al hs :=
  ⟨he, v1, id, hr, by rw [XV.ren_shut hs']; exact hv, XV.okN_shut hs' _, view_nil _ _, fun _ h => absurd h (Nat.not_lt_zero _)⟩
/-- The end of a function that leaves its objects as they are in 'hs0': what it has made itself is forgotten. -/
theorem kcon_leave {fn : Func} {e : XE} {v1 v : XV} {hs0 junk : Heap} (he : e = .normal ∨ e = .ret) (hr : ResX P fn al hs v1) (hv : v1 = v) (hs' : v.okN hs0.length) (hh : hs = hs0 ++ junk) (hok : ∀ o ∈ hs0, o.okN hs0.length) {n : Nat} : KCon P fn n v hs0 e al hs := by
  subst hh
  refine ⟨he, v1, id, hr, by rw [XV.ren_id]; exact hv, hs', ⟨fun j hj => by simp; omega, fun _ _ _ _ h => h, fun j o h => hok o (List.mem_of_getElem? h), fun j o h => .inr ?_⟩, fun _ _ => rfl⟩
  have hj : j < hs0.length := (List.getElem?_eq_some_iff.1 h).1
  show (hs0 ++ junk)[j]? = _
  rw [XObj.ren_id, List.getElem?_append_left hj]
  exact h
theorem resT {fn : Func} {v : XV} (h : xresults P fn (rg al) Mem.empty = some v) (hm : ∀ m, xresults P fn (rg al) m = xresults P fn (rg al) Mem.empty) : ResX P fn al hs v := fun m _ => (hm m).trans h
end

end Go.Xm
