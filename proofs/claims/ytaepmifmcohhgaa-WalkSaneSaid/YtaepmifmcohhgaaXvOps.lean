/-
  The second machine, with variables in its states: arithmetic of all kinds of integers, slices with windows, append.
-/
import Derived.Test.YtaepmifmcohhgaaXvFlow
namespace Go.Xm
set_option linter.unusedSectionVars false
set_option linter.unusedVariables false
variable [Atoms]
variable {P : Program} {ops : Array Oper} {nt nI : Nat} {al : Regs} {hs : Heap} {o : Oper} {l : List Oper} {L : List Inst} {K : List Ab → Regs → Heap → Prop} {d : Nat}

/-- A type's size in cells; its bytes are few. -/
class TI (P : Program) (t : TypeId) (s : outParam Nat) : Prop where out : (P.info? t).elim false (fun i => Nat.beq i.size s && Nat.ble i.bytes 65536) = true
theorem TI.get {P : Program} {t : TypeId} {s : Nat} [h : TI P t s] : ∃ ti, P.info? t = some ti ∧ ti.size = s ∧ ti.bytes ≤ 65536 := by
  have h := h.out
  cases hi : P.info? t with
  | none => rw [hi] at h; cases h
  | some ti =>
    rw [hi] at h
    simp only [Option.elim, Bool.and_eq_true] at h
    exact ⟨ti, rfl, Nat.eq_of_beq_eq_true h.1, Nat.le_of_ble_eq_true h.2⟩
/-! ### Integers -/
/-- A number that its kind holds. -/
def inK (k : IntKind) (z : Int) : Prop := match k with
  | .i8 => -128 ≤ z ∧ z < 128
  | .i16 => -32768 ≤ z ∧ z < 32768
  | .i32 => -2147483648 ≤ z ∧ z < 2147483648
  | .i64 => -9223372036854775808 ≤ z ∧ z < 9223372036854775808
  | .u8 => 0 ≤ z ∧ z < 256
  | .u16 => 0 ≤ z ∧ z < 65536
  | .u32 => 0 ≤ z ∧ z < 4294967296
  | .u64 => 0 ≤ z ∧ z < 18446744073709551616
theorem inK_wrap {k : IntKind} {z : Int} (h : inK k z) : k.wrap z = z := by
  cases k <;> simp only [inK] at h <;> simp only [IntKind.wrap, IntKind.bits, IntKind.signed] <;> simp <;> omega
theorem inK_lt {k : IntKind} {z : Int} (h : inK k z) : z < 2 ^ k.bits := by
  cases k <;> simp only [inK] at h <;> simp only [IntKind.bits] <;> omega
theorem inK_mid {k : IntKind} {z w : Int} (h : inK k z) (h0 : 0 ≤ w) (h1 : w ≤ z) : inK k w := by
  cases k <;> simp only [inK] at h ⊢ <;> omega
theorem inK_small {k : IntKind} {z : Int} (h0 : 0 ≤ z) (h1 : z < 2 ^ (k.bits - 1)) : inK k z := by
  cases k <;> simp only [inK, IntKind.bits] at h1 ⊢ <;> omega
theorem quoK {k : IntKind} {x y : Int} (hk : inK k x) (hx : 0 ≤ x) (hy : 0 < y) : xbinInt .quo k k x y = some (.int k (x / y)) := by
  have h0 : y ≠ 0 := by omega
  have h1 : x.tdiv y = x / y := Int.tdiv_eq_ediv_of_nonneg hx
  have h2 : 0 ≤ x / y := Int.ediv_nonneg hx (by omega)
  have h3 : x / y ≤ x := Int.ediv_le_self _ hx
  simp only [xbinInt, xsame, if_true, h0, if_false, xwrap_eq, h1, inK_wrap (inK_mid hk h2 h3)]
theorem shrK {k k' : IntKind} {x y : Int} (hk : inK k x) (hx : 0 ≤ x) (hy : 0 ≤ y) : xbinInt .shr k k' x y = some (.int k (x / 2 ^ y.toNat)) := by
  have h0 : ¬ y < 0 := by omega
  simp only [xbinInt, h0, if_false, pow_cast]
  have hp : ∀ n : Nat, (0 : Int) < 2 ^ n := fun n => Int.pow_pos (by omega)
  rw [Int.fdiv_eq_ediv_of_nonneg _ (Int.le_of_lt (hp _))]
  by_cases h : y.toNat ≤ k.bits
  · rw [Nat.min_eq_left h]
  · have h' : k.bits ≤ y.toNat := by omega
    rw [Nat.min_eq_right h']
    have hlt := inK_lt hk
    have e1 : x / 2 ^ k.bits = 0 := Int.ediv_eq_zero_of_lt hx hlt
    have e2 : x / 2 ^ y.toNat = 0 := by
      refine Int.ediv_eq_zero_of_lt hx (Int.lt_of_lt_of_le hlt ?_)
      exact_mod_cast Nat.pow_le_pow_right (by omega) h'
    rw [e1, e2]
theorem shlK {k k' : IntKind} {x y : Int} {n : Nat} (hn : y = (n : Nat)) (hb : n ≤ k.bits) (h : inK k (x * 2 ^ n)) : xbinInt .shl k k' x y = some (.int k (x * 2 ^ n)) := by
  subst hn
  have h0 : ¬ ((n : Nat) : Int) < 0 := by omega
  simp only [xbinInt, h0, if_false, pow_cast, Int.toNat_natCast, Nat.min_eq_left hb, xwrap_eq, inK_wrap h]
theorem andK {k : IntKind} {x y : Int} (n : Nat) (hy : y = 2 ^ n - 1) (hn : n < k.bits) : xbinInt .and k k x y = some (.int k (x % 2 ^ n)) := by
  have hp : (0 : Int) < 2 ^ n := Int.pow_pos (by omega)
  have hle : (2 : Int) ^ n ≤ 2 ^ k.bits := by exact_mod_cast Nat.pow_le_pow_right (by omega) (by omega)
  have hle1 : (2 : Int) ^ n ≤ 2 ^ (k.bits - 1) := by exact_mod_cast Nat.pow_le_pow_right (by omega) (by omega)
  have hm0 := Int.emod_nonneg x (show (2 : Int) ^ n ≠ 0 by omega)
  have hm1 := Int.emod_lt_of_pos x hp
  have key : (((BitVec.ofInt k.bits x &&& BitVec.ofInt k.bits y).toNat : Nat) : Int) = x % 2 ^ n := by
    rw [BitVec.toNat_and, BitVec.toNat_ofInt, BitVec.toNat_ofInt]
    have e1 : (y % ((2 ^ k.bits : Nat) : Int)).toNat = 2 ^ n - 1 := by
      have e : y % ((2 ^ k.bits : Nat) : Int) = y := Int.emod_eq_of_lt (by omega) (by push_cast; omega)
      rw [e, hy]
      have : ((2 ^ n : Nat) : Int) = 2 ^ n := by push_cast; rfl
      omega
    rw [e1, Nat.and_two_pow_sub_one_eq_mod]
    push_cast
    rw [Int.toNat_of_nonneg (Int.emod_nonneg _ (by have : (0 : Int) < 2 ^ k.bits := Int.pow_pos (by omega); omega))]
    exact Int.emod_emod_of_dvd x ⟨2 ^ (k.bits - n), by rw [← Int.pow_add]; congr 1; omega⟩
  simp only [xbinInt, xsame, if_true, xwrap_eq]
  rw [key, inK_wrap (inK_small hm0 (by omega))]

/-- Bits that differ; bits of either. -/
def ixor (k : IntKind) (x y : Int) : Int := k.wrap ((BitVec.ofInt k.bits x ^^^ BitVec.ofInt k.bits y).toNat)
def ior (k : IntKind) (x y : Int) : Int := k.wrap ((BitVec.ofInt k.bits x ||| BitVec.ofInt k.bits y).toNat)
def iand (k : IntKind) (x y : Int) : Int := k.wrap ((BitVec.ofInt k.bits x &&& BitVec.ofInt k.bits y).toNat)
/-- What a comparison says. -/
def cmpP (op : BinOp) (x y : Int) : Option Prop := match op with
  | .eql => some (x = y)
  | .neq => some (x ≠ y)
  | .lss => some (x < y)
  | .leq => some (x ≤ y)
  | .gtr => some (y < x)
  | .geq => some (y ≤ x)
  | _ => .none
theorem cmp_bin {op : BinOp} {k : IntKind} {x y : Int} {p : Prop} (hp : cmpP op x y = some p) : (p → xbinInt op k k x y = some (.bool true)) ∧ (¬ p → xbinInt op k k x y = some (.bool false)) := by
  cases op <;> simp only [cmpP] at hp <;> first | (cases hp; done) | (cases hp; constructor <;> intro h <;> simp_all [xbinInt, xsame])
theorem sk_cmp {t t' : TypeId} {a b : Operand} {op : BinOp} {k : IntKind} {x y : Int} {p : Prop} (ho : o.op = .binOp op t a b t') (hw : xwanted ops (rg al) o = some true) (hd : o.dst = some d) (hlt : Nat.blt d nt = true) (ha : xeval (rg al) a = .one (.int k x)) (hb : xeval (rg al) b = .one (.int k y)) (hp : cmpP op x y = some p)
    (h1 : p → SK P ops nt L l ((d, .one (.bool true)) :: al) hs fun bs => K (quiet :: bs)) (h2 : ¬p → SK P ops nt L l ((d, .one (.bool false)) :: al) hs fun bs => K (quiet :: bs)) : SK P ops nt L (o :: l) al hs K := by
  by_cases h : p
  · exact SK.lift hd hlt (fun _ => OpStep.bin hw ho ha hb ((cmp_bin hp).1 h)) (h1 h)
  · exact SK.lift hd hlt (fun _ => OpStep.bin hw ho ha hb ((cmp_bin hp).2 h)) (h2 h)

/-! ### Slices with windows -/
/-- A slice whose elements lie in an object from a place on; no more is known of an empty one. -/
def SlOf (c : XC) (i off n : Nat) : Prop := (n = 0 ∧ (c = .nils ∨ ∃ o cap, c = .slice i o 0 (.exact cap))) ∨ ∃ cap, n ≤ cap ∧ c = .slice i off n (.exact cap)
theorem SlOf.nil {i off : Nat} : SlOf .nils i off 0 := .inl ⟨rfl, .inl rfl⟩
theorem SlOf.mk {i off n cap : Nat} (h : n ≤ cap) : SlOf (.slice i off n (.exact cap)) i off n := .inr ⟨cap, h, rfl⟩
theorem SlOf.same {c : XC} {i off n i' off' n' : Nat} (h : SlOf c i off n) (h' : SlOf c i' off' n') : n = n' ∧ (n = 0 ∨ (off = off' ∧ i = i')) := by
  rcases h with ⟨rfl, rfl | ⟨o, cap, rfl⟩⟩ | ⟨cap, h1, rfl⟩
  · rcases h' with ⟨rfl, _⟩ | ⟨cap, h1, e⟩
    · exact ⟨rfl, .inl rfl⟩
    · cases e
  · rcases h' with ⟨rfl, _⟩ | ⟨cap', h1, e⟩
    · exact ⟨rfl, .inl rfl⟩
    · cases e; exact ⟨rfl, .inl rfl⟩
  · rcases h' with ⟨rfl, e | ⟨o, cap, e⟩⟩ | ⟨cap', h1, e⟩
    · cases e
    · cases e; exact ⟨rfl, .inl rfl⟩
    · cases e; exact ⟨rfl, .inr ⟨rfl, rfl⟩⟩
theorem SlOf.ok {c : XC} {i off n m : Nat} (h : SlOf c i off n) (hi : i < m) : c.ok m := by
  rcases h with ⟨_, rfl | ⟨o, cap, rfl⟩⟩ | ⟨cap, _, rfl⟩
  · trivial
  · exact hi
  · exact hi
theorem SlOf.ren {c : XC} {i off n : Nat} (h : SlOf c i off n) (τ : Nat → Nat) : SlOf (c.ren τ) (τ i) off n := by
  rcases h with ⟨rfl, rfl | ⟨o, cap, rfl⟩⟩ | ⟨cap, h1, rfl⟩
  · exact .inl ⟨rfl, .inl rfl⟩
  · exact .inl ⟨rfl, .inr ⟨o, cap, rfl⟩⟩
  · exact .inr ⟨cap, h1, rfl⟩

theorem SlOf.id {c : XC} {i off n : Nat} (h : SlOf c i off n) {τ : Nat → Nat} (hi : τ i = i) : c.ren τ = c := by
  rcases h with ⟨rfl, rfl | ⟨o, cap, rfl⟩⟩ | ⟨cap, h1, rfl⟩
  · rfl
  · simp only [XC.ren, hi]
  · simp only [XC.ren, hi]
theorem RegsVia.sl {τ : Nat → Nat} {al : Regs} {t : Nat} {c : XC} {r : Regs} {i off n : Nat} (h : rg al t = .one c) (hs : SlOf c i off n) (hi : τ i = i) (hr : RegsVia τ al r) : RegsVia τ al ((t, .one c) :: r) :=
  .cons (by simp only [XV.ren, hs.id hi]; exact h) hr

theorem RegsVia.slvE {τ : Nat → Nat} {al : Regs} {t k k' n n' sz : Nat} {r : Regs} (h : rg al t = slv k' n' sz) (hk : τ k = k') (hn : n' = n) (hr : RegsVia τ al r) : RegsVia τ al ((t, slv k n sz) :: r) :=
  .cons (by rw [slv_ren, hk, ← hn]; exact h) hr

theorem sk_lenS {a : Operand} {t elem : TypeId} (ho : o.op = .call ⟨.builtin .len, #[a], #[t]⟩) (hw : xwanted ops (rg al) o = some true) (hd : o.dst = some d) (hlt : Nat.blt d nt = true) {c : XC} (ha : xeval (rg al) a = .one c) [hu : TUnd P t (.slice elem)] {i off n : Nat} (hc : SlOf c i off n)
    (hk : SK P ops nt L l ((d, .one (.int .i64 (n : Nat))) :: al) hs fun bs => K (quiet :: bs)) : SK P ops nt L (o :: l) al hs K := by
  rcases hc with ⟨rfl, rfl | ⟨o, cap, rfl⟩⟩ | ⟨cap, _, rfl⟩
  all_goals exact SK.lift hd hlt (fun _ => OpStep.pure hw (by rw [ho]; simp [xpure, xbuiltin, ha, xlen, hu.out])) hk
theorem sk_lenV {a : Operand} {t elem : TypeId} (ho : o.op = .call ⟨.builtin .len, #[a], #[t]⟩) (hw : xwanted ops (rg al) o = some true) (hd : o.dst = some d) (hlt : Nat.blt d nt = true) {i n sz : Nat} (ha : xeval (rg al) a = slv i n sz) [hu : TUnd P t (.slice elem)]
    (hk : SK P ops nt L l ((d, .one (.int .i64 (n : Nat))) :: al) hs fun bs => K (quiet :: bs)) : SK P ops nt L (o :: l) al hs K := by
  unfold slv slc at ha
  split at ha
  · rename_i h
    subst h
    exact SK.lift hd hlt (fun _ => OpStep.pure hw (by rw [ho]; simp [xpure, xbuiltin, ha, xlen, hu.out])) hk
  · exact SK.lift hd hlt (fun _ => OpStep.pure hw (by rw [ho]; simp [xpure, xbuiltin, ha, xlen, hu.out])) hk
theorem sk_idxS {t : TypeId} {a b : Operand} {elem : TypeId} {s : Nat} (ho : o.op = .indexAddr t a b) (hw : xwanted ops (rg al) o = some true) (hd : o.dst = some d) (hlt : Nat.blt d nt = true) {c : XC} (ha : xeval (rg al) a = .one c) {k : IntKind} {z : Int} (hb : xeval (rg al) b = .one (.int k z)) [hu : TUnd P t (.slice elem)] [hs' : TSize P elem s] {i off n : Nat} (hc : SlOf c i off n) (hz : 0 ≤ z ∧ z < n)
    {p : Nat} (hp : off + z.toNat * s = p) (hk : SK P ops nt L l ((d, .one (.ptr i p)) :: al) hs fun bs => K (quiet :: bs)) : SK P ops nt L (o :: l) al hs K := by
  rcases hc with ⟨rfl, _⟩ | ⟨cap, _, rfl⟩
  · omega
  · exact SK.lift hd hlt (fun _ => OpStep.pure hw (by rw [ho]; simp only [xpure, xindexAddr, ha, hb, hu.out, hs'.out, if_pos hz, Option.map_some, hp])) hk

/-- A bound of a slice: given, or the one that is meant. -/
def sbnd (x : Option XV) (dflt : Int) : Option Int := match x with
  | .none => some dflt
  | some (.one (.int _ z)) => some z
  | _ => .none
theorem sbnd_lo {x : Option XV} {y p : Nat} (h : sbnd x 0 = some (p : Int)) (hle : p ≤ y) : xbnd x 0 y = some p := by
  unfold sbnd at h
  unfold xbnd
  split at h
  · injection h with h
    have : p = 0 := by omega
    rw [this]
  · rename_i k z
    cases h
    simp only []
    rw [if_pos ⟨by omega, by omega⟩]
    simp
  · cases h
theorem sbnd_hi {x : Option XV} {n y q : Nat} (h : sbnd x (n : Nat) = some (q : Int)) (hle : q ≤ y) : xbnd x n y = some q := by
  unfold sbnd at h
  unfold xbnd
  split at h
  · injection h with h
    have : q = n := by omega
    rw [this]
  · rename_i k z
    cases h
    simp only []
    rw [if_pos ⟨by omega, by omega⟩]
    simp
  · cases h

theorem sk_slS {t e : TypeId} {a : Operand} {lo hi : Option Operand} {s : Nat} (ho : o.op = .slice t a lo hi .none) [hu : TUnd P t (.slice e)] [hs' : TSize P e s] (hw : xwanted ops (rg al) o = some true) (hd : o.dst = some d) (hlt : Nat.blt d nt = true) {i off n p q : Nat} {c : XC} (ha : xeval (rg al) a = .one c) (hc : SlOf c i off n)
    {z w : Int} (hl : sbnd (lo.map (xeval (rg al))) 0 = some z) (hh : sbnd (hi.map (xeval (rg al))) (n : Nat) = some w) (hp : z = (p : Nat)) (hq : w = (q : Nat)) (hb : p ≤ q ∧ q ≤ n) (hk : ∀ c', SlOf c' i (off + p * s) (q - p) → SK P ops nt L l ((d, .one c') :: al) hs fun bs => K (quiet :: bs)) : SK P ops nt L (o :: l) al hs K := by
  subst hp hq
  rcases hc with ⟨rfl, rfl | ⟨o', cap, rfl⟩⟩ | ⟨cap, hcap, rfl⟩
  · obtain ⟨rfl, rfl⟩ : p = 0 ∧ q = 0 := by omega
    have e1 := sbnd_lo (y := 0) hl (by omega)
    have e2 := sbnd_hi (y := 0) hh (by omega)
    exact SK.lift hd hlt (x := .one .nils) (fun _ => OpStep.pure hw (by rw [ho]; simp only [xpure, xslice, hu.out, ha, xbounds, Option.map_none, e1, e2, hs'.out])) (hk _ (.inl ⟨rfl, .inl rfl⟩))
  · obtain ⟨rfl, rfl⟩ : p = 0 ∧ q = 0 := by omega
    have e1 := sbnd_lo (y := 0) hl (by omega)
    have e2 := sbnd_hi (y := cap) hh (by omega)
    refine SK.lift hd hlt (x := .one (.slice i (if cap = 0 then o' else o' + 0 * s) (0 - 0) (.exact (cap - 0)))) (fun _ => OpStep.pure hw (by rw [ho]; simp only [xpure, xslice, hu.out, ha, xbounds, Option.map_none, e1, e2, hs'.out])) (hk _ (.inl ⟨rfl, .inr ⟨_, _, rfl⟩⟩))
  · have e1 := sbnd_lo (y := q) hl (by omega)
    have e2 := sbnd_hi (y := cap) hh (by omega)
    refine SK.lift hd hlt (x := .one (.slice i (if cap = p then off else off + p * s) (q - p) (.exact (cap - p)))) (fun _ => OpStep.pure hw (by rw [ho]; simp only [xpure, xslice, hu.out, ha, xbounds, Option.map_none, e1, e2, hs'.out])) (hk _ ?_)
    by_cases hm : cap = p
    · have hz : q - p = 0 := by omega
      rw [hz]
      exact .inl ⟨rfl, .inr ⟨_, _, rfl⟩⟩
    · rw [if_neg hm]
      exact .inr ⟨cap - p, by omega, rfl⟩

/-! ### New slices -/
theorem sk_bs1 {zs : List XC} {t e : TypeId} {y : Operand} (ho : o.op = .buildSlice t 1 #[(0, y)]) [hu : TUnd P t (.slice e)] [hz : TZero P e zs] [hse : TSize P e 1] (hzl : zs.length = 1) (hw : xwanted ops (rg al) o = some true) (hd : o.dst = some d) (hlt : Nat.blt d nt = true) {c : XC} (hy : xcells (xeval (rg al) y) = some [c]) {n : Nat} (hn : hs.length = n) (hb : Nat.blt n Mem.bound = true) {hs' : Heap} (hh : hs ++ [.cells [c] e false false] = hs')
    (hk : SK P ops nt L l ((d, .one (.slice n 0 1 (.exact 1))) :: al) hs' fun bs => K (⟨true, .none, [n]⟩ :: bs)) : SK P ops nt L (o :: l) al hs K := by
  subst hn hh
  refine SK.lift hd hlt (fun _ => ?_) hk
  intro m hm
  obtain ⟨m', h1, h2, h3⟩ := hm.push (.cells [c] e false false) (by simpa [Nat.blt_eq] using hb)
  refine ⟨m', ?_, h2, h3⟩
  unfold xdo
  rw [hw]
  refine xact_write (by rw [ho]; rfl) (by rw [ho]; rfl) (by rw [ho]; rfl) ?_
  rw [ho]
  have hf : xfill (fun i => some (i * 1, 1)) (xzeros zs (1 * 1)) [(0, xeval (rg al) y)] = some [c] := by
    simp [xfill, hy, xzeros]
  simp only [xwrite, xbuildSlice, xslElem, hu.out, hse.out, hz.out, List.map_cons, List.map_nil, hzl, h1, hm.n, hf]
  simp

theorem sk_buildF {t : TypeId} {parts : Array (Nat × Operand)} (ho : o.op = .build t parts) {zs : List XC} [hz : TZero P t zs] {pl : List (Nat × Nat)} [hp : TPlaces P t pl] (hw : xwanted ops (rg al) o = some true) (hd : o.dst = some d) (hlt : Nat.blt d nt = true)
    {out : List XC} (hc : xfill (fun i => pl[i]?) zs (parts.toList.map fun p => (p.1, xeval (rg al) p.2)) = some out)
    (hk : SK P ops nt L l ((d, .agg out) :: al) hs fun bs => K (quiet :: bs)) : SK P ops nt L (o :: l) al hs K := by
  obtain ⟨fs, h1, h2⟩ := hp.out
  exact SK.lift hd hlt (fun _ => OpStep.pure hw (by rw [ho]; simp only [xpure, xbuild, hz.out, h1, h2, hc, Option.map_some])) hk

/-- 'append' to a list that grows. -/
theorem sk_apG {t t1 e : TypeId} {sz m : Nat} {a b : Operand} (ho : o.op = .call ⟨.builtin .append, #[a, b], #[t, t1]⟩) {zs : List XC} [hu : TUnd P t (.slice e)] [hz : TZero P e zs] [hI : TI P e sz] (hw : xwanted ops (rg al) o = some true) (hd : o.dst = some d) (hlt : Nat.blt d nt = true)
    (hsz : zs.length = sz ∧ 0 < sz) {i n : Nat} {cs ds : List XC} (ha : xeval (rg al) a = slv i n sz) (hi : hs[i]? = some (slo e cs)) (hn : cs.length = n * sz) (hsrc : ∀ M, Holds M hs → xsrc P t1 sz (xeval (rg al) b) M = some (m, ds)) (hm : 0 < m ∧ n + m ≤ 2000000000)
    {N : Nat} (hN : hs.length = N) (hb : Nat.blt N Mem.bound = true) {hs' : Heap} (hh : hs.set i .dead ++ [.cells (cs ++ ds) e true false] = hs')
    (hk : SK P ops nt L l ((d, .one (.slice N 0 (n + m) (.toEnd sz))) :: al) hs' fun bs => K (⟨true, .none, [i, N]⟩ :: bs)) : SK P ops nt L (o :: l) al hs K := by
  subst hN hh
  obtain ⟨ti, hti, rfl, hby⟩ := hI.get
  obtain ⟨z1, z2⟩ := hsz
  have hbytes : (n + m) * ti.bytes ≤ 140737488355328 := Nat.le_trans (Nat.mul_le_mul_left _ hby) (by omega)
  have hsmall : hs.length < Mem.bound := by simpa [Nat.blt_eq] using hb
  refine SK.lift hd hlt (fun _ => ?_) hk
  intro M hM
  have hx := hsrc M hM
  by_cases h0 : n = 0
  · subst h0
    have hcs : cs = [] := List.length_eq_zero_iff.1 (by simpa using hn)
    subst hcs
    have hdead : hs.set i .dead = hs := by
      apply List.ext_getElem?
      intro j
      by_cases hj : i = j
      · subst hj
        rw [hi, List.getElem?_set_self (List.getElem?_eq_some_iff.1 hi).1]
        rfl
      · rw [List.getElem?_set_ne hj]
    rw [hdead]
    obtain ⟨m', h1, h2, h3⟩ := hM.push (.cells ds e true false) hsmall
    refine ⟨m', ?_, by simpa using h2, fun j hj => h3 j (by simp at hj ⊢; exact hj.2)⟩
    unfold xdo
    rw [hw]
    refine xact_write (by rw [ho]; rfl) (by rw [ho]; rfl) (by rw [ho]; rfl) ?_
    rw [ho]
    have hm0 : ¬ m = 0 := by omega
    have hb1 : m ≤ 9223372036854775807 ∧ m * ti.bytes ≤ 140737488355328 := ⟨by omega, by simpa using hbytes⟩
    have ha' : xeval (rg al) a = .one .nils := ha
    simp only [xwrite, xappend, xslElem, hu.out, hti, hz.out, ha', hx, hm0, if_false, List.getElem?_toArray, List.getElem?_cons_zero, List.getElem?_cons_succ]
    rw [if_pos ⟨z1, z2⟩]
    simp only [hb1, and_self, if_true, h1, hM.n, Nat.zero_add]
  · have hcs : cs ≠ [] := fun h => by
      subst h
      have : n * ti.size = 0 := by simpa using hn.symm
      rcases Nat.mul_eq_zero.1 this with h | h <;> omega
    rw [slo_pos hcs] at hi
    rw [slv_pos h0] at ha
    have hput := hM.put hi .dead
    obtain ⟨m', h1, h2, h3⟩ := hput.push (.cells (cs ++ ds) e true false) (by rw [List.length_set]; exact hsmall)
    refine ⟨m', ?_, h2, fun j hj => ?_⟩
    · unfold xdo
      rw [hw]
      refine xact_write (by rw [ho]; rfl) (by rw [ho]; rfl) (by rw [ho]; rfl) ?_
      rw [ho]
      have hm0 : ¬ m = 0 := by omega
      have hb1 : True ∧ n + m ≤ 9223372036854775807 ∧ (n + m) * ti.bytes ≤ 140737488355328 := ⟨trivial, by omega, hbytes⟩
      simp only [xwrite, xappend, xslElem, hu.out, hti, hz.out, ha, hx, hm0, if_false, List.getElem?_toArray, List.getElem?_cons_zero, List.getElem?_cons_succ]
      rw [if_pos ⟨z1, z2⟩]
      simp only [hM.at hi]
      rw [if_pos hb1, if_pos ⟨trivial, hn, trivial, trivial⟩]
      simp only [h1, hM.n]
    · simp only [List.mem_cons, List.not_mem_nil, or_false, not_or] at hj
      rw [h3 j (by rw [List.length_set]; simpa using hj.2), put_ver j (by simpa using hj.1)]
end Go.Xm
