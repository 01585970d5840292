/-
  The second machine, with variables in its states: single operations.
-/
import Derived.Test.YtaepmifmcohhgaaXwStep
namespace Go.Xm
set_option linter.unusedSectionVars false
variable [Atoms]

theorem Holds.at {m : Mem} {hs : Heap} (h : Holds m hs) {i : Nat} {o : XObj} (ho : hs[i]? = some o) : m.get i = o := by
  have hi : i < m.n := by
    have := (List.getElem?_eq_some_iff.1 ho).1
    rw [h.n]; exact this
  rw [h.get i hi, List.getD_eq_getElem?_getD, ho]; rfl

theorem Holds.lt {m : Mem} {hs : Heap} (h : Holds m hs) {i : Nat} {o : XObj} (ho : hs[i]? = some o) : i < m.n ∧ i < Mem.bound := by
  have := (List.getElem?_eq_some_iff.1 ho).1
  have h1 := h.n
  have h2 := h.bnd
  omega

theorem Holds.put {m : Mem} {hs : Heap} (h : Holds m hs) {i : Nat} {o : XObj} (ho : hs[i]? = some o) (o' : XObj) : Holds (m.put i o') (hs.set i o') := by
  obtain ⟨h1, h2⟩ := h.lt ho
  refine ⟨by rw [Mem.n_put, List.length_set]; exact h.n, by rw [Mem.n_put]; exact h.bnd, Fresh.put h.fresh o', fun j hj => ?_⟩
  rw [Mem.n_put] at hj
  by_cases hji : j = i
  · subst hji
    rw [Mem.get_put_eq m o' h1 h2]
    have : j < hs.length := by rw [← h.n]; exact hj
    simp [List.getD_eq_getElem?_getD, this]
  · rw [Mem.get_put_ne m o' hji, h.get j hj]
    simp [List.getD_eq_getElem?_getD, List.getElem?_set_ne (Ne.symm hji)]

theorem put_ver {m : Mem} {i : Nat} {o : XObj} : ∀ j, j ∉ [i] → ((m.put i o).ent j).ver = (m.ent j).ver := by
  intro j hj
  rw [Mem.ent_put_ne m o (by simpa using hj)]

theorem Holds.push {m : Mem} {hs : Heap} (h : Holds m hs) (o : XObj) (hb : hs.length < Mem.bound) : ∃ m', m.push o = some m' ∧ Holds m' (hs ++ [o]) ∧ ∀ j, j ∉ [hs.length] → (m'.ent j).ver = (m.ent j).ver := by
  have hn := h.n
  obtain ⟨m', hp⟩ : ∃ m', m.push o = some m' := by
    unfold Mem.push
    rw [if_pos (by omega)]
    exact ⟨_, rfl⟩
  obtain ⟨_, h2, h3, h4⟩ := Mem.push_spec hp
  refine ⟨m', hp, ⟨by rw [h2, hn]; simp, by omega, Fresh.push h.fresh hp, fun j hj => ?_⟩, fun j hj => ?_⟩
  · by_cases hjn : j = m.n
    · subst hjn
      unfold Mem.get
      rw [h3, hn]
      simp [List.getD_eq_getElem?_getD]
    · have : m'.get j = m.get j := by unfold Mem.get; rw [h4 j hjn]
      rw [this, h.get j (by omega), List.getD_eq_getElem?_getD, List.getD_eq_getElem?_getD, List.getElem?_append_left (by omega)]
  · rw [h4 j (by rw [hn]; simpa using hj)]

section
variable {O : Orc} {P : Program} {ops : Array Oper} {al : Regs} {hs : Heap} {o : Oper}

abbrev quiet : Ab := ⟨false, .none, []⟩

theorem OpStep.skip (hw : xwanted ops (rg al) o = some false) : OpStep O P ops al hs o (.tup []) hs quiet :=
  fun m hm => ⟨m, by unfold xdo; rw [hw], hm, fun _ _ => rfl⟩

theorem OpStep.pure (hw : xwanted ops (rg al) o = some true) {x : XV} (h : xpure P (xeval (rg al)) o.op = some x) : OpStep O P ops al hs o x hs quiet :=
  fun m hm => ⟨m, by unfold xdo; rw [hw]; simp only [xact, xpureO, h], hm, fun _ _ => rfl⟩

theorem xact_read (hop : xpure P (xeval (rg al)) o.op = .none) (hx : xorc O (xeval (rg al)) o.op = .none) {i : Nat} {f : XObj → Option XV} (hr : xread P (xeval (rg al)) o.op = some (i, f)) {x : XV} {m : Mem} (hf : f (m.get i) = some x) :
    xact O P (xeval (rg al)) o.op m = some ⟨x, m, false, some i⟩ := by
  simp only [xact, xpureO, hop, hx, hr, hf]

theorem OpStep.load (hw : xwanted ops (rg al) o = some true) {t : TypeId} {a : Operand} (ho : o.op = .load t a) {i off : Nat} (ha : xeval (rg al) a = .one (.ptr i off)) {vs : List XC} {e : TypeId} {opn ro : Bool} (hi : hs[i]? = some (.cells vs e opn ro)) {x : X1} (hl : xloadAt P t vs off = some x) :
    OpStep O P ops al hs o x.toV hs ⟨false, some i, []⟩ := by
  intro m hm
  refine ⟨m, ?_, hm, fun _ _ => rfl⟩
  unfold xdo
  rw [hw]
  obtain ⟨f, hf1, hf2⟩ : ∃ f, xread P (xeval (rg al)) o.op = some (i, f) ∧ ∀ vs' e' o' r', f (.cells vs' e' o' r') = (xloadAt P t vs' off).map X1.toV := by
    rw [ho]
    simp only [xread, ha]
    exact ⟨_, rfl, fun _ _ _ _ => rfl⟩
  refine xact_read (by rw [ho]; rfl) (by rw [ho]; rfl) hf1 ?_
  rw [hm.at hi, hf2, hl]
  rfl

theorem load_one {t : TypeId} {vs : List XC} {off : Nat} {c : XC} (h : xisAgg P t = some false) (hc : vs[off]? = some c) : xloadAt P t vs off = some (.one c) := by
  unfold xloadAt; rw [h, hc]
theorem load_all {t : TypeId} {vs : List XC} (h : xisAgg P t = some true) (hs : xsize P t = some vs.length) : xloadAt P t vs 0 = some (.agg vs) := by
  unfold xloadAt; rw [h, hs]; simp

theorem xact_write (hop : xpure P (xeval (rg al)) o.op = .none) (hx : xorc O (xeval (rg al)) o.op = .none) (hr : xread P (xeval (rg al)) o.op = .none) {x : XV} {m m' : Mem} (hf : xwrite P (xeval (rg al)) o.op m = some (x, m')) :
    xact O P (xeval (rg al)) o.op m = some ⟨x, m', true, .none⟩ := by
  simp only [xact, xpureO, hop, hx, hr, hf]

theorem OpStep.store (hw : xwanted ops (rg al) o = some true) {t : TypeId} {a y : Operand} (ho : o.op = .store t a y) {i off : Nat} (ha : xeval (rg al) a = .one (.ptr i off)) {cs : List XC} (hy : xcells (xeval (rg al) y) = some cs) (hsz : xsize P t = some cs.length)
    {vs : List XC} {e : TypeId} {opn : Bool} (hi : hs[i]? = some (.cells vs e opn false)) (hle : off + cs.length ≤ vs.length) {vs' : List XC} (hv : vs.take off ++ cs ++ vs.drop (off + cs.length) = vs') :
    OpStep O P ops al hs o (.tup []) (hs.set i (.cells vs' e opn false)) ⟨true, .none, [i]⟩ := by
  intro m hm
  refine ⟨m.put i (.cells vs' e opn false), ?_, hm.put hi _, put_ver⟩
  unfold xdo
  rw [hw]
  refine xact_write (by rw [ho]; rfl) (by rw [ho]; rfl) (by rw [ho]; rfl) ?_
  rw [ho]
  simp only [xwrite, xstore, ha, hy, hsz, if_true, hm.at hi, if_pos hle, hv]

theorem store_one {vs : List XC} {off : Nat} {c : XC} (h : off < vs.length) : vs.take off ++ [c] ++ vs.drop (off + [c].length) = vs.set off c := by
  rw [List.set_eq_take_append_cons_drop, if_pos h]; simp
theorem store_all {vs cs : List XC} (h : cs.length = vs.length) : vs.take 0 ++ cs ++ vs.drop (0 + cs.length) = cs := by simp [h]

theorem OpStep.alloc (hw : xwanted ops (rg al) o = some true) {t : TypeId} (ho : o.op = .alloc t) {zs : List XC} (hz : xzero P t = some zs) (hb : Nat.blt hs.length Mem.bound = true) :
    OpStep O P ops al hs o (.one (.ptr hs.length 0)) (hs ++ [.cells zs t false false]) ⟨true, .none, [hs.length]⟩ := by
  intro m hm
  obtain ⟨m', h1, h2, h3⟩ := hm.push (.cells zs t false false) (by simpa [Nat.blt_eq] using hb)
  refine ⟨m', ?_, h2, h3⟩
  unfold xdo
  rw [hw]
  refine xact_write (by rw [ho]; rfl) (by rw [ho]; rfl) (by rw [ho]; rfl) ?_
  rw [ho]
  simp only [xwrite, xalloc, hz, xnew, h1, hm.n]

theorem OpStep.box (hw : xwanted ops (rg al) o = some true) {t : TypeId} {y : Operand} (ho : o.op = .box t y) {cs : List XC} (hy : xcells (xeval (rg al) y) = some cs) (hb : Nat.blt hs.length Mem.bound = true) :
    OpStep O P ops al hs o (.one (.ptr hs.length 0)) (hs ++ [.cells cs t false false]) ⟨true, .none, [hs.length]⟩ := by
  intro m hm
  obtain ⟨m', h1, h2, h3⟩ := hm.push (.cells cs t false false) (by simpa [Nat.blt_eq] using hb)
  refine ⟨m', ?_, h2, h3⟩
  unfold xdo
  rw [hw]
  refine xact_write (by rw [ho]; rfl) (by rw [ho]; rfl) (by rw [ho]; rfl) ?_
  rw [ho]
  simp only [xwrite, xbox, hy, xnew, h1, hm.n]

theorem OpStep.bin (hw : xwanted ops (rg al) o = some true) {op : BinOp} {t t' : TypeId} {a b : Operand} (ho : o.op = .binOp op t a b t') {k k' : IntKind} {x y : Int} (ha : xeval (rg al) a = .one (.int k x)) (hb : xeval (rg al) b = .one (.int k' y)) {c : XC} (hc : xbinInt op k k' x y = some c) :
    OpStep O P ops al hs o (.one c) hs quiet :=
  OpStep.pure hw (by rw [ho]; simp only [xpure, xbin, ha, hb, hc, Option.map_some])

theorem bin_add64 {x y z : Int} (h : x + y = z) (hz : -9223372036854775808 ≤ z ∧ z < 9223372036854775808) : xbinInt .add .i64 .i64 x y = some (.int .i64 z) := by
  simp only [xbinInt, xsame, if_true, xwrap_eq, h]
  rw [IntWalk.i64_in z ⟨hz.1, by omega⟩]
theorem bin_sub64 {x y z : Int} (h : x - y = z) (hz : -9223372036854775808 ≤ z ∧ z < 9223372036854775808) : xbinInt .sub .i64 .i64 x y = some (.int .i64 z) := by
  simp only [xbinInt, xsame, if_true, xwrap_eq, h]
  rw [IntWalk.i64_in z ⟨hz.1, by omega⟩]
theorem bin_mul64 {x y z : Int} (h : x * y = z) (hz : -9223372036854775808 ≤ z ∧ z < 9223372036854775808) : xbinInt .mul .i64 .i64 x y = some (.int .i64 z) := by
  simp only [xbinInt, xsame, if_true, xwrap_eq, h]
  rw [IntWalk.i64_in z ⟨hz.1, by omega⟩]
theorem bin_lss {k : IntKind} {x y : Int} {b : Bool} (h : decide (x < y) = b) : xbinInt .lss k k x y = some (.bool b) := by simp only [xbinInt, xsame, if_true, h]
theorem bin_gtr {k : IntKind} {x y : Int} {b : Bool} (h : decide (y < x) = b) : xbinInt .gtr k k x y = some (.bool b) := by simp only [xbinInt, xsame, if_true, h]
theorem bin_leq {k : IntKind} {x y : Int} {b : Bool} (h : decide (x ≤ y) = b) : xbinInt .leq k k x y = some (.bool b) := by simp only [xbinInt, xsame, if_true, h]
theorem bin_geq {k : IntKind} {x y : Int} {b : Bool} (h : decide (y ≤ x) = b) : xbinInt .geq k k x y = some (.bool b) := by simp only [xbinInt, xsame, if_true, h]
theorem bin_eql {k : IntKind} {x y : Int} {b : Bool} (h : (x == y) = b) : xbinInt .eql k k x y = some (.bool b) := by simp only [xbinInt, xsame, if_true, h]
theorem bin_neq {k : IntKind} {x y : Int} {b : Bool} (h : (x != y) = b) : xbinInt .neq k k x y = some (.bool b) := by simp only [xbinInt, xsame, if_true, h]
theorem bin_rem {k : IntKind} {x y z : Int} (hy : y ≠ 0) (h : x.tmod y = z) : xbinInt .rem k k x y = some (.int k z) := by simp only [xbinInt, xsame, if_true, hy, if_false, h]

/-- The address of an array's element. -/
theorem OpStep.index (hw : xwanted ops (rg al) o = some true) {t : TypeId} {a b : Operand} (ho : o.op = .indexAddr t a b) {i off s len j : Nat} {elem : TypeId} (ha : xeval (rg al) a = .one (.ptr i off)) {k : IntKind} (hb : xeval (rg al) b = .one (.int k (j : Nat)))
    (ht : P.underlying t = some (.array len elem)) (hsz : xsize P elem = some s) (hj : j < len) {p : Nat} (hp : off + j * s = p) : OpStep O P ops al hs o (.one (.ptr i p)) hs quiet :=
  OpStep.pure hw (by
    rw [ho]
    have h1 : (0 : Int) ≤ (j : Int) ∧ (j : Int) < (len : Int) := by omega
    simp only [xpure, xindexAddr, ha, hb, ht, hsz, if_pos h1, Option.map_some, Int.toNat_natCast, hp])

/-- An array's element. -/
theorem OpStep.elem (hw : xwanted ops (rg al) o = some true) {t : TypeId} {a b : Operand} (ho : o.op = .index t a b) {len j : Nat} {elem : TypeId} {cs : List XC} (ha : xeval (rg al) a = .agg cs) {k : IntKind} (hb : xeval (rg al) b = .one (.int k (j : Nat)))
    (ht : P.underlying t = some (.array len elem)) (hsz : xsize P elem = some 1) (hg : xisAgg P elem = some false) (hj : j < len) {c : XC} (hc : cs[j]? = some c) : OpStep O P ops al hs o (.one c) hs quiet :=
  OpStep.pure hw (by
    rw [ho]
    have h1 : (0 : Int) ≤ (j : Int) ∧ (j : Int) < (len : Int) := by omega
    simp only [xpure, xindex, ha, hb, ht, hsz, if_pos h1, Int.toNat_natCast, Nat.mul_one, xpart, hg, hc, Option.map_some, X1.toV])

/-- A call of a function that is known. -/
theorem OpStep.call (hw : xwanted ops (rg al) o = some true) {g : Operand} {args : Array Operand} {ts : Array TypeId} (ho : o.op = .call ⟨.value g, args, ts⟩) {f : FuncId} (hg : xeval (rg al) g = .one (.fn f)) (hcb : xcallable P f = true) {vs : List XV} (ha : args.toList.map (xeval (rg al)) = vs)
    {x : XV} {hs' : Heap} {ws : List Nat} (hc : ∀ m, Holds m hs → ∃ m', O.call f vs m = some (x, m') ∧ Holds m' hs' ∧ ∀ j, j ∉ ws → (m'.ent j).ver = (m.ent j).ver) : OpStep O P ops al hs o x hs' ⟨true, .none, ws⟩ := by
  intro m hm
  obtain ⟨m', h1, h2, h3⟩ := hc m hm
  refine ⟨m', ?_, h2, h3⟩
  unfold xdo
  rw [hw]
  have e : xcallOp O P (xeval (rg al)) o.op m = some (x, m') := by
    rw [ho]
    simp only [xcallOp, hg, xfn, hcb, if_true, List.map_nil, List.append_nil, ha, h1]
  have n1 : xpure P (xeval (rg al)) o.op = .none := by rw [ho]; rfl
  have n2 : xorc O (xeval (rg al)) o.op = .none := by rw [ho]; rfl
  have n3 : xread P (xeval (rg al)) o.op = .none := by rw [ho]; rfl
  have n4 : xwrite P (xeval (rg al)) o.op m = .none := by rw [ho]; rfl
  simp only [xact, xpureO, n1, n2, n3, n4, e]

end
end Go.Xm
