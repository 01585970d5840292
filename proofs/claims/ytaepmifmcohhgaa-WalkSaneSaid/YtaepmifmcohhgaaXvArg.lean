/-
  The second machine: arguments that are slices; objects that are forgotten; from a contract to a call in the model's world.
-/
import Derived.Test.YtaepmifmcohhgaaXvMore
namespace Go.Xm
set_option linter.unusedVariables false
open Go.RowKit (Below)
set_option linter.unusedSectionVars false
variable [Atoms]
variable {P : Program} {ops : Array Oper} {nt nI : Nat} {al : Regs} {hs : Heap} {o : Oper} {l : List Oper} {L : List Inst} {K : List Ab → Regs → Heap → Prop} {d : Nat}

/-- A slice that came in: nil, or all of an object's elements. -/
def SlOk (c : XC) (i n : Nat) : Prop := (c = .nils ∧ n = 0) ∨ ∃ cap, c = .slice i 0 n (.exact cap)

theorem sk_lenv {a : Operand} {t elem : TypeId} (ho : o.op = .call ⟨.builtin .len, #[a], #[t]⟩) (hw : xwanted ops (rg al) o = some true) (hd : o.dst = some d) (hlt : Nat.blt d nt = true) {c : XC} (ha : xeval (rg al) a = .one c) [hu : TUnd P t (.slice elem)] {i n : Nat} (hc : SlOk c i n)
    (hk : SK P ops nt L l ((d, .one (.int .i64 (n : Nat))) :: al) hs fun bs => K (quiet :: bs)) : SK P ops nt L (o :: l) al hs K := by
  rcases hc with ⟨rfl, rfl⟩ | ⟨cap, rfl⟩
  · exact SK.lift hd hlt (fun _ => OpStep.pure hw (by rw [ho]; simp [xpure, xbuiltin, ha, xlen, hu.out])) hk
  · exact SK.lift hd hlt (fun _ => OpStep.pure hw (by rw [ho]; simp [xpure, xbuiltin, ha, xlen, hu.out])) hk
theorem sk_idxv {t : TypeId} {a b : Operand} {elem : TypeId} {s : Nat} (ho : o.op = .indexAddr t a b) (hw : xwanted ops (rg al) o = some true) (hd : o.dst = some d) (hlt : Nat.blt d nt = true) {c : XC} (ha : xeval (rg al) a = .one c) {k : IntKind} {z : Int} (hb : xeval (rg al) b = .one (.int k z)) [hu : TUnd P t (.slice elem)] [hs' : TSize P elem s] {i n : Nat} (hc : SlOk c i n) (hz : 0 ≤ z ∧ z < n)
    {p : Nat} (hp : 0 + z.toNat * s = p) (hk : SK P ops nt L l ((d, .one (.ptr i p)) :: al) hs fun bs => K (quiet :: bs)) : SK P ops nt L (o :: l) al hs K := by
  rcases hc with ⟨rfl, rfl⟩ | ⟨cap, rfl⟩
  · omega
  · exact SK.lift hd hlt (fun _ => OpStep.pure hw (by rw [ho]; simp only [xpure, xindexAddr, ha, hb, hu.out, hs'.out, if_pos hz, Option.map_some, hp])) hk
theorem sk_loadaE {t : TypeId} {a : Operand} {s : Nat} (ho : o.op = .load t a) [ht : TAggr P t] [hs' : TSize P t s] (hw : xwanted ops (rg al) o = some true) (hd : o.dst = some d) (hlt : Nat.blt d nt = true) {i off : Nat} (ha : xeval (rg al) a = .one (.ptr i off)) {ob : XObj} (hi : hs[i]? = some ob) {vs : List XC} {opn ro : Bool} (he : ∃ e, ob = .cells vs e opn ro) (hle : off + s ≤ vs.length) {cs : List XC} (hc : (vs.drop off).take s = cs)
    (hk : SK P ops nt L l ((d, .agg cs) :: al) hs fun bs => K (⟨false, some i, []⟩ :: bs)) : SK P ops nt L (o :: l) al hs K := by
  obtain ⟨e, rfl⟩ := he
  exact SK.lift hd hlt (fun _ => OpStep.load (x := .agg cs) hw ho ha hi (by simp only [xloadAt, ht.out, hs'.out, if_pos hle, hc])) hk
theorem sk_loadE {t : TypeId} {a : Operand} (ho : o.op = .load t a) [ht : TScal P t] (hw : xwanted ops (rg al) o = some true) (hd : o.dst = some d) (hlt : Nat.blt d nt = true) {i off : Nat} (ha : xeval (rg al) a = .one (.ptr i off)) {ob : XObj} (hi : hs[i]? = some ob) {vs : List XC} {opn ro : Bool} (he : ∃ e, ob = .cells vs e opn ro) {c : XC} (hc : vs[off]? = some c)
    (hk : SK P ops nt L l ((d, .one c) :: al) hs fun bs => K (⟨false, some i, []⟩ :: bs)) : SK P ops nt L (o :: l) al hs K := by
  obtain ⟨e, rfl⟩ := he
  exact SK.lift hd hlt (fun _ => OpStep.load hw ho ha hi (load_one ht.out hc)) hk

/-- '==' of two arrays of integers that are the same. -/
theorem sk_eqti {t t' e : TypeId} {a b : Operand} {n : Nat} {k : IntKind} (ho : o.op = .binOp .eql t a b t') [hu : TUnd P t (.array n e)] [hv : TUnd P e (.int k)] [hs' : TSize P e 1] [hsc : TScal P e] (hg : P.eqGuardType P.depth t = false) (hw : xwanted ops (rg al) o = some true) (hd : o.dst = some d) (hlt : Nat.blt d nt = true) {f g : Nat → Int} (ha : xeval (rg al) a = .agg (ti k n f)) (hb : xeval (rg al) b = .agg (ti k n g)) (he : ∀ j, j < n → f j = g j)
    (h1 : SK P ops nt L l ((d, .one (.bool true)) :: al) hs fun bs => K (quiet :: bs)) : SK P ops nt L (o :: l) al hs K := by
  have hx : xequal P 40 t (.agg (ti k n f)) (.agg (ti k n g)) = some (eqFrom f g 0 n) := by
    unfold xequal
    simp only [hu.out, hs'.out]
    exact xeqElems_ti n f g 38 n 0 (by omega)
  have hi := eqFrom_iff f g n 0
  exact SK.lift hd hlt (fun _ => OpStep.pure hw (by
    rw [ho]
    simp only [xpure, ha, hb, xbin, xeqV, hg, Bool.false_eq_true, if_false, hx, Option.map_some, hi.2 fun j _ hj => he j (by omega)])) h1

/-- Elements of so many cells each, in a row. -/
theorem flat_at {α : Type} (f : α → List XC) (s : Nat) : ∀ (l : List α), (∀ a ∈ l, (f a).length = s) → ∀ (i : Nat) (a : α), l[i]? = some a → i * s + s ≤ (l.flatMap f).length ∧ ((l.flatMap f).drop (i * s)).take s = f a
  | [], _, i, a, h => by simp at h
  | x :: l, hl, 0, a, h => by
    simp at h; subst h
    have := hl x (List.mem_cons_self ..)
    simp only [List.flatMap_cons, List.length_append, Nat.zero_mul, List.drop_zero]
    exact ⟨by omega, by rw [← this, List.take_left']; rfl⟩
  | x :: l, hl, i + 1, a, h => by
    have hx := hl x (List.mem_cons_self ..)
    obtain ⟨h1, h2⟩ := flat_at f s l (fun b hb => hl b (List.mem_cons_of_mem _ hb)) i a (by simpa using h)
    simp only [List.flatMap_cons, List.length_append, Nat.add_mul, Nat.one_mul]
    refine ⟨by omega, ?_⟩
    rw [show i * s + s = (f x).length + i * s by omega, ← List.drop_drop, List.drop_left]
    exact h2

theorem rg_okN {al : Regs} {n : Nat} (h : ∀ p ∈ al, p.2.okN n) (t : Nat) : (rg al t).okN n := by
  induction al with
  | nil => trivial
  | cons p al ih =>
    obtain ⟨d, v⟩ := p
    unfold rg
    split
    · exact h _ (List.mem_cons_self ..)
    · exact ih fun q hq => h q (List.mem_cons_of_mem _ hq)

/-- The objects behind the first ones are forgotten. -/
theorem WX.drop {c : Cmd} {al al2 : Regs} {hs hs2 junk : Heap} {K : Post1} (hl : Less al2 al) (hh : hs = hs2 ++ junk) (hle : nI ≤ hs2.length) (hb : Nat.blt hs2.length Mem.bound = true) (hok : ∀ o ∈ hs2, o.okN hs2.length) (hr : ∀ p ∈ al2, p.2.okN hs2.length)
    (h : WX P nt nI c al2 hs2 K) : WX P nt nI c al hs K := by
  subst hh
  refine WX.view id ⟨fun j hj => by simp; omega, fun _ _ _ _ h => h, fun j o h => hok o (List.mem_of_getElem? h), fun j o h => .inr ?_⟩ (fun _ _ => rfl) hle hb (rg_okN hr) (fun t => ?_) h
  · have hj : j < hs2.length := (List.getElem?_eq_some_iff.1 h).1
    show (hs2 ++ junk)[j]? = _
    rw [XObj.ren_id, List.getElem?_append_left hj]
    exact h
  · rcases hl t with e | e
    · exact .inl e
    · exact .inr (by rw [XV.ren_id, e])

section
variable {K : Post1}
/-- The next statement begins with this region. -/
theorem WX.seqR (id : Nat) {ops : Array Oper} {dr : Bool} {x b : Code} (h : WX P nt nI (.code (.seq (.seq (.region id ops dr) x) b)) al hs K) : WX P nt nI (.code (.seq (.seq (.region id ops dr) x) b)) al hs K := h
theorem WX.seqB (id : Nat) {x b : Code} (h : WX P nt nI (.code (.seq (.block id x) b)) al hs K) : WX P nt nI (.code (.seq (.block id x) b)) al hs K := h
/-- Ways that meet again, in one of many states. -/
theorem WX.seqI {σ : Type} {a b : Code} (R : σ → Regs) (H : σ → Heap) (I : σ → Prop) (h1 : WX P nt nI (.code a) al hs fun e al1 hs1 => e = .normal ∧ ∃ s junk, I s ∧ Less (R s) al1 ∧ hs1 = H s ++ junk)
    (hd : ∀ s, nI ≤ (H s).length ∧ Nat.blt (H s).length Mem.bound = true ∧ (∀ o ∈ H s, o.okN (H s).length) ∧ ∀ p ∈ R s, p.2.okN (H s).length) (h2 : ∀ s, I s → WX P nt nI (.code b) (R s) (H s) K) : WX P nt nI (.code (.seq a b)) al hs K :=
  WX.seq (h1.mono fun e al1 hs1 ⟨he, s, junk, hi, hl, hh⟩ => by
    subst he
    exact WX.drop hl hh (hd s).1 (hd s).2.1 (hd s).2.2.1 (hd s).2.2.2 (h2 s hi))
end

theorem con_of_fun {f : FuncId} {args : List XV} {v : XV} (h : Fun P f args v) : Con P f args [] v [] :=
  fun m hm β w vs hall hw => (h m β w vs hall hw).mono fun e w' ⟨u, β', he, hu, hst⟩ => ⟨u, β', m, he, hm, hu, hst⟩

/-! ### From a contract to a call in a world -/
theorem relO_view {β : Env} {n : Nat} {W : World} {b lo : Nat} {vs : List XC} (hne : 0 < vs.length) (h : ∀ (j : Nat) (c : XC), vs[j]? = some c → W.cell? ⟨b, lo + j, none⟩ = some (c.den β)) (hok : ∀ c ∈ vs, c.ok n) :
    ∃ e sz, RelO β n lo sz (.cells vs e true true) W.heap[b]? := by
  have hc : ∀ j, j < vs.length → ∃ cs e fr, W.heap[b]? = some (.cells cs e fr) ∧ cs[lo + j]? = some ((vs.getD j .nili).den β) := fun j hj => by
    have h1 := h j vs[j] (List.getElem?_eq_getElem hj)
    have e1 : vs.getD j .nili = vs[j] := by simp [List.getD_eq_getElem?_getD, hj]
    unfold World.cell? at h1
    split at h1
    · rename_i cs e fr hg
      exact ⟨cs, e, fr, hg, by rw [e1]; simpa using h1⟩
    · cases h1
  obtain ⟨cs, e, fr, hg, h0⟩ := hc 0 hne
  have hall : ∀ j, j < vs.length → cs[lo + j]? = some ((vs.getD j .nili).den β) := fun j hj => by
    obtain ⟨cs', e', fr', hg', h1⟩ := hc j hj
    rw [hg] at hg'
    cases hg'
    exact h1
  have hl0 : lo + 0 < cs.size := (Array.getElem?_eq_some_iff.1 h0).1
  have hll : lo + (vs.length - 1) < cs.size := (Array.getElem?_eq_some_iff.1 (hall (vs.length - 1) (by omega))).1
  refine ⟨e, cs.size - lo, cs, fr, hg, by omega, by simp only [if_true]; omega, fun h => (by cases h), hok, ?_⟩
  apply List.ext_getElem?
  intro j
  rw [List.getElem?_take, List.getElem?_drop, List.getElem?_map]
  by_cases hj : j < vs.length
  · rw [if_pos hj, Array.getElem?_toList, hall j hj, List.getElem?_eq_getElem hj]
    simp [List.getD_eq_getElem?_getD, hj]
  · rw [if_neg hj, List.getElem?_eq_none (by omega)]
    rfl

theorem rel_args {β : Env} {W : World} {hs : Heap} (hb : hs.length < Mem.bound) (h : ∀ (i : Nat) (o : XObj), hs[i]? = some o → RelO β hs.length (β.base i) (β.size i) o W.heap[β.blk i]?) (hown : ∀ o ∈ hs, o.own = false) : Rel β (memOf hs) W := by
  have hm := holds_memOf hs hb
  have hn := hm.n
  refine ⟨hm.bnd, hm.fresh, fun i hi => ?_, fun i j hi hj hoi _ _ => ?_⟩
  · rw [hn]
    exact h i _ (hm.get? hi)
  · have := hown _ (List.mem_of_getElem? (hm.get? hi))
    rw [this] at hoi; cases hoi

theorem con_true {f : FuncId} {args : List XV} {hs hs' : Heap} (hc : Con P f args hs (.one (.bool true)) hs') {β : Env} {W : World} (hb : hs.length < Mem.bound) (h : ∀ (i : Nat) (o : XObj), hs[i]? = some o → RelO β hs.length (β.base i) (β.size i) o W.heap[β.blk i]?) (hown : ∀ o ∈ hs, o.own = false)
    {vs : List Value} (hv : All2 (RelV β hs.length) args vs) : Calls P f vs.toArray W fun e w' => e = .returned (.bool true) ∧ Below W.heap.size W w' := by
  have hm := holds_memOf hs hb
  have hn := hm.n
  refine (hc _ hm β W vs (by rw [hn]; exact hv) (rel_args hb h hown)).mono fun e w' ⟨u, β', m', he, _, hu, hst⟩ => ?_
  refine ⟨?_, hst.os, hst.tape, hst.output, hst.size, fun k hk => hst.frame k hk fun ⟨i, hi, ho, _⟩ => ?_⟩
  · rw [he, hu.2]; rfl
  · have := hown _ (List.mem_of_getElem? (hm.get? hi))
    rw [this] at ho; cases ho
end Go.Xm
