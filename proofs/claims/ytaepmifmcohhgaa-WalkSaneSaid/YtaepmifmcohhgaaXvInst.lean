/-
  The second machine: calls that are known, as tables that grow along a region.
-/
import Derived.Test.YtaepmifmcohhgaaXvCall
namespace Go.Xm
set_option linter.unusedSectionVars false
variable [Atoms]

theorem XC.ren_shut {c : XC} (h : c.shut = true) (τ : Nat → Nat) : c.ren τ = c := by
  induction c with
  | bind g c ih1 ih2 =>
    simp only [XC.shut, Bool.and_eq_true] at h
    simp only [XC.ren, ih1 h.1, ih2 h.2]
  | ptr i off => cases h
  | slice i off len cap => cases h
  | map i => cases h
  | _ => rfl
theorem cells_ren_shut {cs : List XC} (h : cs.all XC.shut = true) (τ : Nat → Nat) : cs.map (·.ren τ) = cs := by
  rw [List.all_eq_true] at h
  exact (List.map_congr_left fun c hc => XC.ren_shut (h c hc) τ).trans (by simp)
theorem X1.ren_shut {x : X1} (h : x.shut = true) (τ : Nat → Nat) : x.ren τ = x := by
  cases x with
  | one c => simp only [X1.ren, XC.ren_shut h]
  | agg cs => simp only [X1.ren, cells_ren_shut h]
theorem XV.ren_shut {x : XV} (h : x.shut = true) (τ : Nat → Nat) : x.ren τ = x := by
  cases x with
  | undef => rfl
  | one c => simp only [XV.ren, XC.ren_shut h]
  | agg cs => simp only [XV.ren, cells_ren_shut h]
  | tup xs =>
    have h' := List.all_eq_true.1 h
    simp only [XV.ren]
    rw [(List.map_congr_left fun c hc => X1.ren_shut (h' c hc) τ : xs.map (·.ren τ) = xs.map id), List.map_id]
theorem args_ren_shut {l : List XV} (h : ∀ x ∈ l, x.shut = true) (τ : Nat → Nat) : l.map (·.ren τ) = l :=
  (List.map_congr_left fun c hc => XV.ren_shut (h c hc) τ).trans (by simp)
theorem XV.okN_shut {x : XV} (h : x.shut = true) (n : Nat) : x.okN n := by
  cases x with
  | undef => trivial
  | one c => exact XC.ok_of_shut h n
  | agg cs => exact fun c hc => XC.ok_of_shut (List.all_eq_true.1 h c hc) n
  | tup xs => exact fun c hc => X1.ok_of_shut (List.all_eq_true.1 h c hc) n

/-- A call that is known: its arguments, the objects ahead of it and behind it, which may have turned. -/
structure Inst where
  f : FuncId
  args : List XV
  hs : Heap
  v : XV
  hs' : Heap
  ws : List Nat

def newIdx (n m : Nat) : List Nat := List.range' n (m - n)

structure Inst.Sound (P : Program) (e : Inst) : Prop where
  le : e.hs.length ≤ e.hs'.length
  bnd : e.hs'.length < Mem.bound
  same : ∀ i, i < e.hs.length → i ∉ e.ws → e.hs'[i]? = e.hs[i]?
  call : ∀ M M', Holds M e.hs → Holds M' e.hs' → CallSound P e.f e.args M e.v M'

/-- The memory behind it. -/
def putsAll (m : Mem) (hs' : Heap) : List Nat → Mem
  | [] => m
  | i :: l => putsAll (m.put i (hs'.getD i .dead)) hs' l
def pushAll (m : Mem) : List XObj → Mem
  | [] => m
  | o :: l => pushAll ((m.push o).getD m) l
def Inst.mem (e : Inst) (m : Mem) : Mem := pushAll (putsAll m e.hs' (e.ws.filter fun i => decide (i < e.hs.length))) (e.hs'.drop e.hs.length)

theorem putsAll_chg (hs' : Heap) : ∀ (l : List Nat) (m : Mem), Chg m (putsAll m hs' l)
  | [], m => .same m
  | i :: l, m => .trans (.put m i _) (putsAll_chg hs' l _)
theorem pushAll_chg : ∀ (l : List XObj) (m : Mem), Chg m (pushAll m l)
  | [], m => .same m
  | o :: l, m => by
    unfold pushAll
    cases h : m.push o with
    | none => exact pushAll_chg l m
    | some m' => exact .trans (.push h) (pushAll_chg l m')

theorem putsAll_holds (hs' : Heap) : ∀ (l : List Nat) (m : Mem) (hs : Heap), Holds m hs → (∀ i ∈ l, i < hs.length) →
    ∃ hs2, Holds (putsAll m hs' l) hs2 ∧ hs2.length = hs.length ∧ (∀ i, i ∈ l → hs2[i]? = some (hs'.getD i .dead)) ∧ (∀ i, i ∉ l → hs2[i]? = hs[i]?) ∧ ∀ j, j ∉ l → ((putsAll m hs' l).ent j).ver = (m.ent j).ver
  | [], m, hs, h, _ => ⟨hs, h, rfl, (fun i hi => by cases hi), fun _ _ => rfl, fun _ _ => rfl⟩
  | i :: l, m, hs, h, hl => by
    have hi := hl i (List.mem_cons_self ..)
    have hg : hs[i]? = some hs[i] := List.getElem?_eq_getElem hi
    obtain ⟨hs2, h1, h2, h3, h4, h5⟩ := putsAll_holds hs' l (m.put i (hs'.getD i .dead)) (hs.set i (hs'.getD i .dead)) (h.put hg _) (fun j hj => by rw [List.length_set]; exact hl j (List.mem_cons_of_mem _ hj))
    refine ⟨hs2, h1, by rw [h2, List.length_set], fun j hj => ?_, fun j hj => ?_, fun j hj => ?_⟩
    · by_cases hjl : j ∈ l
      · exact h3 j hjl
      · rw [h4 j hjl]
        rcases List.mem_cons.1 hj with rfl | hj
        · simp [hi]
        · exact absurd hj hjl
    · simp only [List.mem_cons, not_or] at hj
      rw [h4 j hj.2, List.getElem?_set_ne (Ne.symm hj.1)]
    · simp only [List.mem_cons, not_or] at hj
      show ((putsAll (m.put i (hs'.getD i .dead)) hs' l).ent j).ver = _
      rw [h5 j hj.2, Mem.ent_put_ne m _ hj.1]

theorem pushAll_holds : ∀ (l : List XObj) (m : Mem) (hs : Heap), Holds m hs → hs.length + l.length < Mem.bound → Holds (pushAll m l) (hs ++ l) ∧ ∀ j, j < hs.length → ((pushAll m l).ent j).ver = (m.ent j).ver
  | [], m, hs, h, _ => ⟨by simpa [pushAll] using h, fun _ _ => rfl⟩
  | o :: l, m, hs, h, hb => by
    simp only [List.length_cons] at hb
    obtain ⟨m', h1, h2, h3⟩ := h.push o (by omega)
    have ih := pushAll_holds l m' (hs ++ [o]) h2 (by simp; omega)
    unfold pushAll
    rw [h1]
    simp only [Option.getD_some]
    refine ⟨by simpa using ih.1, fun j hj => ?_⟩
    rw [ih.2 j (by simp; omega), h3 j (by simp; omega)]

theorem pushAll_ver : ∀ (l : List XObj) (m : Mem) (hs : Heap), Holds m hs → hs.length + l.length < Mem.bound → ∀ j, hs.length + l.length ≤ j → ((pushAll m l).ent j).ver = (m.ent j).ver
  | [], m, hs, _, _, j, _ => rfl
  | o :: l, m, hs, h, hb, j, hj => by
    simp only [List.length_cons] at hb hj
    obtain ⟨m', h1, h2, h3⟩ := h.push o (by omega)
    unfold pushAll
    rw [h1]
    simp only [Option.getD_some]
    rw [pushAll_ver l m' (hs ++ [o]) h2 (by simp; omega) j (by simp; omega), h3 j (by simp; omega)]

theorem Inst.Sound.holds {P : Program} {e : Inst} (h : e.Sound P) {m : Mem} (hm : Holds m e.hs) : Holds (e.mem m) e.hs' ∧ Chg m (e.mem m) ∧ ∀ j, j ∉ e.ws ++ newIdx e.hs.length e.hs'.length → ((e.mem m).ent j).ver = (m.ent j).ver := by
  obtain ⟨hs2, h1, h2, h3, h4, h5⟩ := putsAll_holds e.hs' (e.ws.filter fun i => decide (i < e.hs.length)) m e.hs hm (fun i hi => by simpa using (List.mem_filter.1 hi).2)
  have hlen : (e.hs'.drop e.hs.length).length = e.hs'.length - e.hs.length := List.length_drop ..
  have hle := h.le
  have hb := h.bnd
  have h6 := pushAll_holds (e.hs'.drop e.hs.length) _ hs2 h1 (by rw [h2, hlen]; omega)
  have e1 : hs2 = e.hs'.take e.hs.length := by
    apply List.ext_getElem?
    intro i
    by_cases hi : i < e.hs.length
    · rw [List.getElem?_take, if_pos hi]
      by_cases hw : i ∈ e.ws.filter fun i => decide (i < e.hs.length)
      · rw [h3 i hw, List.getD_eq_getElem?_getD, List.getElem?_eq_getElem (by omega)]; rfl
      · rw [h4 i hw, h.same i hi (fun hh => hw (List.mem_filter.2 ⟨hh, by simpa using hi⟩))]
    · rw [List.getElem?_eq_none (by omega), List.getElem?_eq_none (by simp; omega)]
  refine ⟨?_, .trans (putsAll_chg _ _ _) (pushAll_chg _ _), fun j hj => ?_⟩
  · have := h6.1
    rw [e1, List.take_append_drop] at this
    exact this
  · simp only [List.mem_append, not_or] at hj
    have hv : ∀ j, j ∉ e.ws → ((putsAll m e.hs' (e.ws.filter fun i => decide (i < e.hs.length))).ent j).ver = (m.ent j).ver := fun j hj => h5 j fun hh => hj (List.mem_filter.1 hh).1
    unfold Inst.mem
    by_cases hjn : j < e.hs.length
    · rw [h6.2 j (by omega), hv j hj.1]
    · rw [pushAll_ver _ _ hs2 h1 (by rw [h2, hlen]; omega) j (by
        rw [h2, hlen]
        have : ¬ j < e.hs'.length := fun hlt => hj.2 (by unfold newIdx; rw [List.mem_range'_1]; omega)
        omega), hv j hj.1]

open Classical in
noncomputable def pickI (f : FuncId) (args : List XV) (m : Mem) : List Inst → Option Inst
  | [] => .none
  | e :: L => if e.f = f ∧ e.args = args ∧ Holds m e.hs then some e else pickI f args m L

theorem pickI_some {f : FuncId} {args : List XV} {m : Mem} {e : Inst} : ∀ {L : List Inst}, pickI f args m L = some e → e ∈ L ∧ e.f = f ∧ e.args = args ∧ Holds m e.hs
  | [], h => by cases h
  | e' :: L, h => by
    unfold pickI at h
    split at h
    · rename_i hc
      cases h
      exact ⟨List.mem_cons_self .., hc⟩
    · obtain ⟨h1, h2⟩ := pickI_some h
      exact ⟨List.mem_cons_of_mem _ h1, h2⟩
theorem pickI_mem {f : FuncId} {args : List XV} {m : Mem} {e : Inst} (hc : e.f = f ∧ e.args = args ∧ Holds m e.hs) : ∀ {L : List Inst}, e ∈ L → ∃ e', pickI f args m L = some e'
  | e' :: L, h => by
    unfold pickI
    split
    · exact ⟨_, rfl⟩
    · rename_i hn
      rcases List.mem_cons.1 h with rfl | h
      · exact absurd hc hn
      · exact pickI_mem hc h

theorem Holds.uniq {m : Mem} {hs hs2 : Heap} (h : Holds m hs) (h2 : Holds m hs2) : hs = hs2 := by
  have n1 := h.n
  have n2 := h2.n
  apply List.ext_getElem?
  intro i
  by_cases hi : i < m.n
  · rw [h.get? hi, h2.get? hi]
  · rw [List.getElem?_eq_none (by omega), List.getElem?_eq_none (by omega)]

def Compat (e e' : Inst) : Prop := e.f = e'.f → e.args = e'.args → e.hs = e'.hs → e.v = e'.v ∧ e.hs' = e'.hs' ∧ e.ws = e'.ws
def Consistent (L : List Inst) : Prop := ∀ e ∈ L, ∀ e' ∈ L, Compat e e'
theorem Consistent.nil : Consistent [] := fun _ h => by cases h
theorem Compat.refl (e : Inst) : Compat e e := fun _ _ _ => ⟨rfl, rfl, rfl⟩
theorem Compat.symm {e e' : Inst} (h : Compat e e') : Compat e' e := fun h1 h2 h3 => by
  obtain ⟨k1, k2, k3⟩ := h h1.symm h2.symm h3.symm
  exact ⟨k1.symm, k2.symm, k3.symm⟩
theorem Consistent.cons {e : Inst} {L : List Inst} (h : ∀ e' ∈ L, Compat e e') (hL : Consistent L) : Consistent (e :: L) := by
  intro a ha b hb
  rcases List.mem_cons.1 ha with e1 | h1
  · rcases List.mem_cons.1 hb with e2 | h2
    · rw [e1, e2]; exact Compat.refl _
    · rw [e1]; exact h b h2
  · rcases List.mem_cons.1 hb with e2 | h2
    · rw [e2]; exact (h a h1).symm
    · exact hL a h1 b h2
theorem Consistent.one (e : Inst) : Consistent [e] := Consistent.cons (fun _ h => by cases h) Consistent.nil
theorem Compat.ne {e e' : Inst} (h : Nat.beq e.f e'.f = false) : Compat e e' := fun h1 => by
  rw [h1] at h
  have : Nat.beq e'.f e'.f = true := Nat.beq_refl _
  rw [this] at h; cases h
theorem Consistent.two {e e' : Inst} (h : Compat e e') : Consistent [e, e'] := Consistent.cons (fun x hx => by simp only [List.mem_singleton] at hx; subst hx; exact h) (Consistent.one e')
theorem Consistent.three {e e' e'' : Inst} (h : Compat e e') (h2 : Compat e e'') (h3 : Compat e' e'') : Consistent [e, e', e''] := Consistent.cons (fun x hx => by
  simp only [List.mem_cons, List.not_mem_nil, or_false] at hx
  rcases hx with rfl | rfl
  · exact h
  · exact h2) (Consistent.two h3)

def CompatL (e : Inst) : List Inst → Prop
  | [] => True
  | e' :: L => Compat e e' ∧ CompatL e L
def ConsL : List Inst → Prop
  | [] => True
  | e :: L => CompatL e L ∧ ConsL L
theorem CompatL.all {e : Inst} : ∀ {L : List Inst}, CompatL e L → ∀ e' ∈ L, Compat e e'
  | [], _, e', h => by cases h
  | a :: L, h, e', h' => by
    rcases List.mem_cons.1 h' with rfl | h'
    · exact h.1
    · exact h.2.all e' h'
theorem Consistent.ofL : ∀ {L : List Inst}, ConsL L → Consistent L
  | [], _ => Consistent.nil
  | _ :: _, h => Consistent.cons h.1.all (Consistent.ofL h.2)

noncomputable def tabO (L : List Inst) : Orc := ⟨fun f args m => (pickI f args m L).map fun e => (e.v, e.mem m), fun _ _ => .none⟩

theorem tabO_sound {P : Program} {L : List Inst} (h : ∀ e ∈ L, e.Sound P) : OrcSound P (tabO L) := by
  refine ⟨fun f args m v m' hc => ?_, fun f args m v m' hc => ?_, fun _ _ _ he => by cases he⟩
  · obtain ⟨e, h1, h2⟩ := Option.map_eq_some_iff.1 hc
    cases h2
    obtain ⟨hm, rfl, rfl, hh⟩ := pickI_some h1
    exact (h e hm).call m _ hh ((h e hm).holds hh).1
  · obtain ⟨e, h1, h2⟩ := Option.map_eq_some_iff.1 hc
    cases h2
    obtain ⟨hm, rfl, rfl, hh⟩ := pickI_some h1
    exact ((h e hm).holds hh).2.1

theorem tabO_call {L : List Inst} (hc : Consistent L) {e : Inst} (he : e ∈ L) {m : Mem} (hm : Holds m e.hs) : (tabO L).call e.f e.args m = some (e.v, e.mem m) := by
  obtain ⟨e', h1⟩ := pickI_mem (f := e.f) (args := e.args) (m := m) ⟨rfl, rfl, hm⟩ he
  obtain ⟨h2, h3, h4, h5⟩ := pickI_some h1
  obtain ⟨k1, k2, k3⟩ := hc e' h2 e he h3 h4 (h5.uniq hm)
  show (pickI e.f e.args m L).map _ = _
  rw [h1]
  have k4 : e'.hs = e.hs := h5.uniq hm
  simp only [Option.map_some, k1]
  unfold Inst.mem
  rw [k2, k3, k4]

/-- Operations of a region, the calls so far in a table. -/
def SK (P : Program) (ops : Array Oper) (nt : Nat) (L : List Inst) (l : List Oper) (al : Regs) (hs : Heap) (K : List Ab → Regs → Heap → Prop) : Prop :=
  ∃ Lf, (∀ e ∈ L, e ∈ Lf) ∧ (∀ e ∈ Lf, e ∈ L ∨ e.Sound P) ∧ Consistent Lf ∧ StepsK (tabO Lf) P ops nt l al hs K

variable {P : Program} {ops : Array Oper} {nt nI : Nat} {al : Regs} {hs : Heap} {o : Oper} {l : List Oper} {L : List Inst} {K : List Ab → Regs → Heap → Prop}

theorem SK.nil (hc : Consistent L) (h : K [] al hs) : SK P ops nt L [] al hs K := ⟨L, fun _ h => h, fun _ h => .inl h, hc, .nil h⟩

theorem SK.lift {x : XV} {hs1 : Heap} {b : Ab} {d : Nat} (hd : o.dst = some d) (hlt : Nat.blt d nt = true) (h : ∀ O, OpStep O P ops al hs o x hs1 b) (hk : SK P ops nt L l ((d, x) :: al) hs1 fun bs => K (b :: bs)) : SK P ops nt L (o :: l) al hs K := by
  obtain ⟨Lf, h1, h2, h3, h4⟩ := hk
  exact ⟨Lf, h1, h2, h3, .cons (h _) (by rw [hd]; simpa [Nat.blt_eq] using hlt) (by rw [hd]; exact h4)⟩
theorem SK.lift0 {x : XV} {hs1 : Heap} {b : Ab} (hd : o.dst = .none) (h : ∀ O, OpStep O P ops al hs o x hs1 b) (hk : SK P ops nt L l al hs1 fun bs => K (b :: bs)) : SK P ops nt L (o :: l) al hs K := by
  obtain ⟨Lf, h1, h2, h3, h4⟩ := hk
  exact ⟨Lf, h1, h2, h3, .cons (h _) (by rw [hd]) (by rw [hd]; exact h4)⟩

theorem call_step {Lf : List Inst} (hc : Consistent Lf) {e : Inst} (he : e ∈ Lf) (hs0 : e.hs = hs) (hsd : e.Sound P) {g : Operand} {args : Array Operand} {ts : Array TypeId} (ho : o.op = .call ⟨.value g, args, ts⟩) (hw : xwanted ops (rg al) o = some true)
    {c : XC} (hg : xeval (rg al) g = .one c) {caps : List XC} (hx : xfn c = some (e.f, caps)) (hcb : xcallable P e.f = true) (ha : args.toList.map (xeval (rg al)) ++ caps.map .one = e.args) :
    OpStep (tabO Lf) P ops al hs o e.v e.hs' ⟨true, .none, e.ws ++ newIdx e.hs.length e.hs'.length⟩ := by
  intro m hm
  subst hs0
  obtain ⟨h1, _, h2⟩ := hsd.holds hm
  refine ⟨e.mem m, ?_, h1, h2⟩
  unfold xdo
  rw [hw]
  have e1 : xcallOp (tabO Lf) P (xeval (rg al)) o.op m = some (e.v, e.mem m) := by
    rw [ho]
    simp only [xcallOp, hg, hx, hcb, if_true, ha, tabO_call hc he hm]
  have n1 : xpure P (xeval (rg al)) o.op = .none := by rw [ho]; rfl
  have n2 : xorc (tabO Lf) (xeval (rg al)) o.op = .none := by rw [ho]; rfl
  have n3 : xread P (xeval (rg al)) o.op = .none := by rw [ho]; rfl
  have n4 : xwrite P (xeval (rg al)) o.op m = .none := by rw [ho]; rfl
  simp only [xact, xpureO, n1, n2, n3, n4, e1]

/-- A call of a function that is known. -/
theorem sk_call {f : FuncId} {vs : List XV} {v : XV} {hs' : Heap} {ws : List Nat} (hi : Inst.Sound P ⟨f, vs, hs, v, hs', ws⟩) {g : Operand} {args : Array Operand} {ts : Array TypeId} (ho : o.op = .call ⟨.value g, args, ts⟩) (hw : xwanted ops (rg al) o = some true)
    {d : Nat} (hd : o.dst = some d) (hlt : Nat.blt d nt = true) {c : XC} (hg : xeval (rg al) g = .one c) {caps : List XC} (hx : xfn c = some (f, caps)) (hcb : xcallable P f = true) (ha : args.toList.map (xeval (rg al)) ++ caps.map .one = vs)
    (hk : SK P ops nt (⟨f, vs, hs, v, hs', ws⟩ :: L) l ((d, v) :: al) hs' fun bs => K (⟨true, .none, ws ++ newIdx hs.length hs'.length⟩ :: bs)) : SK P ops nt L (o :: l) al hs K := by
  obtain ⟨Lf, h1, h2, h3, h4⟩ := hk
  refine ⟨Lf, fun e he => h1 e (List.mem_cons_of_mem _ he), fun e he => ?_, h3, .cons (call_step h3 (h1 _ (List.mem_cons_self ..)) rfl hi ho hw hg hx hcb ha) (by rw [hd]; simpa [Nat.blt_eq] using hlt) (by rw [hd]; exact h4)⟩
  rcases h2 e he with h | h
  · rcases List.mem_cons.1 h with rfl | h
    · exact .inr hi
    · exact .inl h
  · exact .inr h
theorem sk_call0 {f : FuncId} {vs : List XV} {v : XV} {hs' : Heap} {ws : List Nat} (hi : Inst.Sound P ⟨f, vs, hs, v, hs', ws⟩) {g : Operand} {args : Array Operand} {ts : Array TypeId} (ho : o.op = .call ⟨.value g, args, ts⟩) (hw : xwanted ops (rg al) o = some true)
    (hd : o.dst = .none) {c : XC} (hg : xeval (rg al) g = .one c) {caps : List XC} (hx : xfn c = some (f, caps)) (hcb : xcallable P f = true) (ha : args.toList.map (xeval (rg al)) ++ caps.map .one = vs)
    (hk : SK P ops nt (⟨f, vs, hs, v, hs', ws⟩ :: L) l al hs' fun bs => K (⟨true, .none, ws ++ newIdx hs.length hs'.length⟩ :: bs)) : SK P ops nt L (o :: l) al hs K := by
  obtain ⟨Lf, h1, h2, h3, h4⟩ := hk
  refine ⟨Lf, fun e he => h1 e (List.mem_cons_of_mem _ he), fun e he => ?_, h3, .cons (call_step h3 (h1 _ (List.mem_cons_self ..)) rfl hi ho hw hg hx hcb ha) (by rw [hd]) (by rw [hd]; exact h4)⟩
  rcases h2 e he with h | h
  · rcases List.mem_cons.1 h with rfl | h
    · exact .inr hi
    · exact .inl h
  · exact .inr h

theorem view_nil (τ : Nat → Nat) (hs : Heap) : View τ hs [] := ⟨fun _ h => absurd h (Nat.not_lt_zero _), fun _ _ h => absurd h (Nat.not_lt_zero _), fun _ _ h => by simp at h, fun _ _ h => by simp at h⟩

/-- A function that names no memory, among any objects. -/
theorem inst_pure {f : FuncId} {args : List XV} {v : XV} (hc : Con P f args [] v []) (ha : (args.all XV.shut) = true) (hv : v.shut = true) (hb : Nat.blt hs.length Mem.bound = true) : Inst.Sound P ⟨f, args, hs, v, hs, []⟩ := by
  have ha' : ∀ x ∈ args, x.shut = true := List.all_eq_true.1 ha
  refine ⟨Nat.le_refl _, by simpa [Nat.blt_eq] using hb, fun _ _ _ => rfl, fun M M' hM hM' => ?_⟩
  have := con_at hc (Nat.le_refl _) (by decide) (ρ := id) (HS := hs) (HS' := hs) (view_nil _ _) (fun x hx => XV.okN_shut (ha' x hx) _) ⟨by simp, fun _ _ h => by simp at h, fun _ _ _ => rfl⟩ (fun _ _ h => by simp at h) hM hM'
  rw [args_ren_shut ha', XV.ren_shut hv] at this
  exact this

/-- A function that reads objects, and leaves them. -/
theorem inst_read {f : FuncId} {args args' : List XV} {hs0 : Heap} {v v' : XV} (hc : Con P f args hs0 v hs0) {ρ : Nat → Nat} (hview : View ρ hs hs0) (hlive : ∀ o ∈ hs0, o.live = true) (ha : ∀ x ∈ args, x.okN hs0.length) (e1 : args.map (·.ren ρ) = args') (hv : v.okN hs0.length) (e2 : v.ren ρ = v') (hb : Nat.blt hs.length Mem.bound = true) (hb0 : Nat.blt hs0.length Mem.bound = true) :
    Inst.Sound P ⟨f, args', hs, v', hs, []⟩ := by
  refine ⟨Nat.le_refl _, by simpa [Nat.blt_eq] using hb, fun _ _ _ => rfl, fun M M' hM hM' => ?_⟩
  have key : ∀ j, j < hs0.length → beyond ρ hs0.length hs.length j = ρ j := fun j hj => if_pos hj
  have kc : ∀ c : XC, c.ok hs0.length → c.ren (beyond ρ hs0.length hs.length) = c.ren ρ := by
    intro c
    induction c with
    | ptr i off => exact fun h => by simp only [XC.ren, key i h]
    | slice i off len cap => exact fun h => by simp only [XC.ren, key i h]
    | map i => exact fun h => by simp only [XC.ren, key i h]
    | bind g c ih1 ih2 => exact fun h => by simp only [XC.ren, ih1 h.1, ih2 h.2]
    | _ => intro _; rfl
  have kcs : ∀ cs : List XC, (∀ c ∈ cs, c.ok hs0.length) → cs.map (·.ren (beyond ρ hs0.length hs.length)) = cs.map (·.ren ρ) := fun cs h => List.map_congr_left fun c hc => kc c (h c hc)
  have k1 : ∀ x : X1, x.ok hs0.length → x.ren (beyond ρ hs0.length hs.length) = x.ren ρ := fun x h => by
    cases x with
    | one c => simp only [X1.ren, kc c h]
    | agg cs => simp only [X1.ren, kcs cs h]
  have kv : ∀ x : XV, x.okN hs0.length → x.ren (beyond ρ hs0.length hs.length) = x.ren ρ := fun x h => by
    cases x with
    | undef => rfl
    | one c => simp only [XV.ren, kc c h]
    | agg cs => simp only [XV.ren, kcs cs h]
    | tup xs => simp only [XV.ren]; rw [List.map_congr_left fun c hc => k1 c (h c hc)]
  have ko : ∀ x : XObj, x.okN hs0.length → x.ren (beyond ρ hs0.length hs.length) = x.ren ρ := fun x h => by
    cases x with
    | dead => rfl
    | cells vs e a b => simp only [XObj.ren, kcs vs h]
    | map es => simp only [XObj.ren]; rw [List.map_congr_left fun p hp => by rw [k1 _ (h p hp).1, k1 _ (h p hp).2]]
  have := con_at hc (Nat.le_refl _) (by simpa [Nat.blt_eq] using hb0) (HS := hs) (HS' := hs) hview ha ⟨by simp, fun j o h => ?_, fun _ _ _ => rfl⟩ (fun j o h hl _ => ⟨o, h, hl⟩) hM hM'
  · rw [e1, kv v hv, e2] at this
    exact this
  · have hj : j < hs0.length := (List.getElem?_eq_some_iff.1 h).1
    rw [key j hj, ko o (hview.ok j o h)]
    rcases hview.obj j o h with e | e
    · have := hlive o (List.mem_of_getElem? h)
      rw [e] at this; cases this
    · exact e

/-- A function that turns objects, or makes new ones. -/
theorem inst_at {f : FuncId} {args args' : List XV} {hs0 hs0' hs' : Heap} {v v' : XV} {ws : List Nat} (hc : Con P f args hs0 v hs0') {ρ : Nat → Nat} (hle : hs0.length ≤ hs0'.length) (hview : View ρ hs hs0) (ha : ∀ x ∈ args, x.okN hs0.length) (e1 : args.map (·.ren ρ) = args') (e2 : v.ren (beyond ρ hs0.length hs.length) = v') (haf : After ρ hs0.length hs hs0' hs') (hro : ∀ (j : Nat) (o : XObj), hs0'[j]? = some o → o.live = true → o.own = false → ∃ o0, hs0[j]? = some o0 ∧ o0.live = true)
    (hsame : ∀ i, i < hs.length → i ∉ ws → hs'[i]? = hs[i]?) (hb : Nat.blt hs'.length Mem.bound = true) (hb0 : Nat.blt hs0.length Mem.bound = true) : Inst.Sound P ⟨f, args', hs, v', hs', ws⟩ := by
  have hl := haf.len
  refine ⟨by show hs.length ≤ hs'.length; omega, by simpa [Nat.blt_eq] using hb, hsame, fun M M' hM hM' => ?_⟩
  have := con_at hc hle (by simpa [Nat.blt_eq] using hb0) hview ha haf hro hM hM'
  rw [e1, e2] at this
  exact this

section
variable {K : Post1}
theorem WX.actsC {id : Nat} (h : SK P ops nt [] ops.toList al hs fun _ al' hs' => K .normal al' hs') : WX P nt nI (.code (.region id ops false)) al hs K := by
  obtain ⟨Lf, h1, h2, h3, h4⟩ := h
  exact WX.acts (tabO_sound fun e he => (h2 e he).resolve_left (by simp)) h4
theorem WX.drawsC (hP : P.follows .mixedOrders = true) {id : Nat} (hst : drawnStatic ops nt (bef ops.toList) = true) (h : SK P ops nt [] ops.toList al hs fun bs al' hs' => dynAb (bef ops.toList) bs = true ∧ K .normal al' hs') : WX P nt nI (.code (.region id ops true)) al hs K := by
  obtain ⟨Lf, h1, h2, h3, h4⟩ := h
  exact WX.draws (tabO_sound fun e he => (h2 e he).resolve_left (by simp)) hP hst h4
end
end Go.Xm
