/-
  The second machine: a region whose order is drawn: one run in the text's order serves every order, where what is read is not written beside it.
-/
import Derived.Test.YtaepmifmcohhgaaXmDo
namespace Go.Xm
set_option linter.unusedSectionVars false
variable [Atoms]

/-! ### An operation looks at its operands alone -/

theorem map_congr_ops {ρ ρ' : Operand → XV} {l : List Operand} (h : ∀ x ∈ l, ρ x = ρ' x) : l.map ρ = l.map ρ' := List.map_congr_left h

theorem xpure_congr {P : Program} {ρ ρ' : Operand → XV} {op : Op} (h : ∀ x ∈ op.operands, ρ x = ρ' x) : xpure P ρ op = xpure P ρ' op := by
  unfold xpure
  split
  all_goals simp only [Op.operands, Call.operands] at h
  case h_4 t parts =>
    have : (parts.toList.map fun p => (p.1, ρ p.2)) = parts.toList.map fun p => (p.1, ρ' p.2) := List.map_congr_left fun p hp => by
      rw [h p.2 (by simpa using ⟨p.1, by simpa using hp⟩)]
    simp only [this]
  case h_9 f first caps =>
    have : caps.toList.map ρ = caps.toList.map ρ' := List.map_congr_left fun x hx => h x (by simp at hx; simp [hx])
    simp only [this]
  case h_10 t x lo hi mx =>
    have h0 : ρ x = ρ' x := h x (by simp)
    have h1 : lo.map ρ = lo.map ρ' := by cases lo with | none => rfl | some y => simp [h y (by simp)]
    have h2 : hi.map ρ = hi.map ρ' := by cases hi with | none => rfl | some y => simp [h y (by simp)]
    have h3 : mx.map ρ = mx.map ρ' := by cases mx with | none => rfl | some y => simp [h y (by simp)]
    simp only [h0, h1, h2, h3]
  case h_16 b args ts =>
    have : args.toList.map ρ = args.toList.map ρ' := List.map_congr_left fun x hx => h x (by simp at hx; simp [hx])
    simp only [this]
  all_goals first
    | rfl
    | (simp_all; done)

theorem xread_congr {P : Program} {ρ ρ' : Operand → XV} {op : Op} (h : ∀ x ∈ op.operands, ρ x = ρ' x) : xread P ρ op = xread P ρ' op := by
  unfold xread
  split
  all_goals simp only [Op.operands, Call.operands] at h
  case h_3 args ts =>
    split
    · rename_i x hx
      have : ρ x = ρ' x := h x (by
        have : x ∈ args.toList := by rw [hx]; simp
        simp at this
        simp [this])
      rw [this]
    · rfl
  case h_4 t x lo hi =>
    have h0 : ρ x = ρ' x := h x (by simp)
    have h1 : lo.map ρ = lo.map ρ' := by cases lo with | none => rfl | some y => simp [h y (by simp)]
    have h2 : hi.map ρ = hi.map ρ' := by cases hi with | none => rfl | some y => simp [h y (by simp)]
    simp only [h0, h1, h2]
  all_goals first
    | rfl
    | (simp_all; done)

theorem two_args {args : Array Operand} {s x : Operand} (h : args.toList = [s, x]) : s ∈ args ∧ x ∈ args := by
  have h1 : s ∈ args.toList := by rw [h]; simp
  have h2 : x ∈ args.toList := by rw [h]; simp
  exact ⟨by simpa using h1, by simpa using h2⟩

theorem xwrite_congr {P : Program} {ρ ρ' : Operand → XV} {op : Op} {m : Mem} (h : ∀ x ∈ op.operands, ρ x = ρ' x) : xwrite P ρ op m = xwrite P ρ' op m := by
  unfold xwrite
  split
  all_goals simp only [Op.operands, Call.operands] at h
  case h_4 t len parts =>
    have : (parts.toList.map fun p => (p.1, ρ p.2)) = parts.toList.map fun p => (p.1, ρ' p.2) := List.map_congr_left fun p hp => by
      rw [h p.2 (by simpa using ⟨p.1, by simpa using hp⟩)]
    simp only [this]
  case h_9 args ts =>
    split
    · rename_i s x t t1 hx _ _
      obtain ⟨h1, h2⟩ := two_args hx
      rw [h s (by simp [h1]), h x (by simp [h2])]
    · rfl
  case h_10 args ts =>
    split
    · rename_i s x t t1 hx _ _
      obtain ⟨h1, h2⟩ := two_args hx
      rw [h s (by simp [h1]), h x (by simp [h2])]
    · rfl
  all_goals first
    | rfl
    | (simp_all; done)

theorem xpureO_congr {O : Orc} {P : Program} {ρ ρ' : Operand → XV} {op : Op} (h : ∀ x ∈ op.operands, ρ x = ρ' x) : xpureO O P ρ op = xpureO O P ρ' op := by
  unfold xpureO
  rw [xpure_congr (P := P) h]
  split
  · rfl
  · unfold xorc
    cases op with
    | binOp o t x y t' => simp only [h x (by simp [Op.operands]), h y (by simp [Op.operands])]
    | convert s d x => simp only [h x (by simp [Op.operands])]
    | _ => rfl

theorem xcallOp_congr {O : Orc} {P : Program} {ρ ρ' : Operand → XV} {op : Op} {m : Mem} (h : ∀ x ∈ op.operands, ρ x = ρ' x) : xcallOp O P ρ op m = xcallOp O P ρ' op m := by
  unfold xcallOp
  split
  all_goals simp only [Op.operands, Call.operands] at h
  · rename_i g args ts
    have h0 : ρ g = ρ' g := h g (by simp)
    have : args.toList.map ρ = args.toList.map ρ' := List.map_congr_left fun x hx => h x (by simp at hx; simp [hx])
    simp only [h0, this]
  · rfl

/-! ### What stands ahead of what -/

inductive Anc (ops : Array Oper) : Nat → Nat → Prop where
  | edge {i : Nat} {o : Oper} {e : Edge} : ops[i]? = some o → e ∈ o.after → Region.binds .any e = true → Anc ops i e.on
  | trans {i k j : Nat} : Anc ops i k → Anc ops k j → Anc ops i j

def befGo : List Oper → List Nat → List Nat
  | [], acc => acc
  | o :: l, acc => befGo l (acc ++ [o.after.toList.foldl (fun s e => if Region.binds .any e then s ||| 2 ^ e.on ||| acc.getD e.on 0 else s) 0])

def bef (ops : List Oper) : List Nat := befGo ops []

theorem befGo_spec (ops : Array Oper) : ∀ (l : List Oper) (acc : List Nat), (∀ j, l[j]? = ops[acc.length + j]?) → (∀ i j, (acc.getD i 0).testBit j = true → Anc ops i j) → ∀ i j, ((befGo l acc).getD i 0).testBit j = true → Anc ops i j
  | [], acc, _, h, i, j, hb => h i j hb
  | o :: l, acc, hl, h, i, j, hb => by
    unfold befGo at hb
    refine befGo_spec ops l _ (fun j => ?_) (fun i j hb => ?_) i j hb
    · have := hl (j + 1)
      simpa [Nat.add_assoc, Nat.add_comm 1 j] using this
    · rcases Nat.lt_trichotomy i acc.length with hi | hi | hi
      · refine h i j ?_
        rw [List.getD_eq_getElem?_getD] at hb ⊢
        rwa [List.getElem?_append_left hi] at hb
      · subst hi
        rw [List.getD_eq_getElem?_getD, List.getElem?_append_right (Nat.le_refl _)] at hb
        simp only [Nat.sub_self, List.getElem?_cons_zero, Option.getD_some] at hb
        have ho : ops[acc.length]? = some o := by have := hl 0; simpa using this.symm
        have key : ∀ (es : List Edge) (s : Nat), (∀ e ∈ es, e ∈ o.after) → (s.testBit j = true → Anc ops acc.length j) →
            (es.foldl (fun s e => if Region.binds .any e then s ||| 2 ^ e.on ||| acc.getD e.on 0 else s) s).testBit j = true → Anc ops acc.length j := by
          intro es
          induction es with
          | nil => intro s _ hs hb; exact hs hb
          | cons e es ih =>
            intro s hes hs hb
            refine ih _ (fun e' he' => hes e' (List.mem_cons_of_mem _ he')) (fun ht => ?_) hb
            dsimp only at ht
            split at ht
            · rename_i hbd
              simp only [Nat.testBit_or, Bool.or_eq_true] at ht
              have hedge : Anc ops acc.length e.on := .edge ho (hes e (List.mem_cons_self ..)) hbd
              rcases ht with (ht | ht) | ht
              · exact hs ht
              · rw [Nat.testBit_two_pow] at ht
                have : e.on = j := by simpa using ht
                rw [← this]; exact hedge
              · exact .trans hedge (h _ _ ht)
            · exact hs ht
        exact key o.after.toList 0 (fun e he => by simpa using he) (fun ht => by simp at ht) hb
      · rw [List.getD_eq_getElem?_getD, List.getElem?_eq_none (by simp; omega)] at hb
        simp at hb

theorem bef_spec (ops : Array Oper) (i j : Nat) (h : ((bef ops.toList).getD i 0).testBit j = true) : Anc ops i j :=
  befGo_spec ops ops.toList [] (fun j => by simp) (fun i j hb => by simp at hb) i j h

/-! ### The checks -/

def bit (bs : List Nat) (i j : Nat) : Bool := (bs.getD i 0).testBit j

structure StaticOk (ops : Array Oper) (nt : Nat) : Prop where
  noSel : Region.noSelect ops = true
  back : ∀ (i : Nat) (o : Oper), ops[i]? = some o → ∀ e ∈ o.after, Region.binds .any e = true → e.on < i
  dst : ∀ (i : Nat) (o : Oper) (d : Nat), ops[i]? = some o → o.dst = some d → d < nt
  uniq : ∀ (i j : Nat) (oi oj : Oper) (t : Nat), ops[i]? = some oi → ops[j]? = some oj → oi.dst = some t → oj.dst = some t → i = j
  look : ∀ (i j : Nat) (oi oj : Oper) (t : Nat), ops[i]? = some oi → ops[j]? = some oj → oj.dst = some t → t ∈ oi.looksAt ops → i ≠ j → (j < i → Anc ops i j) ∧ (i < j → Anc ops j i)

def staticAt (ops : Array Oper) (nt : Nat) (bs : List Nat) (i : Nat) : Bool :=
  match ops[i]? with
    | .none => true
    | some oi =>
      oi.after.toList.all (fun e => !Region.binds .any e || decide (e.on < i)) &&
      (match oi.dst with | .none => true | some d => decide (d < nt)) &&
      (List.range ops.size).all fun j => match ops[j]? with
        | .none => true
        | some oj => match oj.dst with
          | .none => true
          | some t => i == j || (oi.dst != some t && (!(oi.looksAt ops).contains t || (if j < i then bit bs i j else bit bs j i)))

def drawnStatic (ops : Array Oper) (nt : Nat) (bs : List Nat) : Bool :=
  Region.noSelect ops && (List.range ops.size).all (staticAt ops nt bs)

theorem drawnStatic_ok {ops : Array Oper} {nt : Nat} (h : drawnStatic ops nt (bef ops.toList) = true) : StaticOk ops nt := by
  unfold drawnStatic at h
  simp only [Bool.and_eq_true, List.all_eq_true, List.mem_range] at h
  obtain ⟨h0, h⟩ := h
  have lt : ∀ (i : Nat) (o : Oper), ops[i]? = some o → i < ops.size := fun i o ho => (Array.getElem?_eq_some_iff.1 ho).1
  have at_ : ∀ (i : Nat) (o : Oper), ops[i]? = some o → ((o.after.toList.all (fun e => !Region.binds .any e || decide (e.on < i)) = true ∧
      (match o.dst with | .none => true | some d => decide (d < nt)) = true) ∧
      ∀ j, j < ops.size → (match ops[j]? with
        | .none => true
        | some oj => match oj.dst with
          | .none => true
          | some t => i == j || (o.dst != some t && (!(o.looksAt ops).contains t || (if j < i then bit (bef ops.toList) i j else bit (bef ops.toList) j i)))) = true) := fun i o ho => by
    have h1 := h i (lt i o ho)
    unfold staticAt at h1
    rw [ho] at h1
    simp only [Bool.and_eq_true] at h1
    refine ⟨h1.1, fun j hj => ?_⟩
    exact List.all_eq_true.1 h1.2 j (List.mem_range.2 hj)
  refine ⟨h0, fun i o ho e he hb => ?_, fun i o d ho hd => ?_, fun i j oi oj t hi hj hdi hdj => ?_, fun i j oi oj t hi hj hdj ht hne => ?_⟩
  · have := List.all_eq_true.1 (at_ i o ho).1.1 e (by simpa using he)
    simpa [hb] using this
  · have := (at_ i o ho).1.2
    rw [hd] at this
    simpa using this
  · have := (at_ i oi hi).2 j (lt j oj hj)
    rw [hj] at this
    simp only [hdj] at this
    rcases Nat.decEq i j with hne | he
    · have hb : (i == j) = false := by simpa using hne
      rw [hb] at this
      simp [hdi] at this
    · exact he
  · have := (at_ i oi hi).2 j (lt j oj hj)
    rw [hj] at this
    simp only [hdj] at this
    have hb : (i == j) = false := by simpa using hne
    rw [hb] at this
    simp only [Bool.false_or, Bool.and_eq_true, Bool.or_eq_true, Bool.not_eq_true'] at this
    have hc : (oi.looksAt ops).contains t = true := by simpa using ht
    rw [hc] at this
    have h2 := this.2.resolve_left (by simp)
    constructor
    · intro hlt
      rw [if_pos hlt] at h2
      exact bef_spec ops i j h2
    · intro hlt
      rw [if_neg (by omega)] at h2
      exact bef_spec ops j i h2

theorem Anc.lt {ops : Array Oper} {nt : Nat} (hs : StaticOk ops nt) : ∀ {i j : Nat}, Anc ops i j → j < i := by
  intro i j h
  induction h with
  | edge ho he hb => exact hs.back _ _ ho _ he hb
  | trans _ _ ih1 ih2 => omega

end Go.Xm
