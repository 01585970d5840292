/-
  The second machine: a region whose order is drawn, held against the model's every order.
-/
import Derived.Test.YtaepmifmcohhgaaXmDrawn
namespace Go.Xm
set_option linter.unusedSectionVars false
variable [Atoms]

/-- The run in the text's order, with what each operation met and made. -/
def xtrace (O : Orc) (P : Program) (ops : Array Oper) (nt : Nat) : List Oper → T XV → Mem → Option (List (Mem × Out) × T XV × Mem)
  | [], r, m => some ([], r, m)
  | o :: l, r, m => match xdo O P ops (r.get .undef) o m with
    | some d => match xtrace O P ops nt l (xset nt r o.dst d.x) d.m with
      | some (tr, r', m') => some ((m, d) :: tr, r', m')
      | .none => .none
    | .none => .none

structure Trace (O : Orc) (P : Program) (ops : Array Oper) (nt : Nat) (l : List Oper) (tr : List (Mem × Out)) (rs : Nat → T XV) (ms : Nat → Mem) (ds : Nat → Out) : Prop where
  at_ : ∀ i o, l[i]? = some o → tr[i]? = some (ms i, ds i) ∧ xdo O P ops ((rs i).get .undef) o (ms i) = some (ds i) ∧ rs (i + 1) = xset nt (rs i) o.dst (ds i).x ∧ ms (i + 1) = (ds i).m

theorem xtrace_spec {O : Orc} {P : Program} {ops : Array Oper} {nt : Nat} : ∀ {l : List Oper} {r r' : T XV} {m m' : Mem} {tr : List (Mem × Out)}, xtrace O P ops nt l r m = some (tr, r', m') →
    ∃ rs ms ds, Trace O P ops nt l tr rs ms ds ∧ rs 0 = r ∧ ms 0 = m ∧ rs l.length = r' ∧ ms l.length = m'
  | [], r, r', m, m', tr, h => by
    simp only [xtrace, Option.some.injEq, Prod.mk.injEq] at h
    obtain ⟨rfl, rfl, rfl⟩ := h
    exact ⟨fun _ => r, fun _ => m, fun _ => ⟨.undef, m, false, .none⟩, ⟨fun i o h => by simp at h⟩, rfl, rfl, rfl, rfl⟩
  | o :: l, r, r', m, m', tr, h => by
    unfold xtrace at h
    split at h
    · rename_i d hd
      split at h
      · rename_i tr1 r1 m1 ht
        simp only [Option.some.injEq, Prod.mk.injEq] at h
        obtain ⟨rfl, rfl, rfl⟩ := h
        obtain ⟨rs, ms, ds, hT, h1, h2, h3, h4⟩ := xtrace_spec ht
        refine ⟨fun k => match k with | 0 => r | k + 1 => rs k, fun k => match k with | 0 => m | k + 1 => ms k, fun k => match k with | 0 => d | k + 1 => ds k, ⟨fun i o' hi => ?_⟩, rfl, rfl, h3, h4⟩
        cases i with
        | zero =>
          simp only [List.getElem?_cons_zero, Option.some.injEq] at hi
          subst hi
          exact ⟨rfl, hd, h1, h2⟩
        | succ i =>
          simp only [List.getElem?_cons_succ] at hi
          have := hT.at_ i o' hi
          simpa using this
      · cases h
    · cases h

def pairOk (bs : List Nat) (i : Nat) (di : Out) (e : Nat) (me : Mem) (de : Out) : Bool :=
  !de.eff || i == e || ((!(di.eff && decide (e < i)) || bit bs i e) &&
    (match di.fp with
      | .none => true
      | some fp => bit bs i e || bit bs e i || (de.m.ent fp).ver == (me.ent fp).ver))

def drawnDyn (bs : List Nat) (tr : List (Mem × Out)) : Bool :=
  (List.range tr.length).all fun i => match tr[i]? with
    | .none => true
    | some (_, di) => (!di.eff && di.fp.isNone) || (List.range tr.length).all fun e => match tr[e]? with
      | .none => true
      | some (me, de) => pairOk bs i di e me de

def xdrawn1 (O : Orc) (P : Program) (ops : Array Oper) (nt : Nat) (r : T XV) (m : Mem) : Option (T XV × Mem) :=
  if drawnStatic ops nt (bef ops.toList) then
    match xtrace O P ops nt ops.toList r m with
    | some (tr, r', m') => if drawnDyn (bef ops.toList) tr then some (r', m') else .none
    | .none => .none
  else .none

theorem xdo_chg {O : Orc} {P : Program} (hO : OrcSound P O) {ops : Array Oper} {g : Nat → XV} {o : Oper} {m : Mem} {d : Out} (h : xdo O P ops g o m = some d) : Chg m d.m := by
  unfold xdo at h
  split at h
  · exact xact_chg hO h
  · cases h; exact .same _
  · cases h

theorem xdo_quiet {O : Orc} {P : Program} {ops : Array Oper} {g : Nat → XV} {o : Oper} {m : Mem} {d : Out} (h : xdo O P ops g o m = some d) (he : d.eff = false) : d.m = m := by
  unfold xdo at h
  split at h
  · unfold xact at h
    (repeat' split at h) <;> first
      | (cases h; rfl)
      | (cases h; cases he)
      | (cases h; done)
  · cases h; rfl
  · cases h

/-- An operation, done elsewhere: with the same operands, and the same block where it reads one. -/
theorem xdo_again {O : Orc} {P : Program} {ops : Array Oper} {g g' : Nat → XV} {o : Oper} {m m' : Mem} {d : Out} (h : xdo O P ops g o m = some d) (hg : ∀ t ∈ o.looksAt ops, g' t = g t) (he : d.eff = false) (hfp : ∀ fp, d.fp = some fp → m'.get fp = m.get fp) :
    xdo O P ops g' o m' = some { d with m := m' } := by
  have hops : ∀ x ∈ o.op.operands, xeval g' x = xeval g x := fun x hx => by
    cases x with
    | tmp t => exact hg t (List.mem_append_left _ (List.mem_filterMap.2 ⟨.tmp t, by simpa using hx, rfl⟩))
    | _ => rfl
  have hw : xwanted ops g' o = xwanted ops g o := by
    unfold xwanted
    split
    · rfl
    · rename_i j want hgd
      split
      · rfl
      · rename_i t ht
        rw [hg t (by simp [Oper.looksAt, hgd, ht])]
  unfold xdo at h ⊢
  rw [hw]
  generalize xwanted ops g o = q at h ⊢
  cases q with
  | none => cases h
  | some b =>
    cases b with
    | false => cases h; rfl
    | true =>
      simp only [] at h ⊢
      unfold xact at h ⊢
      rw [xpureO_congr (O := O) (P := P) hops, xread_congr (P := P) hops]
      split at h
      · cases h; rfl
      · split at h
        · rename_i i f hf
          split at h
          · rename_i x hx
            cases h
            simp only [hfp i rfl, hx]
          · cases h
        · split at h
          · cases h; cases he
          · split at h
            · cases h; cases he
            · cases h

/-- An operation that makes or writes, done with the same operands. -/
theorem xdo_again_eff {O : Orc} {P : Program} {ops : Array Oper} {g g' : Nat → XV} {o : Oper} {m : Mem} {d : Out} (h : xdo O P ops g o m = some d) (hg : ∀ t ∈ o.looksAt ops, g' t = g t) :
    xdo O P ops g' o m = some d := by
  have hops : ∀ x ∈ o.op.operands, xeval g' x = xeval g x := fun x hx => by
    cases x with
    | tmp t => exact hg t (List.mem_append_left _ (List.mem_filterMap.2 ⟨.tmp t, by simpa using hx, rfl⟩))
    | _ => rfl
  have hw : xwanted ops g' o = xwanted ops g o := by
    unfold xwanted
    split
    · rfl
    · rename_i j want hgd
      split
      · rfl
      · rename_i t ht
        rw [hg t (by simp [Oper.looksAt, hgd, ht])]
  unfold xdo at h ⊢
  rw [hw]
  unfold xact at h ⊢
  rw [xpureO_congr (O := O) (P := P) hops, xread_congr (P := P) hops, xwrite_congr (P := P) hops, xcallOp_congr (P := P) hops]
  exact h

/-- One operation at any state that the small one stands for. -/
theorem xdo_wp {O : Orc} {P : Program} (hO : OrcSound P O) {ops : Array Oper} {g : Nat → XV} {o : Oper} {m : Mem} {d : Out} {nt i : Nat} (hi : ops[i]? = some o) (h : xdo O P ops g o m = some d) {β : Env} {w : World} {a : Act} (hm : Rel β m w) (hr : RelF β m.n nt g a.tmps)
    {K : Act → World → Prop} {Q : Exit → Act → World → Prop} (hK : ∀ u β' w', RelV β' d.m.n d.x u → Step β m w β' d.m w' → K (a.put o.dst u) w') : wpOp P ops Q i K a w := by
  unfold wpOp
  rw [hi]
  simp only []
  unfold xdo at h
  split at h
  · rename_i hw
    rw [if_pos (xwanted_sound hw hr)]
    exact .inl (xact_goes hO h hm (fun x => hr.eval x) a _ Q rfl hK)
  · rename_i hw
    cases h
    have := xwanted_sound hw hr
    rw [if_neg (by simp [this])]
    exact hK undef β w RelV.skip (Step.refl hm)
  · cases h

theorem RelF.put {β : Env} {n nt : Nat} {g : Nat → XV} {a : Act} (h : RelF β n nt g a.tmps) (d : Option Nat) {x : XV} {v : Value} (hv : RelV β n x v) (hd : ∀ t, d = some t → t < nt) :
    RelF β n nt (fun t => if d = some t then x else g t) (a.put d v).tmps := by
  cases d with
  | none => simpa [Act.put] using h
  | some d =>
    have hlt := hd d rfl
    refine ⟨by simpa [Act.put] using h.size, h.small, fun t ht => ?_, fun t ht => ?_⟩
    · by_cases htd : d = t
      · subst htd
        simp only [if_true]
        have : (a.put (some d) v).tmps.getD d undef = v := by simp [Act.put, Array.getD_eq_getD_getElem?, h.size, hlt]
        rw [this]; exact hv
      · have hne : ¬ (some d = some t) := fun e => htd (Option.some.inj e)
        simp only [hne, if_false]
        have : (a.put (some d) v).tmps.getD t undef = a.tmps.getD t undef := by
          simp [Act.put, Array.getD_eq_getD_getElem?, Array.getElem?_setIfInBounds_ne htd]
        rw [this]; exact h.rel t ht
    · have hne : ¬ (some d = some t) := fun e => by
        have : d = t := Option.some.inj e
        omega
      simp only [hne, if_false]
      exact h.out t ht

end Go.Xm
