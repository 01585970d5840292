/-
  The second machine: one operation with its guard; a call.
-/
import Derived.Test.YtaepmifmcohhgaaXmOne
namespace Go.Xm
set_option linter.unusedSectionVars false
variable [Atoms]

/-- What is known from elsewhere: of calls, of single operations. -/
structure Orc where
  call : FuncId → List XV → Mem → Option (XV × Mem)
  op : Op → List XV → Option XV

def xorc (O : Orc) (ρ : Operand → XV) : Op → Option XV
  | .binOp o t x y t' => O.op (.binOp o t x y t') [ρ x, ρ y]
  | .convert s d x => O.op (.convert s d x) [ρ x]
  | _ => .none

def xpureO (O : Orc) (P : Program) (ρ : Operand → XV) (op : Op) : Option XV :=
  match xpure P ρ op with
  | some x => some x
  | .none => xorc O ρ op

/-- An operation's value, wherever its operands' blocks lie. -/
def OpSound (P : Program) (op : Op) (l : List XV) (x : XV) : Prop :=
  ∀ (β : Env) (n : Nat) (o : Oper) (ev : Operand → Value), o.op = op → All2 (RelV β n) l (op.operands.toList.map ev) → ∀ w, ∃ z, (execOp ev o).run P w = .ok (.value z) w ∧ RelV β n x z

/-- What a call comes to, wherever its blocks lie. -/
def CallSound (P : Program) (f : FuncId) (args : List XV) (m : Mem) (v : XV) (m' : Mem) : Prop :=
  ∀ (β : Env) (w : World) (vs : List Value), All2 (RelV β m.n) args vs → Rel β m w →
    Calls P f vs.toArray w fun e w' => ∃ u β', e = .returned u ∧ RelV β' m'.n v u ∧ Step β m w β' m' w'

structure OrcSound (P : Program) (O : Orc) : Prop where
  call : ∀ f args m v m', O.call f args m = some (v, m') → CallSound P f args m v m'
  chg : ∀ f args m v m', O.call f args m = some (v, m') → Chg m m'
  op : ∀ o l x, O.op o l = some x → OpSound P o l x

/-- A function that a call may enter. -/
def xcallable (P : Program) (f : FuncId) : Bool :=
  match P.funcs[f]? with
  | some fn => fn.name != "runtime.NumGoroutine" && fn.body.isSome
  | .none => false

def xcallOp (O : Orc) (P : Program) (ρ : Operand → XV) (op : Op) (m : Mem) : Option (XV × Mem) :=
  match op with
  | .call ⟨.value g, args, _⟩ => match ρ g with
    | .one c => match xfn c with
      | some (f, caps) => if xcallable P f then O.call f (args.toList.map ρ ++ caps.map .one) m else .none
      | .none => .none
    | _ => .none
  | _ => .none

/-- How an operation goes: by itself, by one block, by making or writing, by a call. -/
structure Out where
  x : XV
  m : Mem
  eff : Bool
  fp : Option Nat

def xact (O : Orc) (P : Program) (ρ : Operand → XV) (op : Op) (m : Mem) : Option Out :=
  match xpureO O P ρ op with
  | some x => some ⟨x, m, false, .none⟩
  | .none => match xread P ρ op with
    | some (i, f) => match f (m.get i) with
      | some x => some ⟨x, m, false, some i⟩
      | .none => .none
    | .none => match xwrite P ρ op m with
      | some (x, m') => some ⟨x, m', true, .none⟩
      | .none => match xcallOp O P ρ op m with
        | some (x, m') => some ⟨x, m', true, .none⟩
        | .none => .none

/-- What the run of an operation leaves. -/
def Goes (P : Program) (ev : Operand → Value) (o : Oper) (β : Env) (m : Mem) (w : World) (x : XV) (m' : Mem) : Prop :=
  ∀ (a : Act) (K : Act → World → Prop) (Q : Exit → Act → World → Prop), a.eval = ev → (∀ u β' w', RelV β' m'.n x u → Step β m w β' m' w' → K (a.put o.dst u) w') → o.wp P a w K Q

theorem goes_of_value {P : Program} {ev : Operand → Value} {o : Oper} {β : Env} {m : Mem} {w : World} {x : XV} {z : Value} (hm : Rel β m w) (h : (execOp ev o).run P w = .ok (.value z) w) (hz : RelV β m.n x z) : Goes P ev o β m w x m := by
  intro a K Q ha hK
  unfold Oper.wp
  rw [ha, h]
  exact hK z β w hz (Step.refl hm)

theorem goes_of_does {P : Program} {ev : Operand → Value} {o : Oper} {β : Env} {m m' : Mem} {w : World} {x : XV} (h : Does P (execOp ev o) β m w x m') : Goes P ev o β m w x m' := by
  intro a K Q ha hK
  obtain ⟨nx, v, β', w', h1, h2, h3, h4⟩ := h
  unfold Oper.wp
  rw [ha, h1]
  cases nx <;> simp only [nextV] at h2 <;> cases h2
  · exact hK v β' w' h3 h4
  · exact hK undef β' w' h3 h4

theorem xcallOp_goes {O : Orc} {P : Program} (hO : OrcSound P O) {ρ : Operand → XV} {o : Oper} {m m' : Mem} {x : XV} (h : xcallOp O P ρ o.op m = some (x, m')) {β : Env} {w : World} (hm : Rel β m w) {ev : Operand → Value} (hr : ∀ x, RelV β m.n (ρ x) (ev x)) : Goes P ev o β m w x m' := by
  unfold xcallOp at h
  split at h
  · rename_i g args ts ho
    split at h
    · rename_i c hg
      split at h
      · rename_i f caps hf
        split at h
        · rename_i hcb
          have hrg := hr g
          rw [hg] at hrg
          obtain ⟨h1, h2⟩ := hrg
          obtain ⟨h3, h4⟩ := xfn_sound β hf h1
          have hall : All2 (RelV β m.n) (args.toList.map ρ ++ caps.map .one) (args.toList.map ev ++ caps.map (·.den β)) :=
            (all2_map hr _).append (All2.map_same _ _ _ fun c hc => ⟨h4 c hc, rfl⟩)
          have hcall := hO.call _ _ _ _ _ h β w _ hall hm
          intro a K Q ha hK
          unfold xcallable at hcb
          split at hcb
          · rename_i fn hfn
            simp only [Bool.and_eq_true, bne_iff_ne, ne_eq] at hcb
            have hev : ev g = .func (.func f) #[] (caps.map (·.den β)).toArray := by rw [h2, h3]
            have hrun : (execOp ev o).run P w = .ok (.enter f (args.toList.map ev ++ caps.map (·.den β)).toArray) w := by
              have e1 : (args.map ev ++ (caps.map (·.den β)).toArray) = (args.toList.map ev ++ caps.map (·.den β)).toArray := by apply Array.toList_inj.1; simp
              have hb : fn.body.isNone = false := by cases hbb : fn.body <;> simp_all
              have hnm : (fn.name == "runtime.NumGoroutine") = false := by simpa using hcb.1
              simp only [execOp, ho, resolve, hev, Deferred.ofValue, Sem.run_bind, Sem.run_pure, Result.andThen_ok, invoke, callFunc, run_program, hfn, hnm, hb, Bool.false_eq_true, if_false, Array.empty_append, e1]
            unfold Oper.wp
            rw [ha, hrun]
            simp only [Oper.upon]
            refine hcall.mono fun e w' he => ?_
            obtain ⟨u, β', rfl, h5, h6⟩ := he
            exact hK u β' w' h5 h6
          · cases hcb
        · cases h
      · cases h
    · cases h
  · cases h

theorem xpureO_sound {O : Orc} {P : Program} (hO : OrcSound P O) {ρ : Operand → XV} {o : Oper} {r : XV} (h : xpureO O P ρ o.op = some r) {β : Env} {n : Nat} {ev : Operand → Value} (hr : ∀ x, RelV β n (ρ x) (ev x)) (w : World) :
    ∃ z, (execOp ev o).run P w = .ok (.value z) w ∧ RelV β n r z := by
  unfold xpureO at h
  split at h
  · rename_i x hx
    cases h
    exact xpure_sound hx hr w
  · unfold xorc at h
    split at h
    · rename_i bo t x y t' ho
      exact hO.op _ _ _ h β n o ev ho (.cons (hr x) (.cons (hr y) .nil)) w
    · rename_i s d x ho
      exact hO.op _ _ _ h β n o ev ho (.cons (hr x) .nil) w
    · cases h

theorem xact_goes {O : Orc} {P : Program} (hO : OrcSound P O) {ρ : Operand → XV} {o : Oper} {m : Mem} {d : Out} (h : xact O P ρ o.op m = some d) {β : Env} {w : World} (hm : Rel β m w) {ev : Operand → Value} (hr : ∀ x, RelV β m.n (ρ x) (ev x)) : Goes P ev o β m w d.x d.m := by
  unfold xact at h
  split at h
  · rename_i x hx
    cases h
    obtain ⟨z, h1, h2⟩ := xpureO_sound hO hx hr w
    exact goes_of_value hm h1 h2
  · split at h
    · rename_i i f hf
      split at h
      · rename_i x hx
        cases h
        obtain ⟨z, h1, h2⟩ := xread_sound hf hr hm hx
        exact goes_of_value hm h1 h2
      · cases h
    · split at h
      · rename_i x m' hx
        cases h
        exact goes_of_does (xwrite_sound hx hm hr)
      · split at h
        · rename_i x m' hx
          cases h
          exact xcallOp_goes hO hx hm hr
        · cases h

theorem xact_chg {O : Orc} {P : Program} (hO : OrcSound P O) {ρ : Operand → XV} {op : Op} {m : Mem} {d : Out} (h : xact O P ρ op m = some d) : Chg m d.m := by
  unfold xact at h
  split at h
  · cases h; exact .same _
  · split at h
    · split at h
      · cases h; exact .same _
      · cases h
    · split at h
      · rename_i x m' hx
        cases h
        exact xwrite_chg hx
      · split at h
        · rename_i x m' hx
          cases h
          unfold xcallOp at hx
          (repeat' split at hx) <;> first
            | (cases hx; done)
            | exact hO.chg _ _ _ _ _ hx
        · cases h

/-! ### The guard -/

def xwanted (ops : Array Oper) (g : Nat → XV) (o : Oper) : Option Bool :=
  match o.guard with
  | .none => some true
  | some (j, want) => match (ops[j]?).bind (·.dst) with
    | .none => some false
    | some t => match g t with
      | .one (.bool b) => some (b == want)
      | .tup _ => some false
      | .agg _ => some false
      | _ => .none

theorem xwanted_sound {ops : Array Oper} {g : Nat → XV} {o : Oper} {b : Bool} (h : xwanted ops g o = some b) {β : Env} {n nt : Nat} {a : Array Value} (hr : RelF β n nt g a) : Region.wanted o (yielded ops a) = b := by
  unfold xwanted at h
  unfold Region.wanted
  split at h
  · cases h; rename_i hg; rw [hg]
  · rename_i j want hg
    rw [hg]
    simp only []
    split at h
    · rename_i hd
      cases h
      simp [yielded, hd]
    · rename_i t hd
      have hlt : ∀ x, g t = x → x ≠ .undef → t < nt := fun x hx hne => by
        rcases Nat.lt_or_ge t nt with h' | h'
        · exact h'
        · rw [hr.out t h'] at hx; exact absurd hx.symm hne
      have hget : t < nt → ∃ v, a[t]? = some v ∧ RelV β n (g t) v := fun ht => by
        have ht' : t < a.size := by rw [hr.size]; exact ht
        have := hr.rel t ht
        refine ⟨a[t], by simp [ht'], ?_⟩
        simpa [Array.getD_eq_getD_getElem?, ht'] using this
      split at h
      · rename_i x hx
        cases h
        obtain ⟨v, hv, hrv⟩ := hget (hlt _ hx (by simp))
        rw [hx] at hrv
        obtain ⟨_, rfl⟩ := hrv
        simp only [yielded, hd, Option.bind_some, hv, XC.den]
        cases x <;> cases want <;> rfl
      · rename_i x hx
        cases h
        obtain ⟨v, hv, hrv⟩ := hget (hlt _ hx (by simp))
        rw [hx] at hrv
        obtain ⟨_, rfl⟩ := hrv
        simp only [yielded, hd, Option.bind_some, hv]
        rfl
      · rename_i x hx
        cases h
        obtain ⟨v, hv, hrv⟩ := hget (hlt _ hx (by simp))
        rw [hx] at hrv
        obtain ⟨_, rfl⟩ := hrv
        simp only [yielded, hd, Option.bind_some, hv]
        rfl
      · cases h

/-- One operation of a region. -/
def xdo (O : Orc) (P : Program) (ops : Array Oper) (g : Nat → XV) (o : Oper) (m : Mem) : Option Out :=
  match xwanted ops g o with
  | some true => xact O P (xeval g) o.op m
  | some false => some ⟨.tup [], m, false, .none⟩
  | .none => .none

/-- A region in the text's order. -/
def xlist (O : Orc) (P : Program) (ops : Array Oper) (nt : Nat) : List Oper → T XV → Mem → Option (T XV × Mem)
  | [], r, m => some (r, m)
  | o :: l, r, m => match xdo O P ops (r.get .undef) o m with
    | some d => xlist O P ops nt l (xset nt r o.dst d.x) d.m
    | .none => .none

theorem xlist_chg {O : Orc} {P : Program} (hO : OrcSound P O) {ops : Array Oper} {nt : Nat} : ∀ {l : List Oper} {r r' : T XV} {m m' : Mem}, xlist O P ops nt l r m = some (r', m') → Chg m m'
  | [], r, r', m, m', h => by simp only [xlist, Option.some.injEq, Prod.mk.injEq] at h; obtain ⟨_, rfl⟩ := h; exact .same _
  | o :: l, r, r', m, m', h => by
    unfold xlist at h
    split at h
    · rename_i d hd
      refine .trans ?_ (xlist_chg hO h)
      unfold xdo at hd
      split at hd
      · exact xact_chg hO hd
      · cases hd; exact .same _
      · cases hd
    · cases h

theorem RelR.defers {a : Act} {d : List Deferred} : ({ a with defers := d } : Act).tmps = a.tmps := rfl

/-- What stands behind, whatever the state that the small one stands for. -/
def Post (β : Env) (m : Mem) (w : World) (nt : Nat) (ds : List Deferred) (r' : T XV) (m' : Mem) (K : Act → World → Prop) : Prop :=
  ∀ a' β' w', RelR β' m'.n nt r' a'.tmps → a'.defers = ds → Step β m w β' m' w' → K a' w'

theorem put_defers' (a : Act) (d : Option Tmp) (v : Value) : (a.put d v).defers = a.defers := by cases d <;> rfl

theorem xlist_wp {O : Orc} {P : Program} (hO : OrcSound P O) {ops : Array Oper} {nt : Nat} {Q : Exit → Act → World → Prop} : ∀ {l : List Oper} {r r' : T XV} {m m' : Mem} {β : Env} {w : World} {a : Act}, xlist O P ops nt l r m = some (r', m') → RelR β m.n nt r a.tmps → Rel β m w →
    Post β m w nt a.defers r' m' (Q .normal) → wpList P ops Q l a w
  | [], r, r', m, m', β, w, a, h, hr, hm, hq => by
    simp only [xlist, Option.some.injEq, Prod.mk.injEq] at h
    obtain ⟨rfl, rfl⟩ := h
    exact hq a β w hr rfl (Step.refl hm)
  | o :: l, r, r', m, m', β, w, a, h, hr, hm, hq => by
    unfold xlist at h
    split at h
    · rename_i d hd
      unfold xdo at hd
      unfold wpList
      split at hd
      · rename_i hw
        rw [if_pos (xwanted_sound hw hr)]
        refine .inl (xact_goes hO hd hm (fun x => hr.eval x) a _ Q rfl fun u β' w' hu hs => ?_)
        refine xlist_wp hO h (RelR.set (r := r) (hr.ext hs.ext hs.le) o.dst hu) hs.rel fun a'' β'' w'' h1 h2 h3 => ?_
        exact hq a'' β'' w'' h1 (by rw [h2, put_defers']) (hs.trans h3)
      · rename_i hw
        cases hd
        have := xwanted_sound hw hr
        rw [if_neg (by simp [this])]
        refine xlist_wp hO h (RelR.set (r := r) hr o.dst RelV.skip) hm fun a'' β'' w'' h1 h2 h3 => ?_
        exact hq a'' β'' w'' h1 (by rw [h2, put_defers']) h3
      · cases hd
    · cases h

end Go.Xm
