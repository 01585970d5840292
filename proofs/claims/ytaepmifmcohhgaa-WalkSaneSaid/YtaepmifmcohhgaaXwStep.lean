/-
  The second machine, with variables in its states: regions.
-/
import Derived.Test.YtaepmifmcohhgaaXwBase
namespace Go.Xm
set_option linter.unusedSectionVars false
variable [Atoms]

/-- What an operation touches: does it make or write; which object it reads; which objects may turn. -/
structure Ab where
  eff : Bool
  fp : Option Nat
  ws : List Nat

def putr (d : Option Nat) (x : XV) (al : Regs) : Regs :=
  match d with
  | some d => (d, x) :: al
  | .none => al

theorem RelF.putr {β : Env} {n nt : Nat} {al : Regs} {a : Act} (h : RelF β n nt (rg al) a.tmps) (d : Option Nat) {x : XV} {v : Value} (hv : RelV β n x v) (hd : ∀ t, d = some t → t < nt) : RelF β n nt (rg (Xm.putr d x al)) (a.put d v).tmps := by
  have := h.put d hv hd
  cases d with
  | none => exact this
  | some d =>
    have e : (fun t => if some d = some t then x else rg al t) = rg (Xm.putr (some d) x al) := by
      funext t
      simp only [Xm.putr, rg, Option.some.injEq, eq_comm (a := d)]
    rw [e] at this
    exact this

/-- One operation, from registers and objects. -/
def OpStep (O : Orc) (P : Program) (ops : Array Oper) (al : Regs) (hs : Heap) (o : Oper) (x : XV) (hs' : Heap) (b : Ab) : Prop :=
  ∀ m, Holds m hs → ∃ m', xdo O P ops (rg al) o m = some ⟨x, m', b.eff, b.fp⟩ ∧ Holds m' hs' ∧ ∀ j, j ∉ b.ws → (m'.ent j).ver = (m.ent j).ver

inductive StepsX (O : Orc) (P : Program) (ops : Array Oper) (nt : Nat) : List Oper → Regs → Heap → List Ab → Regs → Heap → Prop where
  | nil {al : Regs} {hs : Heap} : StepsX O P ops nt [] al hs [] al hs
  | cons {o : Oper} {l : List Oper} {al al' : Regs} {hs hs1 hs' : Heap} {x : XV} {b : Ab} {bs : List Ab} : OpStep O P ops al hs o x hs1 b → (∀ d, o.dst = some d → d < nt) → StepsX O P ops nt l (putr o.dst x al) hs1 bs al' hs' → StepsX O P ops nt (o :: l) al hs (b :: bs) al' hs'

section
variable {O : Orc} {P : Program} {ops : Array Oper} {nt nI : Nat}

theorem stepsX_wp (hO : OrcSound P O) {Q : Exit → Act → World → Prop} {l : List Oper} {al al' : Regs} {hs hs' : Heap} {bs : List Ab} (h : StepsX O P ops nt l al hs bs al' hs') : ∀ {m : Mem} {β : Env} {w : World} {a : Act}, Holds m hs → RelF β m.n nt (rg al) a.tmps → Rel β m w →
    (∀ m' a' β' w', Holds m' hs' → RelF β' m'.n nt (rg al') a'.tmps → a'.defers = a.defers → Step β m w β' m' w' → Q .normal a' w') → wpList P ops Q l a w := by
  induction h with
  | nil =>
    intro m β w a hm hr hw hq
    exact hq m a β w hm hr rfl (Step.refl hw)
  | cons ho hd _ ih =>
    rename_i o l al al' hs hs1 hs' x b bs _
    intro m β w a hm hr hw hq
    obtain ⟨m1, h1, h2, _⟩ := ho m hm
    unfold xdo at h1
    unfold wpList
    split at h1
    · rename_i hwt
      rw [if_pos (xwanted_sound hwt hr)]
      refine .inl (xact_goes hO h1 hw (fun x => hr.eval x) a _ Q rfl fun u β' w' hu hst => ?_)
      refine ih h2 ((hr.ext hst.ext hst.le).putr o.dst hu hd) hst.rel fun m' a'' β'' w'' k1 k2 k3 k4 => ?_
      exact hq m' a'' β'' w'' k1 k2 (by rw [k3, put_defers']) (hst.trans k4)
    · rename_i hwt
      simp only [Option.some.injEq, Out.mk.injEq] at h1
      obtain ⟨rfl, rfl, _, _⟩ := h1
      have := xwanted_sound hwt hr
      rw [if_neg (by simp [this])]
      refine ih h2 (hr.putr o.dst RelV.skip hd) hw fun m' a'' β'' w'' k1 k2 k3 k4 => ?_
      exact hq m' a'' β'' w'' k1 k2 (by rw [k3, put_defers']) k4
    · cases h1

theorem WX.plain (hO : OrcSound P O) {id : Nat} {al al' : Regs} {hs hs' : Heap} {bs : List Ab} {K : Post1} (h : StepsX O P ops nt ops.toList al hs bs al' hs') (hk : K .normal al' hs') : WX P nt nI (.code (.region id ops false)) al hs K :=
  fun _ _ _ _ _ hm _ _ _ _ hr hw hq => wp_region_list (stepsX_wp hO h hm hr hw.rel fun m' a' β' w' k1 k2 k3 k4 => hq .normal al' hs' m' hk k1 a' β' w' k2 k3 (hw.trans k4))

/-! ### A drawn order -/
theorem exists_tree (g : Nat → XV) (nt : Nat) (hn : nt < 1000000) (ho : ∀ t, nt ≤ t → g t = .undef) : ∃ r : T XV, ∀ t, r.get .undef t = g t := by
  have : ∀ k, k ≤ nt → ∃ r : T XV, ∀ t, r.get .undef t = if t < k then g t else .undef := by
    intro k
    induction k with
    | zero => intro _; exact ⟨.leaf, fun t => by simp [T.get_leaf]⟩
    | succ k ih =>
      intro hk
      obtain ⟨r, hr⟩ := ih (by omega)
      refine ⟨r.set .undef 31 k (g k), fun t => ?_⟩
      by_cases ht : t = k
      · subst ht
        rw [T.get_set_eq _ _ _ _ _ (by omega)]
        simp
      · rw [T.get_set_ne _ _ _ _ _ _ ht, hr t]
        by_cases h1 : t < k
        · rw [if_pos h1, if_pos (by omega)]
        · rw [if_neg h1, if_neg (by omega)]
  obtain ⟨r, hr⟩ := this nt (Nat.le_refl _)
  refine ⟨r, fun t => ?_⟩
  rw [hr t]
  split
  · rfl
  · exact (ho t (by omega)).symm

def pairAb (bs : List Nat) (i : Nat) (di : Ab) (e : Nat) (de : Ab) : Bool :=
  !de.eff || i == e || ((!(di.eff && decide (e < i)) || bit bs i e) &&
    (match di.fp with
      | .none => true
      | some fp => bit bs i e || bit bs e i || !(de.ws.contains fp)))

def dynAb (bs : List Nat) (tr : List Ab) : Bool :=
  (List.range tr.length).all fun i => match tr[i]? with
    | .none => true
    | some di => (!di.eff && di.fp.isNone) || (List.range tr.length).all fun e => match tr[e]? with
      | .none => true
      | some de => pairAb bs i di e de

/-- A trace is as was told. -/
def TrOk : List (Mem × Out) → List Ab → Prop := All2 fun p b => p.2.eff = b.eff ∧ p.2.fp = b.fp ∧ ∀ j, j ∉ b.ws → (p.2.m.ent j).ver = (p.1.ent j).ver

theorem All2.get? {α γ : Type} {R : α → γ → Prop} : ∀ {l : List α} {k : List γ}, All2 R l k → ∀ (i : Nat) (a : α), l[i]? = some a → ∃ b, k[i]? = some b ∧ R a b
  | _, _, .nil, i, a, h => by simp at h
  | _, _, .cons h t, 0, a, h1 => by simp at h1; subst h1; exact ⟨_, rfl, h⟩
  | _, _, .cons h t, i + 1, a, h1 => by simp at h1; exact t.get? i a h1

theorem dyn_of_ab {bs : List Nat} {tr : List (Mem × Out)} {ab : List Ab} (ht : TrOk tr ab) (h : dynAb bs ab = true) : drawnDyn bs tr = true := by
  have hl : tr.length = ab.length := All2.length ht
  unfold dynAb at h
  unfold drawnDyn
  rw [List.all_eq_true] at h ⊢
  intro i hi
  have hi' := h i (by rw [← hl]; exact hi)
  split
  · rfl
  · rename_i mi di hdi
    obtain ⟨bi, hb, h1, h2, _⟩ := All2.get? ht i _ hdi
    simp only at h1 h2
    rw [hb] at hi'
    simp only [Bool.or_eq_true] at hi' ⊢
    rw [h1, h2]
    rcases hi' with hi' | hi'
    · exact .inl hi'
    · refine .inr (List.all_eq_true.2 fun e he => ?_)
      have he' := List.all_eq_true.1 hi' e (by rw [← hl]; exact he)
      split
      · rfl
      · rename_i me de hde
        obtain ⟨be, hbe, k1, k2, k3⟩ := All2.get? ht e _ hde
        simp only at k1 k2 k3
        rw [hbe] at he'
        unfold pairOk
        unfold pairAb at he'
        rw [h1, h2, k1]
        simp only [Bool.or_eq_true, Bool.and_eq_true] at he' ⊢
        rcases he' with he' | ⟨ha, hb'⟩
        · exact .inl he'
        · refine .inr ⟨ha, ?_⟩
          cases hf : bi.fp with
          | none => rfl
          | some fp =>
            rw [hf] at hb'
            simp only [Bool.or_eq_true] at hb' ⊢
            rcases hb' with hb' | hb'
            · exact .inl hb'
            · refine .inr ?_
              have : fp ∉ be.ws := by simpa using hb'
              rw [k3 fp this]
              simp

theorem xset_rg {r : T XV} {al : Regs} (hr : ∀ t, r.get .undef t = rg al t) (hn : nt < 1000000) (d : Option Nat) (x : XV) (hd : ∀ t, d = some t → t < nt) : ∀ t, (xset nt r d x).get .undef t = rg (putr d x al) t := by
  intro t
  cases d with
  | none => exact hr t
  | some d =>
    have := hd d rfl
    simp only [xset, this, if_true, putr, rg]
    by_cases ht : t = d
    · subst ht
      rw [T.get_set_eq _ _ _ _ _ (by omega), if_pos rfl]
    · rw [T.get_set_ne _ _ _ _ _ _ ht, if_neg ht]
      exact hr t

theorem stepsX_trace (hn : nt < 1000000) {l : List Oper} {al al' : Regs} {hs hs' : Heap} {bs : List Ab} (h : StepsX O P ops nt l al hs bs al' hs') : ∀ {m : Mem} {r : T XV}, Holds m hs → (∀ t, r.get .undef t = rg al t) →
    ∃ tr r' m', xtrace O P ops nt l r m = some (tr, r', m') ∧ (∀ t, r'.get .undef t = rg al' t) ∧ Holds m' hs' ∧ TrOk tr bs := by
  induction h with
  | nil =>
    intro m r hm hr
    exact ⟨[], r, m, rfl, hr, hm, .nil⟩
  | cons ho hd _ ih =>
    rename_i o l al al' hs hs1 hs' x b bs _
    intro m r hm hr
    obtain ⟨m1, h1, h2, h3⟩ := ho m hm
    have e : (fun t => r.get .undef t) = rg al := funext hr
    obtain ⟨tr, r', m', k1, k2, k3, k4⟩ := ih h2 (xset_rg hr hn o.dst x hd)
    refine ⟨(m, ⟨x, m1, b.eff, b.fp⟩) :: tr, r', m', ?_, k2, k3, .cons ⟨rfl, rfl, h3⟩ k4⟩
    unfold xtrace
    have h1' : xdo O P ops (r.get .undef) o m = some ⟨x, m1, b.eff, b.fp⟩ := by rw [show (r.get .undef) = rg al from e]; exact h1
    rw [h1']
    simp only [k1]

theorem WX.drawn (hO : OrcSound P O) (hP : P.follows .mixedOrders = true) {id : Nat} {al al' : Regs} {hs hs' : Heap} {bs : List Ab} {K : Post1} (hst : drawnStatic ops nt (bef ops.toList) = true) (h : StepsX O P ops nt ops.toList al hs bs al' hs') (hdy : dynAb (bef ops.toList) bs = true)
    (hk : K .normal al' hs') : WX P nt nI (.code (.region id ops true)) al hs K := by
  intro βI mI wI hn m hm β w a Q hr hw hq
  obtain ⟨r, hrr⟩ := exists_tree (rg al) nt hr.small hr.out
  obtain ⟨tr, r', m', h1, h2, h3, h4⟩ := stepsX_trace hr.small h hm hrr
  have hx : xdrawn O P ops nt r m = some (r', m') := by
    unfold xdrawn xdrawn1
    rw [if_pos hst, h1]
    simp only []
    rw [if_pos (dyn_of_ab h4 hdy)]
  have e : (r.get .undef) = rg al := funext hrr
  have e' : (r'.get .undef) = rg al' := funext h2
  refine xdrawn_wp hO hP hx (by unfold RelR; rw [e]; exact hr) hw.rel fun a' β' w' k1 k2 k3 => ?_
  unfold RelR at k1
  rw [e'] at k1
  exact hq .normal al' hs' m' hk h3 a' β' w' k1 k2 (hw.trans k3)

end
end Go.Xm
