/-
  The second machine: code, calls; what a run says of the model's.
-/
import Derived.Test.YtaepmifmcohhgaaXmFloat
namespace Go.Xm
set_option linter.unusedSectionVars false
variable [Atoms]

inductive XR where
  | norm (r : T XV) (m : Mem)
  | exit (id : Nat) (r : T XV) (m : Mem)
  | goto (l : Nat) (r : T XV) (m : Mem)
  | ret (r : T XV) (m : Mem)

inductive Cmd where
  | code (c : Code)
  | jump (c rest : Code)
  | round (c : Code)

/-- One level of a run: 'self' runs what stands inside. -/
def xstep (O : Orc) (P : Program) (nt : Nat) (self : Cmd → T XV → Mem → Option XR) : Cmd → T XV → Mem → Option XR
  | .jump c rest, r, m => match self (.code rest) r m with
    | some (.goto l r m) => match findLabel c l with
      | some rest' => self (.jump c rest') r m
      | .none => some (.goto l r m)
    | x => x
  | .code .skip, r, m => some (.norm r m)
  | .code (.label _), r, m => some (.norm r m)
  | .code (.region _ ops false), r, m => match xlist O P ops nt ops.toList r m with
    | some (r, m) => some (.norm r m)
    | .none => .none
  | .code (.region _ ops true), r, m => match xdrawn O P ops nt r m with
    | some (r, m) => some (.norm r m)
    | .none => .none
  | .code (.seq a b), r, m => match self (.code a) r m with
    | some (.norm r m) => self (.code b) r m
    | x => x
  | .code (.cond c a b), r, m => match xeval (r.get .undef) c with
    | .one (.bool true) => self (.code a) r m
    | .one (.bool false) => self (.code b) r m
    | _ => .none
  | .code (.block id c), r, m => match self (.code c) r m with
    | some (.exit id' r m) => if id' = id then some (.norm r m) else some (.exit id' r m)
    | x => x
  | .code (.loop c), r, m => self (.round c) r m
  | .round c, r, m => match self (.code c) r m with
    | some (.norm r m) => self (.round c) r m
    | x => x
  | .code (.exit id), r, m => some (.exit id r m)
  | .code (.goto l), r, m => some (.goto l r m)
  | .code (.scope c), r, m => self (.jump c c) r m
  | .code .ret, r, m => some (.ret r m)
  | .code _, _, _ => .none

def xrun (O : Orc) (P : Program) (nt : Nat) : Nat → Cmd → T XV → Mem → Option XR
  | 0 => fun _ _ _ => .none
  | n + 1 => xstep O P nt (xrun O P nt n)

def XR.mem : XR → Mem
  | .norm _ m => m
  | .exit _ _ m => m
  | .goto _ _ m => m
  | .ret _ m => m

def XR.regs : XR → T XV
  | .norm r _ => r
  | .exit _ r _ => r
  | .goto _ r _ => r
  | .ret r _ => r

def XR.ex : XR → Exit
  | .norm _ _ => .normal
  | .exit id _ _ => .exit id
  | .goto l _ _ => .goto l
  | .ret _ _ => .ret

/-- What stands behind a run, whatever the state that it stands for. -/
def PostX (β : Env) (m : Mem) (w : World) (nt : Nat) (dfs : List Deferred) (x : XR) (Q : Exit → Act → World → Prop) : Prop :=
  ∀ a' β' w', RelR β' x.mem.n nt x.regs a'.tmps → a'.defers = dfs → Step β m w β' x.mem w' → Q x.ex a' w'

theorem PostX.after {β β' : Env} {m m' : Mem} {w w' : World} {nt : Nat} {dfs : List Deferred} {x : XR} {Q : Exit → Act → World → Prop} (h : PostX β m w nt dfs x Q) (hs : Step β m w β' m' w') : PostX β' m' w' nt dfs x Q :=
  fun a' β'' w'' h1 h2 h3 => h a' β'' w'' h1 h2 (hs.trans h3)

/-- What a command's run means. -/
def Means (P : Program) (c : Cmd) (Q : Exit → Act → World → Prop) (a : Act) (w : World) : Prop :=
  match c with
  | .code c => c.wp P Q a w
  | .jump c rest => ∀ (b : Frame) (k : List Item) (cs : List Frame), ∃ e a' w', Q e a' w' ∧ Arrives P (lone (b.at a (.code rest :: .inScope c :: k)) cs w) b k cs e a' w'
  | .round c => ∀ (b : Frame) (k : List Item) (cs : List Frame), ∃ e a' w', Q e a' w' ∧ Arrives P (lone (b.at a (.code c :: .inLoop c :: k)) cs w) b k cs e a' w'

def SelfOk (P : Program) (nt : Nat) (self : Cmd → T XV → Mem → Option XR) : Prop :=
  ∀ (c : Cmd) (r : T XV) (m : Mem) (x : XR), self c r m = some x → Chg m x.mem ∧ ∀ (β : Env) (w : World) (a : Act) (Q : Exit → Act → World → Prop), RelR β m.n nt r a.tmps → Rel β m w → PostX β m w nt a.defers x Q → Means P c Q a w

theorem xstep_ok {O : Orc} {P : Program} (hO : OrcSound P O) (hP : P.follows .mixedOrders = true) {nt : Nat} {self : Cmd → T XV → Mem → Option XR} (hself : SelfOk P nt self) : SelfOk P nt (xstep O P nt self) := by
  intro c r m x h
  unfold xstep at h
  split at h
  · -- jump
    rename_i c rest
    split at h
    · rename_i l r1 m1 h1
      obtain ⟨hc1, hw1⟩ := hself _ _ _ _ h1
      split at h
      · rename_i rest' hf
        obtain ⟨hc2, hw2⟩ := hself _ _ _ _ h
        refine ⟨hc1.trans hc2, fun β w a Q hr hm hq => ?_⟩
        intro b k cs
        have := hw1 β w a (fun e a' w' => e = .goto l ∧ Means P (.jump c rest') Q a' w') hr hm (fun a' β' w' h1 h2 h3 => ⟨rfl, hw2 β' w' a' Q h1 h3.rel (by rw [h2]; exact hq.after h3)⟩) b (.inScope c :: k) cs
        obtain ⟨e, a₁, w₁, ⟨rfl, hmn⟩, harr⟩ := this
        obtain ⟨e₂, a₂, w₂, hq₂, harr₂⟩ := hmn b k cs
        have hg : gotoIn l (.inScope c :: k) = some (.code rest' :: .inScope c :: k) := by simp [gotoIn, hf]
        exact ⟨e₂, a₂, w₂, hq₂, .of_steps (harr _ hg) harr₂⟩
      · rename_i hf
        cases h
        refine ⟨hc1, fun β w a Q hr hm hq => ?_⟩
        intro b k cs
        obtain ⟨e, a₁, w₁, ⟨rfl, hq1⟩, harr⟩ := hw1 β w a (fun e a' w' => e = .goto l ∧ Q (.goto l) a' w') hr hm (fun a' β' w' h1 h2 h3 => ⟨rfl, hq a' β' w' h1 h2 h3⟩) b (.inScope c :: k) cs
        exact ⟨.goto l, a₁, w₁, hq1, fun k' hk => harr k' (by simp [gotoIn, hf, hk])⟩
    · rename_i hno
      obtain ⟨hc1, hw1⟩ := hself _ _ _ _ h
      refine ⟨hc1, fun β w a Q hr hm hq => ?_⟩
      intro b k cs
      have hng : ∀ l, x.ex ≠ .goto l := fun l he => by
        cases x with
        | goto l' r' m' => exact hno l' r' m' h
        | _ => cases he
      obtain ⟨e, a₁, w₁, ⟨rfl, hq1⟩, harr⟩ := hw1 β w a (fun e a' w' => e = x.ex ∧ Q e a' w') hr hm (fun a' β' w' h1 h2 h3 => ⟨rfl, hq a' β' w' h1 h2 h3⟩) b (.inScope c :: k) cs
      cases x with
      | norm r' m' => exact ⟨.normal, a₁, w₁, hq1, Steps.trans harr (.one step_inScope)⟩
      | exit id r' m' => exact ⟨.exit id, a₁, w₁, hq1, fun k' hk => harr k' (by simp [exitTo, hk])⟩
      | goto l r' m' => exact absurd rfl (hng l)
      | ret r' m' => exact ⟨.ret, a₁, w₁, hq1, harr⟩
  · cases h
    exact ⟨.same _, fun β w a Q hr hm hq => wp_skip (hq a β w hr rfl (Step.refl hm))⟩
  · cases h
    exact ⟨.same _, fun β w a Q hr hm hq => wp_label (hq a β w hr rfl (Step.refl hm))⟩
  · rename_i id ops
    split at h
    · rename_i r1 m1 h1
      cases h
      exact ⟨xlist_chg hO h1, fun β w a Q hr hm hq => wp_region_list (xlist_wp hO h1 hr hm hq)⟩
    · cases h
  · rename_i id ops
    split at h
    · rename_i r1 m1 h1
      cases h
      exact ⟨xdrawn_chg hO h1, fun β w a Q hr hm hq => xdrawn_wp hO hP h1 hr hm hq⟩
    · cases h
  · rename_i c1 c2
    split at h
    · rename_i r1 m1 h1
      obtain ⟨hc1, hw1⟩ := hself _ _ _ _ h1
      obtain ⟨hc2, hw2⟩ := hself _ _ _ _ h
      refine ⟨hc1.trans hc2, fun β w a Q hr hm hq => wp_seq ?_⟩
      exact hw1 β w a _ hr hm (fun a' β' w' k1 k2 k3 => hw2 β' w' a' Q k1 k3.rel (by rw [k2]; exact hq.after k3))
    · rename_i hno
      obtain ⟨hc1, hw1⟩ := hself _ _ _ _ h
      refine ⟨hc1, fun β w a Q hr hm hq => wp_seq ?_⟩
      refine hw1 β w a _ hr hm (fun a' β' w' k1 k2 k3 => ?_)
      cases x with
      | norm r' m' => exact (hno r' m' h).elim
      | exit id r' m' => exact hq a' β' w' k1 k2 k3
      | goto l r' m' => exact hq a' β' w' k1 k2 k3
      | ret r' m' => exact hq a' β' w' k1 k2 k3
  · rename_i cd c1 c2
    split at h
    · rename_i hcd
      obtain ⟨hc1, hw1⟩ := hself _ _ _ _ h
      refine ⟨hc1, fun β w a Q hr hm hq => ?_⟩
      have he := hr.eval cd
      rw [hcd] at he
      exact wp_cond_true he.2 (hw1 β w a Q hr hm hq)
    · rename_i hcd
      obtain ⟨hc1, hw1⟩ := hself _ _ _ _ h
      refine ⟨hc1, fun β w a Q hr hm hq => ?_⟩
      have he := hr.eval cd
      rw [hcd] at he
      exact wp_cond_false he.2 (hw1 β w a Q hr hm hq)
    · cases h
  · rename_i id c
    split at h
    · rename_i id' r1 m1 h1
      obtain ⟨hc1, hw1⟩ := hself _ _ _ _ h1
      split at h
      · rename_i hid
        cases h
        refine ⟨hc1, fun β w a Q hr hm hq => wp_block ?_⟩
        exact hw1 β w a _ hr hm (fun a' β' w' k1 k2 k3 => by
          show (if id' = id then Q .normal a' w' else Q (.exit id') a' w')
          rw [if_pos hid]
          exact hq a' β' w' k1 k2 k3)
      · rename_i hid
        cases h
        refine ⟨hc1, fun β w a Q hr hm hq => wp_block ?_⟩
        exact hw1 β w a _ hr hm (fun a' β' w' k1 k2 k3 => by
          show (if id' = id then Q .normal a' w' else Q (.exit id') a' w')
          rw [if_neg hid]
          exact hq a' β' w' k1 k2 k3)
    · rename_i hno
      obtain ⟨hc1, hw1⟩ := hself _ _ _ _ h
      refine ⟨hc1, fun β w a Q hr hm hq => wp_block ?_⟩
      refine hw1 β w a _ hr hm (fun a' β' w' k1 k2 k3 => ?_)
      cases x with
      | norm r' m' => exact hq a' β' w' k1 k2 k3
      | exit id r' m' => exact (hno id r' m' h).elim
      | goto l r' m' => exact hq a' β' w' k1 k2 k3
      | ret r' m' => exact hq a' β' w' k1 k2 k3
  · rename_i c
    obtain ⟨hc1, hw1⟩ := hself _ _ _ _ h
    refine ⟨hc1, fun β w a Q hr hm hq => ?_⟩
    intro b k cs
    obtain ⟨e, a₁, w₁, hq1, harr⟩ := hw1 β w a Q hr hm hq b k cs
    exact ⟨e, a₁, w₁, hq1, .of_steps (.one step_loop) harr⟩
  · rename_i c
    split at h
    · rename_i r1 m1 h1
      obtain ⟨hc1, hw1⟩ := hself _ _ _ _ h1
      obtain ⟨hc2, hw2⟩ := hself _ _ _ _ h
      refine ⟨hc1.trans hc2, fun β w a Q hr hm hq => ?_⟩
      intro b k cs
      have := hw1 β w a (fun e a' w' => e = .normal ∧ Means P (.round c) Q a' w') hr hm (fun a' β' w' k1 k2 k3 => ⟨rfl, hw2 β' w' a' Q k1 k3.rel (by rw [k2]; exact hq.after k3)⟩)
      obtain ⟨e, a₁, w₁, ⟨rfl, hlp⟩, harr⟩ := this b (.inLoop c :: k) cs
      obtain ⟨e₂, a₂, w₂, hq₂, harr₂⟩ := hlp b k cs
      exact ⟨e₂, a₂, w₂, hq₂, .of_steps (Steps.trans harr (.one step_inLoop)) harr₂⟩
    · rename_i hno
      obtain ⟨hc1, hw1⟩ := hself _ _ _ _ h
      refine ⟨hc1, fun β w a Q hr hm hq => ?_⟩
      intro b k cs
      have := hw1 β w a (fun e a' w' => e = x.ex ∧ Q e a' w') hr hm (fun a' β' w' h1 h2 h3 => ⟨rfl, hq a' β' w' h1 h2 h3⟩)
      obtain ⟨e, a₁, w₁, ⟨rfl, hq1⟩, harr⟩ := this b (.inLoop c :: k) cs
      cases x with
      | norm r' m' => exact (hno r' m' h).elim
      | exit id r' m' => exact ⟨_, a₁, w₁, hq1, .pass (x := .inLoop c) rfl (fun _ _ => .inl (by simp [XR.ex])) harr⟩
      | goto l r' m' => exact ⟨_, a₁, w₁, hq1, .pass (x := .inLoop c) rfl (fun _ _ => .inl (by simp [XR.ex])) harr⟩
      | ret r' m' => exact ⟨_, a₁, w₁, hq1, .pass (x := .inLoop c) rfl (fun _ _ => .inl (by simp [XR.ex])) harr⟩
  · cases h
    exact ⟨.same _, fun β w a Q hr hm hq => wp_exit (hq a β w hr rfl (Step.refl hm))⟩
  · cases h
    exact ⟨.same _, fun β w a Q hr hm hq => wp_goto (hq a β w hr rfl (Step.refl hm))⟩
  · rename_i c
    obtain ⟨hc1, hw1⟩ := hself _ _ _ _ h
    refine ⟨hc1, fun β w a Q hr hm hq => ?_⟩
    intro b k cs
    obtain ⟨e, a₁, w₁, hq1, harr⟩ := hw1 β w a Q hr hm hq b k cs
    exact ⟨e, a₁, w₁, hq1, .of_steps (.one step_scope) harr⟩
  · cases h
    exact ⟨.same _, fun β w a Q hr hm hq => wp_ret (hq a β w hr rfl (Step.refl hm))⟩
  · cases h

end Go.Xm
