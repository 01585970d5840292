/-
  The second machine, with variables in its states: registers as a list, memory as a list of objects; rules for code.
-/
import Derived.Test.YtaepmifmcohhgaaXmBridge
namespace Go.Xm
set_option linter.unusedVariables false
set_option linter.unusedSectionVars false
variable [Atoms]

abbrev Regs : Type := List (Nat × XV)
def rg : Regs → Nat → XV
  | [], _ => .undef
  | (d, v) :: al, t => if t = d then v else rg al t

abbrev Heap : Type := List XObj

/-- A memory that holds these objects. -/
structure Holds (m : Mem) (hs : Heap) : Prop where
  n : m.n = hs.length
  bnd : m.n ≤ Mem.bound
  fresh : m.Fresh
  get : ∀ i, i < m.n → m.get i = hs.getD i .dead

def Same (m m' : Mem) : Prop := m.n = m'.n ∧ m'.Fresh ∧ ∀ i, i < m.n → m.get i = m'.get i

theorem Holds.same {m m' : Mem} {hs : Heap} (h : Holds m hs) (h' : Holds m' hs) : Same m m' :=
  ⟨by rw [h.n, h'.n], h'.fresh, fun i hi => by rw [h.get i hi, h'.get i (by rw [h'.n, ← h.n]; exact hi)]⟩

theorem Same.rel {m m' : Mem} (h : Same m m') {β : Env} {w : World} (hr : Rel β m w) : Rel β m' w := by
  obtain ⟨h1, h2, h3⟩ := h
  refine ⟨by rw [← h1]; exact hr.bnd, h2, fun i hi => ?_, fun i j hi hj => ?_⟩
  · rw [← h1] at hi
    rw [← h1, ← h3 i hi]; exact hr.obj i hi
  · rw [← h1] at hi hj
    rw [← h3 i hi, ← h3 j hj]; exact hr.inj i j hi hj

theorem Same.img {m m' : Mem} (h : Same m m') {β : Env} {k : Nat} : Img β m k ↔ Img β m' k := by
  obtain ⟨h1, _, h3⟩ := h
  constructor
  · rintro ⟨i, hi, hl, hk⟩
    exact ⟨i, h1 ▸ hi, by rw [← h3 i hi]; exact hl, hk⟩
  · rintro ⟨i, hi, hl, hk⟩
    rw [← h1] at hi
    exact ⟨i, hi, by rw [h3 i hi]; exact hl, hk⟩

theorem Step.same {m m' m'' : Mem} {β β' : Env} {w w' : World} (h : Step β m w β' m' w') (hs : Same m' m'') : Step β m w β' m'' w' :=
  ⟨by rw [← hs.1]; exact h.le, h.ext, hs.rel h.rel, h.os, h.tape, h.output, h.size, h.frame, fun k hk hi => h.img k hk (hs.img.2 hi)⟩

/-- How a command ends. -/
inductive XE where
  | normal
  | exit (id : Nat)
  | goto (l : Nat)
  | ret

def XE.ex : XE → Exit
  | .normal => .normal
  | .exit id => .exit id
  | .goto l => .goto l
  | .ret => .ret

abbrev Post1 : Type := XE → Regs → Heap → Prop

/-- From registers and objects, whatever they stand for: the command ends so. The first 'nI' objects are those with which the run began. -/
def WX (P : Program) (nt nI : Nat) (c : Cmd) (al : Regs) (hs : Heap) (K : Post1) : Prop :=
  ∀ (βI : Env) (mI : Mem) (wI : World), mI.n = nI → ∀ m, Holds m hs → ∀ (β : Env) (w : World) (a : Act) (Q : Exit → Act → World → Prop), RelF β m.n nt (rg al) a.tmps → Step βI mI wI β m w →
    (∀ e al' hs' m', K e al' hs' → Holds m' hs' → ∀ a' β' w', RelF β' m'.n nt (rg al') a'.tmps → a'.defers = a.defers → Step βI mI wI β' m' w' → Q e.ex a' w') → Means P c Q a w

section
variable {P : Program} {nt nI : Nat} {al : Regs} {hs : Heap} {K : Post1}

theorem WX.mono {c : Cmd} {K' : Post1} (h : WX P nt nI c al hs K) (hk : ∀ e al' hs', K e al' hs' → K' e al' hs') : WX P nt nI c al hs K' :=
  fun βI mI wI hn m hm β w a Q hr hw hq => h βI mI wI hn m hm β w a Q hr hw fun e al' hs' m' k => hq e al' hs' m' (hk _ _ _ k)

/-- What is known of registers may be forgotten. -/
def Less (al' al : Regs) : Prop := ∀ t, rg al' t = .undef ∨ rg al' t = rg al t

theorem Less.rel {al' al : Regs} (h : Less al' al) {β : Env} {n : Nat} {a : Array Value} (hr : RelF β n nt (rg al) a) : RelF β n nt (rg al') a := by
  refine ⟨hr.size, hr.small, fun t ht => ?_, fun t ht => ?_⟩
  · rcases h t with h | h
    · rw [h]; trivial
    · rw [h]; exact hr.rel t ht
  · rcases h t with h | h
    · exact h
    · rw [h]; exact hr.out t ht

theorem WX.less {c : Cmd} {al' : Regs} (hl : Less al' al) (h : WX P nt nI c al' hs K) : WX P nt nI c al hs K :=
  fun βI mI wI hn m hm β w a Q hr hw hq => h βI mI wI hn m hm β w a Q (hl.rel hr) hw hq

theorem less_nil (al : Regs) : Less [] al := fun _ => .inl rfl
theorem less_cons {al' al : Regs} {t : Nat} {v : XV} (h : rg al t = v) (hl : Less al' al) : Less ((t, v) :: al') al := by
  intro s
  by_cases hs : s = t
  · subst hs
    exact .inr (by rw [h]; simp [rg])
  · have : rg ((t, v) :: al') s = rg al' s := by simp [rg, hs]
    rw [this]
    exact hl s

theorem WX.skip (h : K .normal al hs) : WX P nt nI (.code .skip) al hs K :=
  fun βI mI wI hn m hm β w a _ hr hw hq => wp_skip (hq _ _ _ m h hm a β w hr rfl hw)
theorem WX.label {l : Nat} (h : K .normal al hs) : WX P nt nI (.code (.label l)) al hs K :=
  fun βI mI wI hn m hm β w a _ hr hw hq => wp_label (hq _ _ _ m h hm a β w hr rfl hw)
theorem WX.exit {id : Nat} (h : K (.exit id) al hs) : WX P nt nI (.code (.exit id)) al hs K :=
  fun βI mI wI hn m hm β w a _ hr hw hq => wp_exit (hq _ _ _ m h hm a β w hr rfl hw)
theorem WX.goto {l : Nat} (h : K (.goto l) al hs) : WX P nt nI (.code (.goto l)) al hs K :=
  fun βI mI wI hn m hm β w a _ hr hw hq => wp_goto (hq _ _ _ m h hm a β w hr rfl hw)
theorem WX.ret (h : K .ret al hs) : WX P nt nI (.code .ret) al hs K :=
  fun βI mI wI hn m hm β w a _ hr hw hq => wp_ret (hq _ _ _ m h hm a β w hr rfl hw)

def KSeq (P : Program) (nt nI : Nat) (b : Code) (K : Post1) : Post1
  | .normal, al, hs => WX P nt nI (.code b) al hs K
  | e, al, hs => K e al hs

theorem WX.seq {a b : Code} (h : WX P nt nI (.code a) al hs (KSeq P nt nI b K)) : WX P nt nI (.code (.seq a b)) al hs K := by
  intro βI mI wI hn m hm β w act Q hr hw hq
  refine wp_seq ?_
  refine h βI mI wI hn m hm β w act _ hr hw fun e al' hs' m' k hm' a' β' w' h1 h2 h3 => ?_
  cases e with
  | normal =>
    refine k βI mI wI hn m' hm' β' w' a' Q h1 h3 fun e al'' hs'' m'' k' hm'' a'' β'' w'' k1 k2 k3 => ?_
    exact hq e al'' hs'' m'' k' hm'' a'' β'' w'' k1 (k2.trans h2) k3
  | exit id => exact hq _ al' hs' m' k hm' a' β' w' h1 h2 h3
  | goto l => exact hq _ al' hs' m' k hm' a' β' w' h1 h2 h3
  | ret => exact hq _ al' hs' m' k hm' a' β' w' h1 h2 h3

theorem WX.cond {c : Operand} {x y : Code} {b : Bool} (hc : xeval (rg al) c = .one (.bool b)) (h1 : b = true → WX P nt nI (.code x) al hs K) (h2 : b = false → WX P nt nI (.code y) al hs K) : WX P nt nI (.code (.cond c x y)) al hs K := by
  intro βI mI wI hn m hm β w a Q hr hw hq
  have he := hr.eval c
  rw [hc] at he
  cases b with
  | true => exact wp_cond_true he.2 (h1 rfl βI mI wI hn m hm β w a Q hr hw hq)
  | false => exact wp_cond_false he.2 (h2 rfl βI mI wI hn m hm β w a Q hr hw hq)

def KBlock (id : Nat) (K : Post1) : Post1
  | .exit id', al, hs => if id' = id then K .normal al hs else K (.exit id') al hs
  | e, al, hs => K e al hs

theorem WX.block {id : Nat} {c : Code} (h : WX P nt nI (.code c) al hs (KBlock id K)) : WX P nt nI (.code (.block id c)) al hs K := by
  intro βI mI wI hn m hm β w a Q hr hw hq
  refine wp_block ?_
  refine h βI mI wI hn m hm β w a _ hr hw fun e al' hs' m' k hm' a' β' w' h1 h2 h3 => ?_
  cases e with
  | exit id' =>
    show (if id' = id then Q .normal a' w' else Q (.exit id') a' w')
    by_cases hid : id' = id
    · simp only [KBlock, hid, if_true] at k
      rw [if_pos hid]
      exact hq _ al' hs' m' k hm' a' β' w' h1 h2 h3
    · simp only [KBlock, hid, if_false] at k
      rw [if_neg hid]
      exact hq _ al' hs' m' k hm' a' β' w' h1 h2 h3
  | normal => exact hq _ al' hs' m' k hm' a' β' w' h1 h2 h3
  | goto l => exact hq _ al' hs' m' k hm' a' β' w' h1 h2 h3
  | ret => exact hq _ al' hs' m' k hm' a' β' w' h1 h2 h3

theorem WX.loop {c : Code} (h : WX P nt nI (.round c) al hs K) : WX P nt nI (.code (.loop c)) al hs K := by
  intro βI mI wI hn m hm β w a Q hr hw hq
  intro b k cs
  obtain ⟨e, a₁, w₁, hq1, harr⟩ := h βI mI wI hn m hm β w a Q hr hw hq b k cs
  exact ⟨e, a₁, w₁, hq1, .of_steps (.one step_loop) harr⟩

def KRound (P : Program) (nt nI : Nat) (c : Code) (K : Post1) : Post1
  | .normal, al, hs => WX P nt nI (.round c) al hs K
  | e, al, hs => K e al hs

theorem WX.round {c : Code} (h : WX P nt nI (.code c) al hs (KRound P nt nI c K)) : WX P nt nI (.round c) al hs K := by
  intro βI mI wI hn m hm β w a Q hr hw hq
  intro b k cs
  have := h βI mI wI hn m hm β w a (fun e a' w' => (e = .normal ∧ Means P (.round c) Q a' w') ∨ (e ≠ .normal ∧ Q e a' w')) hr hw (fun e al' hs' m' kk hm' a' β' w' h1 h2 h3 => by
    cases e with
    | normal =>
      refine .inl ⟨rfl, kk βI mI wI hn m' hm' β' w' a' Q h1 h3 fun e al'' hs'' m'' k' hm'' a'' β'' w'' k1 k2 k3 => ?_⟩
      exact hq e al'' hs'' m'' k' hm'' a'' β'' w'' k1 (k2.trans h2) k3
    | exit id => exact .inr ⟨by simp [XE.ex], hq _ al' hs' m' kk hm' a' β' w' h1 h2 h3⟩
    | goto l => exact .inr ⟨by simp [XE.ex], hq _ al' hs' m' kk hm' a' β' w' h1 h2 h3⟩
    | ret => exact .inr ⟨by simp [XE.ex], hq _ al' hs' m' kk hm' a' β' w' h1 h2 h3⟩)
  obtain ⟨e, a₁, w₁, hcase, harr⟩ := this b (.inLoop c :: k) cs
  rcases hcase with ⟨rfl, hlp⟩ | ⟨hne, hq1⟩
  · obtain ⟨e₂, a₂, w₂, hq₂, harr₂⟩ := hlp b k cs
    exact ⟨e₂, a₂, w₂, hq₂, .of_steps (Steps.trans harr (.one step_inLoop)) harr₂⟩
  · exact ⟨e, a₁, w₁, hq1, .pass (x := .inLoop c) rfl (fun _ _ => .inl hne) harr⟩

def KJump (P : Program) (nt nI : Nat) (c : Code) (K : Post1) : Post1
  | .goto l, al, hs => match findLabel c l with
    | some rest => WX P nt nI (.jump c rest) al hs K
    | .none => K (.goto l) al hs
  | e, al, hs => K e al hs

theorem WX.scope {c : Code} (h : WX P nt nI (.jump c c) al hs K) : WX P nt nI (.code (.scope c)) al hs K := by
  intro βI mI wI hn m hm β w a Q hr hw hq
  intro b k cs
  obtain ⟨e, a₁, w₁, hq1, harr⟩ := h βI mI wI hn m hm β w a Q hr hw hq b k cs
  exact ⟨e, a₁, w₁, hq1, .of_steps (.one step_scope) harr⟩

theorem WX.jump {c rest : Code} (h : WX P nt nI (.code rest) al hs (KJump P nt nI c K)) : WX P nt nI (.jump c rest) al hs K := by
  intro βI mI wI hn m hm β w a Q hr hw hq
  intro b k cs
  have := h βI mI wI hn m hm β w a (fun e a' w' => (∃ l rest', e = .goto l ∧ findLabel c l = some rest' ∧ Means P (.jump c rest') Q a' w') ∨ (∃ x : XE, e = x.ex ∧ (∀ l, x = .goto l → findLabel c l = .none) ∧ Q e a' w')) hr hw (fun e al' hs' m' kk hm' a' β' w' h1 h2 h3 => by
    cases e with
    | goto l =>
      cases hf : findLabel c l with
      | some rest' =>
        simp only [KJump, hf] at kk
        refine .inl ⟨l, rest', rfl, hf, kk βI mI wI hn m' hm' β' w' a' Q h1 h3 fun e al'' hs'' m'' k' hm'' a'' β'' w'' k1 k2 k3 => ?_⟩
        exact hq e al'' hs'' m'' k' hm'' a'' β'' w'' k1 (k2.trans h2) k3
      | none =>
        simp only [KJump, hf] at kk
        exact .inr ⟨.goto l, rfl, fun l' hl' => (by cases hl'; exact hf), hq _ al' hs' m' kk hm' a' β' w' h1 h2 h3⟩
    | normal => exact .inr ⟨.normal, rfl, fun l' hl' => (by cases hl'), hq _ al' hs' m' kk hm' a' β' w' h1 h2 h3⟩
    | exit id => exact .inr ⟨.exit id, rfl, fun l' hl' => (by cases hl'), hq _ al' hs' m' kk hm' a' β' w' h1 h2 h3⟩
    | ret => exact .inr ⟨.ret, rfl, fun l' hl' => (by cases hl'), hq _ al' hs' m' kk hm' a' β' w' h1 h2 h3⟩)
  obtain ⟨e, a₁, w₁, hcase, harr⟩ := this b (.inScope c :: k) cs
  rcases hcase with ⟨l, rest', rfl, hf, hmn⟩ | ⟨x, rfl, hng, hq1⟩
  · obtain ⟨e₂, a₂, w₂, hq₂, harr₂⟩ := hmn b k cs
    have hg : gotoIn l (.inScope c :: k) = some (.code rest' :: .inScope c :: k) := by simp [gotoIn, hf]
    exact ⟨e₂, a₂, w₂, hq₂, .of_steps (harr _ hg) harr₂⟩
  · cases x with
    | normal => exact ⟨.normal, a₁, w₁, hq1, Steps.trans harr (.one step_inScope)⟩
    | exit id => exact ⟨.exit id, a₁, w₁, hq1, fun k' hk => harr k' (by simp [exitTo, hk])⟩
    | goto l => exact ⟨.goto l, a₁, w₁, hq1, fun k' hk => harr k' (by simp [gotoIn, hng l rfl, hk])⟩
    | ret => exact ⟨.ret, a₁, w₁, hq1, harr⟩

end
end Go.Xm
