/-
  The second machine's operations that look at no memory, each held against the model's.
-/
import Derived.Test.YtaepmifmcohhgaaXmBase
namespace Go.Xm
set_option linter.unusedSectionVars false
variable [Atoms]

inductive All2 {α γ : Type} (R : α → γ → Prop) : List α → List γ → Prop where
  | nil : All2 R [] []
  | cons {a : α} {b : γ} {l : List α} {k : List γ} : R a b → All2 R l k → All2 R (a :: l) (b :: k)

theorem All2.mono {α γ : Type} {R S : α → γ → Prop} (hRS : ∀ a b, R a b → S a b) : ∀ {l : List α} {k : List γ}, All2 R l k → All2 S l k
  | _, _, .nil => .nil
  | _, _, .cons h t => .cons (hRS _ _ h) (t.mono hRS)

theorem All2.length {α γ : Type} {R : α → γ → Prop} : ∀ {l : List α} {k : List γ}, All2 R l k → l.length = k.length
  | _, _, .nil => rfl
  | _, _, .cons _ t => by simp [t.length]

theorem All2.append {α γ : Type} {R : α → γ → Prop} : ∀ {l l' : List α} {k k' : List γ}, All2 R l k → All2 R l' k' → All2 R (l ++ l') (k ++ k')
  | _, _, _, _, .nil, h' => h'
  | _, _, _, _, .cons h t, h' => .cons h (t.append h')

theorem All2.map_same {α γ δ : Type} {R : α → γ → Prop} (f : δ → α) (g : δ → γ) : ∀ (l : List δ), (∀ x ∈ l, R (f x) (g x)) → All2 R (l.map f) (l.map g)
  | [], _ => .nil
  | x :: l, h => .cons (h x (List.mem_cons_self ..)) (All2.map_same f g l fun y hy => h y (List.mem_cons_of_mem _ hy))

def ofCell : Value → Option XC
  | .bool b => some (.bool b)
  | .int k n => some (.int k n)
  | .float k b => some (.flt k b)
  | .complex k a b => some (.cplx k a b)
  | .string s => some (.str s.data.toList)
  | .pointer .none => some .nilp
  | .slice .none 0 0 => some .nils
  | .map .none => some .nilm
  | .nilFunc => some .nilf
  | .nilIface => some .nili
  | _ => .none

theorem ofCell_den {v : Value} {c : XC} (h : ofCell v = some c) (β : Env) (n : Nat) : c.ok n ∧ v = c.den β := by
  unfold ofCell at h
  split at h <;> first
    | (cases h; exact ⟨trivial, rfl⟩)
    | (cases h)

theorem ofCells_den : ∀ {vs : List Value} {cs : List XC}, vs.mapM ofCell = some cs → ∀ (β : Env) (n : Nat), (∀ c ∈ cs, c.ok n) ∧ vs = cs.map (·.den β)
  | [], cs, h, β, n => by simp at h; subst h; simp
  | v :: vs, cs, h, β, n => by
    simp only [List.mapM_cons, Option.bind_eq_bind, Option.pure_def, Option.bind_eq_some_iff, Option.some.injEq] at h
    obtain ⟨c, h1, cs', h2, rfl⟩ := h
    obtain ⟨h3, h4⟩ := ofCells_den h2 β n
    obtain ⟨h5, h6⟩ := ofCell_den h1 β n
    refine ⟨fun x hx => ?_, by simp [h6.symm, h4.symm]⟩
    rcases List.mem_cons.1 hx with rfl | hx
    · exact h5
    · exact h3 x hx

/-- The cells of a type's zero value. -/
def xzero (P : Program) (t : TypeId) : Option (List XC) :=
  match P.info? t with
  | some i => match i.zero with
    | some v => v.cells.toList.mapM ofCell
    | .none => .none
  | .none => .none

def xsize (P : Program) (t : TypeId) : Option Nat := (P.info? t).map (·.size)

def xisAgg (P : Program) (t : TypeId) : Option Bool :=
  match P.underlying t with
  | some (.struct _) => some true
  | some (.array _ _) => some true
  | some _ => some false
  | .none => .none

def xcells : XV → Option (List XC)
  | .one c => some [c]
  | .agg cs => some cs
  | _ => .none

theorem XC.den_cells (β : Env) (c : XC) : (c.den β).cells = #[c.den β] ∧ (c.den β).oneCell' = true := by
  induction c with
  | slice i off len cap => cases cap <;> exact ⟨rfl, rfl⟩
  | bind g c ih1 _ =>
    unfold XC.den
    cases hg : g.den β <;> simp only <;> first
      | exact ⟨rfl, rfl⟩
      | (rw [hg] at ih1; exact ih1)
  | _ => exact ⟨rfl, rfl⟩

theorem xcells_rel {β : Env} {n : Nat} {x : XV} {v : Value} {cs : List XC} (h : xcells x = some cs) (hr : RelV β n x v) :
    v.cells = (cs.map (·.den β)).toArray ∧ ∀ c ∈ cs, c.ok n := by
  cases x with
  | one c =>
    simp only [xcells, Option.some.injEq] at h
    subst h
    obtain ⟨h1, rfl⟩ := hr
    exact ⟨by simp [(XC.den_cells β c).1], by simpa using h1⟩
  | agg cs' =>
    simp only [xcells, Option.some.injEq] at h
    subst h
    obtain ⟨h1, rfl⟩ := hr
    exact ⟨rfl, h1⟩
  | undef => cases h
  | tup vs => cases h

def xeval (g : Nat → XV) : Operand → XV
  | .tmp t => g t
  | .const v => match ofCell v with
    | some c => .one c
    | .none => .undef
  | .func f => .one (.fn f)
  | .global _ => .undef

structure RelF (β : Env) (n nt : Nat) (g : Nat → XV) (a : Array Value) : Prop where
  size : a.size = nt
  small : nt < 1000000
  rel : ∀ t, t < nt → RelV β n (g t) (a.getD t undef)
  out : ∀ t, nt ≤ t → g t = .undef

abbrev RelR (β : Env) (n nt : Nat) (r : T XV) (a : Array Value) : Prop := RelF β n nt (r.get .undef) a

theorem RelF.eval {β : Env} {n nt : Nat} {g : Nat → XV} {a : Act} (h : RelF β n nt g a.tmps) (x : Operand) : RelV β n (xeval g x) (a.eval x) := by
  cases x with
  | tmp t =>
    by_cases ht : t < nt
    · exact h.rel t ht
    · simp only [xeval, h.out t (Nat.le_of_not_lt ht)]; trivial
  | const v =>
    simp only [xeval, Act.eval]
    split
    · rename_i c hc; exact ofCell_den hc β n
    · trivial
  | func f => exact ⟨trivial, rfl⟩
  | global g => trivial

theorem RelF.ext {β β' : Env} {n n' nt : Nat} {g : Nat → XV} {a : Array Value} (h : RelF β n nt g a) (he : Ext n β β') (hn : n ≤ n') : RelF β' n' nt g a :=
  ⟨h.size, h.small, fun t ht => (h.rel t ht).ext he hn, h.out⟩

def xset (nt : Nat) (r : T XV) (d : Option Nat) (v : XV) : T XV :=
  match d with
  | some d => if d < nt then r.set .undef 31 d v else r
  | .none => r

theorem RelR.set {β : Env} {n nt : Nat} {r : T XV} {a : Act} (h : RelR β n nt r a.tmps) (d : Option Nat) {x : XV} {v : Value} (hv : RelV β n x v) :
    RelR β n nt (xset nt r d x) (a.put d v).tmps := by
  cases d with
  | none => exact h
  | some d =>
    simp only [xset, Act.put]
    split
    · rename_i hd
      have hs := h.small
      refine ⟨by simpa using h.size, h.small, fun t ht => ?_, fun t ht => ?_⟩
      · by_cases htd : t = d
        · subst htd
          rw [T.get_set_eq _ _ _ _ _ (by omega)]
          have : (a.tmps.setIfInBounds t v).getD t undef = v := by simp [Array.getD_eq_getD_getElem?, h.size, hd]
          rw [this]; exact hv
        · rw [T.get_set_ne _ _ _ _ _ _ htd]
          have : (a.tmps.setIfInBounds d v).getD t undef = a.tmps.getD t undef := by
            simp [Array.getD_eq_getD_getElem?, Array.getElem?_setIfInBounds_ne (Ne.symm htd)]
          rw [this]; exact h.rel t ht
      · rw [T.get_set_ne _ _ _ _ _ _ (by omega)]; exact h.out t ht
    · rename_i hd
      refine ⟨by simpa using h.size, h.small, fun t ht => ?_, h.out⟩
      have : (a.tmps.setIfInBounds d v).getD t undef = a.tmps.getD t undef := by
        simp [Array.getD_eq_getD_getElem?, Array.getElem?_setIfInBounds_ne (show d ≠ t by omega)]
      rw [this]; exact h.rel t ht

/-! ### Numbers -/

/-- The wrap, with a short way for what is in range. -/
def xwrap (k : IntKind) (n : Int) : Int :=
  match k, n with
  | .i64, .ofNat m => if Nat.blt m 9223372036854775808 then .ofNat m else IntKind.wrap .i64 n
  | .i64, .negSucc m => if Nat.blt m 9223372036854775808 then .negSucc m else IntKind.wrap .i64 n
  | .u8, .ofNat m => .ofNat (m % 256)
  | .u64, .ofNat m => .ofNat (m % 18446744073709551616)
  | .u16, .ofNat m => .ofNat (m % 65536)
  | .u32, .ofNat m => .ofNat (m % 4294967296)
  | k, n => k.wrap n

theorem xwrap_eq (k : IntKind) (n : Int) : xwrap k n = k.wrap n := by
  unfold xwrap
  split
  · rename_i m
    split
    · rename_i h
      have h' : m < 9223372036854775808 := by simpa [Nat.blt_eq] using h
      exact (IntWalk.i64_in (Int.ofNat m) ⟨by have : (0 : Int) ≤ Int.ofNat m := Int.natCast_nonneg m; omega, by have : Int.ofNat m = (m : Int) := rfl; omega⟩).symm
    · rfl
  · rename_i m
    split
    · rename_i h
      have h' : m < 9223372036854775808 := by simpa [Nat.blt_eq] using h
      exact (IntWalk.i64_in (Int.negSucc m) ⟨by omega, by omega⟩).symm
    · rfl
  · rw [IntKind.wrap_u8]; rfl
  · rw [IntKind.wrap_u64]; rfl
  · rw [IntKind.wrap_u16]; rfl
  · rw [IntKind.wrap_u32]; rfl
  · rfl

end Go.Xm
