/-
  A second, small machine for the closed and the symbolic runs of this program: values with relative block numbers, a memory of own blocks, and what they stand for in a world of the model. Conditions: none here; each law names its own.
-/
import Derived.WalkKit
namespace Go.Xm
set_option linter.unusedSectionVars false

/-- A tree of values by number. -/
inductive T (α : Type) where
  | leaf
  | node (v : α) (l r : T α)

namespace T
variable {α : Type}
def get (d : α) : T α → Nat → α
  | leaf, _ => d
  | node v _ _, 0 => v
  | node _ l r, n + 1 => match n % 2 with
    | 0 => l.get d (n / 2)
    | _ => r.get d (n / 2)

def set (d : α) : Nat → T α → Nat → α → T α
  | 0, t, _, _ => t
  | _ + 1, leaf, 0, x => node x leaf leaf
  | f + 1, leaf, n + 1, x => match n % 2 with
    | 0 => node d (set d f leaf (n / 2) x) leaf
    | _ => node d leaf (set d f leaf (n / 2) x)
  | _ + 1, node _ l r, 0, x => node x l r
  | f + 1, node v l r, n + 1, x => match n % 2 with
    | 0 => node v (set d f l (n / 2) x) r
    | _ => node v l (set d f r (n / 2) x)

theorem get_leaf (d : α) (n : Nat) : (leaf : T α).get d n = d := by cases n <;> rfl

theorem get_succ (d : α) (v : α) (l r : T α) (n : Nat) : (node v l r).get d (n + 1) = if n % 2 = 0 then l.get d (n / 2) else r.get d (n / 2) := by
  simp only [get]
  split
  · rename_i h; simp [h]
  · rename_i h; rw [if_neg]; intro e; exact h e

theorem set_leaf_succ (d : α) (f : Nat) (n : Nat) (x : α) : set d (f + 1) leaf (n + 1) x = if n % 2 = 0 then node d (set d f leaf (n / 2) x) leaf else node d leaf (set d f leaf (n / 2) x) := by
  simp only [set]
  split
  · rename_i h; simp [h]
  · rename_i h; rw [if_neg]; intro e; exact h e

theorem set_node_succ (d : α) (f : Nat) (v : α) (l r : T α) (n : Nat) (x : α) : set d (f + 1) (node v l r) (n + 1) x = if n % 2 = 0 then node v (set d f l (n / 2) x) r else node v l (set d f r (n / 2) x) := by
  simp only [set]
  split
  · rename_i h; simp [h]
  · rename_i h; rw [if_neg]; intro e; exact h e

theorem get_set_ne (d : α) (f : Nat) : ∀ (t : T α) (n j : Nat) (x : α), j ≠ n → (set d f t n x).get d j = t.get d j := by
  induction f with
  | zero => intro t n j x _; rfl
  | succ f ih =>
    intro t n j x hne
    cases t with
    | leaf =>
      cases n with
      | zero =>
        cases j with
        | zero => exact absurd rfl hne
        | succ j => simp only [set]; rw [get_succ]; simp [get_leaf]
      | succ n =>
        rw [set_leaf_succ]
        cases j with
        | zero => split <;> simp [get]
        | succ j =>
          split
          · rw [get_succ, get_leaf, get_leaf]
            split
            · rw [ih _ _ _ _ (by omega), get_leaf]
            · rfl
          · rw [get_succ, get_leaf, get_leaf]
            split
            · rfl
            · rw [ih _ _ _ _ (by omega), get_leaf]
    | node v l r =>
      cases n with
      | zero =>
        cases j with
        | zero => exact absurd rfl hne
        | succ j => simp only [set]; rw [get_succ, get_succ]
      | succ n =>
        rw [set_node_succ]
        cases j with
        | zero => split <;> simp [get]
        | succ j =>
          split
          · rw [get_succ, get_succ]
            split
            · rw [ih _ _ _ _ (by omega)]
            · rfl
          · rw [get_succ, get_succ]
            split
            · rfl
            · rw [ih _ _ _ _ (by omega)]

theorem get_set_eq (d : α) (f : Nat) : ∀ (t : T α) (n : Nat) (x : α), n + 1 < 2 ^ f → (set d f t n x).get d n = x := by
  induction f with
  | zero => intro t n x h; simp at h
  | succ f ih =>
    intro t n x h
    have hp : 2 ^ (f + 1) = 2 * 2 ^ f := by rw [Nat.pow_succ]; omega
    cases t with
    | leaf =>
      cases n with
      | zero => simp [set, get]
      | succ n =>
        rw [set_leaf_succ]
        split
        · rename_i hh; rw [get_succ, if_pos hh]; exact ih _ _ _ (by omega)
        · rename_i hh; rw [get_succ, if_neg hh]; exact ih _ _ _ (by omega)
    | node v l r =>
      cases n with
      | zero => simp [set, get]
      | succ n =>
        rw [set_node_succ]
        split
        · rename_i hh; rw [get_succ, if_pos hh]; exact ih _ _ _ (by omega)
        · rename_i hh; rw [get_succ, if_neg hh]; exact ih _ _ _ (by omega)
end T

/-- A slice's capacity: a number, or as far as its block goes (of so many cells each). -/
inductive Cap where
  | exact (n : Nat)
  | toEnd (sz : Nat)
  deriving DecidableEq

/-- What one cell holds. -/
inductive XC where
  | bool (b : Bool)
  | int (k : IntKind) (n : Int)
  | flt (k : FloatKind) (b : Nat)
  | cplx (k : FloatKind) (re im : Nat)
  | str (s : List UInt8)
  | nilp
  | ptr (i off : Nat)
  | nils
  | slice (i off len : Nat) (cap : Cap)
  | nilm
  | map (i : Nat)
  | fn (f : FuncId)
  | bind (g c : XC)
  | nilf
  | nili
  | atom (i : Nat)
  deriving DecidableEq

/-- One component of a result: a cell, or an array's or struct's cells. -/
inductive X1 where
  | one (c : XC)
  | agg (cs : List XC)
  deriving DecidableEq

/-- What a temporary holds; 'undef': nothing is known. -/
inductive XV where
  | undef
  | one (c : XC)
  | agg (cs : List XC)
  | tup (vs : List X1)
  deriving DecidableEq

def X1.toV : X1 → XV
  | .one c => .one c
  | .agg cs => .agg cs

inductive XObj where
  | dead
  | cells (vs : List XC) (elem : TypeId) (opn ro : Bool)
  | map (es : List (X1 × X1))

def XObj.live : XObj → Bool
  | .dead => false
  | _ => true

/-- It may be written: it is nobody else's. -/
def XObj.own : XObj → Bool
  | .dead => false
  | .cells _ _ _ ro => !ro
  | .map _ => true
theorem XObj.live_of_own {o : XObj} (h : o.own = true) : o.live = true := by cases o <;> first | rfl | (cases h)

structure Ent where
  ver : Nat
  obj : XObj

def Ent.none : Ent := ⟨0, .dead⟩

structure Mem where
  n : Nat
  t : T Ent

namespace Mem
def empty : Mem := ⟨0, .leaf⟩
def ent (m : Mem) (i : Nat) : Ent := m.t.get Ent.none i
def get (m : Mem) (i : Nat) : XObj := (m.ent i).obj
def bound : Nat := 2147483646
def put (m : Mem) (i : Nat) (o : XObj) : Mem :=
  match Nat.blt i m.n, Nat.blt i bound with
  | true, true => ⟨m.n, m.t.set Ent.none 31 i ⟨(m.ent i).ver + 1, o⟩⟩
  | _, _ => m
def push (m : Mem) (o : XObj) : Option Mem := if m.n < bound then some ⟨m.n + 1, m.t.set Ent.none 31 m.n ⟨1, o⟩⟩ else none

theorem ent_put_ne (m : Mem) {i j : Nat} (o : XObj) (h : j ≠ i) : (m.put i o).ent j = m.ent j := by
  unfold put
  split
  · exact T.get_set_ne _ _ _ _ _ _ h
  · rfl
theorem get_put_ne (m : Mem) {i j : Nat} (o : XObj) (h : j ≠ i) : (m.put i o).get j = m.get j := by unfold get; rw [ent_put_ne m o h]
theorem ent_put_eq (m : Mem) {i : Nat} (o : XObj) (hn : i < m.n) (h : i < bound) : (m.put i o).ent i = ⟨(m.ent i).ver + 1, o⟩ := by
  unfold put
  have h1 : Nat.blt i m.n = true := by simpa [Nat.blt_eq] using hn
  have h2 : Nat.blt i bound = true := by simpa [Nat.blt_eq] using h
  rw [h1, h2]
  exact T.get_set_eq _ _ _ _ _ (by unfold bound at h; omega)
theorem get_put_eq (m : Mem) {i : Nat} (o : XObj) (hn : i < m.n) (h : i < bound) : (m.put i o).get i = o := by unfold get; rw [ent_put_eq m o hn h]
theorem n_put (m : Mem) (i : Nat) (o : XObj) : (m.put i o).n = m.n := by unfold put; split <;> rfl
theorem push_spec {m m' : Mem} {o : XObj} (h : m.push o = some m') : m.n < bound ∧ m'.n = m.n + 1 ∧ m'.ent m.n = ⟨1, o⟩ ∧ ∀ j, j ≠ m.n → m'.ent j = m.ent j := by
  unfold push at h
  split at h
  · rename_i hb
    cases h
    refine ⟨hb, rfl, T.get_set_eq _ _ _ _ _ (by unfold bound at hb; omega), fun j hj => T.get_set_ne _ _ _ _ _ _ hj⟩
  · cases h
end Mem

/-! ### What stays as long as its version stays -/

def Mono (m m' : Mem) : Prop := m.n ≤ m'.n ∧ ∀ i, (m.ent i).ver ≤ (m'.ent i).ver ∧ ((m'.ent i).ver = (m.ent i).ver → m'.ent i = m.ent i)

theorem Mono.refl (m : Mem) : Mono m m := ⟨Nat.le_refl _, fun _ => ⟨Nat.le_refl _, fun _ => rfl⟩⟩

theorem Mono.trans {a b c : Mem} (h : Mono a b) (k : Mono b c) : Mono a c :=
  ⟨Nat.le_trans h.1 k.1, fun i => ⟨Nat.le_trans (h.2 i).1 (k.2 i).1, fun e => by
    have h1 := (h.2 i).1
    have h2 := (k.2 i).1
    rw [(k.2 i).2 (by omega), (h.2 i).2 (by omega)]⟩⟩

theorem Mono.put (m : Mem) (i : Nat) (o : XObj) : Mono m (m.put i o) := by
  refine ⟨by rw [Mem.n_put]; exact Nat.le_refl _, fun j => ?_⟩
  by_cases hj : j = i
  · subst hj
    by_cases h : j < m.n ∧ j < Mem.bound
    · rw [Mem.ent_put_eq m o h.1 h.2]
      exact ⟨by simp, fun e => by simp at e⟩
    · have : m.put j o = m := by
        unfold Mem.put
        split
        · rename_i h1 h2
          exact (h ⟨by simpa [Nat.blt_eq] using h1, by simpa [Nat.blt_eq] using h2⟩).elim
        · rfl
      rw [this]
      exact ⟨Nat.le_refl _, fun _ => rfl⟩
  · rw [Mem.ent_put_ne m o hj]
    exact ⟨Nat.le_refl _, fun _ => rfl⟩

/-- Beyond its blocks a memory holds nothing. -/
def Mem.Fresh (m : Mem) : Prop := ∀ i, m.n ≤ i → (m.ent i).ver = 0

theorem Mono.push {m m' : Mem} {o : XObj} (hf : m.Fresh) (h : m.push o = some m') : Mono m m' := by
  obtain ⟨_, h2, h3, h4⟩ := Mem.push_spec h
  refine ⟨by omega, fun j => ?_⟩
  by_cases hj : j = m.n
  · subst hj
    rw [h3, hf _ (Nat.le_refl _)]
    exact ⟨by simp, fun e => by simp at e⟩
  · rw [h4 j hj]
    exact ⟨Nat.le_refl _, fun _ => rfl⟩

theorem Fresh.put {m : Mem} (hf : m.Fresh) {i : Nat} (o : XObj) : (m.put i o).Fresh := fun j hj => by
  rw [Mem.n_put] at hj
  by_cases hji : j = i
  · subst hji
    have : m.put j o = m := by
      unfold Mem.put
      split
      · rename_i h1 h2
        have : j < m.n := by simpa [Nat.blt_eq] using h1
        omega
      · rfl
    rw [this]
    exact hf j hj
  · rw [Mem.ent_put_ne m o hji]
    exact hf j hj

theorem Fresh.push {m m' : Mem} (hf : m.Fresh) {o : XObj} (h : m.push o = some m') : m'.Fresh := fun j hj => by
  obtain ⟨_, h2, h3, h4⟩ := Mem.push_spec h
  rw [h4 j (by omega)]
  exact hf j (by omega)

/-- Where the blocks lie in a world, where in its block each begins, and of how many cells each is there. -/
structure Env where
  blk : Nat → Nat
  base : Nat → Nat
  size : Nat → Nat

/-- Numbers that a run moves about, whatever they are. -/
class Atoms where
  kind : Nat → IntKind
  num : Nat → Int

variable [Atoms]

def XC.den (β : Env) : XC → Value
  | .bool b => .bool b
  | .int k n => .int k n
  | .flt k b => .float k b
  | .cplx k re im => .complex k re im
  | .str s => .string ⟨s.toArray⟩
  | .nilp => .pointer .none
  | .ptr i off => .pointer (some ⟨β.blk i, β.base i + off, .none⟩)
  | .nils => .slice .none 0 0
  | .slice i off len (.exact c) => .slice (some ⟨β.blk i, β.base i + off, .none⟩) len c
  | .slice i off len (.toEnd sz) => .slice (some ⟨β.blk i, β.base i + off, .none⟩) len ((β.size i - off) / sz)
  | .nilm => .map .none
  | .map i => .map (some (β.blk i))
  | .fn f => .func (.func f) #[] #[]
  | .bind g c => match g.den β with
    | .func f a cs => .func f a (cs.push (c.den β))
    | v => v
  | .nilf => .nilFunc
  | .nili => .nilIface
  | .atom i => .int (Atoms.kind i) (Atoms.num i)

/-- All blocks that it names are among the first n. -/
def XC.ok (n : Nat) : XC → Prop
  | .ptr i _ => i < n
  | .slice i _ _ _ => i < n
  | .map i => i < n
  | .bind g c => g.ok n ∧ c.ok n
  | _ => True

def X1.den (β : Env) : X1 → Value
  | .one c => c.den β
  | .agg cs => .agg (cs.map (·.den β)).toArray

def X1.ok (n : Nat) : X1 → Prop
  | .one c => c.ok n
  | .agg cs => ∀ c ∈ cs, c.ok n

def RelV (β : Env) (n : Nat) : XV → Value → Prop
  | .undef, _ => True
  | .one c, v => c.ok n ∧ v = c.den β
  | .agg cs, v => (∀ c ∈ cs, c.ok n) ∧ v = .agg (cs.map (·.den β)).toArray
  | .tup xs, v => (∀ x ∈ xs, x.ok n) ∧ v = .tuple (xs.map (·.den β)).toArray

def Ext (n : Nat) (β β' : Env) : Prop := ∀ i, i < n → β'.blk i = β.blk i ∧ β'.size i = β.size i ∧ β'.base i = β.base i

theorem Ext.refl (n : Nat) (β : Env) : Ext n β β := fun _ _ => ⟨rfl, rfl, rfl⟩
theorem Ext.trans {n n' : Nat} {β β' β'' : Env} (h : Ext n β β') (h' : Ext n' β' β'') (hn : n ≤ n') : Ext n β β'' := fun i hi =>
  ⟨(h' i (by omega)).1.trans (h i hi).1, (h' i (by omega)).2.1.trans (h i hi).2.1, (h' i (by omega)).2.2.trans (h i hi).2.2⟩

theorem XC.ok_mono {n n' : Nat} (h : n ≤ n') : ∀ {c : XC}, c.ok n → c.ok n' := by
  intro c
  induction c with
  | ptr i off => intro h'; exact Nat.lt_of_lt_of_le h' h
  | slice i off len cap => intro h'; exact Nat.lt_of_lt_of_le h' h
  | map i => intro h'; exact Nat.lt_of_lt_of_le h' h
  | bind g c ih1 ih2 => intro h'; exact ⟨ih1 h'.1, ih2 h'.2⟩
  | _ => intro _; trivial

theorem XC.den_ext {n : Nat} {β β' : Env} (h : Ext n β β') : ∀ {c : XC}, c.ok n → c.den β' = c.den β := by
  intro c
  induction c with
  | ptr i off => intro h'; simp only [den, (h i h').1, (h i h').2.2]
  | slice i off len cap => intro h'; cases cap <;> simp only [den, (h i h').1, (h i h').2.1, (h i h').2.2]
  | map i => intro h'; simp only [den, (h i h').1]
  | bind g c ih1 ih2 => intro h'; simp only [den, ih1 h'.1, ih2 h'.2]
  | _ => intro _; rfl

theorem map_den_ext {n : Nat} {β β' : Env} (h : Ext n β β') {cs : List XC} (hc : ∀ c ∈ cs, c.ok n) : cs.map (·.den β') = cs.map (·.den β) :=
  List.map_congr_left fun c hm => XC.den_ext h (hc c hm)

theorem X1.ok_mono {n n' : Nat} (h : n ≤ n') : ∀ {x : X1}, x.ok n → x.ok n'
  | .one _, h' => XC.ok_mono h h'
  | .agg _, h' => fun c hc => XC.ok_mono h (h' c hc)

theorem X1.den_ext {n : Nat} {β β' : Env} (h : Ext n β β') : ∀ {x : X1}, x.ok n → x.den β' = x.den β
  | .one _, h' => XC.den_ext h h'
  | .agg cs, h' => by simp only [den, map_den_ext h h']

theorem RelV.ext {β β' : Env} {n n' : Nat} {x : XV} {v : Value} (h : RelV β n x v) (he : Ext n β β') (hn : n ≤ n') : RelV β' n' x v := by
  cases x with
  | undef => trivial
  | one c => exact ⟨XC.ok_mono hn h.1, h.2.trans (XC.den_ext he h.1).symm⟩
  | agg cs => exact ⟨fun c hc => XC.ok_mono hn (h.1 c hc), h.2.trans (by rw [map_den_ext he h.1])⟩
  | tup xs =>
    refine ⟨fun c hc => X1.ok_mono hn (h.1 c hc), h.2.trans ?_⟩
    have : xs.map (·.den β') = xs.map (·.den β) := List.map_congr_left fun c hm => X1.den_ext he (h.1 c hm)
    rw [this]

theorem RelV.toV {β : Env} {n : Nat} {x : X1} {v : Value} : RelV β n x.toV v ↔ x.ok n ∧ v = x.den β := by
  cases x <;> exact Iff.rfl

/-- What a block of the small memory says of a world's block. -/
def RelO (β : Env) (n lo sz : Nat) : XObj → Option Obj → Prop
  | .dead, _ => True
  | .cells vs elem opn ro, o => ∃ cs fr, o = some (.cells cs elem fr) ∧ cs.size = lo + sz ∧ (if opn then vs.length ≤ sz else vs.length = sz) ∧
      (ro = false → fr = (0, 0) ∧ lo = 0) ∧ (∀ c ∈ vs, c.ok n) ∧ (cs.toList.drop lo).take vs.length = vs.map (·.den β)
  | .map es, o => ∃ (en : Array MapEntry) (clock : Nat), o = some (.map en clock) ∧ (∀ p ∈ es, p.1.ok n ∧ p.2.ok n) ∧ en.toList.map (fun e => (e.key, e.val)) = es.map fun p => (p.1.den β, p.2.den β)

theorem RelO.ext {β β' : Env} {n n' lo sz : Nat} {x : XObj} {o : Option Obj} (h : RelO β n lo sz x o) (he : Ext n β β') (hn : n ≤ n') : RelO β' n' lo sz x o := by
  cases x with
  | dead => trivial
  | cells vs elem opn ro =>
    obtain ⟨cs, fr, h1, h2, h3, h4, h5, h6⟩ := h
    exact ⟨cs, fr, h1, h2, h3, h4, fun c hc => XC.ok_mono hn (h5 c hc), by rw [h6, map_den_ext he h5]⟩
  | map es =>
    obtain ⟨en, clock, h1, h2, h3⟩ := h
    refine ⟨en, clock, h1, fun p hp => ⟨X1.ok_mono hn (h2 p hp).1, X1.ok_mono hn (h2 p hp).2⟩, h3.trans ?_⟩
    exact List.map_congr_left fun p hp => by rw [X1.den_ext he (h2 p hp).1, X1.den_ext he (h2 p hp).2]

structure Rel (β : Env) (m : Mem) (w : World) : Prop where
  bnd : m.n ≤ Mem.bound
  fresh : m.Fresh
  obj : ∀ i, i < m.n → RelO β m.n (β.base i) (β.size i) (m.get i) w.heap[β.blk i]?
  inj : ∀ i j, i < m.n → j < m.n → (m.get i).own = true → (m.get j).live = true → β.blk i = β.blk j → i = j

/-- The world's block k is one that the small memory may write. -/
def Img (β : Env) (m : Mem) (k : Nat) : Prop := ∃ i, i < m.n ∧ (m.get i).own = true ∧ β.blk i = k

theorem Rel.lt {β : Env} {m : Mem} {w : World} (h : Rel β m w) {i : Nat} (hi : i < m.n) (hl : (m.get i).live = true) : β.blk i < w.heap.size := by
  have h1 := h.obj i hi
  cases hg : m.get i with
  | dead => rw [hg] at hl; cases hl
  | cells vs elem opn ro =>
    rw [hg] at h1
    obtain ⟨cs, fr, h2, _⟩ := h1
    exact (Array.getElem?_eq_some_iff.1 h2).1
  | map es =>
    rw [hg] at h1
    obtain ⟨en, clock, h2, _⟩ := h1
    exact (Array.getElem?_eq_some_iff.1 h2).1

/-- From one state to a later one. -/
structure Step (β : Env) (m : Mem) (w : World) (β' : Env) (m' : Mem) (w' : World) : Prop where
  le : m.n ≤ m'.n
  ext : Ext m.n β β'
  rel : Rel β' m' w'
  os : w'.os = w.os
  tape : w'.tape = w.tape
  output : w'.output = w.output
  size : w.heap.size ≤ w'.heap.size
  frame : ∀ k, k < w.heap.size → ¬ Img β m k → w'.heap[k]? = w.heap[k]?
  img : ∀ k, k < w.heap.size → Img β' m' k → Img β m k

theorem Step.refl {β : Env} {m : Mem} {w : World} (h : Rel β m w) : Step β m w β m w :=
  ⟨Nat.le_refl _, Ext.refl _ _, h, rfl, rfl, rfl, Nat.le_refl _, fun _ _ _ => rfl, fun _ _ h => h⟩

theorem Step.trans {β β' β'' : Env} {m m' m'' : Mem} {w w' w'' : World} (h : Step β m w β' m' w') (g : Step β' m' w' β'' m'' w'') : Step β m w β'' m'' w'' :=
  ⟨Nat.le_trans h.le g.le, h.ext.trans g.ext h.le, g.rel, g.os.trans h.os, g.tape.trans h.tape, g.output.trans h.output, Nat.le_trans h.size g.size,
    fun k hk hn => (g.frame k (Nat.lt_of_lt_of_le hk h.size) (fun hi => hn (h.img k hk hi))).trans (h.frame k hk hn),
    fun k hk hi => h.img k hk (g.img k (Nat.lt_of_lt_of_le hk h.size) hi)⟩

theorem Step.relV {β β' : Env} {m m' : Mem} {w w' : World} (h : Step β m w β' m' w') {x : XV} {v : Value} (hv : RelV β m.n x v) : RelV β' m'.n x v :=
  hv.ext h.ext h.le

/-- A draw turns nothing. -/
theorem Step.drew {β : Env} {m : Mem} {w : World} (h : Rel β m w) : Step β m w β m { w with drawn := w.drawn + 1 } :=
  ⟨Nat.le_refl _, Ext.refl _ _, ⟨h.bnd, h.fresh, h.obj, h.inj⟩, rfl, rfl, rfl, Nat.le_refl _, fun _ _ _ => rfl, fun _ _ h => h⟩

/-- A new block. -/
theorem Step.push {β : Env} {m m' : Mem} {w : World} (h : Rel β m w) {o : XObj} (hp : m.push o = some m') {ob : Obj} {sz : Nat}
    (ho : ∀ β', Ext m.n β β' → RelO β' m'.n 0 sz o (some ob)) :
    ∃ β', Step β m w β' m' (w.alloc ob) ∧ β'.blk m.n = w.heap.size ∧ β'.size m.n = sz ∧ β'.base m.n = 0 := by
  obtain ⟨h1, h2, h3, h4⟩ := Mem.push_spec hp
  let β' : Env := ⟨fun i => if i = m.n then w.heap.size else β.blk i, fun i => if i = m.n then 0 else β.base i, fun i => if i = m.n then sz else β.size i⟩
  have hext : Ext m.n β β' := fun i hi => ⟨by simp only [β']; rw [if_neg (by omega)], by simp only [β']; rw [if_neg (by omega)], by simp only [β']; rw [if_neg (by omega)]⟩
  have hblk : β'.blk m.n = w.heap.size := by simp [β']
  have hsz : β'.size m.n = sz := by simp [β']
  have hba : β'.base m.n = 0 := by simp [β']
  have hget : ∀ j, j ≠ m.n → m'.get j = m.get j := fun j hj => by unfold Mem.get; rw [h4 j hj]
  have hgn : m'.get m.n = o := by unfold Mem.get; rw [h3]
  have hheap : (w.alloc ob).heap = w.heap.push ob := rfl
  refine ⟨β', ⟨by omega, hext, ⟨by omega, Fresh.push h.fresh hp, ?_, ?_⟩, rfl, rfl, rfl, by simp [hheap], ?_, ?_⟩, hblk, hsz, hba⟩
  · intro i hi
    by_cases hin : i = m.n
    · subst hin
      rw [hgn, hblk, hsz, hba, hheap, Array.getElem?_push, if_pos rfl]
      exact ho β' hext
    · rw [hget i hin, (hext i (by omega)).1, (hext i (by omega)).2.1, (hext i (by omega)).2.2]
      by_cases hlv : (m.get i).live = true
      · have hlt := h.lt (i := i) (by omega) hlv
        rw [hheap, Array.getElem?_push, if_neg (by omega)]
        exact (h.obj i (by omega)).ext hext (by omega)
      · cases hg : m.get i with
        | dead => trivial
        | cells vs elem opn ro => rw [hg] at hlv; simp [XObj.live] at hlv
        | map es => rw [hg] at hlv; simp [XObj.live] at hlv
  · intro i j hi hj hli hlj he
    by_cases hin : i = m.n
    · by_cases hjn : j = m.n
      · omega
      · rw [hget j hjn] at hlj
        have hlt := h.lt (i := j) (by omega) hlj
        rw [hin, hblk, (hext j (by omega)).1] at he
        omega
    · by_cases hjn : j = m.n
      · rw [hget i hin] at hli
        have hlt := h.lt (i := i) (by omega) (XObj.live_of_own hli)
        rw [hjn, hblk, (hext i (by omega)).1] at he
        omega
      · rw [hget i hin] at hli
        rw [hget j hjn] at hlj
        rw [(hext i (by omega)).1, (hext j (by omega)).1] at he
        exact h.inj i j (by omega) (by omega) hli hlj he
  · intro k hk _
    rw [hheap, Array.getElem?_push, if_neg (by omega)]
  · intro k hk ⟨i, hi, hli, hbi⟩
    by_cases hin : i = m.n
    · rw [hin, hblk] at hbi; omega
    · rw [hget i hin] at hli
      rw [(hext i (by omega)).1] at hbi
      exact ⟨i, by omega, hli, hbi⟩

/-- A block is written anew. -/
theorem Step.put {β : Env} {m : Mem} {w w' : World} (h : Rel β m w) {i : Nat} (hi : i < m.n) (hl : (m.get i).own = true) {o : XObj}
    (hos : w'.os = w.os) (htape : w'.tape = w.tape) (hout : w'.output = w.output) (hsz : w'.heap.size = w.heap.size)
    (hother : ∀ k, k ≠ β.blk i → w'.heap[k]? = w.heap[k]?) (ho : RelO β m.n (β.base i) (β.size i) o w'.heap[β.blk i]?) : Step β m w β (m.put i o) w' := by
  have hib : i < Mem.bound := Nat.lt_of_lt_of_le hi h.bnd
  have hlive : ∀ j, ((m.put i o).get j).live = true → (m.get j).live = true := fun j hj => by
    by_cases hji : j = i
    · subst hji; exact XObj.live_of_own hl
    · rwa [Mem.get_put_ne m o hji] at hj
  have hown : ∀ j, ((m.put i o).get j).own = true → (m.get j).own = true := fun j hj => by
    by_cases hji : j = i
    · subst hji; exact hl
    · rwa [Mem.get_put_ne m o hji] at hj
  refine ⟨by rw [Mem.n_put]; exact Nat.le_refl _, Ext.refl _ _, ⟨by rw [Mem.n_put]; exact h.bnd, Fresh.put h.fresh _, ?_, ?_⟩, hos, htape, hout, by omega, ?_, ?_⟩
  · intro j hj
    rw [Mem.n_put] at hj ⊢
    by_cases hji : j = i
    · subst hji; rw [Mem.get_put_eq m o hi hib]; exact ho
    · rw [Mem.get_put_ne m o hji]
      by_cases hlv : (m.get j).live = true
      · rw [hother _ (fun e => hji (h.inj i j hi hj hl hlv e.symm).symm)]
        exact h.obj j hj
      · cases hg : m.get j with
        | dead => trivial
        | cells vs elem opn ro => rw [hg] at hlv; simp [XObj.live] at hlv
        | map es => rw [hg] at hlv; simp [XObj.live] at hlv
  · intro a b ha hb hla hlb he
    rw [Mem.n_put] at ha hb
    exact h.inj a b ha hb (hown a hla) (hlive b hlb) he
  · intro k hk hn
    exact hother k (fun e => hn ⟨i, hi, hl, e.symm⟩)
  · intro k _ ⟨j, hj, hlj, hb⟩
    rw [Mem.n_put] at hj
    exact ⟨j, hj, hown j hlj, hb⟩

/-- A block is given up. -/
theorem Step.kill {β : Env} {m : Mem} {w : World} (h : Rel β m w) {i : Nat} (hi : i < m.n) : Step β m w β (m.put i .dead) w := by
  have hib : i < Mem.bound := Nat.lt_of_lt_of_le hi h.bnd
  have hlive : ∀ j, ((m.put i .dead).get j).live = true → (m.get j).live = true ∧ j ≠ i := fun j hj => by
    by_cases hji : j = i
    · subst hji; rw [Mem.get_put_eq m _ hi hib] at hj; cases hj
    · rw [Mem.get_put_ne m _ hji] at hj; exact ⟨hj, hji⟩
  have hown : ∀ j, ((m.put i .dead).get j).own = true → (m.get j).own = true := fun j hj => by
    by_cases hji : j = i
    · subst hji; rw [Mem.get_put_eq m _ hi hib] at hj; cases hj
    · rwa [Mem.get_put_ne m _ hji] at hj
  refine ⟨by rw [Mem.n_put]; exact Nat.le_refl _, Ext.refl _ _, ⟨by rw [Mem.n_put]; exact h.bnd, Fresh.put h.fresh _, ?_, ?_⟩, rfl, rfl, rfl, Nat.le_refl _, fun _ _ _ => rfl, ?_⟩
  · intro j hj
    rw [Mem.n_put] at hj ⊢
    by_cases hji : j = i
    · subst hji; rw [Mem.get_put_eq m _ hi hib]; trivial
    · rw [Mem.get_put_ne m _ hji]; exact h.obj j hj
  · intro a b ha hb hla hlb he
    rw [Mem.n_put] at ha hb
    exact h.inj a b ha hb (hown a hla) (hlive b hlb).1 he
  · intro k _ ⟨j, hj, hlj, hb⟩
    rw [Mem.n_put] at hj
    exact ⟨j, hj, hown j hlj, hb⟩

end Go.Xm
