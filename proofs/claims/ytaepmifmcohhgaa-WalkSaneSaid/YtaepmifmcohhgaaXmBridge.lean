/-
  The second machine: what a run from an empty memory says of a call in any world; tables of such calls; single operations on numbers that are only moved.
-/
import Derived.Test.YtaepmifmcohhgaaXmFast5
import Derived.Below
import Derived.RowKit
namespace Go.Xm
open Go.RowKit (Below)
set_option linter.unusedSectionVars false
variable [Atoms]

theorem fresh_empty : Mem.empty.Fresh := fun _ _ => rfl

theorem rel_empty (β : Env) (w : World) : Rel β Mem.empty w :=
  ⟨Nat.zero_le _, fresh_empty, fun i hi => absurd hi (Nat.not_lt_zero i), fun i _ hi => absurd hi (Nat.not_lt_zero i)⟩

/-- It names no block. -/
def XC.shut : XC → Bool
  | .ptr _ _ => false
  | .slice _ _ _ _ => false
  | .map _ => false
  | .bind g c => g.shut && c.shut
  | _ => true

def X1.shut : X1 → Bool
  | .one c => c.shut
  | .agg cs => cs.all XC.shut

def XV.shut : XV → Bool
  | .undef => true
  | .one c => c.shut
  | .agg cs => cs.all XC.shut
  | .tup xs => xs.all X1.shut

theorem XC.ok_of_shut {c : XC} (h : c.shut = true) (n : Nat) : c.ok n := by
  induction c with
  | bind g c ih1 ih2 =>
    simp only [XC.shut, Bool.and_eq_true] at h
    exact ⟨ih1 h.1, ih2 h.2⟩
  | ptr i off => cases h
  | slice i off len cap => cases h
  | map i => cases h
  | _ => trivial

theorem XC.den_of_shut {c : XC} (h : c.shut = true) (β β' : Env) : c.den β = c.den β' :=
  XC.den_ext (n := 0) (fun i hi => absurd hi (Nat.not_lt_zero i)) (XC.ok_of_shut h 0)

theorem X1.ok_of_shut {x : X1} (h : x.shut = true) (n : Nat) : x.ok n := by
  cases x with
  | one c => exact XC.ok_of_shut h n
  | agg cs => exact fun c hc => XC.ok_of_shut (List.all_eq_true.1 h c hc) n

theorem X1.den_of_shut {x : X1} (h : x.shut = true) (β β' : Env) : x.den β = x.den β' :=
  X1.den_ext (n := 0) (fun i hi => absurd hi (Nat.not_lt_zero i)) (X1.ok_of_shut h 0)

theorem RelV.of_shut {x : XV} (h : x.shut = true) {β β' : Env} {n n' : Nat} {v : Value} (hr : RelV β n x v) : RelV β' n' x v := by
  cases x with
  | undef => trivial
  | one c => exact ⟨XC.ok_of_shut h n', hr.2.trans (XC.den_of_shut h _ _)⟩
  | agg cs =>
    have h' := List.all_eq_true.1 h
    refine ⟨fun c hc => XC.ok_of_shut (h' c hc) n', hr.2.trans ?_⟩
    rw [List.map_congr_left fun c hc => XC.den_of_shut (h' c hc) β β']
  | tup xs =>
    have h' := List.all_eq_true.1 h
    refine ⟨fun c hc => X1.ok_of_shut (h' c hc) n', hr.2.trans ?_⟩
    rw [List.map_congr_left fun c hc => X1.den_of_shut (h' c hc) β β']

theorem all2_of_shut {l : List XV} (h : ∀ x ∈ l, x.shut = true) {β β' : Env} {n n' : Nat} : ∀ {vs : List Value}, All2 (RelV β n) l vs → All2 (RelV β' n') l vs := by
  induction l with
  | nil => intro vs hr; cases hr; exact .nil
  | cons x l ih =>
    intro vs hr
    cases hr with
    | cons h1 h2 => exact .cons (h1.of_shut (h x (List.mem_cons_self ..))) (ih (fun y hy => h y (List.mem_cons_of_mem _ hy)) h2)

def Env.zero : Env := ⟨fun _ => 0, fun _ => 0, fun _ => 0⟩

/-- From an empty memory: what was there is as it was. -/
theorem run_below {P : Program} {f : FuncId} {args : List XV} {v : XV} {m' : Mem} (h : CallSound P f args Mem.empty v m') {vs : List Value} (ha : All2 (RelV Env.zero 0) args vs) (w : World) :
    Calls P f vs.toArray w fun e w' => (∃ u β', e = .returned u ∧ RelV β' m'.n v u) ∧ Below w.heap.size w w' := by
  refine (h Env.zero w vs ha (rel_empty _ w)).mono fun e w' ⟨u, β', he, hu, hs⟩ => ?_
  exact ⟨⟨u, β', he, hu⟩, hs.os, hs.tape, hs.output, hs.size, fun k hk => hs.frame k hk fun ⟨i, hi, _⟩ => absurd hi (Nat.not_lt_zero i)⟩

theorem run_true {P : Program} {f : FuncId} {args : List XV} {m' : Mem} (h : CallSound P f args Mem.empty (.one (.bool true)) m') {vs : List Value} (ha : All2 (RelV Env.zero 0) args vs) (w : World) :
    Calls P f vs.toArray w fun e w' => e = .returned (.bool true) ∧ Below w.heap.size w w' := by
  refine (run_below h ha w).mono fun e w' ⟨⟨u, β', he, hu⟩, hb⟩ => ⟨?_, hb⟩
  rw [he, hu.2]
  rfl

/-- A call that was run from an empty memory, in any other: where what it makes is forgotten. -/
theorem forget {P : Program} {f : FuncId} {args : List XV} {v : XV} {m' : Mem} (h : CallSound P f args Mem.empty v m') (ha : ∀ x ∈ args, x.shut = true) (hv : v.shut = true) (m : Mem) : CallSound P f args m v m := by
  intro β w vs hr hm
  refine (run_below h (all2_of_shut ha hr) w).mono fun e w' ⟨⟨u, β', he, hu⟩, hb⟩ => ?_
  refine ⟨u, β, he, hu.of_shut hv, Nat.le_refl _, Ext.refl _ _, ⟨hm.bnd, hm.fresh, fun i hi => ?_, hm.inj⟩, hb.os, hb.tape, hb.output, hb.size, fun k hk _ => hb.block k hk, fun k _ hk => hk⟩
  have ho := hm.obj i hi
  cases hg : m.get i with
  | dead => trivial
  | cells a b c d =>
    have hl := hm.lt hi (by rw [hg]; rfl)
    rw [hb.block _ hl, ← hg]
    exact ho
  | map es =>
    have hl := hm.lt hi (by rw [hg]; rfl)
    rw [hb.block _ hl, ← hg]
    exact ho

/-! ### Tables -/
structure Row1 where
  f : FuncId
  args : List XV
  v : XV

def Row1.shutB (r : Row1) : Bool := r.args.all XV.shut && r.v.shut

/-- It was run. -/
def Row1.Ran (P : Program) (r : Row1) : Prop := r.shutB = true ∧ ∃ m', CallSound P r.f r.args Mem.empty r.v m'

noncomputable def xlook (tab : List Row1) (f : FuncId) (args : List XV) (m : Mem) : Option (XV × Mem) :=
  @List.rec Row1 (fun _ => Option (XV × Mem)) .none (fun r _ ih => @Bool.rec (fun _ => Option (XV × Mem)) ih (@Bool.rec (fun _ => Option (XV × Mem)) ih (some (r.v, m)) (decide (r.args = args))) (Nat.beq r.f f)) tab

theorem xlook_some {f : FuncId} {args : List XV} {m m' : Mem} {v : XV} : ∀ {tab : List Row1}, xlook tab f args m = some (v, m') → m' = m ∧ ∃ r ∈ tab, r.f = f ∧ r.args = args ∧ r.v = v
  | [], h => by cases h
  | r :: tab, h => by
    have h' : @Bool.rec (fun _ => Option (XV × Mem)) (xlook tab f args m) (@Bool.rec (fun _ => Option (XV × Mem)) (xlook tab f args m) (some (r.v, m)) (decide (r.args = args))) (Nat.beq r.f f) = some (v, m') := h
    have ih : xlook tab f args m = some (v, m') → m' = m ∧ ∃ r' ∈ r :: tab, r'.f = f ∧ r'.args = args ∧ r'.v = v := fun h => by
      obtain ⟨h1, r', h2, h3⟩ := xlook_some h
      exact ⟨h1, r', List.mem_cons_of_mem _ h2, h3⟩
    cases hf : Nat.beq r.f f with
    | false => rw [hf] at h'; exact ih h'
    | true =>
      rw [hf] at h'
      cases hd : decide (r.args = args) with
      | false => rw [hd] at h'; exact ih h'
      | true =>
        rw [hd] at h'
        cases h'
        exact ⟨rfl, r, List.mem_cons_self .., Nat.eq_of_beq_eq_true hf, of_decide_eq_true hd, rfl⟩

theorem tab_sound {P : Program} {tab : List Row1} (h : ∀ r ∈ tab, r.Ran P) {op : Op → List XV → Option XV} (ho : ∀ o l x, op o l = some x → OpSound P o l x) : OrcSound P ⟨xlook tab, op⟩ := by
  refine ⟨fun f args m v m' hl => ?_, fun f args m v m' hl => ?_, ho⟩
  · obtain ⟨rfl, r, hr, rfl, rfl, rfl⟩ := xlook_some hl
    obtain ⟨h1, m'', h2⟩ := h r hr
    simp only [Row1.shutB, Bool.and_eq_true, List.all_eq_true] at h1
    exact forget h2 h1.1 h1.2 _
  · obtain ⟨rfl, _⟩ := xlook_some hl
    exact .same _

/-! ### A number that is held against constants -/
/-- 'g': what an operation on number 0 and a constant comes to. -/
def atomOp (g : BinOp → Int → Option XC) (o : Op) (l : List XV) : Option XV :=
  match o, l with
  | .binOp op _ _ _ _, [.one (.atom 0), .one (.int .u8 n)] => (g op n).map .one
  | _, _ => .none

theorem atomOp_sound {P : Program} {g : BinOp → Int → Option XC} (hk : Atoms.kind 0 = .u8) (h : ∀ op n c, g op n = some c → xbinInt op .u8 .u8 (Atoms.num 0) n = some c) : ∀ o l x, atomOp g o l = some x → OpSound P o l x := by
  intro o l x hx
  unfold atomOp at hx
  split at hx
  · rename_i op t xo yo t' n
    obtain ⟨c, hc, rfl⟩ := Option.map_eq_some_iff.1 hx
    intro β m o ev ho hall w
    simp only [Op.operands, List.map_cons, List.map_nil] at hall
    cases hall with
    | cons h1 h2 => cases h2 with
      | cons h3 h4 =>
        obtain ⟨_, h1⟩ := h1
        obtain ⟨_, h3⟩ := h3
        have hb := h op n c hc
        have hx : xbin P op t (.one (.int .u8 (Atoms.num 0))) (.one (.int .u8 n)) = some (.one c) := by
          simp only [xbin, hb, Option.map_some]
        have hA : RelV β m (.one (.int .u8 (Atoms.num 0))) (ev xo) := ⟨trivial, by rw [h1]; simp only [XC.den, hk]⟩
        have hB : RelV β m (.one (.int .u8 n)) (ev yo) := ⟨trivial, h3⟩
        obtain ⟨k1, z, hz, hz2⟩ := xbin_sound hx hA hB xo yo w
        exact ⟨z, by simp only [execOp, ho, Sem.run_bind, k1, hz, Result.andThen_ok, Sem.run_pure], hz2⟩
  · cases hx

theorem noOp_sound {P : Program} : ∀ o l x, (fun (_ : Op) (_ : List XV) => (.none : Option XV)) o l = some x → OpSound P o l x := fun _ _ _ h => by cases h

/-- A run by the kernel: what it says. -/
theorem ran {P : Program} {O : Orc} (hO : OrcSound P O) (hP : P.follows .mixedOrders = true) {F k : Nat} {r : Row1} (h : ((ycall O P F k).call r.f r.args Mem.empty).map (·.1) = some r.v) (hs : r.shutB = true) : r.Ran P := by
  obtain ⟨⟨v, m'⟩, h1, h2⟩ := Option.map_eq_some_iff.1 h
  refine ⟨hs, m', ?_⟩
  have := (ycall_sound hO hP F k).call _ _ _ _ _ h1
  rw [← h2]
  exact this

theorem ran_true {P : Program} {f : FuncId} {args : List XV} (h : (Row1.mk f args (.one (.bool true))).Ran P) {vs : List Value} (ha : All2 (RelV Env.zero 0) args vs) (w : World) :
    Calls P f vs.toArray w fun e w' => e = .returned (.bool true) ∧ Below w.heap.size w w' := by
  obtain ⟨_, m', h⟩ := h
  exact run_true h ha w

end Go.Xm
