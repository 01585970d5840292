/-
  The second machine, with variables in its states: slices with windows, lists that grow, loops whose states are seen by other numbers, arithmetic of all kinds.
-/
import Derived.Test.YtaepmifmcohhgaaXvArg
namespace Go.Xm
set_option linter.unusedSectionVars false
set_option linter.unusedVariables false
variable [Atoms]
variable {P : Program} {ops : Array Oper} {nt nI : Nat} {al : Regs} {hs : Heap} {o : Oper} {l : List Oper} {L : List Inst} {K : List Ab → Regs → Heap → Prop} {d : Nat}

/-! ### Lists of numbers -/
def il (k : IntKind) (l : List Int) : List XC := l.map (.int k)
theorem il_len (k : IntKind) (l : List Int) : (il k l).length = l.length := by simp [il]
theorem il_get {k : IntKind} {l : List Int} {j : Nat} (h : j < l.length) : (il k l)[j]? = some (.int k (l.getD j 0)) := by
  simp [il, h, List.getD_eq_getElem?_getD]
theorem il_set (k : IntKind) (l : List Int) (j : Nat) (x : Int) : (il k l).set j (.int k x) = il k (l.set j x) := by simp [il, List.map_set]
theorem il_append (k : IntKind) (l m : List Int) : il k l ++ il k m = il k (l ++ m) := by simp [il]
theorem il_take (k : IntKind) (l : List Int) (n : Nat) : (il k l).take n = il k (l.take n) := by simp [il, List.map_take]
theorem il_drop (k : IntKind) (l : List Int) (n : Nat) : (il k l).drop n = il k (l.drop n) := by simp [il, List.map_drop]
theorem il_nil (k : IntKind) : il k [] = [] := rfl
theorem il_one (k : IntKind) (x : Int) : il k [x] = [.int k x] := rfl
theorem il_ren (k : IntKind) (l : List Int) (τ : Nat → Nat) : (il k l).map (·.ren τ) = il k l := by simp [il, XC.ren]
theorem il_ok (k : IntKind) (l : List Int) (n : Nat) : ∀ c ∈ il k l, c.ok n := by
  intro c hc
  obtain ⟨x, _, rfl⟩ := List.mem_map.1 hc
  trivial

/-- An object, or a value, that names no object. -/
class FlatO (o : XObj) : Prop where
  ren : ∀ τ, o.ren τ = o
  ok : ∀ n, o.okN n
class FlatV (v : XV) : Prop where
  ren : ∀ τ, v.ren τ = v
  ok : ∀ n, v.okN n
instance : FlatO .dead := ⟨fun _ => rfl, fun _ => trivial⟩
instance {k : IntKind} {l : List Int} {e : TypeId} {a b : Bool} : FlatO (.cells (il k l) e a b) := ⟨fun τ => by simp only [XObj.ren, il_ren], fun n => il_ok k l n⟩
instance {k : IntKind} {n : Nat} {f : Nat → Int} {e : TypeId} {a b : Bool} : FlatO (.cells (ti k n f) e a b) := ⟨fun τ => by simp [XObj.ren, ti, XC.ren], fun n c hc => by
  obtain ⟨x, _, rfl⟩ := List.mem_map.1 hc
  trivial⟩
instance {k : IntKind} {z : Int} : FlatV (.one (.int k z)) := ⟨fun _ => rfl, fun _ => trivial⟩
instance {b : Bool} : FlatV (.one (.bool b)) := ⟨fun _ => rfl, fun _ => trivial⟩
instance {s : List UInt8} : FlatV (.one (.str s)) := ⟨fun _ => rfl, fun _ => trivial⟩
instance {f : FuncId} : FlatV (.one (.fn f)) := ⟨fun _ => rfl, fun _ => trivial⟩
instance {k : IntKind} {n : Nat} {f : Nat → Int} : FlatV (.agg (ti k n f)) := ⟨fun τ => by simp [XV.ren, ti, XC.ren], fun n c hc => by
  obtain ⟨x, _, rfl⟩ := List.mem_map.1 hc
  trivial⟩
instance {k : IntKind} {l : List Int} : FlatV (.agg (il k l)) := ⟨fun τ => by simp only [XV.ren, il_ren], fun n => il_ok k l n⟩
theorem flatO_of {vs : List XC} {e : TypeId} {a b : Bool} (h : vs.all XC.shut = true) : FlatO (.cells vs e a b) :=
  ⟨fun τ => by simp only [XObj.ren, cells_ren_shut h], fun n c hc => XC.ok_of_shut (List.all_eq_true.1 h c hc) n⟩
theorem flatV_of {v : XV} (h : v.shut = true) : FlatV v := ⟨fun τ => XV.ren_shut h τ, fun n => XV.okN_shut h n⟩

/-- A list that grows: nothing yet, or all of an object. -/
def slc (k n sz : Nat) : XC := if n = 0 then .nils else .slice k 0 n (.toEnd sz)
def slv (k n sz : Nat) : XV := .one (slc k n sz)
def slo (e : TypeId) (cs : List XC) : XObj := match cs with
  | [] => .dead
  | c :: r => .cells (c :: r) e true false
theorem slc_ren (k n sz : Nat) (τ : Nat → Nat) : (slc k n sz).ren τ = slc (τ k) n sz := by unfold slc; split <;> rfl
theorem slv_ren (k n sz : Nat) (τ : Nat → Nat) : (slv k n sz).ren τ = slv (τ k) n sz := congrArg XV.one (slc_ren k n sz τ)
theorem slc_ok {k n sz m : Nat} (h : k < m) : (slc k n sz).ok m := by
  unfold slc
  split
  · exact trivial
  · exact h
theorem slv_ok {k n sz m : Nat} (h : k < m) : (slv k n sz).okN m := slc_ok h
theorem okT1 {a : X1} {n : Nat} (h : a.ok n) : (XV.tup [a]).okN n := fun x hx => by
  simp only [List.mem_cons, List.not_mem_nil, or_false] at hx
  subst hx; exact h
theorem okT2 {a b : X1} {n : Nat} (h : a.ok n) (h' : b.ok n) : (XV.tup [a, b]).okN n := fun x hx => by
  simp only [List.mem_cons, List.not_mem_nil, or_false] at hx
  rcases hx with rfl | rfl
  · exact h
  · exact h'
theorem slo_pos {e : TypeId} {cs : List XC} (h : cs ≠ []) : slo e cs = .cells cs e true false := by
  cases cs with
  | nil => exact absurd rfl h
  | cons c r => rfl
theorem slv_pos {k n sz : Nat} (h : n ≠ 0) : slv k n sz = .one (.slice k 0 n (.toEnd sz)) := congrArg XV.one (if_neg h)
theorem slo_flat {e : TypeId} {cs : List XC} (h : cs.all XC.shut = true) : FlatO (slo e cs) := by
  cases cs with
  | nil => exact ⟨fun _ => rfl, fun _ => trivial⟩
  | cons c r => exact flatO_of h
theorem il_shut (k : IntKind) (l : List Int) : (il k l).all XC.shut = true := by
  rw [List.all_eq_true]
  intro c hc
  obtain ⟨x, _, rfl⟩ := List.mem_map.1 hc
  rfl
instance {e : TypeId} {k : IntKind} {l : List Int} : FlatO (slo e (il k l)) := slo_flat (il_shut k l)

/-! ### A state seen by other numbers -/
inductive ObjsVia (τ : Nat → Nat) (HS : Heap) : List Nat → Heap → Prop where
  | nil : ObjsVia τ HS [] []
  | flat {i : Nat} {o : XObj} {l : List Nat} {hs : Heap} [FlatO o] : HS[i]? = some o → ObjsVia τ HS l hs → ObjsVia τ HS (i :: l) (o :: hs)
  | cons {i : Nat} {o : XObj} {l : List Nat} {hs : Heap} : HS[i]? = some (o.ren τ) → ObjsVia τ HS l hs → ObjsVia τ HS (i :: l) (o :: hs)
  | dead {i : Nat} {l : List Nat} {hs : Heap} : Nat.blt i HS.length = true → ObjsVia τ HS l hs → ObjsVia τ HS (i :: l) (.dead :: hs)
theorem ObjsVia.at {τ : Nat → Nat} {HS : Heap} {l : List Nat} {hs : Heap} (h : ObjsVia τ HS l hs) : hs.length = l.length ∧ ∀ (j : Nat) (o : XObj), hs[j]? = some o → nth l j < HS.length ∧ (o = .dead ∨ HS[nth l j]? = some (o.ren τ)) := by
  induction h with
  | nil => exact ⟨rfl, fun j o h => by simp at h⟩
  | @flat i o l hs inst h1 _ ih =>
    refine ⟨by simp [ih.1], fun j o' hj => ?_⟩
    cases j with
    | zero => simp at hj; subst hj; exact ⟨(List.getElem?_eq_some_iff.1 h1).1, .inr (by rw [inst.ren]; exact h1)⟩
    | succ j => exact ih.2 j o' (by simpa using hj)
  | cons h1 _ ih =>
    refine ⟨by simp [ih.1], fun j o' hj => ?_⟩
    cases j with
    | zero => simp at hj; subst hj; exact ⟨(List.getElem?_eq_some_iff.1 h1).1, .inr h1⟩
    | succ j => exact ih.2 j o' (by simpa using hj)
  | dead h1 _ ih =>
    refine ⟨by simp [ih.1], fun j o' hj => ?_⟩
    cases j with
    | zero => simp at hj; subst hj; exact ⟨by show _ < _; rw [Nat.blt_eq] at h1; exact h1, .inl rfl⟩
    | succ j => exact ih.2 j o' (by simpa using hj)

inductive RegsVia (τ : Nat → Nat) (al : Regs) : Regs → Prop where
  | nil : RegsVia τ al []
  | flat {t : Nat} {v : XV} {r : Regs} [FlatV v] : rg al t = v → RegsVia τ al r → RegsVia τ al ((t, v) :: r)
  | cons {t : Nat} {v : XV} {r : Regs} : rg al t = v.ren τ → RegsVia τ al r → RegsVia τ al ((t, v) :: r)
theorem RegsVia.at {τ : Nat → Nat} {al al2 : Regs} (h : RegsVia τ al al2) (t : Nat) : rg al2 t = .undef ∨ rg al t = (rg al2 t).ren τ := by
  induction h with
  | nil => exact .inl rfl
  | @flat u v r inst h1 _ ih =>
    by_cases ht : t = u
    · subst ht; right; simp only [rg, if_true]; rw [inst.ren]; exact h1
    · simp only [rg, ht, if_false]; exact ih
  | @cons u v r h1 _ ih =>
    by_cases ht : t = u
    · subst ht; right; simp only [rg, if_true]; exact h1
    · simp only [rg, ht, if_false]; exact ih

inductive AllOk (n : Nat) : Heap → Prop where
  | nil : AllOk n []
  | flat {o : XObj} {hs : Heap} [FlatO o] : AllOk n hs → AllOk n (o :: hs)
  | cons {o : XObj} {hs : Heap} : o.okN n → AllOk n hs → AllOk n (o :: hs)
theorem AllOk.at {n : Nat} {hs : Heap} (h : AllOk n hs) : ∀ o ∈ hs, o.okN n := by
  induction h with
  | nil => intro o h; cases h
  | @flat o hs inst _ ih =>
    intro x hx
    rcases List.mem_cons.1 hx with rfl | hx
    · exact inst.ok n
    · exact ih x hx
  | cons h1 _ ih =>
    intro x hx
    rcases List.mem_cons.1 hx with rfl | hx
    · exact h1
    · exact ih x hx
inductive RegOk (n : Nat) : Regs → Prop where
  | nil : RegOk n []
  | flat {t : Nat} {v : XV} {r : Regs} [FlatV v] : RegOk n r → RegOk n ((t, v) :: r)
  | cons {t : Nat} {v : XV} {r : Regs} : v.okN n → RegOk n r → RegOk n ((t, v) :: r)
theorem RegOk.at {n : Nat} {al : Regs} (h : RegOk n al) (t : Nat) : (rg al t).okN n := by
  induction h with
  | nil => trivial
  | @flat u v r inst _ ih =>
    unfold rg
    split
    · exact inst.ok n
    · exact ih
  | cons h1 _ ih =>
    unfold rg
    split
    · exact h1
    · exact ih
structure StOk (nI : Nat) (al : Regs) (hs : Heap) : Prop where
  le : Nat.ble nI hs.length = true
  bnd : Nat.blt hs.length Mem.bound = true
  objs : AllOk hs.length hs
  regs : RegOk hs.length al

/-- From one state to another one that says less, its objects under other numbers. -/
structure GoTo (nI : Nat) (al : Regs) (hs : Heap) (al2 : Regs) (hs2 : Heap) (τl : List Nat) : Prop where
  nd : τl.Nodup
  hid : (List.range nI).all (fun j => nth τl j == j) = true
  obj : ObjsVia (nth τl) hs τl hs2
  reg : RegsVia (nth τl) al al2

theorem WX.via {c : Cmd} {al2 : Regs} {hs2 : Heap} {K : Post1} {τl : List Nat} (g : GoTo nI al hs al2 hs2 τl) (hk : StOk nI al2 hs2) (h : WX P nt nI c al2 hs2 K) : WX P nt nI c al hs K := by
  obtain ⟨hlen, hobj⟩ := g.obj.at
  have hle : nI ≤ hs2.length := Nat.le_of_ble_eq_true hk.le
  refine WX.view (nth τl) ⟨fun j hj => ?_, fun i j hi hj hij => ?_, fun j o hj => hk.objs.at o (List.mem_of_getElem? hj), fun j o hj => (hobj j o hj).2⟩ (fun j hj => ?_) hle hk.bnd hk.regs.at g.reg.at h
  · exact (hobj j _ (List.getElem?_eq_getElem hj)).1
  · unfold nth at hij
    have ha' : i < τl.length := by omega
    have hb' : j < τl.length := by omega
    rw [List.getD_eq_getElem?_getD, List.getD_eq_getElem?_getD, List.getElem?_eq_getElem ha', List.getElem?_eq_getElem hb'] at hij
    exact (List.getElem_inj g.nd).1 hij
  · have := List.all_eq_true.1 g.hid j (List.mem_range.2 hj)
    simpa using this

/-- A loop: a state of it, what holds of it, what grows less. -/
theorem WX.loopW {σ : Type} {c : Code} {K : Post1} (R : σ → Regs) (H : σ → Heap) (I : σ → Prop) (μ : σ → Nat) (s0 : σ) (h0 : I s0) (hok : ∀ s, I s → StOk nI (R s) (H s)) {τl : List Nat} (hin : GoTo nI al hs (R s0) (H s0) τl)
    (step : ∀ s, I s → (∀ s' τl al' hs', GoTo nI al' hs' (R s') (H s') τl → I s' → μ s' < μ s → WX P nt nI (.round c) al' hs' K) → WX P nt nI (.code c) (R s) (H s) (KRound P nt nI c K)) : WX P nt nI (.code (.loop c)) al hs K := by
  refine WX.loop (WX.via hin (hok s0 h0) ?_)
  have : ∀ n s, μ s ≤ n → I s → WX P nt nI (.round c) (R s) (H s) K := by
    intro n
    induction n with
    | zero => intro s hs hI; exact WX.round (step s hI fun s' τl al' hs' _ _ h => absurd h (by omega))
    | succ n ih => intro s hs hI; exact WX.round (step s hI fun s' τl al' hs' g h' hlt => WX.via g (hok s' h') (ih s' (by omega) h'))
  exact this (μ s0) s0 (Nat.le_refl _) h0

/-- Ways that meet again, in one of many states. -/
theorem WX.meet {σ : Type} {a b : Code} {K : Post1} (R : σ → Regs) (H : σ → Heap) (I : σ → Prop) (hok : ∀ s, I s → StOk nI (R s) (H s)) (h1 : WX P nt nI (.code a) al hs fun e al1 hs1 => e = .normal ∧ ∃ s τl, I s ∧ GoTo nI al1 hs1 (R s) (H s) τl)
    (h2 : ∀ s, I s → WX P nt nI (.code b) (R s) (H s) K) : WX P nt nI (.code (.seq a b)) al hs K :=
  WX.seq (h1.mono fun e al1 hs1 ⟨he, s, τl, hi, hg⟩ => by
    subst he
    exact WX.via hg (hok s hi) (h2 s hi))
/-- The same behind a command that is a loop's body, or the last one. -/
theorem WX.meetEnd {σ : Type} {a : Code} {K : Post1} (R : σ → Regs) (H : σ → Heap) (I : σ → Prop) (h1 : WX P nt nI (.code a) al hs fun e al1 hs1 => e = .normal ∧ ∃ s τl, I s ∧ GoTo nI al1 hs1 (R s) (H s) τl)
    (h2 : ∀ s, I s → ∀ al1 hs1 τl, GoTo nI al1 hs1 (R s) (H s) τl → K .normal al1 hs1) : WX P nt nI (.code a) al hs K :=
  h1.mono fun e al1 hs1 ⟨he, s, τl, hi, hg⟩ => by
    subst he
    exact h2 s hi al1 hs1 τl hg

/-- Ways that meet again behind a region, or behind a statement that begins with one. -/
theorem WX.meetI (id : Nat) {σ : Type} {ops : Array Oper} {dr : Bool} {b : Code} {K : Post1} (R : σ → Regs) (H : σ → Heap) (I : σ → Prop) (hok : ∀ s, I s → StOk nI (R s) (H s)) (h1 : WX P nt nI (.code (.region id ops dr)) al hs fun e al1 hs1 => e = .normal ∧ ∃ s τl, I s ∧ GoTo nI al1 hs1 (R s) (H s) τl)
    (h2 : ∀ s, I s → WX P nt nI (.code b) (R s) (H s) K) : WX P nt nI (.code (.seq (.region id ops dr) b)) al hs K := WX.meet R H I hok h1 h2
theorem WX.meetS (id : Nat) {σ : Type} {ops : Array Oper} {dr : Bool} {x b : Code} {K : Post1} (R : σ → Regs) (H : σ → Heap) (I : σ → Prop) (hok : ∀ s, I s → StOk nI (R s) (H s)) (h1 : WX P nt nI (.code (.seq (.region id ops dr) x)) al hs fun e al1 hs1 => e = .normal ∧ ∃ s τl, I s ∧ GoTo nI al1 hs1 (R s) (H s) τl)
    (h2 : ∀ s, I s → WX P nt nI (.code b) (R s) (H s) K) : WX P nt nI (.code (.seq (.seq (.region id ops dr) x) b)) al hs K := WX.meet R H I hok h1 h2
theorem WX.meetB (id : Nat) {σ : Type} {x b : Code} {K : Post1} (R : σ → Regs) (H : σ → Heap) (I : σ → Prop) (hok : ∀ s, I s → StOk nI (R s) (H s)) (h1 : WX P nt nI (.code (.block id x)) al hs fun e al1 hs1 => e = .normal ∧ ∃ s τl, I s ∧ GoTo nI al1 hs1 (R s) (H s) τl)
    (h2 : ∀ s, I s → WX P nt nI (.code b) (R s) (H s) K) : WX P nt nI (.code (.seq (.block id x) b)) al hs K := WX.meet R H I hok h1 h2

/-- A number for an object to come. -/
theorem WX.reserve {c : Cmd} {K : Post1} (hb : Nat.blt hs.length Mem.bound = true) (h : WX P nt nI c al (hs ++ [.dead]) K) : WX P nt nI c al hs K := by
  intro βI mI wI hn m hm β w a Q hr hst hq
  obtain ⟨m', hp, hh, _⟩ := hm.push .dead (by simpa [Nat.blt_eq] using hb)
  obtain ⟨p1, p2, p3, p4⟩ := Mem.push_spec hp
  have hnn : m'.get m.n = .dead := by unfold Mem.get; rw [p3]
  have hold : ∀ i, i ≠ m.n → m'.get i = m.get i := fun i hi => by unfold Mem.get; rw [p4 i hi]
  have hb2 := hh.bnd
  have hrel : Rel β m' w := by
    refine ⟨hb2, hh.fresh, fun i hi => ?_, fun i j hi hj li lj hbb => ?_⟩
    · by_cases e : i = m.n
      · subst e; rw [hnn]; trivial
      · rw [hold i e]
        exact (hst.rel.obj i (by omega)).ext (fun _ _ => ⟨rfl, rfl, rfl⟩) (by omega)
    · have e1 : i ≠ m.n := fun e => by subst e; rw [hnn] at li; cases li
      have e2 : j ≠ m.n := fun e => by subst e; rw [hnn] at lj; cases lj
      rw [hold i e1] at li
      rw [hold j e2] at lj
      exact hst.rel.inj i j (by omega) (by omega) li lj hbb
  refine h βI mI wI hn m' hh β w a Q ?_ ?_ hq
  · exact ⟨hr.size, hr.small, fun t ht => (hr.rel t ht).ext (fun _ _ => ⟨rfl, rfl, rfl⟩) (by omega), hr.out⟩
  · refine ⟨by have := hst.le; omega, hst.ext, hrel, hst.os, hst.tape, hst.output, hst.size, hst.frame, fun k hk hi => hst.img k hk ?_⟩
    obtain ⟨i, hi, hl, hb⟩ := hi
    have e1 : i ≠ m.n := fun e => by subst e; rw [hnn] at hl; cases hl
    exact ⟨i, by omega, by rw [hold i e1] at hl; exact hl, hb⟩
end Go.Xm
