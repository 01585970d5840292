/-
  The second machine: contracts of functions over a few objects of their own, and their calls where these objects lie among others.
-/
import Derived.Test.YtaepmifmcohhgaaXvBase
namespace Go.Xm
set_option linter.unusedSectionVars false

/-! ### Other names of blocks -/
def XC.ren (τ : Nat → Nat) : XC → XC
  | .ptr i off => .ptr (τ i) off
  | .slice i off len cap => .slice (τ i) off len cap
  | .map i => .map (τ i)
  | .bind g c => .bind (g.ren τ) (c.ren τ)
  | c => c
def X1.ren (τ : Nat → Nat) : X1 → X1
  | .one c => .one (c.ren τ)
  | .agg cs => .agg (cs.map (·.ren τ))
def XV.ren (τ : Nat → Nat) : XV → XV
  | .undef => .undef
  | .one c => .one (c.ren τ)
  | .agg cs => .agg (cs.map (·.ren τ))
  | .tup xs => .tup (xs.map (·.ren τ))
def XObj.ren (τ : Nat → Nat) : XObj → XObj
  | .dead => .dead
  | .cells vs e opn ro => .cells (vs.map (·.ren τ)) e opn ro
  | .map es => .map (es.map fun p => (p.1.ren τ, p.2.ren τ))

def XV.okN (n : Nat) : XV → Prop
  | .undef => True
  | .one c => c.ok n
  | .agg cs => ∀ c ∈ cs, c.ok n
  | .tup xs => ∀ x ∈ xs, x.ok n
def XObj.okN (n : Nat) : XObj → Prop
  | .dead => True
  | .cells vs _ _ _ => ∀ c ∈ vs, c.ok n
  | .map es => ∀ p ∈ es, p.1.ok n ∧ p.2.ok n

theorem XC.ok_ren {τ : Nat → Nat} {n N : Nat} (h : ∀ i, i < n → τ i < N) : ∀ {c : XC}, c.ok n → (c.ren τ).ok N := by
  intro c
  induction c with
  | ptr i off => exact fun h' => h i h'
  | slice i off len cap => exact fun h' => h i h'
  | map i => exact fun h' => h i h'
  | bind g c ih1 ih2 => exact fun h' => ⟨ih1 h'.1, ih2 h'.2⟩
  | _ => intro _; trivial
theorem X1.ok_ren {τ : Nat → Nat} {n N : Nat} (h : ∀ i, i < n → τ i < N) : ∀ {x : X1}, x.ok n → (x.ren τ).ok N
  | .one _, h' => XC.ok_ren h h'
  | .agg cs, h' => fun c hc => by
    obtain ⟨d, hd, rfl⟩ := List.mem_map.1 hc
    exact XC.ok_ren h (h' d hd)

variable [Atoms]

def Via (β β' : Env) (τ : Nat → Nat) (n : Nat) : Prop := ∀ i, i < n → β'.blk (τ i) = β.blk i ∧ β'.size (τ i) = β.size i ∧ β'.base (τ i) = β.base i

theorem XC.den_ren {β β' : Env} {τ : Nat → Nat} {n : Nat} (h : Via β β' τ n) : ∀ {c : XC}, c.ok n → (c.ren τ).den β' = c.den β := by
  intro c
  induction c with
  | ptr i off => intro h'; simp only [XC.ren, XC.den, (h i h').1, (h i h').2.2]
  | slice i off len cap => intro h'; cases cap <;> simp only [XC.ren, XC.den, (h i h').1, (h i h').2.1, (h i h').2.2]
  | map i => intro h'; simp only [XC.ren, XC.den, (h i h').1]
  | bind g c ih1 ih2 => intro h'; simp only [XC.ren, XC.den, ih1 h'.1, ih2 h'.2]
  | _ => intro _; rfl
theorem cells_den_ren {β β' : Env} {τ : Nat → Nat} {n : Nat} (h : Via β β' τ n) {cs : List XC} (hc : ∀ c ∈ cs, c.ok n) : (cs.map (·.ren τ)).map (·.den β') = cs.map (·.den β) := by
  rw [List.map_map]
  exact List.map_congr_left fun c hm => XC.den_ren h (hc c hm)
theorem X1.den_ren {β β' : Env} {τ : Nat → Nat} {n : Nat} (h : Via β β' τ n) : ∀ {x : X1}, x.ok n → (x.ren τ).den β' = x.den β
  | .one _, h' => XC.den_ren h h'
  | .agg cs, h' => by simp only [X1.ren, X1.den, cells_den_ren h h']

theorem RelV.ren {β β' : Env} {τ : Nat → Nat} {n N : Nat} (h : Via β β' τ n) (hb : ∀ i, i < n → τ i < N) {x : XV} {v : Value} (hr : RelV β n x v) : RelV β' N (x.ren τ) v := by
  cases x with
  | undef => trivial
  | one c => exact ⟨XC.ok_ren hb hr.1, hr.2.trans (XC.den_ren h hr.1).symm⟩
  | agg cs =>
    refine ⟨fun c hc => ?_, hr.2.trans (by rw [cells_den_ren h hr.1])⟩
    obtain ⟨d, hd, rfl⟩ := List.mem_map.1 hc
    exact XC.ok_ren hb (hr.1 d hd)
  | tup xs =>
    refine ⟨fun c hc => ?_, hr.2.trans ?_⟩
    · obtain ⟨d, hd, rfl⟩ := List.mem_map.1 hc
      exact X1.ok_ren hb (hr.1 d hd)
    · rw [List.map_map]
      exact congrArg (fun l => Value.tuple (List.toArray l)) (List.map_congr_left fun c hm => (X1.den_ren h (hr.1 c hm)).symm)
theorem RelV.unren {β β' : Env} {τ : Nat → Nat} {n N : Nat} (h : Via β β' τ n) {x : XV} (hx : x.okN n) {v : Value} (hr : RelV β' N (x.ren τ) v) : RelV β n x v := by
  cases x with
  | undef => trivial
  | one c => exact ⟨hx, hr.2.trans (XC.den_ren h hx)⟩
  | agg cs => exact ⟨hx, hr.2.trans (by rw [cells_den_ren h hx])⟩
  | tup xs =>
    refine ⟨hx, hr.2.trans ?_⟩
    rw [List.map_map]
    exact congrArg (fun l => Value.tuple (List.toArray l)) (List.map_congr_left fun c hm => X1.den_ren h (hx c hm))

theorem RelO.ren {β β' : Env} {τ : Nat → Nat} {n N lo sz : Nat} (h : Via β β' τ n) (hb : ∀ i, i < n → τ i < N) {x : XObj} {o : Option Obj} (hr : RelO β n lo sz x o) : RelO β' N lo sz (x.ren τ) o := by
  cases x with
  | dead => trivial
  | cells vs e opn ro =>
    obtain ⟨cs, fr, h1, h2, h3, h4, h5, h6⟩ := hr
    refine ⟨cs, fr, h1, h2, by rw [List.length_map]; exact h3, h4, fun c hc => ?_, ?_⟩
    · obtain ⟨d, hd, rfl⟩ := List.mem_map.1 hc
      exact XC.ok_ren hb (h5 d hd)
    · rw [List.length_map, h6, cells_den_ren h h5]
  | map es =>
    obtain ⟨en, clock, h1, h2, h3⟩ := hr
    refine ⟨en, clock, h1, fun p hp => ?_, h3.trans ?_⟩
    · obtain ⟨d, hd, rfl⟩ := List.mem_map.1 hp
      exact ⟨X1.ok_ren hb (h2 d hd).1, X1.ok_ren hb (h2 d hd).2⟩
    · rw [List.map_map]
      exact List.map_congr_left fun p hp => by simp only [Function.comp, X1.den_ren h (h2 p hp).1, X1.den_ren h (h2 p hp).2]
theorem RelO.unren {β β' : Env} {τ : Nat → Nat} {n N lo sz : Nat} (h : Via β β' τ n) {x : XObj} (hx : x.okN n) {o : Option Obj} (hr : RelO β' N lo sz (x.ren τ) o) : RelO β n lo sz x o := by
  cases x with
  | dead => trivial
  | cells vs e opn ro =>
    obtain ⟨cs, fr, h1, h2, h3, h4, h5, h6⟩ := hr
    rw [List.length_map] at h3 h6
    exact ⟨cs, fr, h1, h2, h3, h4, hx, by rw [h6, cells_den_ren h hx]⟩
  | map es =>
    obtain ⟨en, clock, h1, h2, h3⟩ := hr
    refine ⟨en, clock, h1, hx, h3.trans ?_⟩
    rw [List.map_map]
    exact List.map_congr_left fun p hp => by simp only [Function.comp, X1.den_ren h (hx p hp).1, X1.den_ren h (hx p hp).2]

theorem live_ren {τ : Nat → Nat} {x : XObj} : (x.ren τ).live = x.live := by cases x <;> rfl
theorem own_ren {τ : Nat → Nat} {x : XObj} : (x.ren τ).own = x.own := by cases x <;> rfl

/-- Objects as they are seen by other numbers; what is not seen is dead. -/
structure View (τ : Nat → Nat) (hs1 hs2 : Heap) : Prop where
  lt : ∀ j, j < hs2.length → τ j < hs1.length
  inj : ∀ i j, i < hs2.length → j < hs2.length → τ i = τ j → i = j
  ok : ∀ (j : Nat) (o : XObj), hs2[j]? = some o → o.okN hs2.length
  obj : ∀ (j : Nat) (o : XObj), hs2[j]? = some o → o = .dead ∨ hs1[τ j]? = some (o.ren τ)

theorem Holds.get? {m : Mem} {hs : Heap} (h : Holds m hs) {i : Nat} (hi : i < m.n) : hs[i]? = some (m.get i) := by
  have := h.n
  rw [h.get i hi, List.getD_eq_getElem?_getD, List.getElem?_eq_getElem (by omega)]
  rfl

theorem Rel.view {β : Env} {m m2 : Mem} {w : World} {hs1 hs2 : Heap} {τ : Nat → Nat} (h : Rel β m w) (h1 : Holds m hs1) (h2 : Holds m2 hs2) (v : View τ hs1 hs2) {β2 : Env} (hv : Via β2 β τ hs2.length) : Rel β2 m2 w := by
  have n1 := h1.n
  have n2 := h2.n
  have key : ∀ i, i < m2.n → m2.get i = .dead ∨ (m2.get i).okN hs2.length ∧ τ i < m.n ∧ m.get (τ i) = (m2.get i).ren τ := fun i hi => by
    have g := h2.get? hi
    have lt := v.lt i (by omega)
    rcases v.obj i _ g with e | e
    · exact .inl e
    · refine .inr ⟨v.ok i _ g, by omega, ?_⟩
      exact h1.at e
  refine ⟨h2.bnd, h2.fresh, fun i hi => ?_, fun i j hi hj li lj hb => ?_⟩
  · rcases key i hi with e | ⟨e1, e2, e3⟩
    · rw [e]; trivial
    · have := h.obj (τ i) e2
      rw [e3, (hv i (by omega)).1, (hv i (by omega)).2.1, (hv i (by omega)).2.2] at this
      rw [n2]
      exact this.unren hv e1
  · rcases key i hi with e | ⟨_, e2, e3⟩
    · rw [e] at li; cases li
    rcases key j hj with e | ⟨_, e2', e3'⟩
    · rw [e] at lj; cases lj
    refine v.inj i j (by omega) (by omega) (h.inj (τ i) (τ j) e2 e2' (by rw [e3, own_ren]; exact li) (by rw [e3', live_ren]; exact lj) ?_)
    rw [(hv i (by omega)).1, (hv j (by omega)).1]
    exact hb

theorem Rel.viewImg {β : Env} {m m2 : Mem} {hs1 hs2 : Heap} {τ : Nat → Nat} (h1 : Holds m hs1) (h2 : Holds m2 hs2) (v : View τ hs1 hs2) {β2 : Env} (hv : Via β2 β τ hs2.length) {k : Nat} (hi : Img β2 m2 k) : Img β m k := by
  obtain ⟨i, hi, hl, rfl⟩ := hi
  have n1 := h1.n
  have n2 := h2.n
  have g := h2.get? hi
  have lt := v.lt i (by omega)
  rcases v.obj i _ g with e | e
  · rw [e] at hl; cases hl
  · refine ⟨τ i, by omega, ?_, (hv i (by omega)).1⟩
    rw [h1.at e, own_ren]
    exact hl

/-- WHAT A FUNCTION DOES: from arguments and objects, a result and objects: those that were there, turned, and behind them new ones. -/
def Con (P : Program) (f : FuncId) (args : List XV) (hs : Heap) (v : XV) (hs' : Heap) : Prop :=
  ∀ (m : Mem), Holds m hs → ∀ (β : Env) (w : World) (vs : List Value), All2 (RelV β m.n) args vs → Rel β m w →
    Calls P f vs.toArray w fun e w' => ∃ u β' m', e = .returned u ∧ Holds m' hs' ∧ RelV β' m'.n v u ∧ Step β m w β' m' w'

/-- How a function's run ends: the result and the objects, seen by other numbers. -/
def KCon (P : Program) (fn : Func) (n : Nat) (v : XV) (hs' : Heap) : Post1 := fun e al hs1 => (e = .normal ∨ e = .ret) ∧ ∃ (v1 : XV) (τ : Nat → Nat), ResX P fn al hs1 v1 ∧ v1 = v.ren τ ∧ v.okN hs'.length ∧ View τ hs1 hs' ∧ ∀ j, j < n → τ j = j

/-- Objects that nobody needs are forgotten; those that are left get other numbers. -/
theorem WX.view {P : Program} {nt nI : Nat} {c : Cmd} {al al2 : Regs} {hs hs2 : Heap} {K : Post1} (τ : Nat → Nat) (hv : View τ hs hs2) (hid : ∀ j, j < nI → τ j = j) (hle : nI ≤ hs2.length) (hb : Nat.blt hs2.length Mem.bound = true) (hok : ∀ t, (rg al2 t).okN hs2.length) (hr : ∀ t, rg al2 t = .undef ∨ rg al t = (rg al2 t).ren τ)
    (h : WX P nt nI c al2 hs2 K) : WX P nt nI c al hs K := by
  intro βI mI wI hn m hm β w a Q hrel hst hq
  have hm2 := holds_memOf hs2 (by simpa [Nat.blt_eq] using hb)
  have n1 := hm.n
  have n2 := hm2.n
  let β2 : Env := ⟨fun i => β.blk (τ i), fun i => β.base (τ i), fun i => β.size (τ i)⟩
  have hvia : Via β2 β τ hs2.length := fun i _ => ⟨rfl, rfl, rfl⟩
  have hst2 : Step βI mI wI β2 (memOf hs2) w := by
    refine ⟨by omega, fun i hi => ?_, hst.rel.view hm hm2 hv hvia, hst.os, hst.tape, hst.output, hst.size, hst.frame, fun k hk hi => hst.img k hk (Rel.viewImg hm hm2 hv hvia hi)⟩
    have := hst.ext i hi
    show β.blk (τ i) = βI.blk i ∧ β.size (τ i) = βI.size i ∧ β.base (τ i) = βI.base i
    rw [hid i (by omega)]
    exact this
  refine h βI mI wI hn (memOf hs2) hm2 β2 w a Q ⟨hrel.size, hrel.small, fun t ht => ?_, fun t ht => ?_⟩ hst2 hq
  · rcases hr t with e | e
    · rw [e]; trivial
    · have := hrel.rel t ht
      rw [e] at this
      rw [n2]
      exact this.unren hvia (hok t)
  · rcases hr t with e | e
    · exact e
    · have := hrel.out t ht
      rw [e] at this
      cases hx : rg al2 t <;> rw [hx] at this <;> first | rfl | cases this

theorem con_of_wx {P : Program} {f : FuncId} {fn : Func} {c : Code} {args : List XV} {hs hs' : Heap} {v : XV} (hf : P.funcs[f]? = some fn) (hb : fn.body = some c) (hn : fn.ntmps < 1000000) (hl : args.length ≤ fn.ntmps) (hle : hs.length ≤ hs'.length) (hbd : hs'.length < Mem.bound)
    (h : WX P fn.ntmps hs.length (.code c) (argRegs args 0) hs (KCon P fn hs.length v hs')) : Con P f args hs v hs' := by
  intro m hm β w vs hall hw
  refine calls_of_wp hf hb ?_
  have hr0 := initRegs_rel hall hn hl
  have e : (initRegs args 0 .leaf).get .undef = rg (argRegs args 0) := by
    funext j
    rw [initRegs_get args 0 .leaf (by omega) j, rg_argRegs, T.get_leaf]
  unfold RelR at hr0
  rw [e] at hr0
  have nm := hm.n
  refine h β m w nm m hm β w _ _ hr0 (Step.refl hw) fun x al' hs1 m1 hk hm1 a' β' w' h1 h2 h3 => ?_
  obtain ⟨hx, v1, τ, hres, rfl, hok, hview, hid⟩ := hk
  obtain ⟨u, hu1, hu2⟩ := xresults_sound (hres m1 hm1) h3.rel h1
  have hm2 := holds_memOf hs' hbd
  have n2 := hm2.n
  let β2 : Env := ⟨fun i => β'.blk (τ i), fun i => β'.base (τ i), fun i => β'.size (τ i)⟩
  have hv : Via β2 β' τ hs'.length := fun i _ => ⟨rfl, rfl, rfl⟩
  have hst : Step β m w β2 (memOf hs') w' := by
    refine ⟨by omega, fun i hi => ?_, h3.rel.view hm1 hm2 hview hv, h3.os, h3.tape, h3.output, h3.size, h3.frame, fun k hk hi => h3.img k hk (Rel.viewImg hm1 hm2 hview hv hi)⟩
    have := h3.ext i hi
    show β'.blk (τ i) = β.blk i ∧ β'.size (τ i) = β.size i ∧ β'.base (τ i) = β.base i
    rw [hid i (by omega)]
    exact this
  have hu3 : RelV β2 (memOf hs').n v u := by rw [n2]; exact hu2.unren hv hok
  rcases hx with rfl | rfl <;> exact ⟨h2, u, hu1, u, β2, memOf hs', rfl, hm2, hu3, hst⟩

/-- Where the callee's objects lie among the caller's: behind its own the new ones. -/
def beyond (ρ : Nat → Nat) (n N : Nat) (j : Nat) : Nat := if j < n then ρ j else N + (j - n)

/-- The caller's objects behind the call. -/
structure After (ρ : Nat → Nat) (n : Nat) (HS : Heap) (hs' : Heap) (HS' : Heap) : Prop where
  len : HS'.length = HS.length + (hs'.length - n)
  obj : ∀ (j : Nat) (o : XObj), hs'[j]? = some o → HS'[beyond ρ n HS.length j]? = some (o.ren (beyond ρ n HS.length))
  old : ∀ i, i < HS.length → (∀ j, j < n → ρ j ≠ i) → HS'[i]? = HS[i]?

theorem all2_unren {β0 β : Env} {ρ : Nat → Nat} {n N : Nat} (hvia : Via β0 β ρ n) : ∀ {args : List XV} {vs : List Value}, (∀ x ∈ args, x.okN n) → All2 (RelV β N) (args.map (·.ren ρ)) vs → All2 (RelV β0 n) args vs
  | [], _, _, h => by cases h; exact .nil
  | x :: l, _, ha, h => by
    cases h with
    | cons h1 h2 => exact .cons (h1.unren hvia (ha x (List.mem_cons_self ..))) (all2_unren hvia (fun y hy => ha y (List.mem_cons_of_mem _ hy)) h2)

theorem con_at {P : Program} {f : FuncId} {args : List XV} {hs hs' HS HS' : Heap} {v : XV} (hc : Con P f args hs v hs') (hle : hs.length ≤ hs'.length) (hbd : hs.length < Mem.bound) {ρ : Nat → Nat} (hv : View ρ HS hs) (ha : ∀ x ∈ args, x.okN hs.length) (haf : After ρ hs.length HS hs' HS') (hro : ∀ (j : Nat) (o : XObj), hs'[j]? = some o → o.live = true → o.own = false → ∃ o0, hs[j]? = some o0 ∧ o0.live = true)
    {M M' : Mem} (hM : Holds M HS) (hM' : Holds M' HS') : CallSound P f (args.map (·.ren ρ)) M (v.ren (beyond ρ hs.length HS.length)) M' := by
  intro β w vs hall hw
  have hm0 := holds_memOf hs hbd
  have n0 := hm0.n
  have N0 := hM.n
  have N1 := hM'.n
  have hlen := haf.len
  let β0 : Env := ⟨fun i => β.blk (ρ i), fun i => β.base (ρ i), fun i => β.size (ρ i)⟩
  have hvia : Via β0 β ρ hs.length := fun i _ => ⟨rfl, rfl, rfl⟩
  have hrel0 : Rel β0 (memOf hs) w := hw.view hM hm0 hv hvia
  have hargs : All2 (RelV β0 (memOf hs).n) args vs := by
    rw [n0]
    exact all2_unren hvia ha hall
  refine (hc _ hm0 β0 w vs hargs hrel0).mono fun e w' ⟨u, β1, m1, he, hm1, hu, hst⟩ => ?_
  have n1 := hm1.n
  have hsle := hst.le
  let ρ' := beyond ρ hs.length HS.length
  let β' : Env := ⟨fun i => if i < HS.length then β.blk i else β1.blk (i - HS.length + hs.length), fun i => if i < HS.length then β.base i else β1.base (i - HS.length + hs.length), fun i => if i < HS.length then β.size i else β1.size (i - HS.length + hs.length)⟩
  have hvia' : Via β1 β' ρ' hs'.length := by
    intro j hj
    show (if ρ' j < HS.length then β.blk (ρ' j) else β1.blk (ρ' j - HS.length + hs.length)) = β1.blk j ∧ (if ρ' j < HS.length then β.size (ρ' j) else β1.size (ρ' j - HS.length + hs.length)) = β1.size j ∧ (if ρ' j < HS.length then β.base (ρ' j) else β1.base (ρ' j - HS.length + hs.length)) = β1.base j
    by_cases h : j < hs.length
    · have e1 : ρ' j = ρ j := if_pos h
      have e2 := hv.lt j h
      rw [e1, if_pos e2, if_pos e2, if_pos e2]
      have := hst.ext j (by omega)
      exact ⟨this.1.symm, this.2.1.symm, this.2.2.symm⟩
    · have e1 : ρ' j = HS.length + (j - hs.length) := if_neg h
      rw [e1, if_neg (by omega), if_neg (by omega), if_neg (by omega), show HS.length + (j - hs.length) - HS.length + hs.length = j by omega]
      exact ⟨rfl, rfl, rfl⟩
  have hlt' : ∀ j, j < hs'.length → ρ' j < HS'.length := by
    intro j hj
    by_cases h : j < hs.length
    · have e1 : ρ' j = ρ j := if_pos h
      have e2 := hv.lt j h
      omega
    · have e1 : ρ' j = HS.length + (j - hs.length) := if_neg h
      omega
  refine ⟨u, β', he, by rw [N1]; rw [n1] at hu; exact hu.ren hvia' hlt', ?_⟩
  -- what lies at a number of the caller's
  have kinds : ∀ i, i < M'.n → (∃ j, j < m1.n ∧ ρ' j = i ∧ M'.get i = (m1.get j).ren ρ') ∨ (i < HS.length ∧ (∀ j, j < hs.length → ρ j ≠ i) ∧ M'.get i = M.get i ∧ i < M.n) := by
    intro i hi
    by_cases h : i < HS.length
    · by_cases h2 : ∃ j, j < hs.length ∧ ρ j = i
      · obtain ⟨j, hj, rfl⟩ := h2
        refine .inl ⟨j, by omega, if_pos hj, ?_⟩
        have g := hm1.get? (i := j) (by omega)
        have := haf.obj j _ g
        have e1 : beyond ρ hs.length HS.length j = ρ j := if_pos hj
        rw [e1] at this
        exact hM'.at this
      · have h3 : ∀ j, j < hs.length → ρ j ≠ i := fun j hj e => h2 ⟨j, hj, e⟩
        refine .inr ⟨h, h3, ?_, by omega⟩
        have e1 := haf.old i h h3
        rw [hM'.get? hi, hM.get? (i := i) (by omega)] at e1
        exact Option.some.inj e1
    · refine .inl ⟨i - HS.length + hs.length, by omega, ?_, ?_⟩
      · show beyond ρ hs.length HS.length _ = i
        unfold beyond
        rw [if_neg (by omega)]; omega
      · have g := hm1.get? (i := i - HS.length + hs.length) (by omega)
        have := haf.obj _ _ g
        have e1 : beyond ρ hs.length HS.length (i - HS.length + hs.length) = i := by unfold beyond; rw [if_neg (by omega)]; omega
        rw [e1] at this
        exact hM'.at this
  have imgs : ∀ j, j < m1.n → (m1.get j).own = true → β1.blk j < w.heap.size → ∃ j2, j2 < hs.length ∧ ((memOf hs).get j2).own = true ∧ β.blk (ρ j2) = β1.blk j := by
    intro j hj hl hlt
    obtain ⟨j2, h1, h2, h3⟩ := hst.img _ hlt ⟨j, hj, hl, rfl⟩
    exact ⟨j2, by omega, h2, h3⟩
  have liveρ : ∀ j2, j2 < hs.length → ((memOf hs).get j2).own = true → ρ j2 < M.n ∧ (M.get (ρ j2)).own = true := by
    intro j2 h1 h2
    have g := hm0.get? (i := j2) (by omega)
    have lt := hv.lt j2 h1
    refine ⟨by omega, ?_⟩
    rcases hv.obj j2 _ g with e | e
    · rw [e] at h2; cases h2
    · rw [hM.at e, own_ren]; exact h2
  have bold : ∀ i, i < HS.length → β'.blk i = β.blk i ∧ β'.size i = β.size i ∧ β'.base i = β.base i := fun i h => ⟨if_pos h, if_pos h, if_pos h⟩
  refine ⟨by omega, fun i hi => bold i (by omega), ⟨hM'.bnd, hM'.fresh, fun i hi => ?_, fun i i2 hi hi2 hl hl2 hbb => ?_⟩, hst.os, hst.tape, hst.output, hst.size, fun k hk hn => ?_, fun k hk hi => ?_⟩
  · rcases kinds i hi with ⟨j, hj, rfl, hg⟩ | ⟨h1, h2, hg, h3⟩
    · rw [hg, N1, (hvia' j (by omega)).1, (hvia' j (by omega)).2.1, (hvia' j (by omega)).2.2]
      have := hst.rel.obj j hj
      rw [n1] at this
      exact this.ren hvia' hlt'
    · rw [hg, (bold i h1).1, (bold i h1).2.1, (bold i h1).2.2]
      cases hgm : M.get i with
      | dead => trivial
      | cells a b c d =>
        have hli : (M.get i).live = true := by rw [hgm]; rfl
        have hlt := hw.lt h3 hli
        have hfr : w'.heap[β.blk i]? = w.heap[β.blk i]? := by
          refine hst.frame _ hlt fun ⟨j2, q1, q2, q3⟩ => ?_
          have q4 := liveρ j2 (by omega) q2
          exact h2 j2 (by omega) (hw.inj (ρ j2) i q4.1 h3 q4.2 hli q3)
        rw [hfr, ← hgm]
        exact (hw.obj i h3).ext (fun i hi => bold i (by omega)) (by omega)
      | map es =>
        have hli : (M.get i).live = true := by rw [hgm]; rfl
        have hlt := hw.lt h3 hli
        have hfr : w'.heap[β.blk i]? = w.heap[β.blk i]? := by
          refine hst.frame _ hlt fun ⟨j2, q1, q2, q3⟩ => ?_
          have q4 := liveρ j2 (by omega) q2
          exact h2 j2 (by omega) (hw.inj (ρ j2) i q4.1 h3 q4.2 hli q3)
        rw [hfr, ← hgm]
        exact (hw.obj i h3).ext (fun i hi => bold i (by omega)) (by omega)
  · rcases kinds i hi with ⟨j, hj, rfl, hg⟩ | ⟨h1, h2, hg, h3⟩
    · rcases kinds i2 hi2 with ⟨j', hj', rfl, hg'⟩ | ⟨h1', h2', hg', h3'⟩
      · rw [(hvia' j (by omega)).1, (hvia' j' (by omega)).1] at hbb
        rw [hg, own_ren] at hl
        rw [hg', live_ren] at hl2
        rw [hst.rel.inj j j' hj hj' hl hl2 hbb]
      · rw [(hvia' j (by omega)).1, (bold i2 h1').1] at hbb
        rw [hg, own_ren] at hl
        rw [hg'] at hl2
        have hlt := hw.lt h3' hl2
        obtain ⟨j2, q1, q2, q3⟩ := imgs j hj hl (by rw [hbb]; exact hlt)
        have q4 := liveρ j2 q1 q2
        exact absurd (hw.inj (ρ j2) i2 q4.1 h3' q4.2 hl2 (q3.trans hbb)) (h2' j2 q1)
    · rcases kinds i2 hi2 with ⟨j', hj', rfl, hg'⟩ | ⟨h1', h2', hg', h3'⟩
      · rw [(hvia' j' (by omega)).1, (bold i h1).1] at hbb
        rw [hg', live_ren] at hl2
        rw [hg] at hl
        have hlt := hw.lt h3 (XObj.live_of_own hl)
        cases hown : (m1.get j').own with
        | true =>
          obtain ⟨j2, q1, q2, q3⟩ := imgs j' hj' hown (by rw [← hbb]; exact hlt)
          have q4 := liveρ j2 q1 q2
          exact absurd (hw.inj (ρ j2) i q4.1 h3 q4.2 (XObj.live_of_own hl) (q3.trans hbb.symm)) (h2 j2 q1)
        | false =>
          obtain ⟨o0, q1, q2⟩ := hro j' _ (hm1.get? hj') hl2 hown
          have q3 : j' < hs.length := (List.getElem?_eq_some_iff.1 q1).1
          have q4 := hv.lt j' q3
          have q5 : (M.get (ρ j')).live = true := by
            rcases hv.obj j' o0 q1 with e | e
            · rw [e] at q2; cases q2
            · rw [hM.at e, live_ren]; exact q2
          have q6 : β1.blk j' = β.blk (ρ j') := (hst.ext j' (by omega)).1
          exact absurd (hw.inj i (ρ j') h3 (by omega) hl q5 (hbb.trans q6)).symm (h2 j' q3)
      · rw [(bold i h1).1, (bold i2 h1').1] at hbb
        rw [hg] at hl
        rw [hg'] at hl2
        exact hw.inj i i2 h3 h3' hl hl2 hbb
  · refine hst.frame k hk fun ⟨j2, q1, q2, q3⟩ => hn ?_
    have q4 := liveρ j2 (by omega) q2
    exact ⟨ρ j2, q4.1, q4.2, q3⟩
  · obtain ⟨i, hi, hl, rfl⟩ := hi
    rcases kinds i hi with ⟨j, hj, rfl, hg⟩ | ⟨h1, h2, hg, h3⟩
    · rw [hg, own_ren] at hl
      rw [(hvia' j (by omega)).1] at hk ⊢
      obtain ⟨j2, q1, q2, q3⟩ := imgs j hj hl hk
      have q4 := liveρ j2 q1 q2
      exact ⟨ρ j2, q4.1, q4.2, q3⟩
    · rw [hg] at hl
      rw [(bold i h1).1]
      exact ⟨i, h3, hl, rfl⟩

end Go.Xm
