/-
  The second machine: a call's whole run; that it is sound.
-/
import Derived.Test.YtaepmifmcohhgaaXmCode
namespace Go.Xm
set_option linter.unusedSectionVars false
variable [Atoms]

def xres1 (P : Program) (g : Nat → XV) (m : Mem) : ResultVar → Option X1
  | .tmp t => toX1 (g t)
  | .cell a t => match g a with
    | .one (.ptr i off) => match m.get i with
      | .cells vs _ _ _ => xloadAt P t vs off
      | _ => .none
    | _ => .none

def xresList (P : Program) (g : Nat → XV) (m : Mem) : List ResultVar → Option (List X1)
  | [] => some []
  | v :: l => match xres1 P g m v with
    | some x => match xresList P g m l with
      | some xs => some (x :: xs)
      | .none => .none
    | .none => .none

def xresults (P : Program) (fn : Func) (g : Nat → XV) (m : Mem) : Option XV :=
  match xresList P g m fn.results.toList with
  | some [x] => some x.toV
  | some xs => some (.tup xs)
  | .none => .none

def res1 (tmps : Array Value) : ResultVar → Sem Value
  | .tmp t => pure (tmps.getD t undef)
  | .cell a t => do loadVar t (← asAddr (tmps.getD a undef))

theorem xres1_sound {P : Program} {g : Nat → XV} {m : Mem} {v : ResultVar} {x : X1} (h : xres1 P g m v = some x) {β : Env} {w : World} {nt : Nat} {tmps : Array Value} (hm : Rel β m w) (hr : RelF β m.n nt g tmps) :
    (res1 tmps v).run P w = .ok (x.den β) w ∧ x.ok m.n := by
  have hget : ∀ t, g t ≠ .undef → RelV β m.n (g t) (tmps.getD t undef) := fun t hne => by
    rcases Nat.lt_or_ge t nt with h' | h'
    · exact hr.rel t h'
    · exact absurd (hr.out t h') hne
  unfold xres1 at h
  split at h
  · rename_i t
    obtain ⟨h1, h2⟩ := toX1_rel h (hget t (fun e => by rw [e] at h; cases h))
    refine ⟨?_, h1⟩
    simp only [res1, h2, Sem.run_pure]
  · rename_i a t
    split at h
    · rename_i i off ha
      obtain ⟨h1, h2⟩ := (by rw [← ha]; exact hget a (fun e => by rw [e] at ha; cases ha) : RelV β m.n (.one (.ptr i off)) (tmps.getD a undef))
      split at h
      · rename_i vs e opn ro hg
        have hob := hm.obj i h1
        rw [hg] at hob
        obtain ⟨h3, h4⟩ := xloadAt_sound (P := P) h hob
        refine ⟨?_, h4⟩
        simp only [res1, h2, XC.den, asAddr, Sem.run_bind, Sem.run_pure, Result.andThen_ok, h3]
      · cases h
    · cases h

theorem xresList_sound {P : Program} {g : Nat → XV} {m : Mem} {β : Env} {w : World} {nt : Nat} {tmps : Array Value} (hm : Rel β m w) (hr : RelF β m.n nt g tmps) : ∀ {l : List ResultVar} {xs : List X1}, xresList P g m l = some xs →
    (l.mapM (res1 tmps)).run P w = .ok (xs.map (·.den β)) w ∧ ∀ x ∈ xs, x.ok m.n
  | [], xs, h => by simp only [xresList, Option.some.injEq] at h; subst h; exact ⟨rfl, by simp⟩
  | v :: l, xs, h => by
    unfold xresList at h
    split at h
    · rename_i x hx
      split at h
      · rename_i xs' hxs
        cases h
        obtain ⟨h1, h2⟩ := xres1_sound hx hm hr
        obtain ⟨h3, h4⟩ := xresList_sound hm hr hxs
        refine ⟨by simp only [List.mapM_cons, Sem.run_bind, h1, Result.andThen_ok, h3, Sem.run_pure, List.map_cons], fun y hy => ?_⟩
        rcases List.mem_cons.1 hy with rfl | hy
        · exact h2
        · exact h4 y hy
      · cases h
    · cases h

theorem xresults_sound {P : Program} {fn : Func} {g : Nat → XV} {m : Mem} {x : XV} (h : xresults P fn g m = some x) {β : Env} {w : World} {nt : Nat} {tmps : Array Value} (hm : Rel β m w) (hr : RelF β m.n nt g tmps) :
    ∃ v, (results fn tmps).run P w = .ok v w ∧ RelV β m.n x v := by
  have hrun : ∀ xs, xresList P g m fn.results.toList = some xs → (results fn tmps).run P w = .ok (if h : (xs.map (·.den β)).toArray.size = 1 then (xs.map (·.den β)).toArray[0] else .tuple (xs.map (·.den β)).toArray) w := by
    intro xs hxs
    obtain ⟨h1, _⟩ := xresList_sound hm hr hxs
    unfold results
    simp only [Sem.run_bind]
    rw [Array.mapM_eq_mapM_toList]
    simp only [Sem.run_map]
    exact congrArg (fun (q : Result (List Value)) => (q.andThen fun a w' => Result.ok a.toArray w').andThen fun a w' => Sem.run P (pure (if h : a.size = 1 then a[0] else Value.tuple a)) w') h1
  unfold xresults at h
  split at h
  · rename_i y hy
    cases h
    obtain ⟨_, h2⟩ := xresList_sound hm hr hy
    exact ⟨_, hrun _ hy, RelV.toV.2 ⟨h2 y (by simp), rfl⟩⟩
  · rename_i xs hne hxs
    cases h
    obtain ⟨_, h2⟩ := xresList_sound hm hr hxs
    refine ⟨_, hrun _ hxs, h2, ?_⟩
    rw [dif_neg]
    intro hl
    have hl' : xs.length = 1 := by simpa using hl
    match xs, hl' with
    | [y], _ => exact hne y rfl
  · cases h

/-! ### The call -/

def initRegs : List XV → Nat → T XV → T XV
  | [], _, t => t
  | x :: l, i, t => initRegs l (i + 1) (t.set .undef 31 i x)

theorem initRegs_get : ∀ (l : List XV) (i : Nat) (t : T XV), i + l.length < 1000000 → ∀ j, (initRegs l i t).get .undef j = if i ≤ j ∧ j < i + l.length then l.getD (j - i) .undef else t.get .undef j
  | [], i, t, _, j => by simp [initRegs]; omega
  | x :: l, i, t, h, j => by
    simp only [List.length_cons] at h
    rw [initRegs, initRegs_get l (i + 1) _ (by omega) j]
    by_cases h1 : i + 1 ≤ j ∧ j < i + 1 + l.length
    · rw [if_pos h1, if_pos (by simp only [List.length_cons]; omega)]
      obtain ⟨k, hk⟩ : ∃ k, j - i = k + 1 := ⟨j - i - 1, by omega⟩
      rw [hk, show j - (i + 1) = k by omega]
      rfl
    · rw [if_neg h1]
      by_cases h2 : j = i
      · subst h2
        rw [T.get_set_eq _ _ _ _ _ (by omega), if_pos (by simp only [List.length_cons]; omega)]
        simp
      · rw [T.get_set_ne _ _ _ _ _ _ h2, if_neg (by simp only [List.length_cons]; omega)]

theorem All2.get {α γ : Type} {R : α → γ → Prop} : ∀ {l : List α} {k : List γ}, All2 R l k → ∀ (i : Nat) (a : α) (b : γ), l[i]? = some a → k[i]? = some b → R a b
  | _, _, .nil, i, a, b, h, _ => by simp at h
  | _, _, .cons h t, 0, a, b, h1, h2 => by simp at h1 h2; subst h1; subst h2; exact h
  | _, _, .cons h t, i + 1, a, b, h1, h2 => by simp at h1 h2; exact t.get i a b h1 h2

theorem initRegs_rel {β : Env} {n nt : Nat} {args : List XV} {vs : List Value} (h : All2 (RelV β n) args vs) (hnt : nt < 1000000) (hl : args.length ≤ nt) :
    RelR β n nt (initRegs args 0 .leaf) (vs.toArray ++ Array.replicate (nt - vs.toArray.size) undef) := by
  have hlen := h.length
  have hg := initRegs_get args 0 .leaf (by omega)
  refine ⟨by simp; omega, hnt, fun t ht => ?_, fun t ht => ?_⟩
  · rw [hg t]
    by_cases htl : t < args.length
    · rw [if_pos (by omega)]
      have htv : t < vs.length := by omega
      have e1 : (vs.toArray ++ Array.replicate (nt - vs.toArray.size) undef).getD t undef = vs[t] := by
        simp [Array.getD_eq_getD_getElem?, Array.getElem?_append, htv]
      have e2 : args.getD (t - 0) .undef = args[t] := by simp [List.getD_eq_getElem?_getD, htl]
      rw [e1, e2]
      exact h.get t _ _ (by simp [htl]) (by simp [htv])
    · rw [if_neg (by omega), T.get_leaf]
      trivial
  · rw [hg t, if_neg (by omega), T.get_leaf]

def xbody (O : Orc) (P : Program) (F : Nat) (f : FuncId) (args : List XV) (m : Mem) : Option (XV × Mem) :=
  match P.funcs[f]? with
  | some fn => match fn.body with
    | some c =>
      if fn.ntmps < 1000000 ∧ args.length ≤ fn.ntmps then
        match xrun O P fn.ntmps F (.code c) (initRegs args 0 .leaf) m with
        | some (.norm r m') => match xresults P fn (r.get .undef) m' with
          | some x => some (x, m')
          | .none => .none
        | some (.ret r m') => match xresults P fn (r.get .undef) m' with
          | some x => some (x, m')
          | .none => .none
        | _ => .none
      else .none
    | .none => .none
  | .none => .none

theorem xrun_ok {O : Orc} {P : Program} (hO : OrcSound P O) (hP : P.follows .mixedOrders = true) (nt : Nat) : ∀ F, SelfOk P nt (xrun O P nt F)
  | 0 => fun c r m x h => by cases h
  | F + 1 => xstep_ok hO hP (xrun_ok hO hP nt F)

theorem xbody_sound {O : Orc} {P : Program} (hO : OrcSound P O) (hP : P.follows .mixedOrders = true) (F : Nat) : ∀ f args m v m', xbody O P F f args m = some (v, m') → CallSound P f args m v m' ∧ Chg m m' := by
  have main : ∀ f args m v m', xbody O P F f args m = some (v, m') → CallSound P f args m v m' ∧ Chg m m' := by
    intro f args m v m' h
    unfold xbody at h
    split at h
    · rename_i fn hf
      split at h
      · rename_i c hb
        split at h
        · rename_i hc
          have fin : ∀ (r : T XV) (x : XR), xrun O P fn.ntmps F (.code c) (initRegs args 0 .leaf) m = some x → x.regs = r → x.mem = m' → (x.ex = .normal ∨ x.ex = .ret) → xresults P fn (r.get .undef) m' = some v → CallSound P f args m v m' ∧ Chg m m' := by
            intro r x hrun hxr hxm hxe hres
            subst hxr
            subst hxm
            obtain ⟨hchg, hw⟩ := xrun_ok hO hP fn.ntmps F _ _ _ _ hrun
            refine ⟨fun β w vs hall hm => ?_, hchg⟩
            refine calls_of_wp hf hb ?_
            refine hw β w _ _ (initRegs_rel hall hc.1 hc.2) hm (fun a' β' w' h1 h2 h3 => ?_)
            obtain ⟨u, hu1, hu2⟩ := xresults_sound hres h3.rel h1
            rcases hxe with hxe | hxe <;> rw [hxe] <;> exact ⟨h2, u, hu1, u, β', rfl, hu2, h3⟩
          split at h
          · rename_i r m1 hrun
            split at h
            · rename_i x hres
              cases h
              exact fin r (.norm r m') hrun rfl rfl (.inl rfl) hres
            · cases h
          · rename_i r m1 hrun
            split at h
            · rename_i x hres
              cases h
              exact fin r (.ret r m') hrun rfl rfl (.inr rfl) hres
            · cases h
          · cases h
        · cases h
      · cases h
    · cases h
  exact main

/-- Calls, so many levels deep; 'O' knows some by itself. -/
def xcall (O : Orc) (P : Program) (F : Nat) : Nat → Orc
  | 0 => O
  | k + 1 => ⟨fun f args m => match O.call f args m with
    | some r => some r
    | .none => xbody (xcall O P F k) P F f args m, O.op⟩

theorem xcall_sound {O : Orc} {P : Program} (hO : OrcSound P O) (hP : P.follows .mixedOrders = true) (F : Nat) : ∀ k, OrcSound P (xcall O P F k)
  | 0 => hO
  | k + 1 => by
    have ih := xbody_sound (xcall_sound hO hP F k) hP F
    have main : ∀ f args m v m', (xcall O P F (k + 1)).call f args m = some (v, m') → CallSound P f args m v m' ∧ Chg m m' := by
      intro f args m v m' h
      unfold xcall at h
      simp only [] at h
      split at h
      · rename_i r hr
        cases h
        exact ⟨hO.call _ _ _ _ _ hr, hO.chg _ _ _ _ _ hr⟩
      · exact ih _ _ _ _ _ h
    exact ⟨fun f args m v m' h => (main f args m v m' h).1, fun f args m v m' h => (main f args m v m' h).2, hO.op⟩

def noOrc : Orc := ⟨fun _ _ _ => .none, fun _ _ => .none⟩
theorem noOrc_sound (P : Program) : OrcSound P noOrc := ⟨fun _ _ _ _ _ h => (by cases h), fun _ _ _ _ _ h => (by cases h), fun _ _ _ h => (by cases h)⟩


end Go.Xm
