/-
  The second machine, as the kernel runs it: drawn regions, code, calls; what it gives the second machine gives.
-/
import Derived.Test.YtaepmifmcohhgaaXmFast4
namespace Go.Xm
set_option linter.unusedSectionVars false
variable [Atoms]
noncomputable section

def ydrawn (O : Orc) (P : Program) (ops : Array Oper) (nt : Nat) (r : T XV) (m : Mem) (k : T XV → Mem → Option XR) : Option XR :=
  yif (drawnStatic ops nt (bef ops.toList)) (oSome (ytrace O P ops.toList nt ops.toList r m) fun q => yif (ydyn (bef ops.toList) q.1) (k q.2.1 q.2.2) (yif ((List.range ops.size).any (floatAt ops (bef ops.toList) q.1)) (k q.2.1 q.2.2) .none)) .none

theorem ydrawn_imp {O O' : Orc} (hO : OrcLe O O') {P : Program} {ops : Array Oper} {nt : Nat} {r : T XV} {m : Mem} {k : T XV → Mem → Option XR} {x : XR} (h : ydrawn O P ops nt r m k = some x) : ∃ r' m', xdrawn O' P ops nt r m = some (r', m') ∧ k r' m' = some x := by
  unfold ydrawn at h
  rw [yif_eq] at h
  split at h
  · rename_i hs
    rw [oSome_eq] at h
    cases ht : ytrace O P ops.toList nt ops.toList r m with
    | none => rw [ht] at h; cases h
    | some q =>
      rw [ht] at h
      obtain ⟨tr, r', m'⟩ := q
      simp only [Option.bind_some, yif_eq] at h
      split at h
      · rename_i hd
        refine ⟨r', m', ?_, h⟩
        unfold xdrawn xdrawn1
        rw [if_pos hs, ytrace_imp hO ht]
        simp only []
        rw [if_pos (ydyn_imp hd)]
      · skip
        split at h
        · rename_i hd
          refine ⟨r', m', ?_, h⟩
          unfold xdrawn xdrawn1 xdrawnF
          rw [if_pos hs, ytrace_imp hO ht]
          simp only []
          by_cases h1 : drawnDyn (bef ops.toList) tr = true
          · rw [if_pos h1]
          · rw [if_neg h1]
            simp only [if_pos hd, if_pos hs]
        · cases h
  · cases h

abbrev Run : Type := Cmd → T XV → Mem → Option XR
abbrev St : Type := Orc → Program → Nat → Run → T XV → Mem → Option XR

def rNorm (r : T XV) (m : Mem) : Option XR := some (.norm r m)
def rExit (id : Nat) (r : T XV) (m : Mem) : Option XR := some (.exit id r m)
def rGoto (l : Nat) (r : T XV) (m : Mem) : Option XR := some (.goto l r m)
def rRet (r : T XV) (m : Mem) : Option XR := some (.ret r m)
def onNorm (x : Option XR) (f : T XV → Mem → Option XR) : Option XR := oSome x fun y => @XR.rec (fun _ => Option XR) f rExit rGoto rRet y
def onExit (x : Option XR) (f : Nat → T XV → Mem → Option XR) : Option XR := oSome x fun y => @XR.rec (fun _ => Option XR) rNorm f rGoto rRet y
def onGoto (x : Option XR) (f : Nat → T XV → Mem → Option XR) : Option XR := oSome x fun y => @XR.rec (fun _ => Option XR) rNorm rExit f rRet y

def sSkip : St := fun _ _ _ _ r m => rNorm r m
def sRegion (_ : Nat) (ops : Array Oper) (draw : Bool) : St := fun O P nt _ r m => @Bool.rec (fun _ => Option XR) (ylist O P ops.toList nt ops.toList r m rNorm) (ydrawn O P ops nt r m rNorm) draw
def sSeq (a b : Code) : St := fun _ _ _ self r m => onNorm (self (.code a) r m) (self (.code b))
def sCond (c : Operand) (a b : Code) : St := fun _ _ _ self r m => vBool (yev c r) (fun t => @Bool.rec (fun _ => Option XR) (self (.code b) r m) (self (.code a) r m) t) .none
def sBlock (id : Nat) (c : Code) : St := fun _ _ _ self r m => onExit (self (.code c) r m) fun id' r m => yif (Nat.beq id' id) (rNorm r m) (rExit id' r m)
def sLoop (c : Code) : St := fun _ _ _ self r m => self (.round c) r m
def sNone : St := fun _ _ _ _ _ _ => .none
def sExit (id : Nat) : St := fun _ _ _ _ r m => rExit id r m
def sScope (c : Code) : St := fun _ _ _ self r m => self (.jump c c) r m
def sGoto (l : Nat) : St := fun _ _ _ _ r m => rGoto l r m
def sRet : St := fun _ _ _ _ r m => rRet r m
def sRound (c : Code) : St := fun _ _ _ self r m => onNorm (self (.code c) r m) (self (.round c))
def sJump (c rest : Code) : St := fun _ _ _ self r m => onGoto (self (.code rest) r m) fun l r m => @Option.rec Code (fun _ => Option XR) (rGoto l r m) (fun rest' => self (.jump c rest') r m) (findLabel c l)
def ycode (c : Code) : St :=
  @Code.rec (fun _ => St) sSkip sRegion (fun a b _ _ => sSeq a b) (fun c a b _ _ => sCond c a b) (fun id c _ => sBlock id c) (fun c _ => sLoop c) (fun _ _ _ _ _ _ => sNone) sExit (fun c _ => sScope c) (fun _ => sSkip) sGoto sRet (fun _ => sNone) c
def ycmd (c : Cmd) : St := @Cmd.rec (fun _ => St) ycode sJump sRound c
def yrun (O : Orc) (P : Program) (nt : Nat) (n : Nat) : Run := @Nat.rec (fun _ => Run) (fun _ _ _ => .none) (fun _ ih c r m => ycmd c O P nt ih r m) n

def RunLe (s s' : Run) : Prop := ∀ c r m x, s c r m = some x → s' c r m = some x

theorem onNorm_some {x : Option XR} {f : T XV → Mem → Option XR} {y : XR} (h : onNorm x f = some y) : (∃ r m, x = some (.norm r m) ∧ f r m = some y) ∨ (x = some y ∧ ∀ r m, y ≠ .norm r m) := by
  cases x with
  | none => cases h
  | some z =>
    cases z with
    | norm r m => exact .inl ⟨r, m, rfl, h⟩
    | exit id r m => cases h; exact .inr ⟨rfl, by simp⟩
    | goto l r m => cases h; exact .inr ⟨rfl, by simp⟩
    | ret r m => cases h; exact .inr ⟨rfl, by simp⟩
theorem onExit_some {x : Option XR} {f : Nat → T XV → Mem → Option XR} {y : XR} (h : onExit x f = some y) : (∃ l r m, x = some (.exit l r m) ∧ f l r m = some y) ∨ (x = some y ∧ ∀ l r m, y ≠ .exit l r m) := by
  cases x with
  | none => cases h
  | some z =>
    cases z with
    | norm r m => cases h; exact .inr ⟨rfl, by simp⟩
    | exit id r m => exact .inl ⟨id, r, m, rfl, h⟩
    | goto l r m => cases h; exact .inr ⟨rfl, by simp⟩
    | ret r m => cases h; exact .inr ⟨rfl, by simp⟩
theorem onGoto_some {x : Option XR} {f : Nat → T XV → Mem → Option XR} {y : XR} (h : onGoto x f = some y) : (∃ l r m, x = some (.goto l r m) ∧ f l r m = some y) ∨ (x = some y ∧ ∀ l r m, y ≠ .goto l r m) := by
  cases x with
  | none => cases h
  | some z =>
    cases z with
    | norm r m => cases h; exact .inr ⟨rfl, by simp⟩
    | exit id r m => cases h; exact .inr ⟨rfl, by simp⟩
    | goto l r m => exact .inl ⟨l, r, m, rfl, h⟩
    | ret r m => cases h; exact .inr ⟨rfl, by simp⟩

theorem ycmd_imp {O O' : Orc} (hO : OrcLe O O') {P : Program} {nt : Nat} {s s' : Run} (hs : RunLe s s') (c : Cmd) (r : T XV) (m : Mem) (x : XR) (h : ycmd c O P nt s r m = some x) : xstep O' P nt s' c r m = some x := by
  cases c with
  | jump c rest =>
    rcases onGoto_some (show onGoto (s (.code rest) r m) _ = some x from h) with ⟨l, r1, m1, h1, h2⟩ | ⟨h1, h2⟩
    · simp only [xstep, hs _ _ _ _ h1]
      cases hf : findLabel c l with
      | none => rw [hf] at h2; exact h2
      | some rest' => rw [hf] at h2; exact hs _ _ _ _ h2
    · simp only [xstep, hs _ _ _ _ h1]
      cases x with
      | goto l r m => exact absurd rfl (h2 l r m)
      | _ => rfl
  | round c =>
    rcases onNorm_some (show onNorm (s (.code c) r m) _ = some x from h) with ⟨r1, m1, h1, h2⟩ | ⟨h1, h2⟩
    · simp only [xstep, hs _ _ _ _ h1]
      exact hs _ _ _ _ h2
    · simp only [xstep, hs _ _ _ _ h1]
      cases x with
      | norm r m => exact absurd rfl (h2 r m)
      | _ => rfl
  | code c =>
    cases c with
    | skip => exact h
    | label l => exact h
    | region id ops draw =>
      cases draw
      · obtain ⟨r', m', h1, h2⟩ := ylist_imp hO (show ylist O P ops.toList nt ops.toList r m rNorm = some x from h)
        simp only [xstep, h1]
        exact h2
      · obtain ⟨r', m', h1, h2⟩ := ydrawn_imp hO (show ydrawn O P ops nt r m rNorm = some x from h)
        simp only [xstep, h1]
        exact h2
    | seq a b =>
      rcases onNorm_some (show onNorm (s (.code a) r m) _ = some x from h) with ⟨r1, m1, h1, h2⟩ | ⟨h1, h2⟩
      · simp only [xstep, hs _ _ _ _ h1]
        exact hs _ _ _ _ h2
      · simp only [xstep, hs _ _ _ _ h1]
        cases x with
        | norm r m => exact absurd rfl (h2 r m)
        | _ => rfl
    | cond cd a b =>
      have h' : vBool (yev cd r) (fun t => @Bool.rec (fun _ => Option XR) (s (.code b) r m) (s (.code a) r m) t) .none = some x := h
      rcases vBool_spec (yev cd r) (fun t => @Bool.rec (fun _ => Option XR) (s (.code b) r m) (s (.code a) r m) t) .none with ⟨t, h1, h2⟩ | ⟨h1, h2⟩
      · rw [h2] at h'
        rw [yev_eq] at h1
        cases t
        · simp only [xstep, h1]; exact hs _ _ _ _ h'
        · simp only [xstep, h1]; exact hs _ _ _ _ h'
      · rw [h2] at h'; cases h'
    | block id c =>
      rcases onExit_some (show onExit (s (.code c) r m) _ = some x from h) with ⟨l, r1, m1, h1, h2⟩ | ⟨h1, h2⟩
      · simp only [xstep, hs _ _ _ _ h1]
        rw [yif_eq] at h2
        by_cases hl : l = id
        · subst hl
          rw [if_pos rfl]
          rw [if_pos (Nat.beq_refl l)] at h2
          exact h2
        · rw [if_neg hl]
          rw [if_neg (fun h => hl (Nat.eq_of_beq_eq_true h))] at h2
          exact h2
      · simp only [xstep, hs _ _ _ _ h1]
        cases x with
        | exit l r m => exact absurd rfl (h2 l r m)
        | _ => rfl
    | loop c => exact hs _ _ _ _ h
    | rangeFunc f ps a b => cases h
    | exit id => exact h
    | scope c => exact hs _ _ _ _ h
    | goto l => exact h
    | ret => exact h
    | refuse w => cases h

theorem yrun_imp {O O' : Orc} (hO : OrcLe O O') {P : Program} {nt : Nat} : ∀ n, RunLe (yrun O P nt n) (xrun O' P nt n)
  | 0 => fun c r m x h => by cases h
  | n + 1 => fun c r m x h => ycmd_imp hO (yrun_imp hO n) c r m x h

/-! ### Calls -/
def v1 {α : Type} (x : XV) (f : XV → Option α) : Option α := @XV.rec (fun _ => Option α) .none (fun c => f (.one c)) (fun cs => f (.agg cs)) (fun _ => .none) x

def yres1 (v : ResultVar) (P : Program) (fn : Func) (r : T XV) (m : Mem) : Option (XV × Mem) :=
  @ResultVar.rec (fun _ => Option (XV × Mem)) (fun t => v1 (ytget .undef r t) fun x => some (x, m)) (fun _ _ => (xresults P fn (r.get .undef) m).map fun x => (x, m)) v
def yresSlow (P : Program) (fn : Func) (r : T XV) (m : Mem) : Option (XV × Mem) := (xresults P fn (r.get .undef) m).map fun x => (x, m)
def yres (P : Program) (fn : Func) (r : T XV) (m : Mem) : Option (XV × Mem) :=
  @List.rec ResultVar (fun _ => Option (XV × Mem)) (some (.tup [], m)) (fun v l _ => @List.rec ResultVar (fun _ => Option (XV × Mem)) (yres1 v P fn r m) (fun _ _ _ => yresSlow P fn r m) l) fn.results.toList

theorem yres_imp {P : Program} {fn : Func} {r : T XV} {m : Mem} {y : XV × Mem} (h : yres P fn r m = some y) : xresults P fn (r.get .undef) m = some y.1 ∧ m = y.2 := by
  have slow : yresSlow P fn r m = some y → xresults P fn (r.get .undef) m = some y.1 ∧ m = y.2 := fun h => by
    unfold yresSlow at h
    cases hx : xresults P fn (r.get .undef) m with
    | none => rw [hx] at h; cases h
    | some x => rw [hx] at h; cases h; exact ⟨rfl, rfl⟩
  unfold yres at h
  cases hl : fn.results.toList with
  | nil =>
    rw [hl] at h
    cases h
    refine ⟨?_, rfl⟩
    unfold xresults
    rw [hl]
    rfl
  | cons v l =>
    rw [hl] at h
    cases l with
    | cons v' l => exact slow h
    | nil =>
      have h' : yres1 v P fn r m = some y := h
      cases v with
      | cell a t => exact slow h'
      | tmp t =>
        have h2 : v1 (ytget .undef r t) (fun x => some (x, m)) = some y := h'
        rw [ytget_eq] at h2
        unfold xresults
        rw [hl]
        simp only [xresList, xres1]
        cases hx : r.get .undef t with
        | undef => rw [hx] at h2; cases h2
        | one c => rw [hx] at h2; cases h2; exact ⟨rfl, rfl⟩
        | agg cs => rw [hx] at h2; cases h2; exact ⟨rfl, rfl⟩
        | tup cs => rw [hx] at h2; cases h2

def yinit (l : List XV) : Nat → T XV → T XV := @List.rec XV (fun _ => Nat → T XV → T XV) (fun _ t => t) (fun x _ ih i t => ih (Nat.add i 1) (ytset .undef 31 t i x)) l
theorem yinit_eq : ∀ (l : List XV) (i : Nat) (t : T XV), yinit l i t = initRegs l i t
  | [], i, t => rfl
  | x :: l, i, t => by
    show yinit l (i + 1) (ytset .undef 31 t i x) = initRegs l (i + 1) (t.set .undef 31 i x)
    rw [yinit_eq, ytset_eq]

def ybody2 (run : Run) (P : Program) (fn : Func) (c : Code) (args : List XV) (m : Mem) : Option (XV × Mem) :=
  oSome (run (.code c) (yinit args 0 .leaf) m) fun y => @XR.rec (fun _ => Option (XV × Mem)) (yres P fn) (fun _ _ _ => .none) (fun _ _ _ => .none) (yres P fn) y

def ybody (O : Orc) (P : Program) (F : Nat) (f : FuncId) (args : List XV) (m : Mem) : Option (XV × Mem) :=
  oSome (yget P.funcs.toList f) fun fn => oSome fn.body fun c =>
    yif (Nat.blt fn.ntmps 1000000) (yif (Nat.ble (ylen args) fn.ntmps) (ybody2 (yrun O P fn.ntmps F) P fn c args m) .none) .none

theorem ybody_imp {O O' : Orc} (hO : OrcLe O O') {P : Program} {F : Nat} : ∀ f args m x, ybody O P F f args m = some x → xbody O' P F f args m = some x := by
  intro f args m y h
  unfold ybody at h
  unfold xbody
  rw [yget_eq, Array.getElem?_toList, oSome_eq] at h
  cases hf : P.funcs[f]? with
  | none => rw [hf] at h; cases h
  | some fn =>
    rw [hf] at h
    simp only [Option.bind_some, oSome_eq] at h
    cases hb : fn.body with
    | none => rw [hb] at h; cases h
    | some c =>
      rw [hb] at h
      simp only [Option.bind_some, yif_eq] at h
      simp only [hb]
      split at h
      · rename_i h1
        split at h
        · rename_i h2
          rw [Nat.blt_eq] at h1
          rw [Nat.ble_eq, ylen_eq] at h2
          rw [if_pos ⟨h1, h2⟩]
          unfold ybody2 at h
          rw [yinit_eq, oSome_eq] at h
          cases hr : yrun O P fn.ntmps F (.code c) (initRegs args 0 .leaf) m with
          | none => rw [hr] at h; cases h
          | some x =>
            rw [hr] at h
            rw [yrun_imp hO F _ _ _ _ hr]
            cases x with
            | norm r m' =>
              have h3 : yres P fn r m' = some y := h
              obtain ⟨h4, h5⟩ := yres_imp h3
              simp only [h4]
              subst h5; rfl
            | ret r m' =>
              have h3 : yres P fn r m' = some y := h
              obtain ⟨h4, h5⟩ := yres_imp h3
              simp only [h4]
              subst h5; rfl
            | exit id r m' => cases h
            | goto l r m' => cases h
        · cases h
      · cases h

def ycall1 (O ih : Orc) (P : Program) (F : Nat) : Orc := ⟨fun f args m => @Option.rec (XV × Mem) (fun _ => Option (XV × Mem)) (ybody ih P F f args m) some (O.call f args m), O.op⟩
def ycall (O : Orc) (P : Program) (F : Nat) (k : Nat) : Orc := @Nat.rec (fun _ => Orc) O (fun _ ih => ycall1 O ih P F) k

theorem ycall_imp {O : Orc} {P : Program} {F : Nat} : ∀ k, OrcLe (ycall O P F k) (xcall O P F k)
  | 0 => ⟨fun _ _ _ _ h => h, rfl⟩
  | k + 1 => ⟨fun f args m x h => by
    have h' : @Option.rec (XV × Mem) (fun _ => Option (XV × Mem)) (ybody (ycall O P F k) P F f args m) some (O.call f args m) = some x := h
    unfold xcall
    simp only []
    cases ho : O.call f args m with
    | none =>
      rw [ho] at h'
      exact ybody_imp (ycall_imp k) f args m x h'
    | some y =>
      rw [ho] at h'
      exact h', rfl⟩

theorem OrcSound.le {P : Program} {O O' : Orc} (h : OrcSound P O') (hO : OrcLe O O') : OrcSound P O :=
  ⟨fun f args m v m' hh => h.call f args m v m' (hO.call _ _ _ _ hh), fun f args m v m' hh => h.chg f args m v m' (hO.call _ _ _ _ hh), fun o l x hh => h.op o l x (by rw [← hO.op]; exact hh)⟩

theorem ycall_sound {O : Orc} {P : Program} (hO : OrcSound P O) (hP : P.follows .mixedOrders = true) (F k : Nat) : OrcSound P (ycall O P F k) :=
  (xcall_sound hO hP F k).le (ycall_imp k)

end
end Go.Xm
