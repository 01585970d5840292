/-
  The second machine, as the kernel runs it: regions, code, calls; what it gives the second machine gives.
-/
import Derived.Test.YtaepmifmcohhgaaXmFast3
namespace Go.Xm
set_option linter.unusedSectionVars false
variable [Atoms]
noncomputable section

def aNilCheck (x : Operand) : Act1 := fun O P r m => vPtr (yev x r) (fun i o => some ⟨.one (.ptr i o), m, false, .none⟩) (slow (.nilCheck x) O P r m)
theorem aNilCheck_eq (x : Operand) (O : Orc) (P : Program) (r : T XV) (m : Mem) : aNilCheck x O P r m = xact O P (xeval (r.get .undef)) (.nilCheck x) m := by
  unfold aNilCheck
  rcases vPtr_spec (yev x r) (fun i o => some (⟨.one (.ptr i o), m, false, .none⟩ : Out)) (slow (.nilCheck x) O P r m) with ⟨i, o, h1, h2⟩ | ⟨h1, h2⟩
  · rw [h2]
    rw [yev_eq] at h1
    rw [xact_pure (x := .one (.ptr i o)) (by simp only [xpure, xnilCheck, h1])]
  · rw [h2]; rfl

def aCallee (c : Callee) : Array Operand → Array TypeId → Act1 :=
  @Callee.rec (fun _ => Array Operand → Array TypeId → Act1) aCall (fun rv nm args ts => slow (.call ⟨.invoke rv nm, args, ts⟩)) (fun b args ts => slow (.call ⟨.builtin b, args, ts⟩)) c
def aCallOp (c : Call) : Act1 := @Call.rec (fun _ => Act1) aCallee c
theorem aCallOp_eq (c : Call) (O : Orc) (P : Program) (r : T XV) (m : Mem) : aCallOp c O P r m = xact O P (xeval (r.get .undef)) (.call c) m := by
  obtain ⟨f, args, ts⟩ := c
  cases f with
  | value g => exact aCall_eq g args ts O P r m
  | invoke rv nm => rfl
  | builtin b => rfl

/-- One operation, by its own function. -/
def yact (op : Op) : Act1 :=
  @Op.rec (fun _ => Act1) aMove aMove aPick (fun a => slow (.alloc a)) (fun a b => slow (.box a b)) (fun a b => slow (.build a b)) (fun a b c => slow (.buildSlice a b c)) (fun a b c d => slow (.insert a b c d)) aLoad aStore
    (fun a => slow (.ready a)) (fun a => slow (.waits a)) aNilCheck aBin (fun a b c => slow (.unOp a b c)) (fun a b c => slow (.convert a b c)) (fun a b => slow (.sliceToArrayPointer a b)) (fun a b => slow (.makeInterface a b))
    (fun a b c => slow (.makeFunc a b c)) (fun a b => slow (.makeMap a b)) (fun a b => slow (.makeChan a b)) (fun a b c => slow (.makeSlice a b c)) (fun a b c d e => slow (.slice a b c d e)) aFieldAddr (fun a b c => slow (.field a b c)) aIndexAddr
    (fun a b c => slow (.index a b c)) (fun a b c d => slow (.lookup a b c d)) (fun a b c d => slow (.mapUpdate a b c d)) (fun a b c => slow (.mapEntry a b c)) (fun a b c d => slow (.entryStore a b c d)) (fun a b => slow (.range a b)) (fun a b => slow (.next a b))
    (fun a => slow (.entry a)) (fun a b c d => slow (.typeAssert a b c d)) aExtract aCallOp (fun a => slow (.go a)) (fun a => slow (.defer a)) (fun a => slow (.panic a)) (fun a b => slow (.send a b)) (fun a b c => slow (.recv a b c)) (fun a b => slow (.select a b)) op

theorem yact_eq (op : Op) (O : Orc) (P : Program) (r : T XV) (m : Mem) : yact op O P r m = xact O P (xeval (r.get .undef)) op m := by
  cases op with
  | move x => exact aMove_eq x O P r m
  | assign x => exact aAssign_eq x O P r m
  | pick c a b => exact aPick_eq c a b O P r m
  | load t a => exact aLoad_eq t a O P r m
  | store t a x => exact aStore_eq t a x O P r m
  | nilCheck x => exact aNilCheck_eq x O P r m
  | binOp op t x y t' => exact aBin_eq op t x y t' O P r m
  | fieldAddr s x f => exact aFieldAddr_eq s x f O P r m
  | indexAddr t x i => exact aIndexAddr_eq t x i O P r m
  | extract x i => exact aExtract_eq x i O P r m
  | call c => exact aCallOp_eq c O P r m
  | _ => rfl

/-! ### Regions -/
def ywantedAt (ops : List Oper) (g : Nat × Bool) (r : T XV) : Option Bool :=
  oSome (yget ops g.1) fun o => @Option.rec Nat (fun _ => Option Bool) (some false) (fun t => @XV.rec (fun _ => Option Bool) .none (fun c => cBool c (fun b => some (b == g.2)) .none) (fun _ => some false) (fun _ => some false) (ytget .undef r t)) o.dst

def ywanted (ops : List Oper) (r : T XV) (o : Oper) : Option Bool := @Option.rec (Nat × Bool) (fun _ => Option Bool) (some true) (fun g => ywantedAt ops g r) o.guard

theorem ywanted_imp {ops : Array Oper} {r : T XV} {o : Oper} {b : Bool} (h : ywanted ops.toList r o = some b) : xwanted ops (r.get .undef) o = some b := by
  unfold ywanted at h
  unfold xwanted
  cases hg : o.guard with
  | none => rw [hg] at h; exact h
  | some g =>
    obtain ⟨j, want⟩ := g
    rw [hg] at h
    simp only [ywantedAt, yget_eq, oSome_eq, Array.getElem?_toList] at h
    simp only []
    cases ho : ops[j]? with
    | none => rw [ho] at h; cases h
    | some oj =>
      rw [ho] at h
      simp only [Option.bind_some] at h ⊢
      cases hd : oj.dst with
      | none => rw [hd] at h; exact h
      | some t =>
        rw [hd] at h
        simp only [ytget_eq] at h ⊢
        cases hx : r.get .undef t with
        | undef => rw [hx] at h; cases h
        | agg cs => rw [hx] at h; exact h
        | tup vs => rw [hx] at h; exact h
        | one c =>
          rw [hx] at h
          cases c <;> first
            | (cases h; done)
            | exact h

def ydo (O : Orc) (P : Program) (ops : List Oper) (r : T XV) (o : Oper) (m : Mem) : Option Out :=
  oSome (ywanted ops r o) fun b => @Bool.rec (fun _ => Option Out) (some ⟨.tup [], m, false, .none⟩) (yact o.op O P r m) b

/-- What the fast oracle gives the slow one gives. -/
structure OrcLe (O O' : Orc) : Prop where
  call : ∀ f args m x, O.call f args m = some x → O'.call f args m = some x
  op : O.op = O'.op

theorem xact_le {O O' : Orc} (h : OrcLe O O') {P : Program} {ρ : Operand → XV} {op : Op} {m : Mem} {d : Out} (hx : xact O P ρ op m = some d) : xact O' P ρ op m = some d := by
  have hpo : xpureO O P ρ op = xpureO O' P ρ op := by
    unfold xpureO xorc
    rw [h.op]
  unfold xact at hx ⊢
  rw [hpo] at hx
  split at hx
  · exact hx
  · split at hx
    · exact hx
    · split at hx
      · exact hx
      · have hc : ∀ x m', xcallOp O P ρ op m = some (x, m') → xcallOp O' P ρ op m = some (x, m') := by
          intro x m' hh
          unfold xcallOp at hh ⊢
          (repeat' split at hh) <;> first
            | (cases hh; done)
            | (simp only [*] at *; first | exact h.call _ _ _ _ hh | (simp_all [h.call _ _ _ _ hh]; done))
        split at hx
        · rename_i x m' hh
          rw [hc x m' hh]
          exact hx
        · cases hx

theorem ydo_imp {O O' : Orc} (hO : OrcLe O O') {P : Program} {ops : Array Oper} {r : T XV} {o : Oper} {m : Mem} {d : Out} (h : ydo O P ops.toList r o m = some d) : xdo O' P ops (r.get .undef) o m = some d := by
  unfold ydo at h
  unfold xdo
  rw [oSome_eq] at h
  cases hw : ywanted ops.toList r o with
  | none => rw [hw] at h; cases h
  | some b =>
    rw [hw] at h
    rw [ywanted_imp hw]
    cases b
    · exact h
    · simp only [Option.bind_some] at h
      have h' : yact o.op O P r m = some d := h
      rw [yact_eq] at h'
      exact xact_le hO h'

def outM (d : Out) : Mem := @Out.rec (fun _ => Mem) (fun _ m _ _ => m) d
def outX (d : Out) : XV := @Out.rec (fun _ => XV) (fun x _ _ _ => x) d

def ylist (O : Orc) (P : Program) (ops : List Oper) (nt : Nat) (l : List Oper) : T XV → Mem → (T XV → Mem → Option XR) → Option XR :=
  @List.rec Oper (fun _ => T XV → Mem → (T XV → Mem → Option XR) → Option XR) (fun r m k => k r m) (fun o _ ih r m k => oSome (ydo O P ops r o m) fun d => ih (yset o.dst nt r (outX d)) (outM d) k) l

theorem ylist_imp {O O' : Orc} (hO : OrcLe O O') {P : Program} {ops : Array Oper} {nt : Nat} {k : T XV → Mem → Option XR} {x : XR} : ∀ {l : List Oper} {r : T XV} {m : Mem}, ylist O P ops.toList nt l r m k = some x → ∃ r' m', xlist O' P ops nt l r m = some (r', m') ∧ k r' m' = some x
  | [], r, m, h => ⟨r, m, rfl, h⟩
  | o :: l, r, m, h => by
    have h' : oSome (ydo O P ops.toList r o m) (fun d => ylist O P ops.toList nt l (yset o.dst nt r (outX d)) (outM d) k) = some x := h
    rw [oSome_eq] at h'
    cases hd : ydo O P ops.toList r o m with
    | none => rw [hd] at h'; cases h'
    | some d =>
      rw [hd] at h'
      simp only [Option.bind_some, yset_eq] at h'
      obtain ⟨r', m', h1, h2⟩ := ylist_imp hO h'
      refine ⟨r', m', ?_, h2⟩
      unfold xlist
      rw [ydo_imp hO hd]
      exact h1

/-! ### A region whose order is drawn -/
def ytrace (O : Orc) (P : Program) (ops : List Oper) (nt : Nat) (l : List Oper) : T XV → Mem → Option (List (Mem × Out) × T XV × Mem) :=
  @List.rec Oper (fun _ => T XV → Mem → Option (List (Mem × Out) × T XV × Mem)) (fun r m => some ([], r, m)) (fun o _ ih r m => oSome (ydo O P ops r o m) fun d => oSome (ih (yset o.dst nt r (outX d)) (outM d)) fun q => some ((m, d) :: q.1, q.2)) l

theorem ytrace_imp {O O' : Orc} (hO : OrcLe O O') {P : Program} {ops : Array Oper} {nt : Nat} : ∀ {l : List Oper} {r : T XV} {m : Mem} {q : List (Mem × Out) × T XV × Mem}, ytrace O P ops.toList nt l r m = some q → xtrace O' P ops nt l r m = some q
  | [], r, m, q, h => h
  | o :: l, r, m, q, h => by
    have h' : oSome (ydo O P ops.toList r o m) (fun d => oSome (ytrace O P ops.toList nt l (yset o.dst nt r (outX d)) (outM d)) fun q => some ((m, d) :: q.1, q.2)) = some q := h
    rw [oSome_eq] at h'
    cases hd : ydo O P ops.toList r o m with
    | none => rw [hd] at h'; cases h'
    | some d =>
      rw [hd] at h'
      simp only [Option.bind_some, yset_eq, oSome_eq] at h'
      cases ht : ytrace O P ops.toList nt l (xset nt r o.dst (outX d)) (outM d) with
      | none => rw [ht] at h'; cases h'
      | some q' =>
        rw [ht] at h'
        obtain ⟨a, b, c⟩ := q'
        simp only [Option.bind_some, Option.some.injEq] at h'
        subst h'
        unfold xtrace
        rw [ydo_imp hO hd]
        have e : outX d = d.x := rfl
        have e2 : outM d = d.m := rfl
        rw [e, e2] at ht
        simp only [ytrace_imp hO ht]

/-- Those that make or write, with their places. -/
def yeffs (tr : List (Mem × Out)) : Nat → List (Nat × Mem × Out) :=
  @List.rec (Mem × Out) (fun _ => Nat → List (Nat × Mem × Out)) (fun _ => []) (fun p _ ih i => yif p.2.eff ((i, p) :: ih (Nat.add i 1)) (ih (Nat.add i 1))) tr

theorem yeffs_mem : ∀ (tr : List (Mem × Out)) (k e : Nat) (p : Mem × Out), tr[e]? = some p → p.2.eff = true → (k + e, p) ∈ yeffs tr k
  | [], k, e, p, h, _ => by simp at h
  | q :: tr, k, 0, p, h, hp => by
    simp only [List.getElem?_cons_zero, Option.some.injEq] at h
    subst h
    show (k + 0, q) ∈ yif q.2.eff ((k, q) :: yeffs tr (Nat.add k 1)) (yeffs tr (Nat.add k 1))
    rw [hp]
    exact List.mem_cons_self ..
  | q :: tr, k, e + 1, p, h, hp => by
    simp only [List.getElem?_cons_succ] at h
    have := yeffs_mem tr (k + 1) e p h hp
    rw [show k + 1 + e = k + (e + 1) by omega] at this
    show (k + (e + 1), p) ∈ yif q.2.eff ((k, q) :: yeffs tr (Nat.add k 1)) (yeffs tr (Nat.add k 1))
    cases q.2.eff
    · exact this
    · exact List.mem_cons_of_mem _ this

def yall {γ : Type} (l : List γ) (f : γ → Bool) : Bool := @List.rec γ (fun _ => Bool) true (fun a _ ih => yif (f a) ih false) l
theorem yall_mem {γ : Type} : ∀ (l : List γ) (f : γ → Bool), yall l f = true → ∀ a ∈ l, f a = true
  | [], f, _, a, ha => by cases ha
  | b :: l, f, h, a, ha => by
    have h' : yif (f b) (yall l f) false = true := h
    rw [yif_eq] at h'
    split at h'
    · rename_i hb
      rcases List.mem_cons.1 ha with rfl | ha
      · exact hb
      · exact yall_mem l f h' a ha
    · cases h'

def ydyn (bs : List Nat) (tr : List (Mem × Out)) : Bool :=
  @List.rec (Nat × Mem × Out) (fun _ => Bool) true (fun e0 es _ =>
    @List.rec (Mem × Out) (fun _ => Nat → Bool) (fun _ => true) (fun p _ ih i => yif (yif p.2.eff true (@Option.rec Nat (fun _ => Bool) false (fun _ => true) p.2.fp)) (yif (yall (e0 :: es) fun e => pairOk bs i p.2 e.1 e.2.1 e.2.2) (ih (Nat.add i 1)) false) (ih (Nat.add i 1))) tr 0) (yeffs tr 0)

theorem ydyn_imp {bs : List Nat} {tr : List (Mem × Out)} (h : ydyn bs tr = true) : drawnDyn bs tr = true := by
  have main : ∀ i di e me de, tr[i]? = some di → tr[e]? = some (me, de) → de.eff = true → (di.2.eff = true ∨ di.2.fp.isSome = true) → pairOk bs i di.2 e me de = true := by
    intro i di e me de hi he hee hd
    have hmem := yeffs_mem tr 0 e (me, de) he hee
    rw [Nat.zero_add] at hmem
    unfold ydyn at h
    cases hes : yeffs tr 0 with
    | nil => rw [hes] at hmem; cases hmem
    | cons e0 es =>
      rw [hes] at h hmem
      have key : ∀ (l : List (Mem × Out)) (k i : Nat) (p : Mem × Out), (@List.rec (Mem × Out) (fun _ => Nat → Bool) (fun _ => true) (fun p _ ih i => yif (yif p.2.eff true (@Option.rec Nat (fun _ => Bool) false (fun _ => true) p.2.fp)) (yif (yall (e0 :: es) fun e => pairOk bs i p.2 e.1 e.2.1 e.2.2) (ih (Nat.add i 1)) false) (ih (Nat.add i 1))) l k) = true →
          l[i]? = some p → (p.2.eff = true ∨ p.2.fp.isSome = true) → (yall (e0 :: es) fun e => pairOk bs (k + i) p.2 e.1 e.2.1 e.2.2) = true := by
        intro l
        induction l with
        | nil => intro k i p _ hi; simp at hi
        | cons q l ih =>
          intro k i p hh hi hp
          have hh' : yif (yif q.2.eff true (@Option.rec Nat (fun _ => Bool) false (fun _ => true) q.2.fp)) (yif (yall (e0 :: es) fun e => pairOk bs k q.2 e.1 e.2.1 e.2.2) (@List.rec (Mem × Out) (fun _ => Nat → Bool) (fun _ => true) (fun p _ ih i => yif (yif p.2.eff true (@Option.rec Nat (fun _ => Bool) false (fun _ => true) p.2.fp)) (yif (yall (e0 :: es) fun e => pairOk bs i p.2 e.1 e.2.1 e.2.2) (ih (Nat.add i 1)) false) (ih (Nat.add i 1))) l (Nat.add k 1)) false) (@List.rec (Mem × Out) (fun _ => Nat → Bool) (fun _ => true) (fun p _ ih i => yif (yif p.2.eff true (@Option.rec Nat (fun _ => Bool) false (fun _ => true) p.2.fp)) (yif (yall (e0 :: es) fun e => pairOk bs i p.2 e.1 e.2.1 e.2.2) (ih (Nat.add i 1)) false) (ih (Nat.add i 1))) l (Nat.add k 1)) = true := hh
          cases i with
          | zero =>
            simp only [List.getElem?_cons_zero, Option.some.injEq] at hi
            subst hi
            have hc : yif q.2.eff true (@Option.rec Nat (fun _ => Bool) false (fun _ => true) q.2.fp) = true := by
              rw [yif_eq]
              rcases hp with hp | hp
              · simp [hp]
              · split
                · rfl
                · cases hf : q.2.fp with
                  | none => rw [hf] at hp; cases hp
                  | some fp => rfl
            rw [hc] at hh'
            have hh2 : yif (yall (e0 :: es) fun e => pairOk bs k q.2 e.1 e.2.1 e.2.2) _ false = true := hh'
            rw [yif_eq] at hh2
            split at hh2
            · rename_i ha; exact ha
            · cases hh2
          | succ i =>
            simp only [List.getElem?_cons_succ] at hi
            have := ih (k + 1) i p (by
              rw [yif_eq] at hh'
              split at hh'
              · rw [yif_eq] at hh'
                split at hh'
                · exact hh'
                · cases hh'
              · exact hh') hi hp
            rw [show k + 1 + i = k + (i + 1) by omega] at this
            exact this
      have := yall_mem _ _ (key tr 0 i di h hi hd) _ hmem
      rw [Nat.zero_add] at this
      exact this
  unfold drawnDyn
  rw [List.all_eq_true]
  intro i hi
  split
  · rfl
  · rename_i mi di hdi
    by_cases hq : ((!di.eff && di.fp.isNone) = true)
    · rw [hq]; rfl
    · simp only [Bool.or_eq_true]
      refine .inr (List.all_eq_true.2 fun e he => ?_)
      split
      · rfl
      · rename_i me de hde
        cases hee : de.eff
        · simp [pairOk, hee]
        · refine main i (mi, di) e me de hdi hde hee ?_
          simp only [Bool.and_eq_true, Bool.not_eq_true', Option.isNone_iff_eq_none, not_and] at hq
          cases h1 : di.eff
          · right
            cases h2 : di.fp with
            | none => exact absurd h2 (hq h1)
            | some fp => rfl
          · exact .inl rfl

end
end Go.Xm
