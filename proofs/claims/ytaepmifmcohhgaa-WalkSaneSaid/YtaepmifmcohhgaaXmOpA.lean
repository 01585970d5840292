/-
  The second machine's operations that look at no memory (second part): arithmetic, comparisons, parts.
-/
import Derived.Test.YtaepmifmcohhgaaXmPure
namespace Go.Xm
set_option linter.unusedSectionVars false
variable [Atoms]

def xsame (k k' : IntKind) (x : Option XC) : Option XC := if k = k' then x else .none

/-- A binary operation on two integers. -/
def xbinInt (op : BinOp) (k k' : IntKind) (a b : Int) : Option XC :=
  match op with
  | .shl => if b < 0 then .none else some (.int k (xwrap k (a * Int.ofNat (2 ^ (min b.toNat k.bits)))))
  | .shr => if b < 0 then .none else some (.int k (a.fdiv (Int.ofNat (2 ^ (min b.toNat k.bits)))))
  | .add => xsame k k' (some (.int k (xwrap k (a + b))))
  | .sub => xsame k k' (some (.int k (xwrap k (a - b))))
  | .mul => xsame k k' (some (.int k (xwrap k (a * b))))
  | .quo => xsame k k' (if b = 0 then .none else some (.int k (xwrap k (a.tdiv b))))
  | .rem => xsame k k' (if b = 0 then .none else some (.int k (a.tmod b)))
  | .and => xsame k k' (some (.int k (xwrap k ((BitVec.ofInt k.bits a &&& BitVec.ofInt k.bits b).toNat))))
  | .or => xsame k k' (some (.int k (xwrap k ((BitVec.ofInt k.bits a ||| BitVec.ofInt k.bits b).toNat))))
  | .xor => xsame k k' (some (.int k (xwrap k ((BitVec.ofInt k.bits a ^^^ BitVec.ofInt k.bits b).toNat))))
  | .andNot => xsame k k' (some (.int k (xwrap k ((BitVec.ofInt k.bits a &&& ~~~(BitVec.ofInt k.bits b)).toNat))))
  | .eql => xsame k k' (some (.bool (a == b)))
  | .neq => xsame k k' (some (.bool (a != b)))
  | .lss => xsame k k' (some (.bool (decide (a < b))))
  | .leq => xsame k k' (some (.bool (decide (a ≤ b))))
  | .gtr => xsame k k' (some (.bool (decide (b < a))))
  | .geq => xsame k k' (some (.bool (decide (b ≤ a))))

theorem pow_cast (n : Nat) : Int.ofNat (2 ^ n) = (2 : Int) ^ n := by simp

theorem xbinInt_sound {P : Program} {op : BinOp} {t : TypeId} {k k' : IntKind} {a b : Int} {c : XC} (h : xbinInt op k k' a b = some c) (β : Env) (n : Nat) (w : World) :
    (binOp op t (.int k a) (.int k' b)).run P w = .ok (c.den β) w ∧ c.ok n := by
  cases op <;> simp only [xbinInt, xsame] at h
  case shl =>
    split at h
    · cases h
    · rename_i hb
      cases h
      simp [binOp, Op.shift, hb, XC.den, XC.ok, xwrap_eq]
  case shr =>
    split at h
    · cases h
    · rename_i hb
      cases h
      simp [binOp, Op.shift, hb, XC.den, XC.ok]
  case quo =>
    split at h
    · rename_i hk
      subst hk
      split at h
      · cases h
      · rename_i hb
        cases h
        simp [binOp, Op.intDiv, hb, XC.den, XC.ok, xwrap_eq]
    · cases h
  case rem =>
    split at h
    · rename_i hk
      subst hk
      split at h
      · cases h
      · rename_i hb
        cases h
        simp [binOp, Op.intDiv, hb, XC.den, XC.ok]
    · cases h
  all_goals
    split at h
    · rename_i hk
      subst hk
      cases h
      simp [binOp, Op.intArith, Op.intBits, Op.intCmp, XC.den, XC.ok, xwrap_eq]
    · cases h

/-- Two cells of a type that compares. -/
def xeqS (d : TypeDesc) (x y : XC) : Option Bool :=
  match x, y with
  | .bool a, .bool b => (match d with | .bool => some (a == b) | _ => .none)
  | .int k a, .int k' b => (match d with | .int _ => if k = k' then some (a == b) else .none | _ => .none)
  | .flt k a, .flt k' b => (match d with | .float _ => if k = k' then some (Op.floatEq k a b) else .none | _ => .none)
  | .cplx k a b, .cplx k' a' b' => (match d with | .complex _ => if k = k' then some (Op.floatEq k a a' && Op.floatEq k b b') else .none | _ => .none)
  | .str a, .str b => (match d with | .string => some (a == b) | _ => .none)
  | .nilp, .nilp => (match d with | .pointer _ => some true | _ => .none)
  | .nilp, .ptr _ _ => (match d with | .pointer _ => some false | _ => .none)
  | .ptr _ _, .nilp => (match d with | .pointer _ => some false | _ => .none)
  | .nils, .nils => (match d with | .slice _ => some true | _ => .none)
  | .nils, .slice _ _ _ _ => (match d with | .slice _ => some false | _ => .none)
  | .slice _ _ _ _, .nils => (match d with | .slice _ => some false | _ => .none)
  | .nilm, .nilm => (match d with | .map _ _ => some true | _ => .none)
  | .nilm, .map _ => (match d with | .map _ _ => some false | _ => .none)
  | .map _, .nilm => (match d with | .map _ _ => some false | _ => .none)
  | .nilf, .nilf => (match d with | .func _ _ _ => some true | _ => .none)
  | .atom i, .atom j => (match d with | .int _ => if i = j then some true else .none | _ => .none)
  | _, _ => .none

theorem beq_bytes (a b : List UInt8) : ((⟨a.toArray⟩ : ByteArray) == ⟨b.toArray⟩) = (a == b) := by
  rw [beq_toListBytes, ByteArray.toList_eq, ByteArray.toList_eq]

theorem xeqS_sound {P : Program} {d : TypeDesc} {t : TypeId} {x y : XC} {r : Bool} (hd : P.underlying t = some d) (h : xeqS d x y = some r) (β : Env) (w : World) (f : Nat) :
    (Op.equalIn (f + 1) t (x.den β) (y.den β)).run P w = .ok r w := by
  rw [Op.equalIn]
  simp only [Sem.run_bind, run_underlying hd, Result.andThen_ok]
  unfold xeqS at h
  split at h
  all_goals try (cases h; done)
  case h_1 => split at h <;> cases h; rfl
  case h_2 =>
    split at h
    · split at h <;> cases h
      rename_i hk; subst hk
      simp only [XC.den, if_true, Sem.run_pure]
    · cases h
  case h_3 =>
    split at h
    · split at h <;> cases h
      rename_i hk; subst hk
      simp only [XC.den, if_true, Sem.run_pure]
    · cases h
  case h_4 =>
    split at h
    · split at h <;> cases h
      rename_i hk; subst hk
      simp only [XC.den, if_true, Sem.run_pure]
    · cases h
  case h_5 => split at h <;> cases h; simp only [XC.den, Sem.run_pure, beq_bytes]
  case h_6 => split at h <;> cases h; rfl
  case h_7 => split at h <;> cases h; rfl
  case h_8 => split at h <;> cases h; rfl
  case h_9 => split at h <;> cases h; rfl
  case h_10 i o l cap => split at h <;> cases h; cases cap <;> rfl
  case h_11 i o l cap => split at h <;> cases h; cases cap <;> rfl
  case h_12 => split at h <;> cases h; rfl
  case h_13 => split at h <;> cases h; rfl
  case h_14 => split at h <;> cases h; rfl
  case h_15 => split at h <;> cases h; rfl
  case h_16 =>
    split at h
    · split at h <;> cases h
      rename_i hk; subst hk
      simp only [XC.den, if_true, Sem.run_pure, BEq.rfl]
    · cases h

def xpart (P : Program) (t : TypeId) (cs : List XC) (off : Nat) : Option X1 :=
  match xisAgg P t with
  | some true => match xsize P t with
    | some s => some (.agg ((cs.drop off).take s))
    | .none => .none
  | some false => match cs[off]? with
    | some c => some (.one c)
    | .none => .none
  | .none => .none

theorem xisAgg_run {P : Program} {t : TypeId} {b : Bool} (h : xisAgg P t = some b) (w : World) : (isAgg t).run P w = .ok b w := by
  unfold xisAgg at h
  split at h
  · rename_i hu; cases h; simp [isAgg, run_underlying hu]
  · rename_i hu; cases h; simp [isAgg, run_underlying hu]
  · rename_i d h1 h2 hu
    cases h
    simp only [isAgg, Sem.run_bind, run_underlying hu, Result.andThen_ok]
    cases d <;> first | rfl | (exact (h1 _ rfl).elim) | (exact (h2 _ _ rfl).elim)
  · cases h

theorem xsize_run {P : Program} {t : TypeId} {s : Nat} (h : xsize P t = some s) (w : World) : (sizeOf t).run P w = .ok s w := by
  unfold xsize at h
  cases hi : P.info? t with
  | none => rw [hi] at h; cases h
  | some i =>
    rw [hi] at h
    simp only [Option.map_some, Option.some.injEq] at h
    simp [sizeOf, typeInfo, hi, h]

theorem take_drop_map {α γ : Type} (f : α → γ) (cs : List α) (off s : Nat) : (cs.map f).toArray.extract off (off + s) = (((cs.drop off).take s).map f).toArray := by
  simp [List.map_take, List.map_drop]

theorem xpart_sound {P : Program} {t : TypeId} {cs : List XC} {off : Nat} {x : X1} (h : xpart P t cs off = some x) {n : Nat} (hc : ∀ c ∈ cs, c.ok n) (β : Env) (w : World) :
    (part t (cs.map (·.den β)).toArray off).run P w = .ok (x.den β) w ∧ x.ok n := by
  unfold xpart at h
  split at h
  · rename_i ha
    split at h
    · rename_i s hs
      cases h
      refine ⟨?_, fun c hm => hc c (List.mem_of_mem_drop (List.mem_of_mem_take hm))⟩
      simp only [part, Sem.run_bind, xisAgg_run ha, Result.andThen_ok, if_true, xsize_run hs, Sem.run_pure, X1.den, take_drop_map]
    · cases h
  · rename_i ha
    split at h
    · rename_i c hg
      cases h
      refine ⟨?_, hc c (List.mem_of_getElem? hg)⟩
      have hg' : (cs.map (·.den β)).toArray[off]? = some (c.den β) := by simp [hg]
      simp only [part, Sem.run_bind, xisAgg_run ha, Result.andThen_ok, Bool.false_eq_true, if_false, hg', Sem.run_pure, X1.den]
    · cases h
  · cases h

/-- All fields, one after the other. -/
def xeqFields (P : Program) (eq : TypeId → X1 → X1 → Option Bool) (xs ys : List XC) : List Field → Option Bool
  | [] => some true
  | f :: fs =>
    if f.name ≠ "_" then
      match xpart P f.type xs f.offset, xpart P f.type ys f.offset with
      | some a, some b => match eq f.type a b with
        | some true => xeqFields P eq xs ys fs
        | some false => some false
        | .none => .none
      | _, _ => .none
    else xeqFields P eq xs ys fs

def xeqElems (P : Program) (eq : TypeId → X1 → X1 → Option Bool) (elem : TypeId) (n : Nat) (xs ys : List XC) : Nat → Nat → Option Bool
  | _, 0 => some true
  | i, k + 1 =>
    match xpart P elem xs (i * n), xpart P elem ys (i * n) with
    | some a, some b => match eq elem a b with
      | some true => xeqElems P eq elem n xs ys (i + 1) k
      | some false => some false
      | .none => .none
    | _, _ => .none

def xequal (P : Program) : Nat → TypeId → X1 → X1 → Option Bool
  | 0, _, _, _ => .none
  | d + 1, t, x, y =>
    match P.underlying t with
    | some (.struct fs) => match x, y with
      | .agg xs, .agg ys => if P.stoodInHeld t then .none else xeqFields P (xequal P d) xs ys fs.toList
      | _, _ => .none
    | some (.array len elem) => match x, y, xsize P elem with
      | .agg xs, .agg ys, some n => xeqElems P (xequal P d) elem n xs ys 0 len
      | _, _, _ => .none
    | some ds => match x, y with
      | .one a, .one b => xeqS ds a b
      | _, _ => .none
    | .none => .none

def EqSound (P : Program) (d : Nat) : Prop := ∀ t x y r, xequal P d t x y = some r → ∀ (β : Env) (n : Nat), x.ok n → y.ok n → ∀ (w : World) (f : Nat), d ≤ f → (Op.equalIn f t (x.den β) (y.den β)).run P w = .ok r w

theorem xeqFields_sound {P : Program} {d : Nat} (he : EqSound P d) {xs ys : List XC} {n : Nat} (hx : ∀ c ∈ xs, c.ok n) (hy : ∀ c ∈ ys, c.ok n) (β : Env) (w : World) (f : Nat) (hf : d ≤ f) :
    ∀ (fs : List Field) (r : Bool), xeqFields P (xequal P d) xs ys fs = some r → (Op.eqFields f (xs.map (·.den β)).toArray (ys.map (·.den β)).toArray fs).run P w = .ok r w
  | [], r, h => by simp only [xeqFields, Option.some.injEq] at h; subst h; rfl
  | fd :: fs, r, h => by
    unfold xeqFields at h
    unfold Op.eqFields
    by_cases hn : fd.name ≠ "_"
    · rw [if_pos hn] at h ⊢
      split at h
      · rename_i a b ha hb
        obtain ⟨ha1, ha2⟩ := xpart_sound ha hx β w
        obtain ⟨hb1, hb2⟩ := xpart_sound hb hy β w
        split at h
        · rename_i hr
          simp only [Sem.run_bind, ha1, hb1, Result.andThen_ok, he _ _ _ _ hr β n ha2 hb2 w f hf, Sem.run_ite, Bool.not_true, Bool.false_eq_true, if_false]
          exact xeqFields_sound he hx hy β w f hf fs r h
        · rename_i hr
          cases h
          simp only [Sem.run_bind, ha1, hb1, Result.andThen_ok, he _ _ _ _ hr β n ha2 hb2 w f hf, Sem.run_ite, Bool.not_false, if_true, Sem.run_pure]
        · cases h
      · cases h
    · rw [if_neg hn] at h ⊢
      exact xeqFields_sound he hx hy β w f hf fs r h

/-- The model's own loop over an array's elements, as a function. -/
def eqElems (elem : TypeId) (n d : Nat) (xs ys : Array Value) : Nat → Nat → Sem Bool
  | _, 0 => pure true
  | i, k + 1 => do
    let a ← part elem xs (i * n)
    let b ← part elem ys (i * n)
    let r ← Op.equalIn d elem a b
    if (!r) = true then pure false else eqElems elem n d xs ys (i + 1) k

theorem run_equalIn_array {P : Program} (w : World) (d : Nat) (t : TypeId) (len : Nat) (elem : TypeId) (n : Nat) (xs ys : Array Value) (ht : P.underlying t = some (.array len elem)) (hs : xsize P elem = some n) :
    (Op.equalIn (d + 1) t (.agg xs) (.agg ys)).run P w = (eqElems elem n d xs ys 0 len).run P w := by
  simp only [Op.equalIn, Sem.run_bind, run_underlying ht, Result.andThen_ok, xsize_run hs]
  rw [Std.Legacy.Range.forIn_eq_forIn_range']
  simp only [Std.Legacy.Range.size, Nat.sub_zero, Nat.add_sub_cancel, Nat.div_one]
  have key : ∀ (K : Option Bool × PUnit → World → Result Bool) (_ : ∀ b w, K (some b, ()) w = .ok b w) (_ : ∀ w, K (.none, ()) w = .ok true w) (k i : Nat) (w : World),
      ((forIn (List.range' i k) ((.none, ()) : Option Bool × PUnit) fun i (_ : Option Bool × PUnit) => do
          let a ← part elem xs (i * n)
          let b ← part elem ys (i * n)
          let r ← Op.equalIn d elem a b
          if (!r) = true then pure (ForInStep.done (some false, ())) else pure (ForInStep.yield (.none, ())) : Sem _).run P w).andThen K =
      (eqElems elem n d xs ys i k).run P w := by
    intro K hK1 hK2 k
    induction k with
    | zero => intro i w; simp [eqElems, hK2]
    | succ k ih =>
      intro i w
      simp only [List.range'_succ, List.forIn_cons, eqElems, Sem.run_bind]
      generalize (part elem xs (i * n)).run P w = r1
      cases r1 with
      | halt x w1 => simp [Result.andThen]
      | ok a w1 =>
        simp only [Result.andThen_ok]
        generalize (part elem ys (i * n)).run P w1 = r2
        cases r2 with
        | halt x w1 => simp [Result.andThen]
        | ok b w2 =>
          simp only [Result.andThen_ok]
          generalize (Op.equalIn d elem a b).run P w2 = r3
          cases r3 with
          | halt x w1 => simp [Result.andThen]
          | ok r w3 =>
            cases r
            · simp [hK1]
            · simp only [Result.andThen_ok, Bool.not_true, Bool.false_eq_true, if_false, Sem.run_pure]
              exact ih (i + 1) w3
  exact key _ (fun _ _ => rfl) (fun _ => rfl) len 0 w

theorem xeqElems_sound {P : Program} {d : Nat} (he : EqSound P d) {elem : TypeId} {s : Nat} {xs ys : List XC} {n : Nat} (hx : ∀ c ∈ xs, c.ok n) (hy : ∀ c ∈ ys, c.ok n) (β : Env) (w : World) (f : Nat) (hf : d ≤ f) :
    ∀ (k i : Nat) (r : Bool), xeqElems P (xequal P d) elem s xs ys i k = some r → (eqElems elem s f (xs.map (·.den β)).toArray (ys.map (·.den β)).toArray i k).run P w = .ok r w
  | 0, i, r, h => by simp only [xeqElems, Option.some.injEq] at h; subst h; rfl
  | k + 1, i, r, h => by
    unfold xeqElems at h
    unfold eqElems
    split at h
    · rename_i a b ha hb
      obtain ⟨ha1, ha2⟩ := xpart_sound ha hx β w
      obtain ⟨hb1, hb2⟩ := xpart_sound hb hy β w
      split at h
      · rename_i hr
        simp only [Sem.run_bind, ha1, hb1, Result.andThen_ok, he _ _ _ _ hr β n ha2 hb2 w f hf, Sem.run_ite, Bool.not_true, Bool.false_eq_true, if_false]
        exact xeqElems_sound he hx hy β w f hf k (i + 1) r h
      · rename_i hr
        cases h
        simp only [Sem.run_bind, ha1, hb1, Result.andThen_ok, he _ _ _ _ hr β n ha2 hb2 w f hf, Sem.run_ite, Bool.not_false, if_true, Sem.run_pure]
      · cases h
    · cases h

theorem xequal_sound (P : Program) : ∀ d, EqSound P d
  | 0 => fun t x y r h => by simp [xequal] at h
  | d + 1 => fun t x y r h β n hx hy w f hf => by
    obtain ⟨g, rfl⟩ : ∃ g, f = g + 1 := ⟨f - 1, by omega⟩
    have ih := xequal_sound P d
    unfold xequal at h
    split at h
    · rename_i fs hu
      split at h
      · rename_i xs ys
        split at h
        · cases h
        · rename_i hp
          have hfo : P.fieldsOf t = fs := by simp only [Program.fieldsOf, hu]
          have := run_equalIn_struct w g t (xs.map (·.den β)).toArray (ys.map (·.den β)).toArray (by rw [hfo]; exact hu) (by simpa using hp)
          simp only [X1.den]
          rw [this, hfo]
          exact xeqFields_sound ih hx hy β w g (by omega) _ _ h
      · cases h
    · rename_i len elem hu
      split at h
      · rename_i xs ys s hs
        simp only [X1.den]
        rw [run_equalIn_array w g t len elem s _ _ hu hs]
        exact xeqElems_sound ih hx hy β w g (by omega) _ _ _ h
      · cases h
    · rename_i ds _ _ hu
      split at h
      · exact xeqS_sound hu h β w g
      · cases h
    · cases h

end Go.Xm
