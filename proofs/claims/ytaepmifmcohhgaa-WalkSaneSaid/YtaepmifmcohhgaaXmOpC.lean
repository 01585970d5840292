/-
  The second machine: the operations that look at no memory, one by one.
-/
import Derived.Test.YtaepmifmcohhgaaXmOpB
namespace Go.Xm
set_option linter.unusedSectionVars false
variable [Atoms]

/-- What a soundness law of a value says. -/
def Gives (P : Program) (s : Sem Value) (β : Env) (n : Nat) (x : XV) : Prop := ∀ w, ∃ v, s.run P w = .ok v w ∧ RelV β n x v

def xflt (op : BinOp) (k k' : FloatKind) (a b : Nat) : Option XC :=
  if k = k' then
    match op with
    | .eql => some (.bool (k.format.order a b == some .eq))
    | .neq => some (.bool (k.format.order a b != some .eq))
    | .lss => some (.bool (k.format.order a b == some .lt))
    | .leq => some (.bool (k.format.order a b == some .lt || k.format.order a b == some .eq))
    | .gtr => some (.bool (k.format.order a b == some .gt))
    | .geq => some (.bool (k.format.order a b == some .gt || k.format.order a b == some .eq))
    | .add => (k.format.add a b).map (.flt k)
    | .sub => (k.format.sub a b).map (.flt k)
    | .mul => (k.format.mul a b).map (.flt k)
    | .quo => (k.format.div a b).map (.flt k)
    | _ => .none
  else .none

theorem xflt_sound {P : Program} {op : BinOp} {t : TypeId} {k k' : FloatKind} {a b : Nat} {c : XC} (h : xflt op k k' a b = some c) (β : Env) (n : Nat) (w : World) :
    (binOp op t (.float k a) (.float k' b)).run P w = .ok (c.den β) w ∧ c.ok n := by
  unfold xflt at h
  split at h
  · rename_i hk
    subst hk
    cases op <;> simp only at h <;> first
      | (cases h; done)
      | (cases h; simp [binOp, Op.floatCmp, XC.den, XC.ok]; done)
      | (obtain ⟨r, hr, rfl⟩ := Option.map_eq_some_iff.1 h; simp [binOp, Op.floatArith, hr, XC.den, XC.ok]; done)
  · cases h

def xcplx (op : BinOp) (k k' : FloatKind) (a b c d : Nat) : Option XC :=
  if k = k' then
    match op with
    | .eql => some (.bool (k.format.order a c == some .eq && k.format.order b d == some .eq))
    | .neq => some (.bool (!(k.format.order a c == some .eq && k.format.order b d == some .eq)))
    | .add => match k.format.add a c, k.format.add b d with
      | some x, some y => some (.cplx k x y)
      | _, _ => .none
    | .sub => match k.format.sub a c, k.format.sub b d with
      | some x, some y => some (.cplx k x y)
      | _, _ => .none
    | _ => .none
  else .none

theorem xcplx_sound {P : Program} {op : BinOp} {t : TypeId} {k k' : FloatKind} {a b c d : Nat} {x : XC} (h : xcplx op k k' a b c d = some x) (β : Env) (n : Nat) (w : World) :
    (binOp op t (.complex k a b) (.complex k' c d)).run P w = .ok (x.den β) w ∧ x.ok n := by
  unfold xcplx at h
  split at h
  · rename_i hk
    subst hk
    cases op <;> simp only at h <;> first
      | (cases h; done)
      | (cases h; simp [binOp, Op.complexOp, Op.Complex.cmp, Op.floatCmp, asBool, XC.den, XC.ok]; done)
      | (split at h <;> cases h; rename_i h1 h2; simp [binOp, Op.complexOp, Op.Complex.arith, Op.floatArith, h1, h2, XC.den, XC.ok]; done)
  · cases h

def xstr (op : BinOp) (a b : List UInt8) : Option XC :=
  match op with
  | .eql => some (.bool (a == b))
  | .neq => some (.bool (!(a == b)))
  | .add => if a.length + b.length ≤ 9223372036854775807 then some (.str (a ++ b)) else .none
  | .lss => some (.bool (Op.bytesLess a b))
  | .leq => some (.bool (Op.bytesLess a b || a == b))
  | .gtr => some (.bool (!(Op.bytesLess a b || a == b)))
  | .geq => some (.bool (!Op.bytesLess a b))
  | _ => .none

theorem bytes_append (a b : List UInt8) : ((⟨a.toArray⟩ : ByteArray) ++ ⟨b.toArray⟩) = ⟨(a ++ b).toArray⟩ := by
  apply ByteArray.ext
  simp

theorem xstr_sound {P : Program} {op : BinOp} {t : TypeId} {a b : List UInt8} {x : XC} (h : xstr op a b = some x) (β : Env) (n : Nat) (w : World) :
    (binOp op t (.string ⟨a.toArray⟩) (.string ⟨b.toArray⟩)).run P w = .ok (x.den β) w ∧ x.ok n := by
  cases op <;> simp only [xstr] at h <;> first
    | (cases h; done)
    | (cases h; simp [binOp, Op.stringOp, ByteArray.toList_eq, XC.den, XC.ok]; done)
    | skip
  split at h
  · rename_i hl
    cases h
    have hm : IntKind.i64.max = 9223372036854775807 := by decide
    refine ⟨?_, trivial⟩
    simp only [binOp, Op.stringOp, hm]
    rw [if_neg (by show ¬ (((a.toArray.size + b.toArray.size : Nat) : Int) > 9223372036854775807); simp; omega)]
    simp [XC.den, bytes_append]
  · cases h

def toX1 : XV → Option X1
  | .one c => some (.one c)
  | .agg cs => some (.agg cs)
  | _ => .none

theorem toX1_rel {β : Env} {n : Nat} {x : XV} {y : X1} {v : Value} (h : toX1 x = some y) (hr : RelV β n x v) : y.ok n ∧ v = y.den β := by
  cases x with
  | one c => simp only [toX1, Option.some.injEq] at h; subst h; exact hr
  | agg cs => simp only [toX1, Option.some.injEq] at h; subst h; exact hr
  | undef => cases h
  | tup vs => cases h

/-- '==' on what is neither number nor string. -/
def xeqV (P : Program) (t : TypeId) (x y : XV) : Option Bool :=
  match x, y with
  | .one (.bool a), .one (.bool b) => xequal P 1 t (.one (.bool a)) (.one (.bool b))
  | .one .nilp, .one y => xequal P 1 t (.one .nilp) (.one y)
  | .one (.ptr i o), .one y => xequal P 1 t (.one (.ptr i o)) (.one y)
  | .one .nils, .one y => xequal P 1 t (.one .nils) (.one y)
  | .one (.slice i o l c), .one y => xequal P 1 t (.one (.slice i o l c)) (.one y)
  | .one .nilm, .one y => xequal P 1 t (.one .nilm) (.one y)
  | .one (.map i), .one y => xequal P 1 t (.one (.map i)) (.one y)
  | .agg xs, .agg ys => if P.eqGuardType P.depth t then .none else xequal P 40 t (.agg xs) (.agg ys)
  | .one (.atom i), .one (.atom j) => if i = j then some true else .none
  | _, _ => .none

/-- The model's '==', where neither side is a number, a float, a string. -/
theorem run_eql_other {P : Program} {t : TypeId} {x y : Value} {r : Bool} (w : World) (h : (Op.equal t x y).run P w = .ok r w)
    (hx : match x with | .bool _ | .pointer _ | .slice .. | .map _ | .agg _ => True | _ => False) :
    (binOp .eql t x y).run P w = .ok (.bool r) w ∧ (binOp .neq t x y).run P w = .ok (.bool (!r)) w := by
  cases x <;> first
    | (exact hx.elim)
    | (unfold binOp; cases y <;> simp [h])

theorem eqGuard_plain {P : Program} {op : BinOp} {t : TypeId} {xo yo : Operand} {u v : Value} (w : World) (h : match u with | .nilIface | .agg _ => False | _ => True) :
    (eqGuard op t xo yo u v).run P w = .ok () w := by
  unfold eqGuard
  cases u <;> first
    | (exact h.elim)
    | (simp only []; split <;> rfl)

theorem xeqV_sound {P : Program} {t : TypeId} {x y : XV} {r : Bool} (h : xeqV P t x y = some r) {β : Env} {n : Nat} {u v : Value} (hu : RelV β n x u) (hv : RelV β n y v) (op : BinOp) (xo yo : Operand) (w : World) :
    (eqGuard op t xo yo u v).run P w = .ok () w ∧ (binOp .eql t u v).run P w = .ok (.bool r) w ∧ (binOp .neq t u v).run P w = .ok (.bool (!r)) w := by
  have one : ∀ a b : XC, xequal P 1 t (.one a) (.one b) = some r → a.ok n → b.ok n → u = a.den β → v = b.den β →
      (match a with | .bool _ | .nilp | .ptr .. | .nils | .slice .. | .nilm | .map _ => True | _ => False) →
      (eqGuard op t xo yo u v).run P w = .ok () w ∧ (binOp .eql t u v).run P w = .ok (.bool r) w ∧ (binOp .neq t u v).run P w = .ok (.bool (!r)) w := by
    intro a b h hao hbo ha hb hs
    have he := xequal_sound P 1 t (.one a) (.one b) r h β n hao hbo w Op.maxDepth (by decide)
    subst ha; subst hb
    refine ⟨eqGuard_plain w ?_, run_eql_other w he ?_⟩
    · cases a <;> first
        | (exact hs.elim)
        | trivial
        | (rename_i cap; cases cap <;> trivial)
    · cases a <;> first
        | (exact hs.elim)
        | trivial
        | (rename_i cap; cases cap <;> trivial)
  unfold xeqV at h
  split at h
  · exact one _ _ h hu.1 hv.1 hu.2 hv.2 trivial
  · exact one _ _ h hu.1 hv.1 hu.2 hv.2 trivial
  · exact one _ _ h hu.1 hv.1 hu.2 hv.2 trivial
  · exact one _ _ h hu.1 hv.1 hu.2 hv.2 trivial
  · exact one _ _ h hu.1 hv.1 hu.2 hv.2 trivial
  · exact one _ _ h hu.1 hv.1 hu.2 hv.2 trivial
  · exact one _ _ h hu.1 hv.1 hu.2 hv.2 trivial
  · rename_i xs ys
    split at h
    · cases h
    · rename_i hg
      have he := xequal_sound P 40 t (.agg xs) (.agg ys) r h β n hu.1 hv.1 w Op.maxDepth (by decide)
      obtain ⟨_, rfl⟩ := hu
      obtain ⟨_, rfl⟩ := hv
      exact ⟨run_eqGuard_agg w op t xo yo _ _ (by simpa using hg), run_eql_other w he trivial⟩
  · rename_i i j
    split at h
    · rename_i hij
      subst hij
      cases h
      obtain ⟨_, rfl⟩ := hu
      obtain ⟨_, rfl⟩ := hv
      have h1 := (xbinInt_sound (P := P) (op := .eql) (t := t) (k := Atoms.kind i) (k' := Atoms.kind i) (a := Atoms.num i) (b := Atoms.num i) (c := .bool true) (by simp [xbinInt, xsame]) β n w).1
      have h2 := (xbinInt_sound (P := P) (op := .neq) (t := t) (k := Atoms.kind i) (k' := Atoms.kind i) (a := Atoms.num i) (b := Atoms.num i) (c := .bool false) (by simp [xbinInt, xsame]) β n w).1
      exact ⟨eqGuard_plain w trivial, h1, h2⟩
    · cases h
  · cases h

/-- A binary operation. -/
def xbin (P : Program) (op : BinOp) (t : TypeId) (x y : XV) : Option XV :=
  match x, y with
  | .one (.int k a), .one (.int k' b) => (xbinInt op k k' a b).map .one
  | .one (.flt k a), .one (.flt k' b) => (xflt op k k' a b).map .one
  | .one (.cplx k a b), .one (.cplx k' c d) => (xcplx op k k' a b c d).map .one
  | .one (.str a), .one (.str b) => (xstr op a b).map .one
  | x, y => match op with
    | .eql => (xeqV P t x y).map fun r => .one (.bool r)
    | .neq => (xeqV P t x y).map fun r => .one (.bool (!r))
    | _ => .none

theorem xbin_sound {P : Program} {op : BinOp} {t : TypeId} {x y r : XV} (h : xbin P op t x y = some r) {β : Env} {n : Nat} {u v : Value} (hu : RelV β n x u) (hv : RelV β n y v) (xo yo : Operand) (w : World) :
    (eqGuard op t xo yo u v).run P w = .ok () w ∧ ∃ z, (binOp op t u v).run P w = .ok z w ∧ RelV β n r z := by
  unfold xbin at h
  split at h
  · obtain ⟨c, hc, rfl⟩ := Option.map_eq_some_iff.1 h
    obtain ⟨_, rfl⟩ := hu
    obtain ⟨_, rfl⟩ := hv
    obtain ⟨h1, h2⟩ := xbinInt_sound (P := P) (t := t) hc β n w
    exact ⟨eqGuard_plain w trivial, _, h1, h2, rfl⟩
  · obtain ⟨c, hc, rfl⟩ := Option.map_eq_some_iff.1 h
    obtain ⟨_, rfl⟩ := hu
    obtain ⟨_, rfl⟩ := hv
    obtain ⟨h1, h2⟩ := xflt_sound (P := P) (t := t) hc β n w
    exact ⟨eqGuard_plain w trivial, _, h1, h2, rfl⟩
  · obtain ⟨c, hc, rfl⟩ := Option.map_eq_some_iff.1 h
    obtain ⟨_, rfl⟩ := hu
    obtain ⟨_, rfl⟩ := hv
    obtain ⟨h1, h2⟩ := xcplx_sound (P := P) (t := t) hc β n w
    exact ⟨eqGuard_plain w trivial, _, h1, h2, rfl⟩
  · obtain ⟨c, hc, rfl⟩ := Option.map_eq_some_iff.1 h
    obtain ⟨_, rfl⟩ := hu
    obtain ⟨_, rfl⟩ := hv
    obtain ⟨h1, h2⟩ := xstr_sound (P := P) (t := t) hc β n w
    exact ⟨eqGuard_plain w trivial, _, h1, h2, rfl⟩
  · split at h
    · obtain ⟨b, hb, rfl⟩ := Option.map_eq_some_iff.1 h
      obtain ⟨h1, h2, _⟩ := xeqV_sound hb hu hv .eql xo yo w
      exact ⟨h1, _, h2, trivial, rfl⟩
    · obtain ⟨b, hb, rfl⟩ := Option.map_eq_some_iff.1 h
      obtain ⟨h1, _, h2⟩ := xeqV_sound hb hu hv .neq xo yo w
      exact ⟨h1, _, h2, trivial, rfl⟩
    · cases h

end Go.Xm
