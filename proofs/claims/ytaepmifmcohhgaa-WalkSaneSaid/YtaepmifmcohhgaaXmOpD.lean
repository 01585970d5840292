/-
  The second machine: the operations that look at no memory, third part: parts of values, addresses, conversions, slices, small builtins.
-/
import Derived.Test.YtaepmifmcohhgaaXmOpC
namespace Go.Xm
set_option linter.unusedSectionVars false
variable [Atoms]

def xun (op : UnOp) (x : XV) : Option XV :=
  match op, x with
  | .neg, .one (.int k a) => some (.one (.int k (xwrap k (0 - a))))
  | .xor, .one (.int k a) => some (.one (.int k (xwrap k ((BitVec.ofInt k.bits (if k.signed then -1 else k.max) ^^^ BitVec.ofInt k.bits a).toNat))))
  | .neg, .one (.flt k a) => some (.one (.flt k (Op.negFloat k a)))
  | .neg, .one (.cplx k a b) => some (.one (.cplx k (Op.negFloat k a) (Op.negFloat k b)))
  | .not, .one (.bool b) => some (.one (.bool (!b)))
  | _, _ => .none

theorem xun_sound {P : Program} {op : UnOp} {x r : XV} (h : xun op x = some r) {β : Env} {n : Nat} {u : Value} (hu : RelV β n x u) (w : World) :
    ∃ z, (Op.unary op u).run P w = .ok z w ∧ RelV β n r z := by
  unfold xun at h
  split at h <;> first
    | (cases h; done)
    | (cases h; obtain ⟨_, rfl⟩ := hu; refine ⟨_, ?_, trivial, rfl⟩; simp only [Op.unary, XC.den, Op.intArith, Op.intBits, Sem.run_pure, xwrap_eq])

def xconvert (P : Program) (src dst : TypeId) (x : XV) : Option XV :=
  match P.underlying src, P.underlying dst, x with
  | some _, some (.int k), .one (.int _ n) => some (.one (.int k (xwrap k n)))
  | some _, some (.float k), .one (.int _ n) => some (.one (.flt k (k.nearest n)))
  | some _, some (.int k), .one (.flt s b) => match (s.decode b).toInt .zero with
    | some n => if k.min ≤ n ∧ n ≤ k.max then some (.one (.int k n)) else .none
    | .none => .none
  | some _, some (.float k), .one (.flt s b) => if s = k then some (.one (.flt k b)) else .none
  | some _, some .string, .one (.str s) => some (.one (.str s))
  | _, _, _ => .none

theorem xconvert_sound {P : Program} {src dst : TypeId} {x r : XV} (h : xconvert P src dst x = some r) {β : Env} {n : Nat} {u : Value} (hu : RelV β n x u) (w : World) :
    ∃ z, (convert src dst u).run P w = .ok z w ∧ RelV β n r z := by
  unfold xconvert at h
  split at h
  · rename_i h1 h2
    cases h
    obtain ⟨_, rfl⟩ := hu
    refine ⟨_, ?_, trivial, rfl⟩
    simp only [convert, Sem.run_bind, run_underlying h1, run_underlying h2, Result.andThen_ok, XC.den]
    simp [Conv.intToInt, xwrap_eq]
  · rename_i h1 h2
    cases h
    obtain ⟨_, rfl⟩ := hu
    refine ⟨_, ?_, trivial, rfl⟩
    simp only [convert, Sem.run_bind, run_underlying h1, run_underlying h2, Result.andThen_ok, XC.den]
    simp [Conv.intToFloat]
  · rename_i h1 h2
    split at h
    · rename_i m hm
      split at h
      · rename_i hr
        cases h
        obtain ⟨_, rfl⟩ := hu
        refine ⟨_, ?_, trivial, rfl⟩
        simp only [convert, Sem.run_bind, run_underlying h1, run_underlying h2, Result.andThen_ok, XC.den]
        simp [Conv.floatToInt, hm, hr]
      · cases h
    · cases h
  · rename_i h1 h2
    split at h
    · rename_i hk
      subst hk
      cases h
      obtain ⟨_, rfl⟩ := hu
      refine ⟨_, ?_, trivial, rfl⟩
      simp only [convert, Sem.run_bind, run_underlying h1, run_underlying h2, Result.andThen_ok, XC.den]
      simp [Conv.floatToFloat]
    · cases h
  · rename_i h1 h2
    cases h
    obtain ⟨_, rfl⟩ := hu
    refine ⟨_, ?_, trivial, rfl⟩
    simp only [convert, Sem.run_bind, run_underlying h1, run_underlying h2, Result.andThen_ok, XC.den, Sem.run_pure]
  · cases h

def xextract (x : XV) (i : Nat) : Option XV :=
  match x with
  | .tup vs => (vs[i]?).map X1.toV
  | _ => .none

theorem xextract_sound {P : Program} {i : Nat} {x r : XV} (h : xextract x i = some r) {β : Env} {n : Nat} {u : Value} (hu : RelV β n x u) (w : World) :
    ∃ z, (Instr.extract u i).run P w = .ok z w ∧ RelV β n r z := by
  unfold xextract at h
  split at h
  · rename_i vs
    obtain ⟨y, hy, rfl⟩ := Option.map_eq_some_iff.1 h
    obtain ⟨h1, rfl⟩ := hu
    have hg : (vs.map (·.den β)).toArray[i]? = some (y.den β) := by simp [hy]
    exact ⟨_, by simp only [Instr.extract, hg, Sem.run_pure], RelV.toV.2 ⟨h1 y (List.mem_of_getElem? hy), rfl⟩⟩
  · cases h

def xnilCheck (x : XV) : Option XV :=
  match x with
  | .one (.ptr i o) => some (.one (.ptr i o))
  | .one (.fn f) => some (.one (.fn f))
  | .one (.bind g c) => match xfn (.bind g c) with
    | some _ => some (.one (.bind g c))
    | .none => .none
  | _ => .none

theorem xnilCheck_sound {P : Program} {x r : XV} (h : xnilCheck x = some r) {β : Env} {n : Nat} {o : Oper} {xo : Operand} (ho : o.op = .nilCheck xo) {ev : Operand → Value} (hu : RelV β n x (ev xo)) (w : World) :
    ∃ z, (execOp ev o).run P w = .ok (.value z) w ∧ RelV β n r z := by
  unfold xnilCheck at h
  unfold execOp
  simp only [ho]
  split at h
  · cases h
    obtain ⟨h1, h2⟩ := hu
    exact ⟨_, by rw [h2]; rfl, h1, rfl⟩
  · cases h
    obtain ⟨h1, h2⟩ := hu
    exact ⟨_, by rw [h2]; rfl, h1, rfl⟩
  · rename_i g c
    split at h
    · rename_i p hp
      obtain ⟨f, cs⟩ := p
      cases h
      obtain ⟨h1, h2⟩ := hu
      obtain ⟨h3, _⟩ := xfn_sound β hp h1
      exact ⟨_, by rw [h2, h3]; rfl, h1, h3.symm⟩
    · cases h
  · cases h

/-! ### Addresses -/

def xfieldOf (P : Program) (s : TypeId) (f : Nat) : Option Field :=
  match P.underlying s with
  | some (.struct fs) => fs[f]?
  | _ => .none

def xfieldAddr (P : Program) (s : TypeId) (x : XV) (f : Nat) : Option XV :=
  match xfieldOf P s f, x with
  | some fd, .one (.ptr i o) => match xsize P fd.type with
    | some (_ + 1) => some (.one (.ptr i (o + fd.offset)))
    | _ => .none
  | _, _ => .none

theorem Addr.add_none (b o k : Nat) : (⟨b, o, none⟩ : Addr).add k = ⟨b, o + k, none⟩ := by
  unfold Addr.add
  split
  · rename_i h; subst h; rfl
  · rfl

theorem xfieldAddr_sound {P : Program} {s : TypeId} {f : Nat} {x r : XV} (h : xfieldAddr P s x f = some r) {β : Env} {n : Nat} {u : Value} (hu : RelV β n x u) (w : World) :
    ∃ z, (Instr.fieldAt s u f).run P w = .ok z w ∧ RelV β n r z := by
  unfold xfieldAddr at h
  split at h
  · rename_i fd i o hf
    split at h
    · rename_i k hk
      cases h
      obtain ⟨h1, rfl⟩ := hu
      unfold xfieldOf at hf
      split at hf
      · rename_i fs hs
        refine ⟨_, ?_, h1, rfl⟩
        simp only [Instr.fieldAt, Sem.run_bind, run_underlying hs, Result.andThen_ok, hf, XC.den, Instr.sureAddr, Sem.run_pure, fieldPlace, xsize_run hk, Nat.add_one_ne_zero, if_false, Addr.add_none, Nat.add_assoc]
      · cases hf
    · cases h
  · cases h

def xfield (P : Program) (s : TypeId) (x : XV) (f : Nat) : Option XV :=
  match xfieldOf P s f, x with
  | some fd, .agg cs => (xpart P fd.type cs fd.offset).map X1.toV
  | _, _ => .none

theorem xfield_sound {P : Program} {s : TypeId} {f : Nat} {x r : XV} (h : xfield P s x f = some r) {β : Env} {n : Nat} {u : Value} (hu : RelV β n x u) (w : World) :
    ∃ z, (Instr.field s u f).run P w = .ok z w ∧ RelV β n r z := by
  unfold xfield at h
  split at h
  · rename_i fd cs hf
    obtain ⟨y, hy, rfl⟩ := Option.map_eq_some_iff.1 h
    obtain ⟨h1, rfl⟩ := hu
    obtain ⟨h2, h3⟩ := xpart_sound hy h1 β w
    unfold xfieldOf at hf
    split at hf
    · rename_i fs hs
      refine ⟨_, ?_, RelV.toV.2 ⟨h3, rfl⟩⟩
      simp only [Instr.field, Sem.run_bind, run_underlying hs, Result.andThen_ok, hf, asAgg, Sem.run_pure]
      exact h2
    · cases hf
  · cases h

def xindexAddr (P : Program) (t : TypeId) (x ix : XV) : Option XV :=
  match P.underlying t, x, ix with
  | some (.array len elem), .one (.ptr i o), .one (.int _ j) =>
    if 0 ≤ j ∧ j < len then (xsize P elem).map fun s => .one (.ptr i (o + j.toNat * s)) else .none
  | some (.slice elem), .one (.slice i o len _), .one (.int _ j) =>
    if 0 ≤ j ∧ j < len then (xsize P elem).map fun s => .one (.ptr i (o + j.toNat * s)) else .none
  | _, _, _ => .none

theorem xindexAddr_sound {P : Program} {t : TypeId} {x ix r : XV} (h : xindexAddr P t x ix = some r) {β : Env} {n : Nat} {u v : Value} (hu : RelV β n x u) (hv : RelV β n ix v) (w : World) :
    ∃ z, (Instr.indexAt t u v).run P w = .ok z w ∧ RelV β n r z := by
  unfold xindexAddr at h
  split at h
  · rename_i len elem i o k j ht
    split at h
    · rename_i hj
      obtain ⟨s, hs, rfl⟩ := Option.map_eq_some_iff.1 h
      obtain ⟨h1, rfl⟩ := hu
      obtain ⟨_, rfl⟩ := hv
      refine ⟨_, ?_, h1, rfl⟩
      simp only [Instr.indexAt, XC.den, asIntOf, Sem.run_bind, Sem.run_pure, Result.andThen_ok, run_underlying ht, Instr.sureAddr, hj, and_self, if_true, xsize_run hs, Addr.add_none, Nat.add_assoc]
    · cases h
  · rename_i elem i o len cap k j ht
    split at h
    · rename_i hj
      obtain ⟨s, hs, rfl⟩ := Option.map_eq_some_iff.1 h
      obtain ⟨h1, rfl⟩ := hu
      obtain ⟨_, rfl⟩ := hv
      refine ⟨_, ?_, h1, rfl⟩
      cases cap <;> simp only [Instr.indexAt, XC.den, asIntOf, Sem.run_bind, Sem.run_pure, Result.andThen_ok, run_underlying ht, hj, and_self, if_true, xsize_run hs, Addr.add_none, Nat.add_assoc]
    · cases h
  · cases h

def xindex (P : Program) (t : TypeId) (x ix : XV) : Option XV :=
  match P.underlying t, x, ix with
  | some (.array len elem), .agg cs, .one (.int _ j) =>
    if 0 ≤ j ∧ j < len then match xsize P elem with
      | some s => (xpart P elem cs (j.toNat * s)).map X1.toV
      | .none => .none
    else .none
  | some .string, .one (.str s), .one (.int _ j) =>
    if 0 ≤ j then (s[j.toNat]?).map fun b => .one (.int .u8 b.toNat) else .none
  | _, _, _ => .none

theorem xindex_sound {P : Program} {t : TypeId} {x ix r : XV} (h : xindex P t x ix = some r) {β : Env} {n : Nat} {u v : Value} (hu : RelV β n x u) (hv : RelV β n ix v) (w : World) :
    ∃ z, (Instr.index t u v).run P w = .ok z w ∧ RelV β n r z := by
  unfold xindex at h
  split at h
  · rename_i len elem cs k j ht
    split at h
    · rename_i hj
      split at h
      · rename_i s hs
        obtain ⟨y, hy, rfl⟩ := Option.map_eq_some_iff.1 h
        obtain ⟨h1, rfl⟩ := hu
        obtain ⟨_, rfl⟩ := hv
        obtain ⟨h2, h3⟩ := xpart_sound hy h1 β w
        refine ⟨_, ?_, RelV.toV.2 ⟨h3, rfl⟩⟩
        simp only [Instr.index, XC.den, asIntOf, Sem.run_bind, Sem.run_pure, Result.andThen_ok, run_underlying ht, hj, and_self, if_true, xsize_run hs, h2]
      · cases h
    · cases h
  · rename_i s k j ht
    split at h
    · rename_i hj
      obtain ⟨b, hb, rfl⟩ := Option.map_eq_some_iff.1 h
      obtain ⟨_, rfl⟩ := hu
      obtain ⟨_, rfl⟩ := hv
      refine ⟨_, ?_, trivial, rfl⟩
      have hg : (⟨s.toArray⟩ : ByteArray)[j.toNat]? = some b := by
        obtain ⟨hl, he⟩ := List.getElem?_eq_some_iff.1 hb
        have hlt : j.toNat < (⟨s.toArray⟩ : ByteArray).size := by show j.toNat < s.toArray.size; simpa using hl
        rw [getElem?_pos (⟨s.toArray⟩ : ByteArray) j.toNat hlt]
        exact congrArg some he
      simp only [Instr.index, XC.den, asIntOf, Sem.run_bind, Sem.run_pure, Result.andThen_ok, run_underlying ht, hj, if_true, hg]
    · cases h
  · cases h

end Go.Xm
