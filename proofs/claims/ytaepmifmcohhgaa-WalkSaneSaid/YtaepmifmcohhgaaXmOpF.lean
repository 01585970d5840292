/-
  The second machine: small builtins; and all operations that look at no memory, as one function.
-/
import Derived.Test.YtaepmifmcohhgaaXmOpE
namespace Go.Xm
set_option linter.unusedSectionVars false
variable [Atoms]

def xmin : XC → List XV → Option XC
  | c, [] => some c
  | .int k x, .one (.int _ y) :: rest => xmin (.int k (if y < x then y else x)) rest
  | _, _ :: _ => .none

def xmax : XC → List XV → Option XC
  | c, [] => some c
  | .int k x, .one (.int _ y) :: rest => xmax (.int k (if y > x then y else x)) rest
  | _, _ :: _ => .none

theorem xmin_sound {P : Program} {β : Env} {n : Nat} (w : World) : ∀ {l : List XV} {vs : List Value} {k : IntKind} {x : Int} {r : XC}, xmin (.int k x) l = some r → All2 (RelV β n) l vs →
    (vs.foldlM Builtin.min2 (.int k x)).run P w = .ok (r.den β) w ∧ r.ok n
  | [], _, k, x, r, h, .nil => by simp only [xmin, Option.some.injEq] at h; subst h; exact ⟨rfl, trivial⟩
  | .one (.int k' y) :: l, _, k, x, r, h, .cons h1 h2 => by
    obtain ⟨_, rfl⟩ := h1
    unfold xmin at h
    have := xmin_sound (P := P) w h h2
    simp only [List.foldlM_cons, XC.den, Builtin.min2, Sem.run_bind, Sem.run_pure, Result.andThen_ok]
    exact this
  | .undef :: _, _, k, x, r, h, _ => by simp [xmin] at h
  | .agg _ :: _, _, k, x, r, h, _ => by simp [xmin] at h
  | .tup _ :: _, _, k, x, r, h, _ => by simp [xmin] at h
  | .one (.bool _) :: _, _, k, x, r, h, _ => by simp [xmin] at h
  | .one (.flt _ _) :: _, _, k, x, r, h, _ => by simp [xmin] at h
  | .one (.cplx _ _ _) :: _, _, k, x, r, h, _ => by simp [xmin] at h
  | .one (.str _) :: _, _, k, x, r, h, _ => by simp [xmin] at h
  | .one .nilp :: _, _, k, x, r, h, _ => by simp [xmin] at h
  | .one (.ptr _ _) :: _, _, k, x, r, h, _ => by simp [xmin] at h
  | .one .nils :: _, _, k, x, r, h, _ => by simp [xmin] at h
  | .one (.slice _ _ _ _) :: _, _, k, x, r, h, _ => by simp [xmin] at h
  | .one .nilm :: _, _, k, x, r, h, _ => by simp [xmin] at h
  | .one (.map _) :: _, _, k, x, r, h, _ => by simp [xmin] at h
  | .one (.fn _) :: _, _, k, x, r, h, _ => by simp [xmin] at h
  | .one (.bind _ _) :: _, _, k, x, r, h, _ => by simp [xmin] at h
  | .one .nilf :: _, _, k, x, r, h, _ => by simp [xmin] at h
  | .one .nili :: _, _, k, x, r, h, _ => by simp [xmin] at h

theorem xmax_sound {P : Program} {β : Env} {n : Nat} (w : World) : ∀ {l : List XV} {vs : List Value} {k : IntKind} {x : Int} {r : XC}, xmax (.int k x) l = some r → All2 (RelV β n) l vs →
    (vs.foldlM Builtin.max2 (.int k x)).run P w = .ok (r.den β) w ∧ r.ok n
  | [], _, k, x, r, h, .nil => by simp only [xmax, Option.some.injEq] at h; subst h; exact ⟨rfl, trivial⟩
  | .one (.int k' y) :: l, _, k, x, r, h, .cons h1 h2 => by
    obtain ⟨_, rfl⟩ := h1
    unfold xmax at h
    have := xmax_sound (P := P) w h h2
    simp only [List.foldlM_cons, XC.den, Builtin.max2, Sem.run_bind, Sem.run_pure, Result.andThen_ok]
    exact this
  | .undef :: _, _, k, x, r, h, _ => by simp [xmax] at h
  | .agg _ :: _, _, k, x, r, h, _ => by simp [xmax] at h
  | .tup _ :: _, _, k, x, r, h, _ => by simp [xmax] at h
  | .one (.bool _) :: _, _, k, x, r, h, _ => by simp [xmax] at h
  | .one (.flt _ _) :: _, _, k, x, r, h, _ => by simp [xmax] at h
  | .one (.cplx _ _ _) :: _, _, k, x, r, h, _ => by simp [xmax] at h
  | .one (.str _) :: _, _, k, x, r, h, _ => by simp [xmax] at h
  | .one .nilp :: _, _, k, x, r, h, _ => by simp [xmax] at h
  | .one (.ptr _ _) :: _, _, k, x, r, h, _ => by simp [xmax] at h
  | .one .nils :: _, _, k, x, r, h, _ => by simp [xmax] at h
  | .one (.slice _ _ _ _) :: _, _, k, x, r, h, _ => by simp [xmax] at h
  | .one .nilm :: _, _, k, x, r, h, _ => by simp [xmax] at h
  | .one (.map _) :: _, _, k, x, r, h, _ => by simp [xmax] at h
  | .one (.fn _) :: _, _, k, x, r, h, _ => by simp [xmax] at h
  | .one (.bind _ _) :: _, _, k, x, r, h, _ => by simp [xmax] at h
  | .one .nilf :: _, _, k, x, r, h, _ => by simp [xmax] at h
  | .one .nili :: _, _, k, x, r, h, _ => by simp [xmax] at h

/-- 'len' of what has it in its value or its type. -/
def xlen (P : Program) (t : TypeId) (x : XV) : Option Nat :=
  match P.underlying t, x with
  | some .string, .one (.str s) => some s.length
  | some (.array n _), .agg _ => some n
  | some (.pointer arr), .one (.ptr _ _) => match P.underlying arr with
    | some (.array n _) => some n
    | _ => .none
  | some (.slice _), .one .nils => some 0
  | some (.slice _), .one (.slice _ _ n _) => some n
  | some (.map _ _), .one .nilm => some 0
  | _, _ => .none

theorem xlen_sound {P : Program} {t : TypeId} {x : XV} {r : Nat} (h : xlen P t x = some r) {β : Env} {n : Nat} {u : Value} (hu : RelV β n x u) {ts : Array TypeId} {args : Array Value} (ht : ts[0]? = some t) (ha : args[0]? = some u) (ty : TypeId) (w : World) :
    (Builtin.len_ ts ty args).run P w = .ok (.int .i64 r) w := by
  unfold xlen at h
  simp only [Builtin.len_, ht, ha]
  split at h
  · rename_i s hs
    cases h
    obtain ⟨_, rfl⟩ := hu
    simp only [Sem.run_bind, run_underlying hs, Result.andThen_ok, XC.den, Sem.run_pure, goInt]
    rfl
  · rename_i k e cs hs
    cases h
    obtain ⟨_, rfl⟩ := hu
    simp only [Sem.run_bind, run_underlying hs, Result.andThen_ok, Sem.run_pure, goInt]
  · rename_i arr i o hs
    split at h
    · rename_i k e hk
      cases h
      obtain ⟨_, rfl⟩ := hu
      simp only [Sem.run_bind, run_underlying hs, Result.andThen_ok, XC.den, Sem.run_pure, goInt, run_underlying hk]
    · cases h
  · rename_i e hs
    cases h
    obtain ⟨_, rfl⟩ := hu
    simp only [Sem.run_bind, run_underlying hs, Result.andThen_ok, XC.den, Sem.run_pure, goInt]
  · rename_i e i o k cap hs
    cases h
    obtain ⟨_, rfl⟩ := hu
    cases cap <;> simp only [Sem.run_bind, run_underlying hs, Result.andThen_ok, XC.den, Sem.run_pure, goInt]
  · rename_i k e hs
    cases h
    obtain ⟨_, rfl⟩ := hu
    simp only [Sem.run_bind, run_underlying hs, Result.andThen_ok, XC.den, Sem.run_pure, goInt]
    rfl
  · cases h

def xbuiltin (P : Program) (b : Builtin) (ts : Array TypeId) (args : List XV) : Option XV :=
  match b, args with
  | .len, x :: _ => match ts[0]? with
    | some t => (xlen P t x).map fun (n : Nat) => XV.one (.int .i64 (n : Int))
    | .none => .none
  | .min, .one (.int k x) :: rest => (xmin (.int k x) rest).map .one
  | .max, .one (.int k x) :: rest => (xmax (.int k x) rest).map .one
  | .complex, [.one (.flt k a), .one (.flt k' b)] => if k = k' then some (.one (.cplx k a b)) else .none
  | .real, [.one (.cplx k a _)] => some (.one (.flt k a))
  | .imag, [.one (.cplx k _ b)] => some (.one (.flt k b))
  | _, _ => .none

theorem All2.head {α γ : Type} {R : α → γ → Prop} {a : α} {l : List α} {vs : List γ} (h : All2 R (a :: l) vs) : ∃ b k, vs = b :: k ∧ R a b ∧ All2 R l k := by
  cases h with
  | cons h1 h2 => exact ⟨_, _, rfl, h1, h2⟩

theorem xbuiltin_sound {P : Program} {b : Builtin} {ts : Array TypeId} {args : List XV} {r : XV} (h : xbuiltin P b ts args = some r) {β : Env} {n : Nat} {vs : Array Value} (hv : All2 (RelV β n) args vs.toList) (ty : TypeId) (cs : Array Bool) (w : World) :
    ∃ z, (builtin b ts ty cs vs).run P w = .ok (.value z) w ∧ RelV β n r z := by
  obtain ⟨vs⟩ := vs
  simp only at hv
  unfold xbuiltin at h
  split at h
  · obtain ⟨u, k, rfl, h1, h2⟩ := hv.head
    split at h
    · rename_i t ht
      obtain ⟨m, hm, rfl⟩ := Option.map_eq_some_iff.1 h
      have := xlen_sound hm h1 (args := (u :: k).toArray) ht (by simp) ty w
      exact ⟨_, by simp only [builtin, Sem.run_bind, this, Result.andThen_ok, Sem.run_pure]; rfl, trivial, rfl⟩
    · cases h
  · obtain ⟨u, k, rfl, h1, h2⟩ := hv.head
    obtain ⟨c, hc, rfl⟩ := Option.map_eq_some_iff.1 h
    obtain ⟨_, rfl⟩ := h1
    obtain ⟨h3, h4⟩ := xmin_sound (P := P) w hc h2
    exact ⟨_, by simp only [builtin, Builtin.min_, XC.den, Sem.run_bind, h3, Result.andThen_ok, Sem.run_pure], h4, rfl⟩
  · obtain ⟨u, k, rfl, h1, h2⟩ := hv.head
    obtain ⟨c, hc, rfl⟩ := Option.map_eq_some_iff.1 h
    obtain ⟨_, rfl⟩ := h1
    obtain ⟨h3, h4⟩ := xmax_sound (P := P) w hc h2
    exact ⟨_, by simp only [builtin, Builtin.max_, XC.den, Sem.run_bind, h3, Result.andThen_ok, Sem.run_pure], h4, rfl⟩
  · rename_i kk aa kk' bb
    obtain ⟨u, k, rfl, h1, h2⟩ := hv.head
    obtain ⟨u', k', rfl, h3, h4⟩ := h2.head
    cases h4
    split at h
    · rename_i hk
      subst hk
      cases h
      obtain ⟨_, rfl⟩ := h1
      obtain ⟨_, rfl⟩ := h3
      have e : Builtin.complex_ ts ty [XC.den β (.flt kk aa), XC.den β (.flt kk bb)].toArray = pure (.complex kk aa bb) := by show (if _ = _ then _ else _) = _; rw [if_pos rfl]
      exact ⟨_, by simp only [builtin, e, Sem.run_bind, Result.andThen_ok, Sem.run_pure]; rfl, trivial, rfl⟩
    · cases h
  · obtain ⟨u, k, rfl, h1, h2⟩ := hv.head
    cases h2
    cases h
    obtain ⟨_, rfl⟩ := h1
    exact ⟨_, rfl, trivial, rfl⟩
  · obtain ⟨u, k, rfl, h1, h2⟩ := hv.head
    cases h2
    cases h
    obtain ⟨_, rfl⟩ := h1
    exact ⟨_, rfl, trivial, rfl⟩
  · cases h

/-- ALL OPERATIONS THAT LOOK AT NO MEMORY. -/
def xpure (P : Program) (ρ : Operand → XV) (op : Op) : Option XV :=
  match op with
  | .move x => some (ρ x)
  | .assign x => some (ρ x)
  | .pick c a b => match ρ c with
    | .one (.bool t) => some (if t then ρ a else ρ b)
    | _ => .none
  | .build t parts => xbuild P t (parts.toList.map fun p => (p.1, ρ p.2))
  | .nilCheck x => xnilCheck (ρ x)
  | .binOp op t x y _ => xbin P op t (ρ x) (ρ y)
  | .unOp op _ x => xun op (ρ x)
  | .convert s d x => xconvert P s d (ρ x)
  | .makeFunc (.func f) first caps => if first.isEmpty then (xbindAll (.fn f) (caps.toList.map ρ)).map .one else .none
  | .slice t x lo hi mx => xslice P t (ρ x) (lo.map ρ) (hi.map ρ) (mx.map ρ)
  | .fieldAddr s x f => xfieldAddr P s (ρ x) f
  | .field s x f => xfield P s (ρ x) f
  | .indexAddr t x i => xindexAddr P t (ρ x) (ρ i)
  | .index t x i => xindex P t (ρ x) (ρ i)
  | .extract x i => xextract (ρ x) i
  | .call ⟨.builtin b, args, ts⟩ => xbuiltin P b ts (args.toList.map ρ)
  | _ => .none

theorem optRel_map {β : Env} {n : Nat} {ρ : Operand → XV} {ev : Operand → Value} (hr : ∀ x, RelV β n (ρ x) (ev x)) : ∀ o : Option Operand, OptRel β n (o.map ρ) (o.map ev)
  | .none => .none
  | some x => .some (hr x)

theorem all2_map {β : Env} {n : Nat} {ρ : Operand → XV} {ev : Operand → Value} (hr : ∀ x, RelV β n (ρ x) (ev x)) : ∀ l : List Operand, All2 (RelV β n) (l.map ρ) (l.map ev)
  | [] => .nil
  | x :: l => .cons (hr x) (all2_map hr l)

theorem xpure_sound {P : Program} {ρ : Operand → XV} {o : Oper} {r : XV} (h : xpure P ρ o.op = some r) {β : Env} {n : Nat} {ev : Operand → Value} (hr : ∀ x, RelV β n (ρ x) (ev x)) (w : World) :
    ∃ z, (execOp ev o).run P w = .ok (.value z) w ∧ RelV β n r z := by
  unfold xpure at h
  split at h
  · rename_i x ho
    cases h
    exact ⟨_, by simp only [execOp, ho, Sem.run_pure], hr x⟩
  · rename_i x ho
    cases h
    exact ⟨_, by simp only [execOp, ho, Sem.run_pure], hr x⟩
  · rename_i c a b ho
    split at h
    · rename_i t hc
      cases h
      have := hr c
      rw [hc] at this
      obtain ⟨_, h2⟩ := this
      refine ⟨if t then ev a else ev b, by simp only [execOp, ho, h2, XC.den, asBool, Sem.run_bind, Sem.run_pure, Result.andThen_ok], ?_⟩
      cases t
      · exact hr b
      · exact hr a
    · cases h
  · rename_i t parts ho
    obtain ⟨z, hz, hz2⟩ := xbuild_sound h (vs := parts.map fun (i, x) => (i, ev x)) (by
      rw [Array.toList_map]
      exact All2.map_same _ _ _ fun p _ => ⟨rfl, hr p.2⟩) w
    exact ⟨z, by simp only [execOp, ho, Sem.run_bind, hz, Result.andThen_ok, Sem.run_pure], hz2⟩
  · rename_i x ho
    exact xnilCheck_sound h ho (hr x) w
  · rename_i op t x y t' ho
    obtain ⟨h1, z, hz, hz2⟩ := xbin_sound h (hr x) (hr y) x y w
    exact ⟨z, by simp only [execOp, ho, Sem.run_bind, h1, hz, Result.andThen_ok, Sem.run_pure], hz2⟩
  · rename_i op t x ho
    obtain ⟨z, hz, hz2⟩ := xun_sound (P := P) h (hr x) w
    exact ⟨z, by simp only [execOp, ho, Sem.run_bind, hz, Result.andThen_ok, Sem.run_pure], hz2⟩
  · rename_i s d x ho
    obtain ⟨z, hz, hz2⟩ := xconvert_sound h (hr x) w
    exact ⟨z, by simp only [execOp, ho, Sem.run_bind, hz, Result.andThen_ok, Sem.run_pure], hz2⟩
  · rename_i f first caps ho
    split at h
    · rename_i hf
      obtain ⟨c, hc, rfl⟩ := Option.map_eq_some_iff.1 h
      have hl : All2 (RelV β n) (caps.toList.map ρ) (caps.toList.map ev) := all2_map hr _
      obtain ⟨h1, h2⟩ := xbindAll_sound hc (f := f) (cs := []) rfl trivial hl
      have hfe : first = #[] := by simpa using hf
      refine ⟨c.den β, ?_, h1, rfl⟩
      rw [h2]
      have e : caps.map ev = (List.map ev caps.toList).toArray := by apply Array.toList_inj.1; simp
      simp [execOp, ho, Instr.makeFunc, hfe, e]
    · cases h
  · rename_i t x lo hi mx ho
    obtain ⟨z, hz, hz2⟩ := xslice_sound h (hr x) (optRel_map hr lo) (optRel_map hr hi) (optRel_map hr mx) w
    exact ⟨z, by simp only [execOp, ho, Sem.run_bind, hz, Result.andThen_ok, Sem.run_pure], hz2⟩
  · rename_i s x f ho
    obtain ⟨z, hz, hz2⟩ := xfieldAddr_sound h (hr x) w
    exact ⟨z, by simp only [execOp, ho, Sem.run_bind, hz, Result.andThen_ok, Sem.run_pure], hz2⟩
  · rename_i s x f ho
    obtain ⟨z, hz, hz2⟩ := xfield_sound h (hr x) w
    exact ⟨z, by simp only [execOp, ho, Sem.run_bind, hz, Result.andThen_ok, Sem.run_pure], hz2⟩
  · rename_i t x i ho
    obtain ⟨z, hz, hz2⟩ := xindexAddr_sound h (hr x) (hr i) w
    exact ⟨z, by simp only [execOp, ho, Sem.run_bind, hz, Result.andThen_ok, Sem.run_pure], hz2⟩
  · rename_i t x i ho
    obtain ⟨z, hz, hz2⟩ := xindex_sound h (hr x) (hr i) w
    exact ⟨z, by simp only [execOp, ho, Sem.run_bind, hz, Result.andThen_ok, Sem.run_pure], hz2⟩
  · rename_i x i ho
    obtain ⟨z, hz, hz2⟩ := xextract_sound (P := P) h (hr x) w
    exact ⟨z, by simp only [execOp, ho, Sem.run_bind, hz, Result.andThen_ok, Sem.run_pure], hz2⟩
  · rename_i b args ts ho
    obtain ⟨z, hz, hz2⟩ := xbuiltin_sound h (vs := args.map ev) (by rw [Array.toList_map]; exact all2_map hr _) o.type (args.map fun | .const _ => true | _ => false) w
    refine ⟨z, ?_, hz2⟩
    simp only [execOp, ho, resolve, invoke, Sem.run_bind, Sem.run_pure, Result.andThen_ok]
    exact hz
  · cases h

end Go.Xm
