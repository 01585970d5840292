/-
  The second machine: the operations that look at no memory, last part, and all of them as one function.
-/
import Derived.Test.YtaepmifmcohhgaaXmOpD
namespace Go.Xm
set_option linter.unusedSectionVars false
variable [Atoms]

/-! ### Values of parts -/

def xplaces (P : Program) : List Field → Option (List (Nat × Nat))
  | [] => some []
  | f :: fs => match xsize P f.type, xplaces P fs with
    | some s, some l => some ((f.offset, s) :: l)
    | _, _ => .none

theorem xplaces_run {P : Program} (w : World) : ∀ {fs : List Field} {l : List (Nat × Nat)}, xplaces P fs = some l → (fs.mapM fun f => do pure (f.offset, ← sizeOf f.type) : Sem (List (Nat × Nat))).run P w = .ok l w
  | [], l, h => by simp only [xplaces, Option.some.injEq] at h; subst h; rfl
  | f :: fs, l, h => by
    unfold xplaces at h
    split at h
    · rename_i s l' hs hl
      cases h
      have := xplaces_run w hl
      simp only [List.mapM_cons, Sem.run_bind, xsize_run hs, Result.andThen_ok, Sem.run_pure, this]
    · cases h

def xbuild (P : Program) (t : TypeId) (parts : List (Nat × XV)) : Option XV :=
  match xzero P t, P.underlying t with
  | some zs, some (.struct fs) => match xplaces P fs.toList with
    | some l => (xfill (fun i => l[i]?) zs parts).map .agg
    | .none => .none
  | some zs, some (.array _ elem) => match xsize P elem with
    | some s => (xfill (fun i => some (i * s, s)) zs parts).map .agg
    | .none => .none
  | _, _ => .none

theorem xzero_run {P : Program} {t : TypeId} {zs : List XC} (h : xzero P t = some zs) (β : Env) (n : Nat) :
    ∃ i v, P.info? t = some i ∧ i.zero = some v ∧ v.cells = (zs.map (·.den β)).toArray ∧ ∀ c ∈ zs, c.ok n := by
  unfold xzero at h
  split at h
  · rename_i i hi
    split at h
    · rename_i v hv
      obtain ⟨h1, h2⟩ := ofCells_den h β n
      exact ⟨i, v, hi, hv, by rw [← h2], h1⟩
    · cases h
  · cases h

theorem zeroValue_run {P : Program} {t : TypeId} {i : TypeInfo} {v : Value} (hi : P.info? t = some i) (hv : i.zero = some v) (w : World) : (zeroValue t).run P w = .ok v w := by
  simp [zeroValue, typeInfo, hi, hv]

theorem xbuild_sound {P : Program} {t : TypeId} {parts : List (Nat × XV)} {r : XV} (h : xbuild P t parts = some r) {β : Env} {n : Nat} {vs : Array (Nat × Value)} (hp : All2 (fun p q => p.1 = q.1 ∧ RelV β n p.2 q.2) parts vs.toList) (w : World) :
    ∃ z, (Instr.build t vs).run P w = .ok z w ∧ RelV β n r z := by
  unfold xbuild at h
  split at h
  · rename_i zs fs hz hu
    split at h
    · rename_i l hl
      obtain ⟨cs, hc, rfl⟩ := Option.map_eq_some_iff.1 h
      obtain ⟨i, v, h1, h2, h3, h4⟩ := xzero_run hz β n
      obtain ⟨h5, h6⟩ := xfill_sound hc h4 hp
      have hpl := xplaces_run w hl
      refine ⟨_, ?_, h6, rfl⟩
      simp only [Instr.build, Sem.run_bind, zeroValue_run h1 h2, Result.andThen_ok, run_underlying hu]
      rw [Array.mapM_eq_mapM_toList]
      simp only [Sem.run_map, hpl, Result.andThen_ok]
      have : (fun (x : Nat) => l.toArray[x]?) = fun (i : Nat) => l[i]? := by funext i; simp
      simp only [h3, this, h5, Sem.run_pure]
    · cases h
  · rename_i zs len elem hz hu
    split at h
    · rename_i s hs
      obtain ⟨cs, hc, rfl⟩ := Option.map_eq_some_iff.1 h
      obtain ⟨i, v, h1, h2, h3, h4⟩ := xzero_run hz β n
      obtain ⟨h5, h6⟩ := xfill_sound hc h4 hp
      refine ⟨_, ?_, h6, rfl⟩
      simp only [Instr.build, Sem.run_bind, zeroValue_run h1 h2, Result.andThen_ok, run_underlying hu, xsize_run hs, h3, h5, Sem.run_pure]
    · cases h
  · cases h

/-! ### Slices of what has a known capacity -/

def xbnd (x : Option XV) (d y : Nat) : Option Nat :=
  match x with
  | .none => some d
  | some (.one (.int _ i)) => if 0 ≤ i ∧ i ≤ y then some i.toNat else .none
  | some _ => .none

theorem xbnd_some {P : Program} {x : XV} {d y i : Nat} (h : xbnd (some x) d y = some i) {β : Env} {n : Nat} {u : Value} (hu : RelV β n x u) (code : BoundsCode) (w : World) :
    (Instr.sliceBound u y code).run P w = .ok i w := by
  unfold xbnd at h
  split at h
  · rename_i he; cases he
  · rename_i k j he
    cases he
    split at h
    · rename_i hj
      cases h
      obtain ⟨_, rfl⟩ := hu
      simp only [Instr.sliceBound, XC.den, asIntOf, Sem.run_bind, Sem.run_pure, Result.andThen_ok, hj, and_self, if_true]
    · cases h
  · cases h

/-- low, high, max: the three numbers. -/
def xbounds (len cap : Nat) (lo hi mx : Option XV) : Option (Nat × Nat × Nat) :=
  match mx with
  | .none => match xbnd hi len cap with
    | some h => match xbnd lo 0 h with
      | some l => some (l, h, cap)
      | .none => .none
    | .none => .none
  | some m => match xbnd (some m) 0 cap, hi with
    | some m, some hi => match xbnd (some hi) 0 m with
      | some h => match xbnd lo 0 h with
        | some l => some (l, h, m)
        | .none => .none
      | .none => .none
    | _, _ => .none

inductive OptRel (β : Env) (n : Nat) : Option XV → Option Value → Prop where
  | none : OptRel β n .none .none
  | some {x : XV} {v : Value} : RelV β n x v → OptRel β n (some x) (some v)

theorem xbounds_sound {P : Program} {isSlice : Bool} {len cap : Nat} {lo hi mx : Option XV} {r : Nat × Nat × Nat} (h : xbounds len cap lo hi mx = some r) {β : Env} {n : Nat} {vl vh vm : Option Value}
    (h1 : OptRel β n lo vl) (h2 : OptRel β n hi vh) (h3 : OptRel β n mx vm) (w : World) : (Instr.sliceBounds isSlice len cap vl vh vm).run P w = .ok r w := by
  unfold xbounds at h
  cases h3 with
  | none =>
    simp only [] at h
    cases h2 with
    | none =>
      simp only [xbnd] at h
      cases h1 with
      | none => simp only [Option.some.injEq] at h; subst h; rfl
      | some hl =>
        split at h
        · rename_i l he
          cases h
          have := xbnd_some (P := P) he hl (if (none : Option Value).isSome then .slice3C else .sliceB) w
          simp only [Instr.sliceBounds, Sem.run_bind, Sem.run_pure, Result.andThen_ok, this]
        · cases h
    | some hh =>
      split at h
      · rename_i hv hh'
        have e2 := xbnd_some (P := P) hh' hh (if isSlice then .sliceAcap else .sliceAlen) w
        cases h1 with
        | none =>
          simp only [xbnd, Option.some.injEq] at h
          subst h
          simp only [Instr.sliceBounds, Sem.run_bind, Sem.run_pure, Result.andThen_ok, e2]
        | some hl =>
          split at h
          · rename_i l he
            cases h
            have e1 := xbnd_some (P := P) he hl (if (none : Option Value).isSome then .slice3C else .sliceB) w
            simp only [Instr.sliceBounds, Sem.run_bind, Sem.run_pure, Result.andThen_ok, e2, e1]
          · cases h
      · cases h
  | some hm =>
    rename_i xm vm
    simp only [] at h
    split at h
    · rename_i m hi' he3
      cases h2 with
      | some hh =>
        rename_i vh
        have e3 := xbnd_some (P := P) he3 hm (if isSlice then .slice3Acap else .slice3Alen) w
        split at h
        · rename_i hv he2
          have e2 := xbnd_some (P := P) he2 hh .slice3B w
          cases h1 with
          | none =>
            simp only [xbnd, Option.some.injEq] at h
            subst h
            simp only [Instr.sliceBounds, Sem.run_bind, Sem.run_pure, Result.andThen_ok, e2, e3]
          | some hl =>
            split at h
            · rename_i l he
              cases h
              have e1 := xbnd_some (P := P) he hl (if (some vm).isSome then .slice3C else .sliceB) w
              simp only [Instr.sliceBounds, Sem.run_bind, Sem.run_pure, Result.andThen_ok, e2, e1, e3]
            · cases h
        · cases h
    · cases h

/-- A slice of an array, or of a slice of known capacity, or of a string. -/
def xslice (P : Program) (t : TypeId) (x : XV) (lo hi mx : Option XV) : Option XV :=
  match P.underlying t, x with
  | some (.array k elem), .one (.ptr i o) => match xbounds k k lo hi mx, xsize P elem with
    | some (l, h, m), some s => some (.one (.slice i (if m = l then o else o + l * s) (h - l) (.exact (m - l))))
    | _, _ => .none
  | some (.slice elem), .one (.slice i o len (.exact cap)) => match xbounds len cap lo hi mx, xsize P elem with
    | some (l, h, m), some s => some (.one (.slice i (if m = l then o else o + l * s) (h - l) (.exact (m - l))))
    | _, _ => .none
  | some (.slice elem), .one .nils => match xbounds 0 0 lo hi mx, xsize P elem with
    | some (0, 0, 0), some _ => some (.one .nils)
    | _, _ => .none
  | some .string, .one (.str b) => match mx, xbounds b.length b.length lo hi .none with
    | .none, some (l, h, _) => some (.one (.str ((b.drop l).take (h - l))))
    | _, _ => .none
  | _, _ => .none

theorem bytes_extract (b : List UInt8) (l h : Nat) : (⟨b.toArray⟩ : ByteArray).extract l h = ⟨((b.drop l).take (h - l)).toArray⟩ := by
  apply ByteArray.ext
  rw [ByteArray.data_extract]
  apply Array.toList_inj.1
  simp [List.extract_eq_take_drop]

theorem xslice_sound {P : Program} {t : TypeId} {x r : XV} {lo hi mx : Option XV} (h : xslice P t x lo hi mx = some r) {β : Env} {n : Nat} {u : Value} {vl vh vm : Option Value} (hu : RelV β n x u)
    (h1 : OptRel β n lo vl) (h2 : OptRel β n hi vh) (h3 : OptRel β n mx vm) (w : World) : ∃ z, (Instr.sliceAt t u vl vh vm).run P w = .ok z w ∧ RelV β n r z := by
  unfold xslice at h
  split at h
  · rename_i k elem i o ht
    split at h
    · rename_i l hh m s hb hs
      cases h
      obtain ⟨hok, rfl⟩ := hu
      have hbd := xbounds_sound (P := P) (isSlice := false) hb h1 h2 h3 w
      refine ⟨_, ?_, hok, rfl⟩
      simp only [Instr.sliceAt, Sem.run_bind, run_underlying ht, Result.andThen_ok, XC.den, Instr.sureAddr, Sem.run_pure, hbd, xsize_run hs]
      split <;> simp [Addr.add_none, Nat.add_assoc]
    · cases h
  · rename_i elem i o len cap ht
    split at h
    · rename_i l hh m s hb hs
      cases h
      obtain ⟨hok, rfl⟩ := hu
      have hbd := xbounds_sound (P := P) (isSlice := true) hb h1 h2 h3 w
      refine ⟨_, ?_, hok, rfl⟩
      simp only [Instr.sliceAt, Instr.slice, Sem.run_bind, run_underlying ht, Result.andThen_ok, XC.den, Sem.run_pure, hbd, xsize_run hs]
      split <;> simp [Addr.add_none, Nat.add_assoc]
    · cases h
  · rename_i elem ht
    split at h
    · rename_i s hb hs
      cases h
      obtain ⟨hok, rfl⟩ := hu
      have hbd := xbounds_sound (P := P) (isSlice := true) hb h1 h2 h3 w
      refine ⟨_, ?_, trivial, rfl⟩
      simp only [Instr.sliceAt, Instr.slice, Sem.run_bind, run_underlying ht, Result.andThen_ok, XC.den, Sem.run_pure, hbd, xsize_run hs]
      rfl
    · cases h
  · rename_i b ht
    split at h
    · rename_i l hh m hb
      cases h
      cases h3
      obtain ⟨hok, rfl⟩ := hu
      have hbd := xbounds_sound (P := P) (isSlice := false) hb h1 h2 .none w
      refine ⟨_, ?_, trivial, rfl⟩
      have hsz : ByteArray.size (⟨b.toArray⟩ : ByteArray) = b.length := by show b.toArray.size = b.length; simp
      simp only [Instr.sliceAt, Instr.slice, Sem.run_bind, run_underlying ht, Result.andThen_ok, XC.den, Option.isSome_none, Bool.false_eq_true, if_false, Sem.run_pure, hsz, hbd, bytes_extract]
    · cases h
  · cases h

end Go.Xm
