/-
  The second machine: all operations that look at no memory, as one function, and what it says of the model's.
-/
import Derived.Test.YtaepmifmcohhgaaXmOpA
namespace Go.Xm
set_option linter.unusedSectionVars false
variable [Atoms]

/-! ### Filling a value's cells -/

def xfill (place : Nat → Option (Nat × Nat)) (cells : List XC) : List (Nat × XV) → Option (List XC)
  | [] => some cells
  | (i, v) :: rest =>
    match place i, xcells v with
    | some (off, size), some cs =>
      if cs.length = size ∧ off + cs.length ≤ cells.length then xfill place (cells.take off ++ cs ++ cells.drop (off + cs.length)) rest else .none
    | _, _ => .none

theorem fold_set (off : Nat) : ∀ (cs : List Value) (k : Nat) (cells : Array Value), off + k + cs.length ≤ cells.size →
    ((cs.zipIdx k).foldl (fun acc (p : Value × Nat) => acc.setIfInBounds (off + p.2) p.1) cells).toList = cells.toList.take (off + k) ++ cs ++ cells.toList.drop (off + k + cs.length)
  | [], k, cells, _ => by simp
  | c :: cs, k, cells, h => by
    simp only [List.length_cons] at h
    rw [List.zipIdx_cons, List.foldl_cons, fold_set off cs (k + 1) _ (by simp; omega)]
    simp only [Array.toList_setIfInBounds, List.length_cons]
    have hlt : off + k < cells.toList.length := by simp; omega
    have e1 : (cells.toList.set (off + k) c).take (off + (k + 1)) = cells.toList.take (off + k) ++ [c] := by
      rw [show off + (k + 1) = off + k + 1 by omega, List.take_succ_eq_append_getElem (by simpa using hlt), List.take_set_of_le (Nat.le_refl _)]
      simp
    have e2 : (cells.toList.set (off + k) c).drop (off + (k + 1) + cs.length) = cells.toList.drop (off + k + (cs.length + 1)) := by
      rw [List.drop_set_of_lt (by omega), show off + (k + 1) + cs.length = off + k + (cs.length + 1) by omega]
    rw [e1, e2]
    simp

theorem zipIdx_fold (off : Nat) (cs cells : Array Value) (h : off + cs.size ≤ cells.size) :
    (cs.zipIdx.foldl (fun acc (c, j) => acc.setIfInBounds (off + j) c) cells) = (cells.toList.take off ++ cs.toList ++ cells.toList.drop (off + cs.size)).toArray := by
  have h1 := fold_set off cs.toList 0 cells (by simpa using h)
  simp only [Nat.add_zero] at h1
  apply Array.toList_inj.1
  rw [← Array.foldl_toList]
  simpa [Array.toList_zipIdx] using h1

theorem mem_splice {cells cs : List XC} {off k : Nat} {p : XC → Prop} (h1 : ∀ c ∈ cells, p c) (h2 : ∀ c ∈ cs, p c) : ∀ c ∈ cells.take off ++ cs ++ cells.drop k, p c := by
  intro c hc
  simp only [List.mem_append] at hc
  rcases hc with (hc | hc) | hc
  · exact h1 c (List.mem_of_mem_take hc)
  · exact h2 c hc
  · exact h1 c (List.mem_of_mem_drop hc)

theorem map_splice (f : XC → Value) (cells cs : List XC) (off k : Nat) : ((cells.map f).take off ++ cs.map f ++ (cells.map f).drop k) = (cells.take off ++ cs ++ cells.drop k).map f := by
  simp [List.map_take, List.map_drop]

theorem xfill_sound {β : Env} {n : Nat} {place : Nat → Option (Nat × Nat)} : ∀ {parts : List (Nat × XV)} {vs : List (Nat × Value)} {cells out : List XC}, xfill place cells parts = some out → (∀ c ∈ cells, c.ok n) →
    All2 (fun p q => p.1 = q.1 ∧ RelV β n p.2 q.2) parts vs →
    Instr.fill place (cells.map (·.den β)).toArray vs = some (out.map (·.den β)).toArray ∧ ∀ c ∈ out, c.ok n
  | [], vs, cells, out, h, hc, hr => by
    cases hr
    simp only [xfill, Option.some.injEq] at h
    subst h
    exact ⟨rfl, hc⟩
  | (i, v) :: rest, vs, cells, out, h, hc, hr => by
    cases hr with
    | cons h1 h2 =>
      rename_i q vs
      obtain ⟨j, u⟩ := q
      obtain ⟨rfl, hv⟩ := h1
      unfold xfill at h
      split at h
      · rename_i off size cs hp hx
        split at h
        · rename_i hl
          obtain ⟨e1, e2⟩ := xcells_rel hx hv
          unfold Instr.fill
          simp only [hp]
          have hsz : u.cells.size = cs.length := by rw [e1]; simp
          rw [if_neg (by rw [hsz]; simp [hl.1]; omega)]
          have hz := zipIdx_fold off u.cells (cells.map (·.den β)).toArray (by rw [hsz]; simpa using hl.2)
          rw [hz, hsz, e1]
          have := xfill_sound h (mem_splice hc e2) h2
          rw [← map_splice] at this
          exact this
        · cases h
      · cases h

/-- A function value, taken apart. -/
def xfn : XC → Option (FuncId × List XC)
  | .fn f => some (f, [])
  | .bind g c => match xfn g with
    | some (f, cs) => some (f, cs ++ [c])
    | .none => .none
  | _ => .none

theorem xfn_sound {n : Nat} (β : Env) : ∀ {c : XC} {f : FuncId} {cs : List XC}, xfn c = some (f, cs) → c.ok n → c.den β = .func (.func f) #[] (cs.map (·.den β)).toArray ∧ ∀ x ∈ cs, x.ok n
  | .fn f, _, _, h, _ => by simp only [xfn, Option.some.injEq, Prod.mk.injEq] at h; obtain ⟨rfl, rfl⟩ := h; exact ⟨rfl, by simp⟩
  | .bind g c, f, cs, h, hok => by
    unfold xfn at h
    split at h
    · rename_i f' cs' hg
      simp only [Option.some.injEq, Prod.mk.injEq] at h
      obtain ⟨rfl, rfl⟩ := h
      obtain ⟨h1, h2⟩ := xfn_sound β hg hok.1
      refine ⟨by simp [XC.den, h1], fun x hx => ?_⟩
      rcases List.mem_append.1 hx with hx | hx
      · exact h2 x hx
      · simp only [List.mem_singleton] at hx; subst hx; exact hok.2
    · cases h

def xbindAll (g : XC) : List XV → Option XC
  | [] => some g
  | .one c :: rest => xbindAll (.bind g c) rest
  | _ :: _ => .none

theorem xbindAll_sound {β : Env} {n : Nat} : ∀ {l : List XV} {vs : List Value} {g out : XC} {f : FuncId} {cs : List XC}, xbindAll g l = some out → xfn g = some (f, cs) → g.ok n → All2 (RelV β n) l vs →
    out.ok n ∧ out.den β = .func (.func f) #[] ((cs.map (·.den β)) ++ vs).toArray
  | [], vs, g, out, f, cs, h, hg, hok, hr => by
    cases hr
    simp only [xbindAll, Option.some.injEq] at h
    subst h
    exact ⟨hok, by simpa using (xfn_sound β hg hok).1⟩
  | .one c :: rest, vs, g, out, f, cs, h, hg, hok, hr => by
    cases hr with
    | cons h1 h2 =>
      rename_i v vs
      have := xbindAll_sound (g := .bind g c) (f := f) (cs := cs ++ [c]) h (by simp [xfn, hg]) ⟨hok, h1.1⟩ h2
      rw [h1.2]
      simpa using this
  | .undef :: _, _, _, _, _, _, h, _, _, _ => by simp [xbindAll] at h
  | .agg _ :: _, _, _, _, _, _, h, _, _, _ => by simp [xbindAll] at h
  | .tup _ :: _, _, _, _, _, _, h, _, _, _ => by simp [xbindAll] at h

end Go.Xm
