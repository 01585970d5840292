/-
  The second machine: one operation of whatever kind, a call among them.
-/
import Derived.Test.YtaepmifmcohhgaaXmWrite4
namespace Go.Xm
set_option linter.unusedSectionVars false
variable [Atoms]

/-- What a memory may come to. -/
inductive Chg : Mem → Mem → Prop where
  | same (m : Mem) : Chg m m
  | put (m : Mem) (i : Nat) (o : XObj) : Chg m (m.put i o)
  | push {m m' : Mem} {o : XObj} : m.push o = some m' → Chg m m'
  | trans {a b c : Mem} : Chg a b → Chg b c → Chg a c

theorem Chg.mono {m m' : Mem} (h : Chg m m') : m.Fresh → Mono m m' ∧ m'.Fresh := by
  induction h with
  | same m => exact fun hf => ⟨Mono.refl m, hf⟩
  | put m i o => exact fun hf => ⟨Mono.put m i o, Fresh.put hf o⟩
  | push hp => exact fun hf => ⟨Mono.push hf hp, Fresh.push hf hp⟩
  | trans _ _ ih1 ih2 =>
    intro hf
    obtain ⟨h1, h2⟩ := ih1 hf
    obtain ⟨h3, h4⟩ := ih2 h2
    exact ⟨h1.trans h3, h4⟩

theorem xwrite_chg {P : Program} {ρ : Operand → XV} {op : Op} {m m' : Mem} {r : XV} (h : xwrite P ρ op m = some (r, m')) : Chg m m' := by
  unfold xwrite xalloc xbox xnew xstore xbuildSlice xmakeMap xmapUpdate xmakeSlice xappend xcopy at h
  (repeat' split at h) <;> first
    | (cases h; done)
    | (cases h; exact .same _)
    | (cases h; exact .put _ _ _)
    | (cases h; exact .push ‹_›)
    | (cases h; exact .trans (.put _ _ _) (.push ‹_›))

end Go.Xm
