/-
  fate.one: of a part's mask: are its bits none, odd in number, or within sixteen.
-/
import Derived.Test.YtaepmifmcohhgaaFacts
import Derived.Test.YtaepmifmcohhgaaXvAuto
namespace Go.Proofs.Ytaepmifmcohhgaa
open Go.Xm
set_option linter.unusedVariables false
set_option linter.unusedSectionVars false
set_option linter.unusedSimpArgs false
variable [Atoms]

def bitAt (l : List Int) (i : Nat) : Bool := decide (l.getD (i / 8) 0 / 2 ^ (7 - i % 8) % 2 = 1)
/-- The first place, the last one, how many, of so many bits. -/
def oneSt (b : Nat → Bool) : Nat → Int × Int × Int
  | 0 => (-1, -1, 0)
  | i + 1 => if b i then (if (oneSt b i).1 < 0 then (i : Int) else (oneSt b i).1, i, (oneSt b i).2.2 + 1) else oneSt b i
def oneB (b : Nat → Bool) (n : Nat) : Bool := decide ((oneSt b n).2.2 = 0 ∨ (oneSt b n).2.2 % 2 = 1 ∨ (oneSt b n).2.1 - (oneSt b n).1 < 16)
theorem oneSt_bnd (b : Nat → Bool) : ∀ n, -1 ≤ (oneSt b n).1 ∧ (oneSt b n).1 ≤ (oneSt b n).2.1 ∧ (oneSt b n).2.1 < n ∧ 0 ≤ (oneSt b n).2.2 ∧ (oneSt b n).2.2 ≤ n
  | 0 => by simp [oneSt]
  | n + 1 => by
    have ih := oneSt_bnd b n
    unfold oneSt
    split
    · simp only []
      split <;> omega
    · omega

set_option maxRecDepth 10000 in
theorem one_con (l : List Int) (hl : ∀ p, 0 ≤ l.getD p 0 ∧ l.getD p 0 < 256) (o : XObj) (ho : RO o .u8 l) (c : XC) (off n : Nat) (hc : SlOf c 0 off n) (hn : off + n ≤ l.length) (hs : n ≤ 1000) :
    Con Try.prog 19 [.one c] [o] (.one (.bool (oneB (fun i => bitAt l (8 * off + i)) (8 * n)))) [o] := by
  have hfo := ho.flat
  refine con_of_wx Try.func19 rfl (Nat.le_of_ble_eq_true rfl) (Nat.le_of_ble_eq_true rfl) (Nat.le_of_ble_eq_true rfl) (Nat.le_of_ble_eq_true rfl) ?_
  repeat' (first
   |(refine qz ?_;first
     |(refine qg ?_;first|refine skp ?_|refine skp0 ?_)
     |(refine q4 ?_;first|(refine t0 ?_;first|refine mv1 ?_|refine as1 ?_|refine mvA ?_|refine asA ?_|refine mvT ?_|refine asT ?_)|(refine t1 ?_;first|refine ldI ?_|refine ldT ?_|refine ldV ?_|refine ld ?_|refine ldW ?_|refine ldA ?_|refine ldR ?_)|(refine t2 ?_;first|refine stI ?_|refine stT ?_|refine st ?_|refine stW ?_)|(refine t3 ?_;first|refine ixs ?_|refine ixa ?_|refine ixS ?_|refine ixV ?_)|refine fa ?_)
     |(refine q15 ?_;first|refine ad ?_|refine sb ?_|refine ml ?_|refine qu ?_|refine re ?_|refine sr ?_|refine sl_ ?_|refine an 1 ?_|refine an 2 ?_|refine an 3 ?_|refine an 4 ?_|refine an 5 ?_|refine an 6 ?_|refine an 8 ?_|refine an 7 ?_|refine xr ?_|refine or_ ?_|refine an_ ?_)
     |(refine q21 ?_;first|refine cT ?_|refine cF ?_|refine cX (fun _=>?_) (fun _=>?_)|refine beq_ ?_|refine bne_ ?_)
     |(refine q28 ?_;first|refine pkT ?_|refine pkF ?_|refine nt_ ?_|refine cv ?_|refine xt1 ?_|refine xtA ?_|refine nl ?_|refine fd ?_|refine fdA ?_)
     |(refine q33 ?_;first|(refine t30 ?_;first|refine lns ?_|refine lnS ?_|refine lnV ?_|refine lnn ?_)|refine mxl ?_|refine mxr ?_|refine mx_ ?_|refine mnl ?_|refine mnr ?_|refine mn_ ?_|refine apI ?_)|refine b0 ?_|refine b0A ?_|refine bS ?_|refine bA ?_|refine bF ?_|refine bs1I ?_|refine bs1 ?_|refine al_ ?_|refine bx ?_|refine mm ?_|refine msI ?_|refine clo2 ?_|refine clo ?_|refine mpB ?_|refine lkB (fun _=>?_) (fun _=>?_))
   |refine sk_last (by first|exact Consistent.nil|exact Consistent.one _|exact Consistent.ofL (by repeat' (first|exact True.intro|refine And.intro ?_ ?_|exact Compat.ne rfl))) ⟨by kernel_rfl,?_⟩|refine sk_last (by first|exact Consistent.nil|exact Consistent.one _|exact Consistent.ofL (by repeat' (first|exact True.intro|refine And.intro ?_ ?_|exact Compat.ne rfl))) ?_|refine wS ?_|refine wA ?_|refine wD ?_|refine wT ?_|refine wF ?_|refine wK ?_|refine wB ?_|refine wE ?_|refine wR ?_)
  refine WX.loopW (σ := Nat × Int × Int × Int) (fun s => [(0, .one c), (9, .one (.int .i64 ((n : Nat) * 8))), (3, .one (.int .i64 s.2.1)), (4, .one (.int .i64 s.2.2.1)), (5, .one (.int .i64 s.2.2.2)), (10, .one (.int .i64 (s.1 : Nat)))]) (fun _ => [o]) (fun s => s.1 ≤ 8 * n ∧ s.2 = oneSt (fun i => bitAt l (8 * off + i)) s.1) (fun s => 8 * n - s.1) (0, -1, -1, 0) ⟨by omega, rfl⟩ (fun s _ => (StOk.mk rfl rfl (by repeat' (first|exact AllOk.nil|refine AllOk.flat ?_|refine AllOk.cons (by first|(simp [XObj.okN,XC.ok];done)|simp [XObj.okN,XC.ok, *]) ?_)) (by repeat' (first|exact RegOk.nil|refine RegOk.flat ?_|refine RegOk.cons (by first|exact trivial|exact slv_ok (Nat.le_of_ble_eq_true rfl)|exact SlOf.ok ‹_› (Nat.le_of_ble_eq_true rfl)|simp [XV.okN,XC.ok,X1.ok]) ?_)))) (GoTo.mk (τl := [0]) (by decide) rfl (by repeat' (first|exact ObjsVia.nil|refine ObjsVia.flat rfl ?_|refine ObjsVia.cons rfl ?_|refine ObjsVia.dead rfl ?_)) (by repeat' (first|exact RegsVia.nil|refine RegsVia.flat rfl ?_|refine RegsVia.cons rfl ?_|refine RegsVia.sl rfl (by assumption) rfl ?_|refine RegsVia.slvE rfl rfl (by first|rfl|omega|(simp;done)|(simp;omega)) ?_))) ?_
  intro s ⟨hj, hst⟩ ih
  have hb := oneSt_bnd (fun i => bitAt l (8 * off + i)) s.1
  rw [← hst] at hb
  have hlp := hl (off + ((s.1 : Int) / 8).toNat)
  have hbit : s.1 < 8 * n → bitAt l (8 * off + s.1) = decide (l.getD (off + ((s.1 : Int) / 8).toNat) 0 / 2 ^ (7 - (s.1 : Int) % 8).toNat % 2 ^ 1 = 1) := fun _ => by
    unfold bitAt
    rw [show (8 * off + s.1) / 8 = off + ((s.1 : Int) / 8).toNat by omega, show 7 - (8 * off + s.1) % 8 = (7 - (s.1 : Int) % 8).toNat by omega]
    rfl
  have hnx : ∀ t, s.1 < 8 * n → (bitAt l (8 * off + s.1) = true → t = ((if s.2.1 < 0 then (s.1 : Int) else s.2.1), (s.1 : Int), s.2.2.2 + 1)) → (bitAt l (8 * off + s.1) = false → t = s.2) → t = oneSt (fun i => bitAt l (8 * off + i)) (s.1 + 1) := fun t hlt h1 h2 => by
    unfold oneSt
    rw [← hst]
    cases hbv : bitAt l (8 * off + s.1) with
    | true => simp only [if_true]; exact h1 hbv
    | false => simp only [Bool.false_eq_true, if_false]; exact h2 hbv
  repeat' (first
   |(refine qz ?_;first
     |(refine qg ?_;first|refine skp ?_|refine skp0 ?_)
     |(refine q4 ?_;first|(refine t0 ?_;first|refine mv1 ?_|refine as1 ?_|refine mvA ?_|refine asA ?_|refine mvT ?_|refine asT ?_)|(refine t1 ?_;first|refine ldI ?_|refine ldT ?_|refine ldV ?_|refine ld ?_|refine ldW ?_|refine ldA ?_|refine ldR ?_)|(refine t2 ?_;first|refine stI ?_|refine stT ?_|refine st ?_|refine stW ?_)|(refine t3 ?_;first|refine ixs ?_|refine ixa ?_|refine ixS ?_|refine ixV ?_)|refine fa ?_)
     |(refine q15 ?_;first|refine ad ?_|refine sb ?_|refine ml ?_|refine qu ?_|refine re ?_|refine sr ?_|refine sl_ ?_|refine an 1 ?_|refine an 2 ?_|refine an 3 ?_|refine an 4 ?_|refine an 5 ?_|refine an 6 ?_|refine an 8 ?_|refine an 7 ?_|refine xr ?_|refine or_ ?_|refine an_ ?_)
     |(refine q21 ?_;first|refine cT ?_|refine cF ?_|refine cX (fun _=>?_) (fun _=>?_)|refine beq_ ?_|refine bne_ ?_)
     |(refine q28 ?_;first|refine pkT ?_|refine pkF ?_|refine nt_ ?_|refine cv ?_|refine xt1 ?_|refine xtA ?_|refine nl ?_|refine fd ?_|refine fdA ?_)
     |(refine q33 ?_;first|(refine t30 ?_;first|refine lns ?_|refine lnS ?_|refine lnV ?_|refine lnn ?_)|refine mxl ?_|refine mxr ?_|refine mx_ ?_|refine mnl ?_|refine mnr ?_|refine mn_ ?_|refine apI ?_)|refine b0 ?_|refine b0A ?_|refine bS ?_|refine bA ?_|refine bF ?_|refine bs1I ?_|refine bs1 ?_|refine al_ ?_|refine bx ?_|refine mm ?_|refine msI ?_|refine clo2 ?_|refine clo ?_|refine mpB ?_|refine lkB (fun _=>?_) (fun _=>?_))
   |refine sk_last (by first|exact Consistent.nil|exact Consistent.one _|exact Consistent.ofL (by repeat' (first|exact True.intro|refine And.intro ?_ ?_|exact Compat.ne rfl))) ⟨by kernel_rfl,?_⟩|refine sk_last (by first|exact Consistent.nil|exact Consistent.one _|exact Consistent.ofL (by repeat' (first|exact True.intro|refine And.intro ?_ ?_|exact Compat.ne rfl))) ?_|refine wS ?_|refine wA ?_|refine wD ?_|refine wT ?_|refine wF ?_|refine wK ?_|refine wB ?_|refine wE ?_|refine wR ?_)
  · rename_i h1 h2 h3
    have hlt : s.1 < 8 * n := by omega
    refine ih (s.1 + 1, s.1, s.1, s.2.2.2 + 1) _ _ _ (GoTo.mk (τl := [0]) (by decide) rfl (by repeat' (first|exact ObjsVia.nil|refine ObjsVia.flat rfl ?_|refine ObjsVia.cons rfl ?_|refine ObjsVia.dead rfl ?_)) (by repeat' (first|exact RegsVia.nil|refine RegsVia.flat rfl ?_|refine RegsVia.cons rfl ?_|refine RegsVia.sl rfl (by assumption) rfl ?_|refine RegsVia.slvE rfl rfl (by first|rfl|omega|(simp;done)|(simp;omega)) ?_))) ⟨by show s.1 + 1 ≤ _; omega, ?_⟩ (by show _ - (s.1 + 1) < _; omega)
    refine hnx _ hlt (fun _ => by rw [if_pos h3]) fun hf => ?_
    rw [hbit hlt] at hf
    exact absurd h2 (of_decide_eq_false hf)
  · rename_i h1 h2 h3
    have hlt : s.1 < 8 * n := by omega
    refine ih (s.1 + 1, s.2.1, s.1, s.2.2.2 + 1) _ _ _ (GoTo.mk (τl := [0]) (by decide) rfl (by repeat' (first|exact ObjsVia.nil|refine ObjsVia.flat rfl ?_|refine ObjsVia.cons rfl ?_|refine ObjsVia.dead rfl ?_)) (by repeat' (first|exact RegsVia.nil|refine RegsVia.flat rfl ?_|refine RegsVia.cons rfl ?_|refine RegsVia.sl rfl (by assumption) rfl ?_|refine RegsVia.slvE rfl rfl (by first|rfl|omega|(simp;done)|(simp;omega)) ?_))) ⟨by show s.1 + 1 ≤ _; omega, ?_⟩ (by show _ - (s.1 + 1) < _; omega)
    refine hnx _ hlt (fun _ => by rw [if_neg h3]) fun hf => ?_
    rw [hbit hlt] at hf
    exact absurd h2 (of_decide_eq_false hf)
  · rename_i h1 h2
    have hlt : s.1 < 8 * n := by omega
    refine ih (s.1 + 1, s.2) _ _ _ (GoTo.mk (τl := [0]) (by decide) rfl (by repeat' (first|exact ObjsVia.nil|refine ObjsVia.flat rfl ?_|refine ObjsVia.cons rfl ?_|refine ObjsVia.dead rfl ?_)) (by repeat' (first|exact RegsVia.nil|refine RegsVia.flat rfl ?_|refine RegsVia.cons rfl ?_|refine RegsVia.sl rfl (by assumption) rfl ?_|refine RegsVia.slvE rfl rfl (by first|rfl|omega|(simp;done)|(simp;omega)) ?_))) ⟨by show s.1 + 1 ≤ _; omega, ?_⟩ (by show _ - (s.1 + 1) < _; omega)
    refine hnx _ hlt (fun ht => ?_) fun _ => rfl
    rw [hbit hlt] at ht
    exact absurd (of_decide_eq_true ht) h2
  all_goals
    obtain he : s.1 = 8 * n := by omega
    rw [he] at hst
    show KCon _ _ _ _ _ _ _ _; refine kcon_leave (junk := _) (by first|exact .inr rfl|exact .inl rfl) (by first|exact fun m hm => rfl|exact ResL.one rfl (.cell rfl rfl (load_whole rfl) .nil)|exact ResL.two rfl (.cell rfl rfl (load_whole rfl) (.tmp rfl .nil))) ?_ (by first|exact trivial|exact slv_ok (Nat.le_of_ble_eq_true rfl)|simp [XV.okN,X1.ok,XC.ok]) rfl (AllOk.at (by repeat' (first|exact AllOk.nil|refine AllOk.flat ?_|refine AllOk.cons (by first|(simp [XObj.okN,XC.ok];done)|simp [XObj.okN,XC.ok, *]) ?_)))
    refine congrArg (fun b => XV.one (XC.bool b)) ?_
    unfold oneB
    rw [← hst]
    symm
    first
      | exact decide_eq_true (by omega)
      | exact decide_eq_false (by omega)
end Go.Proofs.Ytaepmifmcohhgaa
