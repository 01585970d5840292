/-
  fate.Told: of a mask: whether the sums tell it; the document's bits of bytes.
-/
import Derived.Test.YtaepmifmcohhgaaFateOne
namespace Go.Proofs.Ytaepmifmcohhgaa
open Go.Xm
set_option linter.unusedVariables false
set_option linter.unusedSectionVars false
set_option linter.unusedSimpArgs false
variable [Atoms]

abbrev ByteL (l : List Int) : Prop := ∀ p, 0 ≤ l.getD p 0 ∧ l.getD p 0 < 256
theorem one_at {HS : Heap} {l : List Int} (hl : ByteL l) {o : XObj} (ho : RO o .u8 l) {c : XC} {i off n : Nat} (hc : SlOf c i off n) (hi : HS[i]? = some o) (hn : off + n ≤ l.length) (hs : n ≤ 1000) (hb : Nat.blt HS.length Mem.bound = true) :
    Inst.Sound Try.prog ⟨19, [.one c], HS, .one (.bool (oneB (fun i => bitAt l (8 * off + i)) (8 * n))), HS, []⟩ := by
  obtain ⟨c0, h0, rfl⟩ := hc.backN 0 (nth [i]) rfl
  have hfo := ho.flat
  exact inst_rd [i] (one_con l hl o ho c0 off n h0 hn hs) (by simp) (.flat hi .nil) (.flat .nil) (.cons (h0.ok (Nat.le_of_ble_eq_true rfl)) .nil) (.cons rfl .nil) trivial rfl hb rfl

theorem compat_one {l : List Int} {c c' : XC} {i off off' n n' : Nat} {HS : Heap} (h : SlOf c i off n) (h' : SlOf c' i off' n') : Compat ⟨19, [.one c], HS, .one (.bool (oneB (fun i => bitAt l (8 * off + i)) (8 * n))), HS, []⟩ ⟨19, [.one c'], HS, .one (.bool (oneB (fun i => bitAt l (8 * off' + i)) (8 * n'))), HS, []⟩ := by
  intro _ ha _
  simp only [List.cons.injEq, XV.one.injEq, and_true] at ha
  subst ha
  obtain ⟨rfl, h0 | ⟨rfl, _⟩⟩ := h.same h'
  · subst h0; exact ⟨rfl, rfl, rfl⟩
  · exact ⟨rfl, rfl, rfl⟩
/-- A part's bits are told. -/
def partB (l : List Int) (p q : Nat) : Bool := oneB (fun i => bitAt l (8 * p + i)) (8 * (q - p))
def toldB (l : List Int) (a b : Nat) : Bool := partB l 0 (min a l.length) && partB l (min a l.length) (min (a + b) l.length)

set_option maxRecDepth 10000 in
theorem told_con (l : List Int) (hl : ByteL l) (o : XObj) (ho : RO o .u8 l) (c : XC) (hc : SlOf c 0 0 l.length) (hs : l.length ≤ 1000) (a b : Nat) (ha : a ≤ 1000) (hb : b ≤ 1000) :
    Con Try.prog 10 [.one c, .one (.int .i64 (a : Nat)), .one (.int .i64 (b : Nat))] [o] (.one (.bool (toldB l a b))) [o] := by
  have hfo := ho.flat
  refine con_of_wx Try.func10 rfl (Nat.le_of_ble_eq_true rfl) (Nat.le_of_ble_eq_true rfl) (Nat.le_of_ble_eq_true rfl) (Nat.le_of_ble_eq_true rfl) ?_
  repeat' (first
   |(refine qz ?_;first
     |(refine qg ?_;first|refine skp ?_|refine skp0 ?_)
     |refine slS (p := 0) (q := min a l.length) (fun c1 hc1 => ?_)
     |refine slS (p := min a l.length) (q := min (a + b) l.length) (fun c2 hc2 => ?_)
     |refine clB (fun h1 => ?_) (fun h1 => ?_) (hi := by exact one_at hl ho hc1 rfl (by omega) (by omega) rfl)
     |refine clB (fun h2 => ?_) (fun h2 => ?_) (hi := by exact one_at hl ho hc2 rfl (by omega) (by omega) rfl)
     |(refine q4 ?_;first|(refine t0 ?_;first|refine mv1 ?_|refine as1 ?_|refine mvA ?_|refine asA ?_|refine mvT ?_|refine asT ?_)|(refine t1 ?_;first|refine ldI ?_|refine ldT ?_|refine ldV ?_|refine ld ?_|refine ldW ?_|refine ldA ?_|refine ldR ?_)|(refine t2 ?_;first|refine stI ?_|refine stT ?_|refine st ?_|refine stW ?_)|(refine t3 ?_;first|refine ixs ?_|refine ixa ?_|refine ixS ?_|refine ixV ?_)|refine fa ?_)
     |(refine q15 ?_;first|refine ad ?_|refine sb ?_|refine ml ?_|refine qu ?_|refine re ?_|refine sr ?_|refine sl_ ?_|refine an 1 ?_|refine an 2 ?_|refine an 3 ?_|refine an 4 ?_|refine an 5 ?_|refine an 6 ?_|refine an 8 ?_|refine an 7 ?_|refine xr ?_|refine or_ ?_|refine an_ ?_)
     |(refine q21 ?_;first|refine cT ?_|refine cF ?_|refine cX (fun _=>?_) (fun _=>?_)|refine beq_ ?_|refine bne_ ?_)
     |(refine q28 ?_;first|refine pkT ?_|refine pkF ?_|refine nt_ ?_|refine cv ?_|refine xt1 ?_|refine xtA ?_|refine nl ?_|refine fd ?_|refine fdA ?_)
     |(refine q33 ?_;first|(refine t30 ?_;first|refine lns ?_|refine lnS ?_|refine lnV ?_|refine lnn ?_)|refine mxl ?_|refine mxr ?_|refine mx_ ?_|refine mnl ?_|refine mnr ?_|refine mn_ ?_|refine apI ?_)|refine b0 ?_|refine b0A ?_|refine bS ?_|refine bA ?_|refine bF ?_|refine bs1I ?_|refine bs1 ?_|refine al_ ?_|refine bx ?_|refine mm ?_|refine msI ?_|refine clo2 ?_|refine clo ?_|refine mpB ?_|refine lkB (fun _=>?_) (fun _=>?_))
   |refine sk_last (by first|exact Consistent.nil|exact Consistent.one _|exact Consistent.ofL (by repeat' (first|exact True.intro|refine And.intro ?_ ?_|exact Compat.ne rfl|exact compat_one hc2 hc1))) ⟨by kernel_rfl,?_⟩|refine sk_last (by first|exact Consistent.nil|exact Consistent.one _|exact Consistent.ofL (by repeat' (first|exact True.intro|refine And.intro ?_ ?_|exact Compat.ne rfl|exact compat_one hc2 hc1))) ?_|refine wS ?_|refine wA ?_|refine wD ?_|refine wT ?_|refine wF ?_|refine wK ?_|refine wB ?_|refine wE ?_|refine wR ?_)
  all_goals
    show KCon _ _ _ _ _ _ _ _; refine kcon_leave (junk := _) (by first|exact .inr rfl|exact .inl rfl) (by first|exact fun m hm => rfl|exact ResL.one rfl (.cell rfl rfl (load_whole rfl) .nil)|exact ResL.two rfl (.cell rfl rfl (load_whole rfl) (.tmp rfl .nil))) ?_ (by first|exact trivial|exact slv_ok (Nat.le_of_ble_eq_true rfl)|simp [XV.okN,X1.ok,XC.ok]) rfl (AllOk.at (by repeat' (first|exact AllOk.nil|refine AllOk.flat ?_|refine AllOk.cons (by first|(simp [XObj.okN,XC.ok];done)|simp [XObj.okN,XC.ok, *]) ?_)))
    refine congrArg (fun b => XV.one (XC.bool b)) ?_
    unfold toldB partB
    first
      | (simp only [Nat.mul_one, Nat.zero_add, Nat.mul_zero] at h1 h2 ⊢; simp only [h1, h2]; rfl)
      | (simp only [Nat.mul_one, Nat.zero_add, Nat.mul_zero] at h1 ⊢; simp only [h1]; rfl)
end Go.Proofs.Ytaepmifmcohhgaa
