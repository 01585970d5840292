/-
  The document's answer: of a mask's bits: odd in number, none, or within sixteen; and a closure that turns one bit.
-/
import Derived.Test.YtaepmifmcohhgaaFateBits
namespace Go.Proofs.Ytaepmifmcohhgaa
open Go.Xm
set_option linter.unusedVariables false
set_option linter.unusedSectionVars false
set_option linter.unusedSimpArgs false
variable [Atoms]

theorem ofBits_bnd (l : List Int) (n j : Nat) (h : j < 8 * n) : 0 ≤ (ofBits l n).getD j 0 ∧ (ofBits l n).getD j 0 < 2 := by
  rw [ofBits_get l n j h]; omega
theorem roOk_slo (o : XObj) (e : TypeId) (cs : List XC) : roOk [o] [o, slo e cs] = true := by
  cases cs <;> cases o <;> simp [roOk, XObj.live, XObj.own, slo]
theorem of_at {HS : Heap} {l : List Int} (hl : ByteL l) {o : XObj} (ho : RO o .u8 l) {c : XC} {i off n : Nat} (hc : SlOf c i off n) (hi : HS[i]? = some o) (hn : off + n ≤ l.length) (hs : n ≤ 1000) {N : Nat} (hN : HS.length = N) {HS' : Heap} (hh : putL HS [i] [o, slo 5 (il .u8 (ofBits (l.drop off) n))] = HS') (hb : Nat.blt HS'.length Mem.bound = true) :
    Inst.Sound Try.prog ⟨9, [.one c], HS, slv N (8 * n) 1, HS', [i]⟩ := by
  obtain ⟨c0, h0, rfl⟩ := hc.backN 0 (nth [i]) rfl
  subst hN
  have hfo := ho.flat
  exact inst_wr [i] [i] 1 (of_con l hl o ho c0 off n h0 hn hs) (by simp) (.flat hi .nil) (.flat .nil) (.flat (.flat .nil)) rfl (.cons (h0.ok (Nat.le_of_ble_eq_true rfl)) .nil) (.cons rfl .nil) (slv_ok (Nat.le_of_ble_eq_true rfl)) (slv_ren _ _ _ _) (.flat (.flat .nil)) (roOk_slo ..) rfl hh hb (.inl rfl)

/-- The places of ones. -/
def ats (b : Nat → Bool) : Nat → List Int
  | 0 => []
  | i + 1 => if b i then ats b i ++ [(i : Int)] else ats b i
def tellsB (b : Nat → Bool) (n : Nat) : Bool := decide ((ats b n).length % 2 = 1 ∨ (ats b n).length = 0 ∨ (ats b n).getD ((ats b n).length - 1) 0 - (ats b n).getD 0 0 < 16)
theorem ats_len (b : Nat → Bool) : ∀ n, (ats b n).length ≤ n
  | 0 => Nat.le_refl _
  | n + 1 => by
    have ih := ats_len b n
    unfold ats
    split
    · simp; omega
    · omega
theorem ats_bnd (b : Nat → Bool) : ∀ n j, j < (ats b n).length → 0 ≤ (ats b n).getD j 0 ∧ (ats b n).getD j 0 < n
  | 0, j, h => by simp [ats] at h
  | n + 1, j, h => by
    unfold ats at h ⊢
    split
    · rename_i hb
      rw [if_pos hb, List.length_append] at h
      by_cases hj : j < (ats b n).length
      · rw [List.getD_eq_getElem?_getD, List.getElem?_append_left hj, ← List.getD_eq_getElem?_getD]
        have := ats_bnd b n j hj
        omega
      · have e : j = (ats b n).length := by simp at h; omega
        subst e
        simp
        omega
    · rename_i hb
      rw [if_neg hb] at h
      have := ats_bnd b n j h
      omega

set_option maxRecDepth 10000 in
theorem tells_con (l : List Int) (hl : ByteL l) (o : XObj) (ho : RO o .u8 l) (c : XC) (off n : Nat) (hc : SlOf c 0 off n) (hn : off + n ≤ l.length) (hs : n ≤ 1000) :
    Con Try.prog 8 [.one c] [o] (.one (.bool (tellsB (fun i => decide ((ofBits (l.drop off) n).getD i 0 = 1)) (8 * n)))) [o] := by
  have hlen := ofBits_len (l.drop off) n
  have hfo := ho.flat
  refine con_of_wx Try.func8 rfl (Nat.le_of_ble_eq_true rfl) (Nat.le_of_ble_eq_true rfl) (Nat.le_of_ble_eq_true rfl) (Nat.le_of_ble_eq_true rfl) ?_
  repeat' (first
   |(refine qz ?_;first
     |(refine qg ?_;first|refine skp ?_|refine skp0 ?_)
     |refine cl ?_ (hi := by exact of_at hl ho hc rfl (by omega) (by omega) (by first|(simp only [List.length_cons,List.length_nil,List.length_append,List.length_set,Nat.reduceAdd,Nat.zero_add];exact rfl)|exact rfl) (by first|(simp only [putL,List.set_cons_succ,List.set_cons_zero,List.cons_append,List.nil_append];exact rfl)|exact rfl) rfl)
     |(refine q4 ?_;first|(refine t0 ?_;first|refine mv1 ?_|refine as1 ?_|refine mvA ?_|refine asA ?_|refine mvT ?_|refine asT ?_)|(refine t1 ?_;first|refine ldI ?_|refine ldT ?_|refine ldV ?_|refine ld ?_|refine ldW ?_|refine ldA ?_|refine ldR ?_)|(refine t2 ?_;first|refine stI ?_|refine stT ?_|refine st ?_|refine stW ?_)|(refine t3 ?_;first|refine ixs ?_|refine ixa ?_|refine ixS ?_|refine ixV ?_)|refine fa ?_)
     |(refine q15 ?_;first|refine ad ?_|refine sb ?_|refine ml ?_|refine qu ?_|refine re ?_|refine sr ?_|refine sl_ ?_|refine an 1 ?_|refine an 2 ?_|refine an 3 ?_|refine an 4 ?_|refine an 5 ?_|refine an 6 ?_|refine an 8 ?_|refine an 7 ?_|refine xr ?_|refine or_ ?_|refine an_ ?_)
     |(refine q21 ?_;first|refine cT ?_|refine cF ?_|refine cX (fun _=>?_) (fun _=>?_)|refine beq_ ?_|refine bne_ ?_)
     |(refine q28 ?_;first|refine pkT ?_|refine pkF ?_|refine nt_ ?_|refine cv ?_|refine xt1 ?_|refine xtA ?_|refine nl ?_|refine fd ?_|refine fdA ?_)
     |(refine q33 ?_;first|(refine t30 ?_;first|refine lns ?_|refine lnS ?_|refine lnV ?_|refine lnn ?_)|refine mxl ?_|refine mxr ?_|refine mx_ ?_|refine mnl ?_|refine mnr ?_|refine mn_ ?_|refine apI ?_)|refine b0 ?_|refine b0A ?_|refine bS ?_|refine bA ?_|refine bF ?_|refine bs1I ?_|refine bs1 ?_|refine al_ ?_|refine bx ?_|refine mm ?_|refine msI ?_|refine clo2 ?_|refine clo ?_|refine mpB ?_|refine lkB (fun _=>?_) (fun _=>?_))
   |refine sk_last (by first|exact Consistent.nil|exact Consistent.one _|exact Consistent.ofL (by repeat' (first|exact True.intro|refine And.intro ?_ ?_|exact Compat.ne rfl))) ⟨by kernel_rfl,?_⟩|refine sk_last (by first|exact Consistent.nil|exact Consistent.one _|exact Consistent.ofL (by repeat' (first|exact True.intro|refine And.intro ?_ ?_|exact Compat.ne rfl))) ?_|refine wS ?_|refine wA ?_|refine wD ?_|refine wT ?_|refine wF ?_|refine wK ?_|refine wB ?_|refine wE ?_|refine wR ?_)
  refine WX.reserve rfl ?_
  refine WX.loopW (σ := Nat × List Int) (fun s => [(7, slv 1 (8 * n) 1), (8, .one (.int .i64 ((8 * n : Nat)))), (3, slv 2 s.2.length 1), (9, .one (.int .i64 (s.1 : Nat)))]) (fun s => [o, slo 5 (il .u8 (ofBits (l.drop off) n)), slo 3 (il .i64 s.2)]) (fun s => s.1 ≤ 8 * n ∧ s.2 = ats (fun i => decide ((ofBits (l.drop off) n).getD i 0 = 1)) s.1) (fun s => 8 * n - s.1) (0, []) ⟨Nat.zero_le _, rfl⟩ (fun s _ => (StOk.mk rfl rfl (by repeat' (first|exact AllOk.nil|refine AllOk.flat ?_|refine AllOk.cons (by first|(simp [XObj.okN,XC.ok];done)|simp [XObj.okN,XC.ok, *]) ?_)) (by repeat' (first|exact RegOk.nil|refine RegOk.flat ?_|refine RegOk.cons (by first|exact trivial|exact slv_ok (Nat.le_of_ble_eq_true rfl)|exact SlOf.ok ‹_› (Nat.le_of_ble_eq_true rfl)|simp [XV.okN,XC.ok,X1.ok]) ?_)))) (GoTo.mk (τl := [0,1,2]) (by decide) rfl (by repeat' (first|exact ObjsVia.nil|refine ObjsVia.flat rfl ?_|refine ObjsVia.cons rfl ?_|refine ObjsVia.dead rfl ?_)) (by repeat' (first|exact RegsVia.nil|refine RegsVia.flat rfl ?_|refine RegsVia.cons rfl ?_|refine RegsVia.sl rfl (by assumption) rfl ?_|refine RegsVia.slvE rfl rfl (by first|rfl|omega|(simp;done)|(simp;omega)) ?_))) ?_
  intro s ⟨hj, hq⟩ ih
  have hal := ats_len (fun i => decide ((ofBits (l.drop off) n).getD i 0 = 1)) s.1
  rw [← hq] at hal
  have hbd := ats_bnd (fun i => decide ((ofBits (l.drop off) n).getD i 0 = 1)) s.1
  rw [← hq] at hbd
  have hb1 := hbd 0
  have hb2 := hbd ((s.2.length : Int) - 1).toNat
  repeat' (first
   |(refine qz ?_;first
     |(refine qg ?_;first|refine skp ?_|refine skp0 ?_)
     |(refine q4 ?_;first|(refine t0 ?_;first|refine mv1 ?_|refine as1 ?_|refine mvA ?_|refine asA ?_|refine mvT ?_|refine asT ?_)|(refine t1 ?_;first|refine ldI ?_|refine ldT ?_|refine ldV ?_|refine ld ?_|refine ldW ?_|refine ldA ?_|refine ldR ?_)|(refine t2 ?_;first|refine stI ?_|refine stT ?_|refine st ?_|refine stW ?_)|(refine t3 ?_;first|refine ixs ?_|refine ixa ?_|refine ixS ?_|refine ixV ?_)|refine fa ?_)
     |(refine q15 ?_;first|refine ad ?_|refine sb ?_|refine ml ?_|refine qu ?_|refine re ?_|refine sr ?_|refine sl_ ?_|refine an 1 ?_|refine an 2 ?_|refine an 3 ?_|refine an 4 ?_|refine an 5 ?_|refine an 6 ?_|refine an 8 ?_|refine an 7 ?_|refine xr ?_|refine or_ ?_|refine an_ ?_)
     |(refine q21 ?_;first|refine cT ?_|refine cF ?_|refine cX (fun _=>?_) (fun _=>?_)|refine beq_ ?_|refine bne_ ?_)
     |(refine q28 ?_;first|refine pkT ?_|refine pkF ?_|refine nt_ ?_|refine cv ?_|refine xt1 ?_|refine xtA ?_|refine nl ?_|refine fd ?_|refine fdA ?_)
     |(refine q33 ?_;first|(refine t30 ?_;first|refine lns ?_|refine lnS ?_|refine lnV ?_|refine lnn ?_)|refine mxl ?_|refine mxr ?_|refine mx_ ?_|refine mnl ?_|refine mnr ?_|refine mn_ ?_|refine apI ?_)|refine b0 ?_|refine b0A ?_|refine bS ?_|refine bA ?_|refine bF ?_|refine bs1I ?_|refine bs1 ?_|refine al_ ?_|refine bx ?_|refine mm ?_|refine msI ?_|refine clo2 ?_|refine clo ?_|refine mpB ?_|refine lkB (fun _=>?_) (fun _=>?_))
   |refine sk_last (by first|exact Consistent.nil|exact Consistent.one _|exact Consistent.ofL (by repeat' (first|exact True.intro|refine And.intro ?_ ?_|exact Compat.ne rfl))) ⟨by kernel_rfl,?_⟩|refine sk_last (by first|exact Consistent.nil|exact Consistent.one _|exact Consistent.ofL (by repeat' (first|exact True.intro|refine And.intro ?_ ?_|exact Compat.ne rfl))) ?_|refine wS ?_|refine wA ?_|refine wD ?_|refine wT ?_|refine wF ?_|refine wK ?_|refine wB ?_|refine wE ?_|refine wR ?_)
  · rename_i h1 h2
    refine ih (s.1 + 1, s.2 ++ [(s.1 : Int)]) _ _ _ (GoTo.mk (τl := [0,1,4]) (by decide) rfl (by repeat' (first|exact ObjsVia.nil|refine ObjsVia.flat rfl ?_|refine ObjsVia.cons rfl ?_|refine ObjsVia.dead rfl ?_)) (by repeat' (first|exact RegsVia.nil|refine RegsVia.flat rfl ?_|refine RegsVia.cons rfl ?_|refine RegsVia.sl rfl (by assumption) rfl ?_|refine RegsVia.slvE rfl rfl (by first|rfl|omega|(simp;done)|(simp;omega)) ?_))) ⟨by show s.1 + 1 ≤ _; omega, ?_⟩ (by show _ - (s.1 + 1) < _; omega)
    show s.2 ++ _ = ats _ (s.1 + 1)
    rw [hq]
    exact (if_pos (decide_eq_true h2)).symm
  · rename_i h1 h2
    refine ih (s.1 + 1, s.2) _ _ _ (GoTo.mk (τl := [0,1,2]) (by decide) rfl (by repeat' (first|exact ObjsVia.nil|refine ObjsVia.flat rfl ?_|refine ObjsVia.cons rfl ?_|refine ObjsVia.dead rfl ?_)) (by repeat' (first|exact RegsVia.nil|refine RegsVia.flat rfl ?_|refine RegsVia.cons rfl ?_|refine RegsVia.sl rfl (by assumption) rfl ?_|refine RegsVia.slvE rfl rfl (by first|rfl|omega|(simp;done)|(simp;omega)) ?_))) ⟨by show s.1 + 1 ≤ _; omega, ?_⟩ (by show _ - (s.1 + 1) < _; omega)
    show s.2 = ats _ (s.1 + 1)
    rw [hq]
    exact (if_neg (by simpa using h2)).symm
  all_goals
    obtain he : s.1 = 8 * n := by omega
    rw [he] at hq
    show KCon _ _ _ _ _ _ _ _; refine kcon_leave (junk := _) (by first|exact .inr rfl|exact .inl rfl) (by first|exact fun m hm => rfl|exact ResL.one rfl (.cell rfl rfl (load_whole rfl) .nil)|exact ResL.two rfl (.cell rfl rfl (load_whole rfl) (.tmp rfl .nil))) ?_ (by first|exact trivial|exact slv_ok (Nat.le_of_ble_eq_true rfl)|simp [XV.okN,X1.ok,XC.ok]) rfl (AllOk.at (by repeat' (first|exact AllOk.nil|refine AllOk.flat ?_|refine AllOk.cons (by first|(simp [XObj.okN,XC.ok];done)|simp [XObj.okN,XC.ok, *]) ?_)))
    refine congrArg (fun b => XV.one (XC.bool b)) ?_
    unfold tellsB
    rw [← hq, show s.2.length - 1 = ((s.2.length : Int) - 1).toNat by omega]
    symm
    first
      | exact decide_eq_true (by omega)
      | exact decide_eq_false (by omega)
end Go.Proofs.Ytaepmifmcohhgaa
