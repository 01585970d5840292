/-
  Small.Fate: bits odd in number.
-/
import Derived.Test.YtaepmifmcohhgaaFateFate
namespace Go.Proofs.Ytaepmifmcohhgaa
open Go.Xm
set_option linter.unusedVariables false
set_option linter.unusedSectionVars false
set_option linter.unusedSimpArgs false
variable [Atoms]

abbrev sawM (M : List (Int × Bool)) (z : Int) : Bool := (mlook M z).getD false
/-- Places that were seen, how many. -/
def seen6 (q : List Int) (w : Int) : Nat → List (Int × Bool) × Int
  | 0 => ([], 0)
  | i + 1 => if sawM (seen6 q w i).1 (q.getD i 0 % w) then seen6 q w i else (putm (seen6 q w i).1 (q.getD i 0 % w) true, (seen6 q w i).2 + 1)
theorem seen6_bnd (q : List Int) (w : Int) : ∀ i, 0 ≤ (seen6 q w i).2 ∧ (seen6 q w i).2 ≤ i
  | 0 => by simp [seen6]
  | i + 1 => by
    have ih := seen6_bnd q w i
    unfold seen6
    split
    · omega
    · simp only []; omega
/-- Is this place turned? -/
def turn6 (M : List (Int × Bool)) (many at0 : Int) (i : Nat) : Bool := sawM M i && (decide (many % 2 = 1) || decide ((i : Int) ≠ at0))
def m6 (n fr : Nat) (M : List (Int × Bool)) (many at0 : Int) : Nat → List Int
  | 0 => List.replicate n 0
  | i + 1 => if turn6 M many at0 i then turnL (m6 n fr M many at0 i) fr i else m6 n fr M many at0 i
theorem m6_len (n fr : Nat) (M : List (Int × Bool)) (many at0 : Int) : ∀ k, (m6 n fr M many at0 k).length = n
  | 0 => by simp [m6]
  | k + 1 => by
    unfold m6
    split
    · rw [turnL_len, m6_len]
    · exact m6_len ..
theorem m6_byte (n fr : Nat) (M : List (Int × Bool)) (many at0 : Int) : ∀ k, ByteL (m6 n fr M many at0 k)
  | 0 => rep_byte n
  | k + 1 => by
    unfold m6
    split
    · exact turnL_byte (m6_byte _ _ _ _ _ _) _ _
    · exact m6_byte _ _ _ _ _ _
/-- All of it. -/
def f6 (at_ : Int) (od : List Int) (n fr sz : Nat) : List Int :=
  m6 n fr (seen6 (at_ :: od) ((sz : Int) * 8) (1 + od.length)).1 (seen6 (at_ :: od) ((sz : Int) * 8) (1 + od.length)).2 (at_ % ((sz : Int) * 8)) (sz * 8)

set_option maxRecDepth 10000 in
set_option maxHeartbeats 1000000 in
theorem fate6_con (kind at_ burst : Int) (co cm : XC) (od : List Int) (nm : Nat) (oA oB : XObj) (hoA : RO oA .u16 od) [hfB : FlatO oB] (hco : SlOk co 0 od.length) (hcm : SlOk cm 1 nm) (hk : 0 ≤ kind ∧ kind < 256) (hk6 : kind % 8 = 6) (hat : 0 ≤ at_ ∧ at_ < 65536) (hod : ∀ p, 0 ≤ od.getD p 0 ∧ od.getD p 0 < 65536) (hol : od.length ≤ 30) (a b : Nat) (ha : 1 ≤ a ∧ a ≤ 64) (hb : 1 ≤ b ∧ b ≤ 64) :
    Con Try.prog 11 [.agg (sCells kind at_ burst co cm), .one (.int .i64 (a : Nat)), .one (.int .i64 (b : Nat))] [oA, oB] (.agg [.bool false, .slice 2 0 (a + b) (.exact (a + b))]) [oA, oB, .cells (il .u8 (f6 at_ od (a + b) (frOf at_ a) (szOf at_ a b))) 5 false false] := by
  have hco2 := slok_ok (m := 2) hco (by omega)
  have hcm2 := slok_ok (m := 2) hcm (by omega)
  have hfA := hoA.flat
  refine con_of_wx Try.func11 rfl (Nat.le_of_ble_eq_true rfl) (Nat.le_of_ble_eq_true rfl) (Nat.le_of_ble_eq_true rfl) (Nat.le_of_ble_eq_true rfl) ?_
  have hfz : frOf at_ a + szOf at_ a b ≤ a + b ∧ 1 ≤ szOf at_ a b ∧ szOf at_ a b ≤ 64 := by unfold frOf szOf; split <;> omega
  generalize hfr : frOf at_ a = fr at hfz ⊢
  generalize hsz : szOf at_ a b = sz at hfz ⊢
  have hqb : ∀ p, 0 ≤ (at_ :: od).getD p 0 ∧ (at_ :: od).getD p 0 < 65536 := fun p => by
    cases p with
    | zero => exact hat
    | succ p => exact hod p
  repeat' (first
   |(refine qz ?_;first
     |(refine qg ?_;first|refine skp ?_|refine skp0 ?_)
     |refine apE rfl (src_ro rfl hco rfl rfl hoA) (fun _ => ?_) (fun _ => ?_)
     |(refine q4 ?_;first|(refine t0 ?_;first|refine mv1 ?_|refine as1 ?_|refine mvA ?_|refine asA ?_|refine mvT ?_|refine asT ?_)|(refine t1 ?_;first|refine ldI ?_|refine ldT ?_|refine ldV ?_|refine ld ?_|refine ldW ?_|refine ldA ?_|refine ldR ?_)|(refine t2 ?_;first|refine stI ?_|refine stT ?_|refine st ?_|refine stW ?_)|(refine t3 ?_;first|refine ixs ?_|refine ixa ?_|refine ixS ?_|refine ixV ?_)|refine fa ?_)
     |(refine q15 ?_;first|refine ad ?_|refine sb ?_|refine ml ?_|refine qu ?_|refine re ?_|refine sr ?_|refine sl_ ?_|refine an 1 ?_|refine an 2 ?_|refine an 3 ?_|refine an 4 ?_|refine an 5 ?_|refine an 6 ?_|refine an 8 ?_|refine an 7 ?_|refine xr ?_|refine or_ ?_|refine an_ ?_)
     |(refine q21 ?_;first|refine cT ?_|refine cF ?_|refine cX (fun _=>?_) (fun _=>?_)|refine beq_ ?_|refine bne_ ?_)
     |(refine q28 ?_;first|refine pkT ?_|refine pkF ?_|refine nt_ ?_|refine cv ?_|refine xt1 ?_|refine xtA ?_|refine nl ?_|refine fd ?_|refine fdA ?_)
     |(refine q33 ?_;first|(refine t30 ?_;first|refine lns ?_|refine lnS ?_|refine lnV ?_|refine lnn ?_)|refine mxl ?_|refine mxr ?_|refine mx_ ?_|refine mnl ?_|refine mnr ?_|refine mn_ ?_|refine apI ?_)|refine b0 ?_|refine b0A ?_|refine bS ?_|refine bA ?_|refine bF ?_|refine bs1I ?_|refine bs1 ?_|refine al_ ?_|refine bx ?_|refine mm ?_|refine msI ?_|refine clo2 ?_|refine clo ?_|refine mpB ?_|refine lkB (fun _=>?_) (fun _=>?_))
   |refine WX.meetS 10 (σ := Unit) (fun _ => [(3, .one (.ptr 2 0)), (6, .one (.ptr 3 0)), (7, .one (.ptr 4 0)), (9, .one (.ptr 6 0)), (10, .one (.int .i64 (sz : Nat)))]) (fun _ => [oA, oB, sObj kind at_ burst co cm, .cells [.bool false, .nils] 48 false false, .cells [.bool false, .slice 5 0 (a + b) (.exact (a + b))] 48 false false, .cells (il .u8 (List.replicate (a + b) 0)) 5 false false, .cells [.int .i64 (fr : Nat)] 3 false false]) (fun _ => True) (fun _ _ => (StOk.mk rfl rfl (by repeat' (first|exact AllOk.nil|refine AllOk.cons (sObj_ok hco hcm rfl) ?_|refine AllOk.flat ?_|refine AllOk.cons (by first|(simp [XObj.okN,XC.ok];done)|simp [XObj.okN,XC.ok, *]) ?_)) (by repeat' (first|exact RegOk.nil|refine RegOk.flat ?_|refine RegOk.cons (by first|exact trivial|exact slv_ok (Nat.le_of_ble_eq_true rfl)|exact SlOf.ok ‹_› (Nat.le_of_ble_eq_true rfl)|simp [XV.okN,XC.ok,X1.ok]) ?_)))) ?_ (fun _ _ => ?_)|refine WX.meetI 24 (σ := Cap × Bool) (fun s => [(3, .one (.ptr 2 0)), (6, .one (.ptr 3 0)), (7, .one (.ptr 4 0)), (10, .one (.int .i64 (sz : Nat))), (11, .one (.bind (.bind (.fn 20) (.ptr 4 0)) (.ptr 6 0))), (14, .one (.map 7)), (15, .one (.int .i64 0)), (97, .one (.slice 8 0 (1 + od.length) s.1)), (98, .one (.int .i64 ((1 + od.length : Nat)))), (99, .one (.int .i64 0))]) (fun s => [oA, oB, sObj kind at_ burst co cm, .cells [.bool false, .nils] 48 false false, .cells [.bool false, .slice 5 0 (a + b) (.exact (a + b))] 48 false false, .cells (il .u8 (List.replicate (a + b) 0)) 5 false false, .cells [.int .i64 (fr : Nat)] 3 false false, .map (ents (kI .i64) vB []), .cells (il .u16 (at_ :: od)) 40 s.2 false]) (fun _ => True) (fun _ _ => (StOk.mk rfl rfl (by repeat' (first|exact AllOk.nil|refine AllOk.cons (sObj_ok hco hcm rfl) ?_|refine AllOk.flat ?_|refine AllOk.cons (by first|(simp [XObj.okN,XC.ok];done)|simp [XObj.okN,XC.ok, *]) ?_)) (by repeat' (first|exact RegOk.nil|refine RegOk.flat ?_|refine RegOk.cons (by first|exact trivial|exact slv_ok (Nat.le_of_ble_eq_true rfl)|exact SlOf.ok ‹_› (Nat.le_of_ble_eq_true rfl)|simp [XV.okN,XC.ok,X1.ok]) ?_)))) ?_ (fun _ _ => ?_)|refine sk_last (by first|exact Consistent.nil|exact Consistent.one _|exact Consistent.ofL (by repeat' (first|exact True.intro|refine And.intro ?_ ?_|exact Compat.ne rfl))) ⟨by kernel_rfl,?_⟩|refine sk_last (by first|exact Consistent.nil|exact Consistent.one _|exact Consistent.ofL (by repeat' (first|exact True.intro|refine And.intro ?_ ?_|exact Compat.ne rfl))) ?_|refine wS ?_|refine wA ?_|refine wD ?_|refine wT ?_|refine wF ?_|refine wK ?_|refine wB ?_|refine wE ?_|refine wR ?_)
  · rename_i h
    have f1 : fr = a := hfr.symm.trans (if_pos h)
    have f2 : sz = b := hsz.symm.trans (if_pos h)
    subst f1 f2
    first
      | exact ⟨(), _, trivial, (GoTo.mk (τl := [0,1,2,3,4,5,6]) (by decide) rfl (by repeat' (first|exact ObjsVia.nil|refine sObj_via hco hcm rfl rfl rfl ?_|refine ObjsVia.flat rfl ?_|refine ObjsVia.cons rfl ?_|refine ObjsVia.dead rfl ?_)) (by repeat' (first|exact RegsVia.nil|refine RegsVia.flat rfl ?_|refine RegsVia.cons rfl ?_|refine RegsVia.sl rfl (by assumption) rfl ?_|refine RegsVia.slvE rfl rfl (by first|rfl|omega|(simp;done)|(simp;omega)) ?_)))⟩
      | exact ⟨rfl, (), _, trivial, (GoTo.mk (τl := [0,1,2,3,4,5,6]) (by decide) rfl (by repeat' (first|exact ObjsVia.nil|refine sObj_via hco hcm rfl rfl rfl ?_|refine ObjsVia.flat rfl ?_|refine ObjsVia.cons rfl ?_|refine ObjsVia.dead rfl ?_)) (by repeat' (first|exact RegsVia.nil|refine RegsVia.flat rfl ?_|refine RegsVia.cons rfl ?_|refine RegsVia.sl rfl (by assumption) rfl ?_|refine RegsVia.slvE rfl rfl (by first|rfl|omega|(simp;done)|(simp;omega)) ?_)))⟩
  · rename_i h
    have f1 : fr = 0 := hfr.symm.trans (if_neg h)
    have f2 : sz = a := hsz.symm.trans (if_neg h)
    subst f1 f2
    first
      | exact ⟨(), _, trivial, (GoTo.mk (τl := [0,1,2,3,4,5,6]) (by decide) rfl (by repeat' (first|exact ObjsVia.nil|refine sObj_via hco hcm rfl rfl rfl ?_|refine ObjsVia.flat rfl ?_|refine ObjsVia.cons rfl ?_|refine ObjsVia.dead rfl ?_)) (by repeat' (first|exact RegsVia.nil|refine RegsVia.flat rfl ?_|refine RegsVia.cons rfl ?_|refine RegsVia.sl rfl (by assumption) rfl ?_|refine RegsVia.slvE rfl rfl (by first|rfl|omega|(simp;done)|(simp;omega)) ?_)))⟩
      | exact ⟨rfl, (), _, trivial, (GoTo.mk (τl := [0,1,2,3,4,5,6]) (by decide) rfl (by repeat' (first|exact ObjsVia.nil|refine sObj_via hco hcm rfl rfl rfl ?_|refine ObjsVia.flat rfl ?_|refine ObjsVia.cons rfl ?_|refine ObjsVia.dead rfl ?_)) (by repeat' (first|exact RegsVia.nil|refine RegsVia.flat rfl ?_|refine RegsVia.cons rfl ?_|refine RegsVia.sl rfl (by assumption) rfl ?_|refine RegsVia.slvE rfl rfl (by first|rfl|omega|(simp;done)|(simp;omega)) ?_)))⟩
  · rename_i h
    have f1 : od = [] := List.length_eq_zero_iff.1 h
    subst f1
    first
      | exact ⟨(.exact 1, false), _, trivial, (GoTo.mk (τl := [0,1,2,3,4,5,6,7,8]) (by decide) rfl (by repeat' (first|exact ObjsVia.nil|refine sObj_via hco hcm rfl rfl rfl ?_|refine ObjsVia.flat rfl ?_|refine ObjsVia.cons rfl ?_|refine ObjsVia.dead rfl ?_)) (by repeat' (first|exact RegsVia.nil|refine RegsVia.flat rfl ?_|refine RegsVia.cons rfl ?_|refine RegsVia.sl rfl (by assumption) rfl ?_|refine RegsVia.slvE rfl rfl (by first|rfl|omega|(simp;done)|(simp;omega)) ?_)))⟩
      | exact ⟨rfl, (.exact 1, false), _, trivial, (GoTo.mk (τl := [0,1,2,3,4,5,6,7,8]) (by decide) rfl (by repeat' (first|exact ObjsVia.nil|refine sObj_via hco hcm rfl rfl rfl ?_|refine ObjsVia.flat rfl ?_|refine ObjsVia.cons rfl ?_|refine ObjsVia.dead rfl ?_)) (by repeat' (first|exact RegsVia.nil|refine RegsVia.flat rfl ?_|refine RegsVia.cons rfl ?_|refine RegsVia.sl rfl (by assumption) rfl ?_|refine RegsVia.slvE rfl rfl (by first|rfl|omega|(simp;done)|(simp;omega)) ?_)))⟩
  · rename_i h
    first
      | exact ⟨(.toEnd 1, true), _, trivial, (GoTo.mk (τl := [0,1,2,3,4,5,6,7,9]) (by decide) rfl (by repeat' (first|exact ObjsVia.nil|refine sObj_via hco hcm rfl rfl rfl ?_|refine ObjsVia.flat rfl ?_|refine ObjsVia.cons rfl ?_|refine ObjsVia.dead rfl ?_)) (by repeat' (first|exact RegsVia.nil|refine RegsVia.flat rfl ?_|refine RegsVia.cons rfl ?_|refine RegsVia.sl rfl (by assumption) rfl ?_|refine RegsVia.slvE rfl rfl (by first|rfl|omega|(simp;done)|(simp;omega)) ?_)))⟩
      | exact ⟨rfl, (.toEnd 1, true), _, trivial, (GoTo.mk (τl := [0,1,2,3,4,5,6,7,9]) (by decide) rfl (by repeat' (first|exact ObjsVia.nil|refine sObj_via hco hcm rfl rfl rfl ?_|refine ObjsVia.flat rfl ?_|refine ObjsVia.cons rfl ?_|refine ObjsVia.dead rfl ?_)) (by repeat' (first|exact RegsVia.nil|refine RegsVia.flat rfl ?_|refine RegsVia.cons rfl ?_|refine RegsVia.sl rfl (by assumption) rfl ?_|refine RegsVia.slvE rfl rfl (by first|rfl|omega|(simp;done)|(simp;omega)) ?_)))⟩
  · rename_i _ _ s _
    obtain ⟨cap, opn⟩ := s
    refine WX.loopW (σ := Nat × List (Int × Bool) × Int) (fun s => [(3, .one (.ptr 2 0)), (6, .one (.ptr 3 0)), (7, .one (.ptr 4 0)), (10, .one (.int .i64 (sz : Nat))), (11, .one (.bind (.bind (.fn 20) (.ptr 4 0)) (.ptr 6 0))), (14, .one (.map 7)), (97, .one (.slice 8 0 (1 + od.length) cap)), (98, .one (.int .i64 ((1 + od.length : Nat)))), (15, .one (.int .i64 s.2.2)), (99, .one (.int .i64 (s.1 : Nat)))]) (fun s => [oA, oB, sObj kind at_ burst co cm, .cells [.bool false, .nils] 48 false false, .cells [.bool false, .slice 5 0 (a + b) (.exact (a + b))] 48 false false, .cells (il .u8 (List.replicate (a + b) 0)) 5 false false, .cells [.int .i64 (fr : Nat)] 3 false false, .map (ents (kI .i64) vB s.2.1), .cells (il .u16 (at_ :: od)) 40 opn false]) (fun s => s.1 ≤ 1 + od.length ∧ s.2 = seen6 (at_ :: od) ((sz : Int) * 8) s.1) (fun s => 1 + od.length - s.1) (0, [], 0) ⟨Nat.zero_le _, rfl⟩ (fun s _ => (StOk.mk rfl rfl (by repeat' (first|exact AllOk.nil|refine AllOk.cons (sObj_ok hco hcm rfl) ?_|refine AllOk.flat ?_|refine AllOk.cons (by first|(simp [XObj.okN,XC.ok];done)|simp [XObj.okN,XC.ok, *]) ?_)) (by repeat' (first|exact RegOk.nil|refine RegOk.flat ?_|refine RegOk.cons (by first|exact trivial|exact slv_ok (Nat.le_of_ble_eq_true rfl)|exact SlOf.ok ‹_› (Nat.le_of_ble_eq_true rfl)|simp [XV.okN,XC.ok,X1.ok]) ?_)))) (GoTo.mk (τl := [0,1,2,3,4,5,6,7,8]) (by decide) rfl (by repeat' (first|exact ObjsVia.nil|refine sObj_via hco hcm rfl rfl rfl ?_|refine ObjsVia.flat rfl ?_|refine ObjsVia.cons rfl ?_|refine ObjsVia.dead rfl ?_)) (by repeat' (first|exact RegsVia.nil|refine RegsVia.flat rfl ?_|refine RegsVia.cons rfl ?_|refine RegsVia.sl rfl (by assumption) rfl ?_|refine RegsVia.slvE rfl rfl (by first|rfl|omega|(simp;done)|(simp;omega)) ?_))) ?_
    intro s ⟨hj, hsn⟩ ih
    have hsb := seen6_bnd (at_ :: od) ((sz : Int) * 8) s.1
    rw [← hsn] at hsb
    have hqj := hqb s.1
    have hqm := Int.emod_nonneg ((at_ :: od).getD s.1 0) (show (sz : Int) * 8 ≠ 0 by omega)
    have hqm1 := Int.emod_lt_of_pos ((at_ :: od).getD s.1 0) (show (0 : Int) < (sz : Int) * 8 by omega)
    have hlc : (at_ :: od).length = 1 + od.length := by simp; omega
    repeat' (first
     |(refine qz ?_;first
       |(refine qg ?_;first|refine skp ?_|refine skp0 ?_)
       |(refine q4 ?_;first|(refine t0 ?_;first|refine mv1 ?_|refine as1 ?_|refine mvA ?_|refine asA ?_|refine mvT ?_|refine asT ?_)|(refine t1 ?_;first|refine ldI ?_|refine ldT ?_|refine ldV ?_|refine ld ?_|refine ldW ?_|refine ldA ?_|refine ldR ?_)|(refine t2 ?_;first|refine stI ?_|refine stT ?_|refine st ?_|refine stW ?_)|(refine t3 ?_;first|refine ixs ?_|refine ixa ?_|refine ixS ?_|refine ixV ?_)|refine fa ?_)
       |(refine q15 ?_;first|refine ad ?_|refine sb ?_|refine ml ?_|refine qu ?_|refine re ?_|refine sr ?_|refine sl_ ?_|refine an 1 ?_|refine an 2 ?_|refine an 3 ?_|refine an 4 ?_|refine an 5 ?_|refine an 6 ?_|refine an 8 ?_|refine an 7 ?_|refine xr ?_|refine or_ ?_|refine an_ ?_)
       |(refine q21 ?_;first|refine cT ?_|refine cF ?_|refine cX (fun _=>?_) (fun _=>?_)|refine beq_ ?_|refine bne_ ?_)
       |(refine q28 ?_;first|refine pkT ?_|refine pkF ?_|refine nt_ ?_|refine cv ?_|refine xt1 ?_|refine xtA ?_|refine nl ?_|refine fd ?_|refine fdA ?_)
       |(refine q33 ?_;first|(refine t30 ?_;first|refine lns ?_|refine lnS ?_|refine lnV ?_|refine lnn ?_)|refine mxl ?_|refine mxr ?_|refine mx_ ?_|refine mnl ?_|refine mnr ?_|refine mn_ ?_|refine apI ?_)|refine b0 ?_|refine b0A ?_|refine bS ?_|refine bA ?_|refine bF ?_|refine bs1I ?_|refine bs1 ?_|refine al_ ?_|refine bx ?_|refine mm ?_|refine msI ?_|refine clo2 ?_|refine clo ?_|refine mpB ?_|refine lkB (fun _=>?_) (fun _=>?_))
     |refine sk_last (by first|exact Consistent.nil|exact Consistent.one _|exact Consistent.ofL (by repeat' (first|exact True.intro|refine And.intro ?_ ?_|exact Compat.ne rfl))) ⟨by kernel_rfl,?_⟩|refine sk_last (by first|exact Consistent.nil|exact Consistent.one _|exact Consistent.ofL (by repeat' (first|exact True.intro|refine And.intro ?_ ?_|exact Compat.ne rfl))) ?_|refine wS ?_|refine wA ?_|refine wD ?_|refine wT ?_|refine wF ?_|refine wK ?_|refine wB ?_|refine wE ?_|refine wR ?_)
    · rename_i h1 h2
      refine ih (s.1 + 1, s.2) _ _ _ (GoTo.mk (τl := [0,1,2,3,4,5,6,7,8]) (by decide) rfl (by repeat' (first|exact ObjsVia.nil|refine sObj_via hco hcm rfl rfl rfl ?_|refine ObjsVia.flat rfl ?_|refine ObjsVia.cons rfl ?_|refine ObjsVia.dead rfl ?_)) (by repeat' (first|exact RegsVia.nil|refine RegsVia.flat rfl ?_|refine RegsVia.cons rfl ?_|refine RegsVia.sl rfl (by assumption) rfl ?_|refine RegsVia.slvE rfl rfl (by first|rfl|omega|(simp;done)|(simp;omega)) ?_))) ⟨by show s.1 + 1 ≤ _; omega, ?_⟩ (by show _ - (s.1 + 1) < _; omega)
      show s.2 = seen6 _ _ (s.1 + 1)
      unfold seen6
      rw [← hsn]
      exact (if_pos h2).symm
    · rename_i h1 h2
      refine ih (s.1 + 1, putm s.2.1 ((at_ :: od).getD s.1 0 % ((sz : Int) * 8)) true, s.2.2 + 1) _ _ _ (GoTo.mk (τl := [0,1,2,3,4,5,6,7,8]) (by decide) rfl (by repeat' (first|exact ObjsVia.nil|refine sObj_via hco hcm rfl rfl rfl ?_|refine ObjsVia.flat rfl ?_|refine ObjsVia.cons rfl ?_|refine ObjsVia.dead rfl ?_)) (by repeat' (first|exact RegsVia.nil|refine RegsVia.flat rfl ?_|refine RegsVia.cons rfl ?_|refine RegsVia.sl rfl (by assumption) rfl ?_|refine RegsVia.slvE rfl rfl (by first|rfl|omega|(simp;done)|(simp;omega)) ?_))) ⟨by show s.1 + 1 ≤ _; omega, ?_⟩ (by show _ - (s.1 + 1) < _; omega)
      show _ = seen6 _ _ (s.1 + 1)
      unfold seen6
      rw [← hsn]
      exact (if_neg (by unfold sawM; rw [h2]; decide)).symm
    · have hse : s.1 = 1 + od.length := by omega
      rw [hse] at hsn
      have hm0 := Int.emod_nonneg at_ (show (sz : Int) * 8 ≠ 0 by omega)
      have hm1 := Int.emod_lt_of_pos at_ (show (0 : Int) < (sz : Int) * 8 by omega)
      refine WX.loopW (σ := Nat) (fun i => [(3, .one (.ptr 2 0)), (6, .one (.ptr 3 0)), (7, .one (.ptr 4 0)), (10, .one (.int .i64 (sz : Nat))), (11, .one (.bind (.bind (.fn 20) (.ptr 4 0)) (.ptr 6 0))), (14, .one (.map 7)), (15, .one (.int .i64 s.2.2)), (118, .one (.int .i64 ((sz : Int) * 8))), (119, .one (.int .i64 (i : Nat)))]) (fun i => [oA, oB, sObj kind at_ burst co cm, .cells [.bool false, .nils] 48 false false, .cells [.bool false, .slice 5 0 (a + b) (.exact (a + b))] 48 false false, .cells (il .u8 (m6 (a + b) fr s.2.1 s.2.2 (at_ % ((sz : Int) * 8)) i)) 5 false false, .cells [.int .i64 (fr : Nat)] 3 false false, .map (ents (kI .i64) vB s.2.1)]) (fun i => i ≤ sz * 8) (fun i => sz * 8 - i) 0 (Nat.zero_le _) (fun i _ => (StOk.mk rfl rfl (by repeat' (first|exact AllOk.nil|refine AllOk.cons (sObj_ok hco hcm rfl) ?_|refine AllOk.flat ?_|refine AllOk.cons (by first|(simp [XObj.okN,XC.ok];done)|simp [XObj.okN,XC.ok, *]) ?_)) (by repeat' (first|exact RegOk.nil|refine RegOk.flat ?_|refine RegOk.cons (by first|exact trivial|exact slv_ok (Nat.le_of_ble_eq_true rfl)|exact SlOf.ok ‹_› (Nat.le_of_ble_eq_true rfl)|simp [XV.okN,XC.ok,X1.ok]) ?_)))) (GoTo.mk (τl := [0,1,2,3,4,5,6,7]) (by decide) rfl (by repeat' (first|exact ObjsVia.nil|refine sObj_via hco hcm rfl rfl rfl ?_|refine ObjsVia.flat rfl ?_|refine ObjsVia.cons rfl ?_|refine ObjsVia.dead rfl ?_)) (by repeat' (first|exact RegsVia.nil|refine RegsVia.flat rfl ?_|refine RegsVia.cons rfl ?_|refine RegsVia.sl rfl (by assumption) rfl ?_|refine RegsVia.slvE rfl rfl (by first|rfl|omega|(simp;done)|(simp;omega)) ?_))) ?_
      intro i hi ih2
      clear ih
      have hml := m6_len (a + b) fr s.2.1 s.2.2 (at_ % ((sz : Int) * 8)) i
      have hmb := m6_byte (a + b) fr s.2.1 s.2.2 (at_ % ((sz : Int) * 8)) i
      repeat' (first
       |(refine qz ?_;first
         |(refine qg ?_;first|refine skp ?_|refine skp0 ?_)
         |refine cl ?_ (hi := by exact turn_at 4 6 5 (by decide) _ rfl rfl rfl hml hmb (by omega) (by omega) (by omega) (by first|(simp only [putL,List.set_cons_succ,List.set_cons_zero,List.cons_append,List.nil_append];exact rfl)|exact rfl) rfl)
         |(refine q4 ?_;first|(refine t0 ?_;first|refine mv1 ?_|refine as1 ?_|refine mvA ?_|refine asA ?_|refine mvT ?_|refine asT ?_)|(refine t1 ?_;first|refine ldI ?_|refine ldT ?_|refine ldV ?_|refine ld ?_|refine ldW ?_|refine ldA ?_|refine ldR ?_)|(refine t2 ?_;first|refine stI ?_|refine stT ?_|refine st ?_|refine stW ?_)|(refine t3 ?_;first|refine ixs ?_|refine ixa ?_|refine ixS ?_|refine ixV ?_)|refine fa ?_)
         |(refine q15 ?_;first|refine ad ?_|refine sb ?_|refine ml ?_|refine qu ?_|refine re ?_|refine sr ?_|refine sl_ ?_|refine an 1 ?_|refine an 2 ?_|refine an 3 ?_|refine an 4 ?_|refine an 5 ?_|refine an 6 ?_|refine an 8 ?_|refine an 7 ?_|refine xr ?_|refine or_ ?_|refine an_ ?_)
         |(refine q21 ?_;first|refine cT ?_|refine cF ?_|refine cX (fun _=>?_) (fun _=>?_)|refine beq_ ?_|refine bne_ ?_)
         |(refine q28 ?_;first|refine pkT ?_|refine pkF ?_|refine nt_ ?_|refine cv ?_|refine xt1 ?_|refine xtA ?_|refine nl ?_|refine fd ?_|refine fdA ?_)
         |(refine q33 ?_;first|(refine t30 ?_;first|refine lns ?_|refine lnS ?_|refine lnV ?_|refine lnn ?_)|refine mxl ?_|refine mxr ?_|refine mx_ ?_|refine mnl ?_|refine mnr ?_|refine mn_ ?_|refine apI ?_)|refine b0 ?_|refine b0A ?_|refine bS ?_|refine bA ?_|refine bF ?_|refine bs1I ?_|refine bs1 ?_|refine al_ ?_|refine bx ?_|refine mm ?_|refine msI ?_|refine clo2 ?_|refine clo ?_|refine mpB ?_|refine lkB (fun _=>?_) (fun _=>?_))
       |refine sk_last (by first|exact Consistent.nil|exact Consistent.one _|exact Consistent.ofL (by repeat' (first|exact True.intro|refine And.intro ?_ ?_|exact Compat.ne rfl))) ⟨by kernel_rfl,?_⟩|refine sk_last (by first|exact Consistent.nil|exact Consistent.one _|exact Consistent.ofL (by repeat' (first|exact True.intro|refine And.intro ?_ ?_|exact Compat.ne rfl))) ?_|refine wS ?_|refine wA ?_|refine wD ?_|refine wT ?_|refine wF ?_|refine wK ?_|refine wB ?_|refine wE ?_|refine wR ?_)
      · rename_i h1 h2 h3
        have e0 : turn6 s.2.1 s.2.2 (at_ % ((sz : Int) * 8)) i = true := by simp only [turn6, sawM, h2, decide_eq_true h3, Bool.true_or, Bool.and_self]
        have e1 : m6 (a + b) fr s.2.1 s.2.2 (at_ % ((sz : Int) * 8)) (i + 1) = turnL (m6 (a + b) fr s.2.1 s.2.2 (at_ % ((sz : Int) * 8)) i) fr i := if_pos e0
        exact ih2 (i + 1) _ _ _ (GoTo.mk (τl := [0,1,2,3,4,5,6,7]) (by decide) rfl (by repeat' (first|exact ObjsVia.nil|refine ObjsVia.flat (by rw [e1]; rfl) ?_|refine sObj_via hco hcm rfl rfl rfl ?_|refine ObjsVia.flat rfl ?_|refine ObjsVia.cons rfl ?_|refine ObjsVia.dead rfl ?_)) (by repeat' (first|exact RegsVia.nil|refine RegsVia.flat rfl ?_|refine RegsVia.cons rfl ?_|refine RegsVia.sl rfl (by assumption) rfl ?_|refine RegsVia.slvE rfl rfl (by first|rfl|omega|(simp;done)|(simp;omega)) ?_))) (by omega) (by omega)
      · rename_i h1 h2 h3 h4
        have e0 : turn6 s.2.1 s.2.2 (at_ % ((sz : Int) * 8)) i = true := by simp only [turn6, sawM, h2, decide_eq_true h4, Bool.or_true, Bool.and_self]
        have e1 : m6 (a + b) fr s.2.1 s.2.2 (at_ % ((sz : Int) * 8)) (i + 1) = turnL (m6 (a + b) fr s.2.1 s.2.2 (at_ % ((sz : Int) * 8)) i) fr i := if_pos e0
        exact ih2 (i + 1) _ _ _ (GoTo.mk (τl := [0,1,2,3,4,5,6,7]) (by decide) rfl (by repeat' (first|exact ObjsVia.nil|refine ObjsVia.flat (by rw [e1]; rfl) ?_|refine sObj_via hco hcm rfl rfl rfl ?_|refine ObjsVia.flat rfl ?_|refine ObjsVia.cons rfl ?_|refine ObjsVia.dead rfl ?_)) (by repeat' (first|exact RegsVia.nil|refine RegsVia.flat rfl ?_|refine RegsVia.cons rfl ?_|refine RegsVia.sl rfl (by assumption) rfl ?_|refine RegsVia.slvE rfl rfl (by first|rfl|omega|(simp;done)|(simp;omega)) ?_))) (by omega) (by omega)
      · rename_i h1 h2 h3 h4
        have e0 : ¬ turn6 s.2.1 s.2.2 (at_ % ((sz : Int) * 8)) i = true := by simp only [turn6, sawM, h2, decide_eq_false h3, decide_eq_false h4]; decide
        have e1 : m6 (a + b) fr s.2.1 s.2.2 (at_ % ((sz : Int) * 8)) (i + 1) = m6 (a + b) fr s.2.1 s.2.2 (at_ % ((sz : Int) * 8)) i := if_neg e0
        exact ih2 (i + 1) _ _ _ (GoTo.mk (τl := [0,1,2,3,4,5,6,7]) (by decide) rfl (by repeat' (first|exact ObjsVia.nil|refine ObjsVia.flat (by rw [e1]; rfl) ?_|refine sObj_via hco hcm rfl rfl rfl ?_|refine ObjsVia.flat rfl ?_|refine ObjsVia.cons rfl ?_|refine ObjsVia.dead rfl ?_)) (by repeat' (first|exact RegsVia.nil|refine RegsVia.flat rfl ?_|refine RegsVia.cons rfl ?_|refine RegsVia.sl rfl (by assumption) rfl ?_|refine RegsVia.slvE rfl rfl (by first|rfl|omega|(simp;done)|(simp;omega)) ?_))) (by omega) (by omega)
      · rename_i h1 h2
        have e0 : ¬ turn6 s.2.1 s.2.2 (at_ % ((sz : Int) * 8)) i = true := by simp only [turn6, sawM, h2, Bool.false_and]; decide
        have e1 : m6 (a + b) fr s.2.1 s.2.2 (at_ % ((sz : Int) * 8)) (i + 1) = m6 (a + b) fr s.2.1 s.2.2 (at_ % ((sz : Int) * 8)) i := if_neg e0
        exact ih2 (i + 1) _ _ _ (GoTo.mk (τl := [0,1,2,3,4,5,6,7]) (by decide) rfl (by repeat' (first|exact ObjsVia.nil|refine ObjsVia.flat (by rw [e1]; rfl) ?_|refine sObj_via hco hcm rfl rfl rfl ?_|refine ObjsVia.flat rfl ?_|refine ObjsVia.cons rfl ?_|refine ObjsVia.dead rfl ?_)) (by repeat' (first|exact RegsVia.nil|refine RegsVia.flat rfl ?_|refine RegsVia.cons rfl ?_|refine RegsVia.sl rfl (by assumption) rfl ?_|refine RegsVia.slvE rfl rfl (by first|rfl|omega|(simp;done)|(simp;omega)) ?_))) (by omega) (by omega)
      · obtain rfl : i = sz * 8 := by omega
        unfold f6
        rw [← hsn]
        show KCon _ _ _ _ _ _ _ _; refine kcon_via [0,1,5] (by first|exact .inr rfl|exact .inl rfl) (by first|exact fun m hm => rfl|exact ResL.one rfl (.cell rfl rfl (load_whole rfl) .nil)|exact ResL.two rfl (.cell rfl rfl (load_whole rfl) (.tmp rfl .nil))|exact ResL.zero rfl .nil) ?_ (by first|exact trivial|exact slv_ok (Nat.le_of_ble_eq_true rfl)|simp [XV.okN,X1.ok,XC.ok]) (by decide) rfl (by repeat' (first|exact ObjsVia.nil|refine ObjsVia.flat rfl ?_|refine ObjsVia.cons rfl ?_|refine ObjsVia.dead rfl ?_)) (by repeat' (first|exact AllOk.nil|refine AllOk.flat ?_|refine AllOk.cons (by first|(simp [XObj.okN,XC.ok];done)|simp [XObj.okN,XC.ok, *]) ?_))
        rfl
end Go.Proofs.Ytaepmifmcohhgaa
