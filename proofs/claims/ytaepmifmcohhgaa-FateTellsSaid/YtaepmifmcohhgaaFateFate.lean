/-
  Small.Fate: the mask that a small fate stands for.
-/
import Derived.Test.YtaepmifmcohhgaaFateTurn
namespace Go.Proofs.Ytaepmifmcohhgaa
open Go.Xm
set_option linter.unusedVariables false
set_option linter.unusedSectionVars false
set_option linter.unusedSimpArgs false
variable [Atoms]

theorem slok_ok {c : XC} {i n m : Nat} (h : SlOk c i n) (hi : i < m) : c.ok m := by
  rcases h with ⟨rfl, _⟩ | ⟨cap, rfl⟩
  · trivial
  · exact hi
theorem slok_ren {c : XC} {i n : Nat} (h : SlOk c i n) {τ : Nat → Nat} (hi : τ i = i) : c.ren τ = c := by
  rcases h with ⟨rfl, _⟩ | ⟨cap, rfl⟩
  · rfl
  · simp only [XC.ren, hi]
/-- A small fate, in a cell of its own. -/
def sCells (kind at_ burst : Int) (co cm : XC) : List XC := [.int .u8 kind, .int .u16 at_, .int .u16 burst, co, cm]
def sObj (kind at_ burst : Int) (co cm : XC) : XObj := .cells (sCells kind at_ burst co cm) 43 false false
theorem sObj_via {τ : Nat → Nat} {HS : Heap} {i : Nat} {l : List Nat} {hs : Heap} {kind at_ burst : Int} {co cm : XC} {n n' : Nat} (hco : SlOk co 0 n) (hcm : SlOk cm 1 n') (h : HS[i]? = some (sObj kind at_ burst co cm)) (h0 : τ 0 = 0) (h1 : τ 1 = 1) (r : ObjsVia τ HS l hs) : ObjsVia τ HS (i :: l) (sObj kind at_ burst co cm :: hs) := by
  refine ObjsVia.cons ?_ r
  rw [h]
  simp only [sObj, sCells, XObj.ren, List.map_cons, List.map_nil, slok_ren hco h0, slok_ren hcm h1]
  rfl
theorem sObj_ok {kind at_ burst : Int} {co cm : XC} {n n' m : Nat} (hco : SlOk co 0 n) (hcm : SlOk cm 1 n') (h : Nat.ble 2 m = true) : (sObj kind at_ burst co cm).okN m := by
  have h := Nat.le_of_ble_eq_true h
  intro c hc
  simp only [sCells, List.mem_cons, List.not_mem_nil, or_false] at hc
  rcases hc with rfl | rfl | rfl | rfl | rfl
  · trivial
  · trivial
  · trivial
  · exact slok_ok hco (by omega)
  · exact slok_ok hcm (by omega)

set_option maxRecDepth 10000 in
theorem fateLo_con (kind at_ burst : Int) (co cm : XC) (od : List Int) (nm : Nat) (oA oB : XObj) (hoA : RO oA .u16 od) [hfB : FlatO oB] (hco : SlOk co 0 od.length) (hcm : SlOk cm 1 nm) (hk : 0 ≤ kind ∧ kind < 256) (hk5 : kind % 8 < 5) (a b : Nat) (ha : 1 ≤ a ∧ a ≤ 64) (hb : 1 ≤ b ∧ b ≤ 64) :
    Con Try.prog 11 [.agg (sCells kind at_ burst co cm), .one (.int .i64 (a : Nat)), .one (.int .i64 (b : Nat))] [oA, oB] (.agg [.bool (decide (kind % 8 = 4)), .nils]) [oA, oB] := by
  have hco2 := slok_ok (m := 2) hco (by omega)
  have hcm2 := slok_ok (m := 2) hcm (by omega)
  have hfA := hoA.flat
  refine con_of_wx Try.func11 rfl (Nat.le_of_ble_eq_true rfl) (Nat.le_of_ble_eq_true rfl) (Nat.le_of_ble_eq_true rfl) (Nat.le_of_ble_eq_true rfl) ?_
  repeat' (first
   |(refine qz ?_;first
     |(refine qg ?_;first|refine skp ?_|refine skp0 ?_)
     |(refine q4 ?_;first|(refine t0 ?_;first|refine mv1 ?_|refine as1 ?_|refine mvA ?_|refine asA ?_|refine mvT ?_|refine asT ?_)|(refine t1 ?_;first|refine ldI ?_|refine ldT ?_|refine ldV ?_|refine ld ?_|refine ldW ?_|refine ldA ?_|refine ldR ?_)|(refine t2 ?_;first|refine stI ?_|refine stT ?_|refine st ?_|refine stW ?_)|(refine t3 ?_;first|refine ixs ?_|refine ixa ?_|refine ixS ?_|refine ixV ?_)|refine fa ?_)
     |(refine q15 ?_;first|refine ad ?_|refine sb ?_|refine ml ?_|refine qu ?_|refine re ?_|refine sr ?_|refine sl_ ?_|refine an 1 ?_|refine an 2 ?_|refine an 3 ?_|refine an 4 ?_|refine an 5 ?_|refine an 6 ?_|refine an 8 ?_|refine an 7 ?_|refine xr ?_|refine or_ ?_|refine an_ ?_)
     |(refine q21 ?_;first|refine cT ?_|refine cF ?_|refine cX (fun _=>?_) (fun _=>?_)|refine beq_ ?_|refine bne_ ?_)
     |(refine q28 ?_;first|refine pkT ?_|refine pkF ?_|refine nt_ ?_|refine cv ?_|refine xt1 ?_|refine xtA ?_|refine nl ?_|refine fd ?_|refine fdA ?_)
     |(refine q33 ?_;first|(refine t30 ?_;first|refine lns ?_|refine lnS ?_|refine lnV ?_|refine lnn ?_)|refine mxl ?_|refine mxr ?_|refine mx_ ?_|refine mnl ?_|refine mnr ?_|refine mn_ ?_|refine apI ?_)|refine b0 ?_|refine b0A ?_|refine bS ?_|refine bA ?_|refine bF ?_|refine bs1I ?_|refine bs1 ?_|refine al_ ?_|refine bx ?_|refine mm ?_|refine msI ?_|refine clo2 ?_|refine clo ?_|refine mpB ?_|refine lkB (fun _=>?_) (fun _=>?_))
   |refine sk_last (by first|exact Consistent.nil|exact Consistent.one _|exact Consistent.ofL (by repeat' (first|exact True.intro|refine And.intro ?_ ?_|exact Compat.ne rfl))) ⟨by kernel_rfl,?_⟩|refine sk_last (by first|exact Consistent.nil|exact Consistent.one _|exact Consistent.ofL (by repeat' (first|exact True.intro|refine And.intro ?_ ?_|exact Compat.ne rfl))) ?_|refine wS ?_|refine wA ?_|refine wD ?_|refine wT ?_|refine wF ?_|refine wK ?_|refine wB ?_|refine wE ?_|refine wR ?_)
  · rename_i h
    rw [decide_eq_true h]
    show KCon _ _ _ _ _ _ _ _; refine kcon_via [0,1] (by first|exact .inr rfl|exact .inl rfl) (by first|exact fun m hm => rfl|exact ResL.one rfl (.cell rfl rfl (load_whole rfl) .nil)|exact ResL.two rfl (.cell rfl rfl (load_whole rfl) (.tmp rfl .nil))|exact ResL.zero rfl .nil) ?_ (by first|exact trivial|exact slv_ok (Nat.le_of_ble_eq_true rfl)|simp [XV.okN,X1.ok,XC.ok]) (by decide) rfl (by repeat' (first|exact ObjsVia.nil|refine ObjsVia.flat rfl ?_|refine ObjsVia.cons rfl ?_|refine ObjsVia.dead rfl ?_)) (by repeat' (first|exact AllOk.nil|refine AllOk.flat ?_|refine AllOk.cons (by first|(simp [XObj.okN,XC.ok];done)|simp [XObj.okN,XC.ok, *]) ?_))
    rfl
  · rename_i h
    rw [decide_eq_false h]
    show KCon _ _ _ _ _ _ _ _; refine kcon_via [0,1] (by first|exact .inr rfl|exact .inl rfl) (by first|exact fun m hm => rfl|exact ResL.one rfl (.cell rfl rfl (load_whole rfl) .nil)|exact ResL.two rfl (.cell rfl rfl (load_whole rfl) (.tmp rfl .nil))|exact ResL.zero rfl .nil) ?_ (by first|exact trivial|exact slv_ok (Nat.le_of_ble_eq_true rfl)|simp [XV.okN,X1.ok,XC.ok]) (by decide) rfl (by repeat' (first|exact ObjsVia.nil|refine ObjsVia.flat rfl ?_|refine ObjsVia.cons rfl ?_|refine ObjsVia.dead rfl ?_)) (by repeat' (first|exact AllOk.nil|refine AllOk.flat ?_|refine AllOk.cons (by first|(simp [XObj.okN,XC.ok];done)|simp [XObj.okN,XC.ok, *]) ?_))
    rfl

/-- Where the part lies that is turned, and its size. -/
def frOf (at_ : Int) (a : Nat) : Nat := if at_ % 2 = 1 then a else 0
def szOf (at_ : Int) (a b : Nat) : Nat := if at_ % 2 = 1 then b else a
/-- A burst. -/
def m5 (n fr size : Nat) (at1 burst : Int) : Nat → List Int
  | 0 => List.replicate n 0
  | k + 1 => if burst / 2 ^ k % 2 = 1 ∧ at1 + (k : Nat) < size * 8 then turnL (m5 n fr size at1 burst k) fr (at1 + (k : Nat)).toNat else m5 n fr size at1 burst k
theorem m5_len (n fr size : Nat) (at1 burst : Int) : ∀ k, (m5 n fr size at1 burst k).length = n
  | 0 => by simp [m5]
  | k + 1 => by
    unfold m5
    split
    · rw [turnL_len, m5_len]
    · exact m5_len ..
theorem rep_byte (n : Nat) : ByteL (List.replicate n 0) := fun p => by
  rw [List.getD_eq_getElem?_getD, List.getElem?_replicate]
  split <;> simp
theorem m5_byte (n fr size : Nat) (at1 burst : Int) : ∀ k, ByteL (m5 n fr size at1 burst k)
  | 0 => rep_byte n
  | k + 1 => by
    unfold m5
    split
    · exact turnL_byte (m5_byte _ _ _ _ _ _) _ _
    · exact m5_byte _ _ _ _ _ _
abbrev at5 (at_ : Int) (a b : Nat) : Int := at_ / 2 % ((szOf at_ a b : Nat) * 8)

set_option maxRecDepth 10000 in
theorem fate5_con (kind at_ burst : Int) (co cm : XC) (od : List Int) (nm : Nat) (oA oB : XObj) (hoA : RO oA .u16 od) [hfB : FlatO oB] (hco : SlOk co 0 od.length) (hcm : SlOk cm 1 nm) (hk : 0 ≤ kind ∧ kind < 256) (hk5 : kind % 8 = 5) (hat : 0 ≤ at_ ∧ at_ < 65536) (hbu : 0 ≤ burst ∧ burst < 65536) (a b : Nat) (ha : 1 ≤ a ∧ a ≤ 64) (hb : 1 ≤ b ∧ b ≤ 64) :
    Con Try.prog 11 [.agg (sCells kind at_ burst co cm), .one (.int .i64 (a : Nat)), .one (.int .i64 (b : Nat))] [oA, oB] (.agg [.bool false, .slice 2 0 (a + b) (.exact (a + b))]) [oA, oB, .cells (il .u8 (m5 (a + b) (frOf at_ a) (szOf at_ a b) (at5 at_ a b) burst 16)) 5 false false] := by
  have hco2 := slok_ok (m := 2) hco (by omega)
  have hcm2 := slok_ok (m := 2) hcm (by omega)
  have hfA := hoA.flat
  refine con_of_wx Try.func11 rfl (Nat.le_of_ble_eq_true rfl) (Nat.le_of_ble_eq_true rfl) (Nat.le_of_ble_eq_true rfl) (Nat.le_of_ble_eq_true rfl) ?_
  have hfz : frOf at_ a + szOf at_ a b ≤ a + b ∧ 1 ≤ szOf at_ a b ∧ szOf at_ a b ≤ 64 := by unfold frOf szOf; split <;> omega
  generalize hfr : frOf at_ a = fr at hfz ⊢
  generalize hsz : szOf at_ a b = sz at hfz ⊢
  have hm0 := Int.emod_nonneg (at_ / 2) (show (sz : Int) * 8 ≠ 0 by omega)
  have hm1 := Int.emod_lt_of_pos (at_ / 2) (show (0 : Int) < (sz : Int) * 8 by omega)
  repeat' (first
   |(refine qz ?_;first
     |(refine qg ?_;first|refine skp ?_|refine skp0 ?_)
     |(refine q4 ?_;first|(refine t0 ?_;first|refine mv1 ?_|refine as1 ?_|refine mvA ?_|refine asA ?_|refine mvT ?_|refine asT ?_)|(refine t1 ?_;first|refine ldI ?_|refine ldT ?_|refine ldV ?_|refine ld ?_|refine ldW ?_|refine ldA ?_|refine ldR ?_)|(refine t2 ?_;first|refine stI ?_|refine stT ?_|refine st ?_|refine stW ?_)|(refine t3 ?_;first|refine ixs ?_|refine ixa ?_|refine ixS ?_|refine ixV ?_)|refine fa ?_)
     |(refine q15 ?_;first|refine ad ?_|refine sb ?_|refine ml ?_|refine qu ?_|refine re ?_|refine sr ?_|refine sl_ ?_|refine an 1 ?_|refine an 2 ?_|refine an 3 ?_|refine an 4 ?_|refine an 5 ?_|refine an 6 ?_|refine an 8 ?_|refine an 7 ?_|refine xr ?_|refine or_ ?_|refine an_ ?_)
     |(refine q21 ?_;first|refine cT ?_|refine cF ?_|refine cX (fun _=>?_) (fun _=>?_)|refine beq_ ?_|refine bne_ ?_)
     |(refine q28 ?_;first|refine pkT ?_|refine pkF ?_|refine nt_ ?_|refine cv ?_|refine xt1 ?_|refine xtA ?_|refine nl ?_|refine fd ?_|refine fdA ?_)
     |(refine q33 ?_;first|(refine t30 ?_;first|refine lns ?_|refine lnS ?_|refine lnV ?_|refine lnn ?_)|refine mxl ?_|refine mxr ?_|refine mx_ ?_|refine mnl ?_|refine mnr ?_|refine mn_ ?_|refine apI ?_)|refine b0 ?_|refine b0A ?_|refine bS ?_|refine bA ?_|refine bF ?_|refine bs1I ?_|refine bs1 ?_|refine al_ ?_|refine bx ?_|refine mm ?_|refine msI ?_|refine clo2 ?_|refine clo ?_|refine mpB ?_|refine lkB (fun _=>?_) (fun _=>?_))
   |refine WX.meetS 10 (σ := Unit) (fun _ => [(3, .one (.ptr 2 0)), (6, .one (.ptr 3 0)), (7, .one (.ptr 4 0)), (9, .one (.ptr 6 0)), (10, .one (.int .i64 (sz : Nat)))]) (fun _ => [oA, oB, sObj kind at_ burst co cm, .cells [.bool false, .nils] 48 false false, .cells [.bool false, .slice 5 0 (a + b) (.exact (a + b))] 48 false false, .cells (il .u8 (List.replicate (a + b) 0)) 5 false false, .cells [.int .i64 (fr : Nat)] 3 false false]) (fun _ => True) (fun _ _ => (StOk.mk rfl rfl (by repeat' (first|exact AllOk.nil|refine AllOk.cons (sObj_ok hco hcm rfl) ?_|refine AllOk.flat ?_|refine AllOk.cons (by first|(simp [XObj.okN,XC.ok];done)|simp [XObj.okN,XC.ok, *]) ?_)) (by repeat' (first|exact RegOk.nil|refine RegOk.flat ?_|refine RegOk.cons (by first|exact trivial|exact slv_ok (Nat.le_of_ble_eq_true rfl)|exact SlOf.ok ‹_› (Nat.le_of_ble_eq_true rfl)|simp [XV.okN,XC.ok,X1.ok]) ?_)))) ?_ (fun _ _ => ?_)|refine sk_last (by first|exact Consistent.nil|exact Consistent.one _|exact Consistent.ofL (by repeat' (first|exact True.intro|refine And.intro ?_ ?_|exact Compat.ne rfl))) ⟨by kernel_rfl,?_⟩|refine sk_last (by first|exact Consistent.nil|exact Consistent.one _|exact Consistent.ofL (by repeat' (first|exact True.intro|refine And.intro ?_ ?_|exact Compat.ne rfl))) ?_|refine wS ?_|refine wA ?_|refine wD ?_|refine wT ?_|refine wF ?_|refine wK ?_|refine wB ?_|refine wE ?_|refine wR ?_)
  · rename_i h
    have f1 : fr = a := hfr.symm.trans (if_pos h)
    have f2 : sz = b := hsz.symm.trans (if_pos h)
    subst f1 f2
    first
      | exact ⟨(), _, trivial, (GoTo.mk (τl := [0,1,2,3,4,5,6]) (by decide) rfl (by repeat' (first|exact ObjsVia.nil|refine sObj_via hco hcm rfl rfl rfl ?_|refine ObjsVia.flat rfl ?_|refine ObjsVia.cons rfl ?_|refine ObjsVia.dead rfl ?_)) (by repeat' (first|exact RegsVia.nil|refine RegsVia.flat rfl ?_|refine RegsVia.cons rfl ?_|refine RegsVia.sl rfl (by assumption) rfl ?_|refine RegsVia.slvE rfl rfl (by first|rfl|omega|(simp;done)|(simp;omega)) ?_)))⟩
      | exact ⟨rfl, (), _, trivial, (GoTo.mk (τl := [0,1,2,3,4,5,6]) (by decide) rfl (by repeat' (first|exact ObjsVia.nil|refine sObj_via hco hcm rfl rfl rfl ?_|refine ObjsVia.flat rfl ?_|refine ObjsVia.cons rfl ?_|refine ObjsVia.dead rfl ?_)) (by repeat' (first|exact RegsVia.nil|refine RegsVia.flat rfl ?_|refine RegsVia.cons rfl ?_|refine RegsVia.sl rfl (by assumption) rfl ?_|refine RegsVia.slvE rfl rfl (by first|rfl|omega|(simp;done)|(simp;omega)) ?_)))⟩
  · rename_i h
    have f1 : fr = 0 := hfr.symm.trans (if_neg h)
    have f2 : sz = a := hsz.symm.trans (if_neg h)
    subst f1 f2
    first
      | exact ⟨(), _, trivial, (GoTo.mk (τl := [0,1,2,3,4,5,6]) (by decide) rfl (by repeat' (first|exact ObjsVia.nil|refine sObj_via hco hcm rfl rfl rfl ?_|refine ObjsVia.flat rfl ?_|refine ObjsVia.cons rfl ?_|refine ObjsVia.dead rfl ?_)) (by repeat' (first|exact RegsVia.nil|refine RegsVia.flat rfl ?_|refine RegsVia.cons rfl ?_|refine RegsVia.sl rfl (by assumption) rfl ?_|refine RegsVia.slvE rfl rfl (by first|rfl|omega|(simp;done)|(simp;omega)) ?_)))⟩
      | exact ⟨rfl, (), _, trivial, (GoTo.mk (τl := [0,1,2,3,4,5,6]) (by decide) rfl (by repeat' (first|exact ObjsVia.nil|refine sObj_via hco hcm rfl rfl rfl ?_|refine ObjsVia.flat rfl ?_|refine ObjsVia.cons rfl ?_|refine ObjsVia.dead rfl ?_)) (by repeat' (first|exact RegsVia.nil|refine RegsVia.flat rfl ?_|refine RegsVia.cons rfl ?_|refine RegsVia.sl rfl (by assumption) rfl ?_|refine RegsVia.slvE rfl rfl (by first|rfl|omega|(simp;done)|(simp;omega)) ?_)))⟩
  · refine WX.loopW (σ := Nat) (fun k => [(3, .one (.ptr 2 0)), (6, .one (.ptr 3 0)), (7, .one (.ptr 4 0)), (10, .one (.int .i64 (sz : Nat))), (11, .one (.bind (.bind (.fn 20) (.ptr 4 0)) (.ptr 6 0))), (12, .one (.int .i64 (at_ / 2 % ((sz : Int) * 8)))), (67, .one (.int .i64 (k : Nat)))]) (fun k => [oA, oB, sObj kind at_ burst co cm, .cells [.bool false, .nils] 48 false false, .cells [.bool false, .slice 5 0 (a + b) (.exact (a + b))] 48 false false, .cells (il .u8 (m5 (a + b) fr sz (at_ / 2 % ((sz : Int) * 8)) burst k)) 5 false false, .cells [.int .i64 (fr : Nat)] 3 false false]) (fun k => k ≤ 16) (fun k => 16 - k) 0 (Nat.zero_le _) (fun k _ => (StOk.mk rfl rfl (by repeat' (first|exact AllOk.nil|refine AllOk.cons (sObj_ok hco hcm rfl) ?_|refine AllOk.flat ?_|refine AllOk.cons (by first|(simp [XObj.okN,XC.ok];done)|simp [XObj.okN,XC.ok, *]) ?_)) (by repeat' (first|exact RegOk.nil|refine RegOk.flat ?_|refine RegOk.cons (by first|exact trivial|exact slv_ok (Nat.le_of_ble_eq_true rfl)|exact SlOf.ok ‹_› (Nat.le_of_ble_eq_true rfl)|simp [XV.okN,XC.ok,X1.ok]) ?_)))) (GoTo.mk (τl := [0,1,2,3,4,5,6]) (by decide) rfl (by repeat' (first|exact ObjsVia.nil|refine sObj_via hco hcm rfl rfl rfl ?_|refine ObjsVia.flat rfl ?_|refine ObjsVia.cons rfl ?_|refine ObjsVia.dead rfl ?_)) (by repeat' (first|exact RegsVia.nil|refine RegsVia.flat rfl ?_|refine RegsVia.cons rfl ?_|refine RegsVia.sl rfl (by assumption) rfl ?_|refine RegsVia.slvE rfl rfl (by first|rfl|omega|(simp;done)|(simp;omega)) ?_))) ?_
    intro k hk16 ih
    have hml := m5_len (a + b) fr sz (at_ / 2 % ((sz : Int) * 8)) burst k
    have hmb := m5_byte (a + b) fr sz (at_ / 2 % ((sz : Int) * 8)) burst k
    repeat' (first
     |(refine qz ?_;first
       |(refine qg ?_;first|refine skp ?_|refine skp0 ?_)
       |refine cl ?_ (hi := by exact turn_at 4 6 5 (by decide) _ rfl rfl rfl hml hmb (by omega) (by omega) (by omega) (by first|(simp only [putL,List.set_cons_succ,List.set_cons_zero,List.cons_append,List.nil_append];exact rfl)|exact rfl) rfl)
       |(refine q4 ?_;first|(refine t0 ?_;first|refine mv1 ?_|refine as1 ?_|refine mvA ?_|refine asA ?_|refine mvT ?_|refine asT ?_)|(refine t1 ?_;first|refine ldI ?_|refine ldT ?_|refine ldV ?_|refine ld ?_|refine ldW ?_|refine ldA ?_|refine ldR ?_)|(refine t2 ?_;first|refine stI ?_|refine stT ?_|refine st ?_|refine stW ?_)|(refine t3 ?_;first|refine ixs ?_|refine ixa ?_|refine ixS ?_|refine ixV ?_)|refine fa ?_)
       |(refine q15 ?_;first|refine ad ?_|refine sb ?_|refine ml ?_|refine qu ?_|refine re ?_|refine sr ?_|refine sl_ ?_|refine an 1 ?_|refine an 2 ?_|refine an 3 ?_|refine an 4 ?_|refine an 5 ?_|refine an 6 ?_|refine an 8 ?_|refine an 7 ?_|refine xr ?_|refine or_ ?_|refine an_ ?_)
       |(refine q21 ?_;first|refine cT ?_|refine cF ?_|refine cX (fun _=>?_) (fun _=>?_)|refine beq_ ?_|refine bne_ ?_)
       |(refine q28 ?_;first|refine pkT ?_|refine pkF ?_|refine nt_ ?_|refine cv ?_|refine xt1 ?_|refine xtA ?_|refine nl ?_|refine fd ?_|refine fdA ?_)
       |(refine q33 ?_;first|(refine t30 ?_;first|refine lns ?_|refine lnS ?_|refine lnV ?_|refine lnn ?_)|refine mxl ?_|refine mxr ?_|refine mx_ ?_|refine mnl ?_|refine mnr ?_|refine mn_ ?_|refine apI ?_)|refine b0 ?_|refine b0A ?_|refine bS ?_|refine bA ?_|refine bF ?_|refine bs1I ?_|refine bs1 ?_|refine al_ ?_|refine bx ?_|refine mm ?_|refine msI ?_|refine clo2 ?_|refine clo ?_|refine mpB ?_|refine lkB (fun _=>?_) (fun _=>?_))
     |refine sk_last (by first|exact Consistent.nil|exact Consistent.one _|exact Consistent.ofL (by repeat' (first|exact True.intro|refine And.intro ?_ ?_|exact Compat.ne rfl))) ⟨by kernel_rfl,?_⟩|refine sk_last (by first|exact Consistent.nil|exact Consistent.one _|exact Consistent.ofL (by repeat' (first|exact True.intro|refine And.intro ?_ ?_|exact Compat.ne rfl))) ?_|refine wS ?_|refine wA ?_|refine wD ?_|refine wT ?_|refine wF ?_|refine wK ?_|refine wB ?_|refine wE ?_|refine wR ?_)
    · rename_i h1 h2 h3
      have e1 : m5 (a + b) fr sz (at_ / 2 % ((sz : Int) * 8)) burst (k + 1) = turnL (m5 (a + b) fr sz (at_ / 2 % ((sz : Int) * 8)) burst k) fr (at_ / 2 % ((sz : Int) * 8) + (k : Nat)).toNat := if_pos ⟨h2, h3⟩
      exact ih (k + 1) _ _ _ (GoTo.mk (τl := [0,1,2,3,4,5,6]) (by decide) rfl (by repeat' (first|exact ObjsVia.nil|refine ObjsVia.flat (by rw [e1]; rfl) ?_|refine sObj_via hco hcm rfl rfl rfl ?_|refine ObjsVia.flat rfl ?_|refine ObjsVia.cons rfl ?_|refine ObjsVia.dead rfl ?_)) (by repeat' (first|exact RegsVia.nil|refine RegsVia.flat rfl ?_|refine RegsVia.cons rfl ?_|refine RegsVia.sl rfl (by assumption) rfl ?_|refine RegsVia.slvE rfl rfl (by first|rfl|omega|(simp;done)|(simp;omega)) ?_))) (by omega) (by omega)
    · rename_i h1 h2 h3
      have e1 : m5 (a + b) fr sz (at_ / 2 % ((sz : Int) * 8)) burst (k + 1) = m5 (a + b) fr sz (at_ / 2 % ((sz : Int) * 8)) burst k := if_neg (fun h => h3 h.2)
      exact ih (k + 1) _ _ _ (GoTo.mk (τl := [0,1,2,3,4,5,6]) (by decide) rfl (by repeat' (first|exact ObjsVia.nil|refine ObjsVia.flat (by rw [e1]; rfl) ?_|refine sObj_via hco hcm rfl rfl rfl ?_|refine ObjsVia.flat rfl ?_|refine ObjsVia.cons rfl ?_|refine ObjsVia.dead rfl ?_)) (by repeat' (first|exact RegsVia.nil|refine RegsVia.flat rfl ?_|refine RegsVia.cons rfl ?_|refine RegsVia.sl rfl (by assumption) rfl ?_|refine RegsVia.slvE rfl rfl (by first|rfl|omega|(simp;done)|(simp;omega)) ?_))) (by omega) (by omega)
    · rename_i h1 h2
      have e1 : m5 (a + b) fr sz (at_ / 2 % ((sz : Int) * 8)) burst (k + 1) = m5 (a + b) fr sz (at_ / 2 % ((sz : Int) * 8)) burst k := if_neg (fun h => h2 h.1)
      exact ih (k + 1) _ _ _ (GoTo.mk (τl := [0,1,2,3,4,5,6]) (by decide) rfl (by repeat' (first|exact ObjsVia.nil|refine ObjsVia.flat (by rw [e1]; rfl) ?_|refine sObj_via hco hcm rfl rfl rfl ?_|refine ObjsVia.flat rfl ?_|refine ObjsVia.cons rfl ?_|refine ObjsVia.dead rfl ?_)) (by repeat' (first|exact RegsVia.nil|refine RegsVia.flat rfl ?_|refine RegsVia.cons rfl ?_|refine RegsVia.sl rfl (by assumption) rfl ?_|refine RegsVia.slvE rfl rfl (by first|rfl|omega|(simp;done)|(simp;omega)) ?_))) (by omega) (by omega)
    · obtain rfl : k = 16 := by omega
      rw [show at5 at_ a b = at_ / 2 % ((sz : Int) * 8) by unfold at5; rw [hsz]]
      show KCon _ _ _ _ _ _ _ _; refine kcon_via [0,1,5] (by first|exact .inr rfl|exact .inl rfl) (by first|exact fun m hm => rfl|exact ResL.one rfl (.cell rfl rfl (load_whole rfl) .nil)|exact ResL.two rfl (.cell rfl rfl (load_whole rfl) (.tmp rfl .nil))|exact ResL.zero rfl .nil) ?_ (by first|exact trivial|exact slv_ok (Nat.le_of_ble_eq_true rfl)|simp [XV.okN,X1.ok,XC.ok]) (by decide) rfl (by repeat' (first|exact ObjsVia.nil|refine ObjsVia.flat rfl ?_|refine ObjsVia.cons rfl ?_|refine ObjsVia.dead rfl ?_)) (by repeat' (first|exact AllOk.nil|refine AllOk.flat ?_|refine AllOk.cons (by first|(simp [XObj.okN,XC.ok];done)|simp [XObj.okN,XC.ok, *]) ?_))
      rfl
end Go.Proofs.Ytaepmifmcohhgaa
