/-
  A closure that turns one bit of a mask.
-/
import Derived.Test.YtaepmifmcohhgaaFateTells
namespace Go.Proofs.Ytaepmifmcohhgaa
open Go.Xm
set_option linter.unusedVariables false
set_option linter.unusedSectionVars false
set_option linter.unusedSimpArgs false
variable [Atoms]

/-- One bit turned. -/
def turnL (m : List Int) (fr i : Nat) : List Int := m.set (fr + i / 8) (ixor .u8 (m.getD (fr + i / 8) 0) (128 / 2 ^ (i % 8)))
abbrev turnH (lost : Bool) (n fr : Nat) (m : List Int) : Heap := [.cells [.bool lost, .slice 2 0 n (.exact n)] 48 false false, .cells [.int .i64 (fr : Nat)] 3 false false, .cells (il .u8 m) 5 false false]
set_option maxRecDepth 10000 in
theorem turn_con (lost : Bool) (n fr i : Nat) (m : List Int) (hm : m.length = n) (hl : ByteL m) (hi : fr + i / 8 < n) (hs : n ≤ 10000) :
    Con Try.prog 20 [.one (.int .i64 (i : Nat)), .one (.ptr 0 0), .one (.ptr 1 0)] (turnH lost n fr m) (.tup []) (turnH lost n fr (turnL m fr i)) := by
  have hlp := hl ((fr : Int) + (i : Int) / 8).toNat
  have e1 : ((fr : Int) + (i : Int) / 8).toNat = fr + i / 8 := by omega
  have e2 : ((i : Int) % 8).toNat = i % 8 := by omega
  refine con_of_wx Try.func20 rfl (Nat.le_of_ble_eq_true rfl) (Nat.le_of_ble_eq_true rfl) (Nat.le_of_ble_eq_true rfl) (Nat.le_of_ble_eq_true rfl) ?_
  repeat' (first
   |(refine qz ?_;first
     |(refine qg ?_;first|refine skp ?_|refine skp0 ?_)
     |(refine q4 ?_;first|(refine t0 ?_;first|refine mv1 ?_|refine as1 ?_|refine mvA ?_|refine asA ?_|refine mvT ?_|refine asT ?_)|(refine t1 ?_;first|refine ldI ?_|refine ldT ?_|refine ldV ?_|refine ld ?_|refine ldW ?_|refine ldA ?_|refine ldR ?_)|(refine t2 ?_;first|refine stI ?_|refine stT ?_|refine st ?_|refine stW ?_)|(refine t3 ?_;first|refine ixs ?_|refine ixa ?_|refine ixS ?_|refine ixV ?_)|refine fa ?_)
     |(refine q15 ?_;first|refine ad ?_|refine sb ?_|refine ml ?_|refine qu ?_|refine re ?_|refine sr ?_|refine sl_ ?_|refine an 1 ?_|refine an 2 ?_|refine an 3 ?_|refine an 4 ?_|refine an 5 ?_|refine an 6 ?_|refine an 8 ?_|refine an 7 ?_|refine xr ?_|refine or_ ?_|refine an_ ?_)
     |(refine q21 ?_;first|refine cT ?_|refine cF ?_|refine cX (fun _=>?_) (fun _=>?_)|refine beq_ ?_|refine bne_ ?_)
     |(refine q28 ?_;first|refine pkT ?_|refine pkF ?_|refine nt_ ?_|refine cv ?_|refine xt1 ?_|refine xtA ?_|refine nl ?_|refine fd ?_|refine fdA ?_)
     |(refine q33 ?_;first|(refine t30 ?_;first|refine lns ?_|refine lnS ?_|refine lnV ?_|refine lnn ?_)|refine mxl ?_|refine mxr ?_|refine mx_ ?_|refine mnl ?_|refine mnr ?_|refine mn_ ?_|refine apI ?_)|refine b0 ?_|refine b0A ?_|refine bS ?_|refine bA ?_|refine bF ?_|refine bs1I ?_|refine bs1 ?_|refine al_ ?_|refine bx ?_|refine mm ?_|refine msI ?_|refine clo2 ?_|refine clo ?_|refine mpB ?_|refine lkB (fun _=>?_) (fun _=>?_))
   |refine sk_last (by first|exact Consistent.nil|exact Consistent.one _|exact Consistent.ofL (by repeat' (first|exact True.intro|refine And.intro ?_ ?_|exact Compat.ne rfl))) ⟨by kernel_rfl,?_⟩|refine sk_last (by first|exact Consistent.nil|exact Consistent.one _|exact Consistent.ofL (by repeat' (first|exact True.intro|refine And.intro ?_ ?_|exact Compat.ne rfl))) ?_|refine wS ?_|refine wA ?_|refine wD ?_|refine wT ?_|refine wF ?_|refine wK ?_|refine wB ?_|refine wE ?_|refine wR ?_)
  show KCon _ _ _ _ _ _ _ _; refine kcon_via [0,1,2] (by first|exact .inr rfl|exact .inl rfl) (by first|exact fun m hm => rfl|exact ResL.one rfl (.cell rfl rfl (load_whole rfl) .nil)|exact ResL.two rfl (.cell rfl rfl (load_whole rfl) (.tmp rfl .nil))|exact ResL.zero rfl .nil) ?_ (by first|exact trivial|exact slv_ok (Nat.le_of_ble_eq_true rfl)|simp [XV.okN,X1.ok,XC.ok]) (by decide) rfl (by repeat' (first|exact ObjsVia.nil|refine ObjsVia.flat rfl ?_|refine ObjsVia.cons rfl ?_|refine ObjsVia.dead rfl ?_)) (by repeat' (first|exact AllOk.nil|refine AllOk.flat ?_|refine AllOk.cons (by first|(simp [XObj.okN,XC.ok];done)|simp [XObj.okN,XC.ok, *]) ?_))
  rfl
theorem turnL_len (m : List Int) (fr i : Nat) : (turnL m fr i).length = m.length := by simp [turnL]
theorem turn_at {HS : Heap} (a b c : Nat) (hd : [a, b, c].Nodup) {lost : Bool} {n fr : Nat} (i : Int) {m : List Int} (ha : HS[a]? = some (.cells [.bool lost, .slice c 0 n (.exact n)] 48 false false)) (hb : HS[b]? = some (.cells [.int .i64 (fr : Nat)] 3 false false)) (hc : HS[c]? = some (.cells (il .u8 m) 5 false false)) (hm : m.length = n) (hl : ByteL m) (hi0 : 0 ≤ i) (hi : fr + i.toNat / 8 < n) (hs : n ≤ 10000)
    {HS' : Heap} (hh : putL HS [a, b, c] [.cells [.bool lost, .slice c 0 n (.exact n)] 48 false false, .cells [.int .i64 (fr : Nat)] 3 false false, .cells (il .u8 (turnL m fr i.toNat)) 5 false false] = HS') (hbd : Nat.blt HS'.length Mem.bound = true) :
    Inst.Sound Try.prog ⟨20, [.one (.int .i64 i), .one (.ptr a 0), .one (.ptr b 0)], HS, .tup [], HS', [a, b, c]⟩ := by
  obtain ⟨j, rfl⟩ : ∃ j : Nat, i = j := ⟨i.toNat, by omega⟩
  refine inst_wr [a, b, c] [a, b, c] 0 (turn_con lost n fr j m hm hl hi hs) hd (.cons ha (.cons hb (.flat hc .nil))) (.cons (by simp [XObj.okN, XC.ok]) (.cons (by simp [XObj.okN, XC.ok]) (.flat .nil))) (.cons (by simp [XObj.okN, XC.ok]) (.cons (by simp [XObj.okN, XC.ok]) (.flat .nil))) rfl (.flat (.cons (by simp [XV.okN, XC.ok]) (.cons (by simp [XV.okN, XC.ok]) .nil))) (.flat (.cons rfl (.cons rfl .nil))) (by simp [XV.okN]) rfl (.cons rfl (.cons rfl (.flat .nil))) rfl rfl hh hbd (.inl rfl)

/-- A byte's bits, one of them turned. -/
theorem xor_bit : ∀ (x : Fin 256) (k j : Fin 8), decide (ixor .u8 (x.val : Int) (128 / 2 ^ k.val) / 2 ^ (7 - j.val) % 2 = 1) = (decide ((x.val : Int) / 2 ^ (7 - j.val) % 2 = 1) ^^ decide (j = k)) := by
  decide +kernel
theorem xor_rng : ∀ (x : Fin 256) (k : Fin 8), 0 ≤ ixor .u8 (x.val : Int) (128 / 2 ^ k.val) ∧ ixor .u8 (x.val : Int) (128 / 2 ^ k.val) < 256 := by
  decide +kernel
theorem turnL_byte {m : List Int} (hl : ByteL m) (fr i : Nat) : ByteL (turnL m fr i) := by
  intro p
  unfold turnL
  rw [List.getD_eq_getElem?_getD, List.getElem?_set]
  split
  · split
    · have h := hl (fr + i / 8)
      obtain ⟨x, hx⟩ : ∃ x : Fin 256, m.getD (fr + i / 8) 0 = (x.val : Int) := ⟨⟨(m.getD (fr + i / 8) 0).toNat, by omega⟩, by simp only []; omega⟩
      rw [hx]
      exact xor_rng x ⟨i % 8, Nat.mod_lt _ (by omega)⟩
    · simp
  · rw [← List.getD_eq_getElem?_getD]; exact hl p
theorem turnL_bit {m : List Int} (hl : ByteL m) (fr i : Nat) (hi : fr + i / 8 < m.length) (j : Nat) : bitAt (turnL m fr i) j = (bitAt m j ^^ decide (j = 8 * fr + i)) := by
  unfold bitAt turnL
  rw [List.getD_eq_getElem?_getD, List.getElem?_set]
  by_cases h : fr + i / 8 = j / 8
  · rw [if_pos h, if_pos hi, ← h]
    have hb := hl (fr + i / 8)
    obtain ⟨x, hx⟩ : ∃ x : Fin 256, m.getD (fr + i / 8) 0 = (x.val : Int) := ⟨⟨(m.getD (fr + i / 8) 0).toNat, by omega⟩, by simp only []; omega⟩
    rw [hx]
    have := xor_bit x ⟨i % 8, Nat.mod_lt _ (by omega)⟩ ⟨j % 8, Nat.mod_lt _ (by omega)⟩
    simp only [Fin.mk.injEq] at this
    show decide (ixor .u8 (x.val : Int) (128 / 2 ^ (i % 8)) / 2 ^ (7 - j % 8) % 2 = 1) = _
    rw [this]
    congr 1
    exact decide_eq_decide.2 (by omega)
  · rw [if_neg h, ← List.getD_eq_getElem?_getD, decide_eq_false (show ¬ j = 8 * fr + i by omega), Bool.xor_false]
end Go.Proofs.Ytaepmifmcohhgaa
