/-
  walk.Sane: its contract.
-/
import Derived.Test.YtaepmifmcohhgaaWalkSpec
namespace Go.Proofs.Ytaepmifmcohhgaa
open Go.Xm
set_option linter.unusedVariables false
set_option linter.unusedSectionVars false
set_option linter.unusedSimpArgs false
variable [Atoms]

theorem eqHead' (x y x' y' : Int) : xequal Try.prog 40 28 (.agg [.int .i64 x, .bool false, .bool false, .int .i64 y]) (.agg [.int .i64 x', .bool false, .bool false, .int .i64 y']) = @Bool.rec (fun _ => Option Bool) (some false) (@Bool.rec (fun _ => Option Bool) (some false) (some true) (y == y')) (x == x') := by
  kernel_rfl
theorem eqHead (x y x' y' : Int) : xequal Try.prog 40 28 (.agg [.int .i64 x, .bool false, .bool false, .int .i64 y]) (.agg [.int .i64 x', .bool false, .bool false, .int .i64 y']) = some (decide (x = x' ∧ y = y')) := by
  rw [eqHead']
  cases h1 : x == x' with
  | false => rw [decide_eq_false (fun h => by rw [h.1] at h1; simp at h1)]
  | true =>
    cases h2 : y == y' with
    | false => rw [decide_eq_false (fun h => by rw [h.2] at h2; simp at h2)]
    | true => rw [decide_eq_true ⟨by simpa using h1, by simpa using h2⟩]
section
variable {ops : Array Oper} {nt nI : Nat} {al : Regs} {hs : Heap} {o : Oper} {l : List Oper} {L : List Inst} {K : List Ab → Regs → Heap → Prop} {d : Nat}
theorem eqH {a b : Operand} {t' : TypeId} {x y x' y' : Int} (h1 : x = x' ∧ y = y' → SK Try.prog ops nt L l ((d, .one (.bool true)) :: al) hs fun bs => K (quiet :: bs)) (h2 : ¬ (x = x' ∧ y = y') → SK Try.prog ops nt L l ((d, .one (.bool false)) :: al) hs fun bs => K (quiet :: bs)) (ho : o.op = .binOp .eql 28 a b t' := by exact rfl) (hw : xwanted ops (rg al) o = some true := by exact rfl) (hd : o.dst = some d := by exact rfl) (hlt : Nat.blt d nt = true := by exact rfl)
    (ha : xeval (rg al) a = .agg [.int .i64 x, .bool false, .bool false, .int .i64 y] := by exact rfl) (hb : xeval (rg al) b = .agg [.int .i64 x', .bool false, .bool false, .int .i64 y'] := by exact rfl) : SK Try.prog ops nt L (o :: l) al hs K := by
  have hp : xpure Try.prog (xeval (rg al)) o.op = some (.one (.bool (decide (x = x' ∧ y = y')))) := by
    rw [ho]
    simp only [xpure, ha, hb, xbin, xeqV, show Try.prog.eqGuardType Try.prog.depth 28 = false by kernel_rfl, Bool.false_eq_true, if_false, eqHead, Option.map_some]
  by_cases h : x = x' ∧ y = y'
  · rw [decide_eq_true h] at hp
    exact SK.lift hd hlt (fun _ => OpStep.pure hw hp) (h1 h)
  · rw [decide_eq_false h] at hp
    exact SK.lift hd hlt (fun _ => OpStep.pure hw hp) (h2 h)
end

set_option maxRecDepth 10000 in
set_option maxHeartbeats 1000000 in
theorem sane_con (l : List FI) (hl : ∀ j, j < l.length → (l.getD j default).Ok) (hn : l.length ≤ 1000) (fr : Int) :
    Con Try.prog 6 [slv 0 l.length 12, .one (.int .i64 fr)] [slo 35 (fl fcells l)] (.tup [.one (slc 1 (saneL l fr l.length).length 12), .one (.int .i64 ((l.length : Int) - (saneL l fr l.length).length))]) [slo 35 (fl fcells l), slo 35 (fl fcells (saneL l fr l.length))] := by
  refine con_of_wx Try.func6 rfl (Nat.le_of_ble_eq_true rfl) (Nat.le_of_ble_eq_true rfl) (Nat.le_of_ble_eq_true rfl) (Nat.le_of_ble_eq_true rfl) ?_
  repeat' (first
   |(refine qz ?_;first
     |(refine qg ?_;first|refine skp ?_|refine skp0 ?_)
     |(refine q4 ?_;first|(refine t0 ?_;first|refine mv1 ?_|refine as1 ?_|refine mvA ?_|refine asA ?_|refine mvT ?_|refine asT ?_)|(refine t1 ?_;first|refine ldI ?_|refine ldT ?_|refine ldV ?_|refine ld ?_|refine ldL ?_|refine ldLR ?_|refine ldW ?_|refine ldA ?_|refine ldR ?_)|(refine t2 ?_;first|refine stI ?_|refine stT ?_|refine st ?_|refine stW ?_)|(refine t3 ?_;first|refine ixs ?_|refine ixa ?_|refine ixS ?_|refine ixV ?_)|refine fa ?_)
     |(refine q15 ?_;first|refine ad ?_|refine sb ?_|refine ml ?_|refine qu ?_|refine re ?_|refine sr ?_|refine sl_ ?_|refine an 1 ?_|refine an 2 ?_|refine an 3 ?_|refine an 4 ?_|refine an 5 ?_|refine an 6 ?_|refine an 8 ?_|refine an 7 ?_|refine xr ?_|refine or_ ?_|refine an_ ?_)
     |(refine q21 ?_;first|refine cT ?_|refine cF ?_|refine cX (fun _=>?_) (fun _=>?_)|refine beq_ ?_|refine bne_ ?_)
     |(refine q28 ?_;first|refine pkT ?_|refine pkF ?_|refine nt_ ?_|refine cv ?_|refine xt1 ?_|refine xtA ?_|refine nl ?_|refine fd ?_|refine fdA ?_)
     |(refine q33 ?_;first|(refine t30 ?_;first|refine lns ?_|refine lnS ?_|refine lnV ?_|refine lnn ?_)|refine mxl ?_|refine mxr ?_|refine mx_ ?_|refine mnl ?_|refine mnr ?_|refine mn_ ?_|refine apI ?_|refine apL ?_)|refine b0 ?_|refine b0A ?_|refine bS ?_|refine bA ?_|refine bF ?_|refine bs1I ?_|refine bs1 ?_|refine al_ ?_|refine bx ?_|refine mm ?_|refine msI ?_|refine clo2 ?_|refine clo ?_|refine mpB ?_|refine lkB (fun _=>?_) (fun _=>?_))
   |refine sk_last (by first|exact Consistent.nil|exact Consistent.one _|exact Consistent.ofL (by repeat' (first|exact True.intro|refine And.intro ?_ ?_|exact Compat.ne rfl))) ⟨by kernel_rfl,?_⟩|refine sk_last (by first|exact Consistent.nil|exact Consistent.one _|exact Consistent.ofL (by repeat' (first|exact True.intro|refine And.intro ?_ ?_|exact Compat.ne rfl))) ?_|refine wS ?_|refine wA ?_|refine wD ?_|refine wT ?_|refine wF ?_|refine wK ?_|refine wB ?_|refine wE ?_|refine wR ?_)
  refine WX.reserve rfl ?_
  refine WX.loopW (σ := Nat × List FI) (fun s => [(0, slv 0 l.length 12), (1, .one (.int .i64 fr)), (12, slv 0 l.length 12), (13, .one (.int .i64 (l.length : Nat))), (6, slv 1 s.2.length 12), (14, .one (.int .i64 (s.1 : Nat)))]) (fun s => [slo 35 (fl fcells l), slo 35 (fl fcells s.2)]) (fun s => s.1 ≤ l.length ∧ s.2 = saneL l fr s.1) (fun s => l.length - s.1) (0, []) ⟨Nat.zero_le _, rfl⟩ (fun s _ => (StOk.mk rfl rfl (by repeat' (first|exact AllOk.nil|refine AllOk.flat ?_|refine AllOk.cons (by first|(simp [XObj.okN,XC.ok];done)|simp [XObj.okN,XC.ok, *]) ?_)) (by repeat' (first|exact RegOk.nil|refine RegOk.flat ?_|refine RegOk.cons (by first|exact trivial|exact slv_ok (Nat.le_of_ble_eq_true rfl)|exact SlOf.ok ‹_› (Nat.le_of_ble_eq_true rfl)|simp [XV.okN,XC.ok,X1.ok]) ?_)))) (GoTo.mk (τl := [0,1]) (by decide) rfl (by (repeat' (first|exact ObjsVia.nil|refine ObjsVia.flat rfl ?_|refine ObjsVia.cons rfl ?_|refine ObjsVia.dead rfl ?_));first|done|fail) (by (repeat' (first|exact RegsVia.nil|refine RegsVia.flat rfl ?_|refine RegsVia.cons rfl ?_|refine RegsVia.sl rfl (by assumption) rfl ?_|refine RegsVia.slvE rfl rfl (by first|rfl|omega|(simp;done)|(simp;omega)) ?_));first|done|fail)) ?_
  intro s ⟨hj, hq⟩ ih
  have hsl := saneL_len l fr s.1
  have hso := saneL_ok hl fr s.1 hj
  rw [← hq] at hsl hso
  have hx := hl s.1
  have hla := hso ((s.2.length : Int) - 1).toNat
  by_cases hlt : s.1 < l.length
  · have hxo := hx hlt
    have x1 := hxo.id
    have x2 := hxo.first
    have x3 := hxo.count
    clear hx
    by_cases h0 : s.2.length = 0
    · repeat' (first
       |(refine qz ?_;first
         |(refine qg ?_;first|refine skp ?_|refine skp0 ?_)
         |refine bs1A (enc := fcells) ?_
         |refine eqH (fun _ => ?_) (fun _ => ?_)
         |(refine q4 ?_;first|(refine t0 ?_;first|refine mv1 ?_|refine as1 ?_|refine mvA ?_|refine asA ?_|refine mvT ?_|refine asT ?_)|(refine t1 ?_;first|refine ldI ?_|refine ldT ?_|refine ldV ?_|refine ld ?_|refine ldL ?_|refine ldLR ?_|refine ldW ?_|refine ldA ?_|refine ldR ?_)|(refine t2 ?_;first|refine stI ?_|refine stT ?_|refine st ?_|refine stW ?_)|(refine t3 ?_;first|refine ixs ?_|refine ixa ?_|refine ixS ?_|refine ixV ?_)|refine fa ?_)
         |(refine q15 ?_;first|refine ad ?_|refine sb ?_|refine ml ?_|refine qu ?_|refine re ?_|refine sr ?_|refine sl_ ?_|refine an 1 ?_|refine an 2 ?_|refine an 3 ?_|refine an 4 ?_|refine an 5 ?_|refine an 6 ?_|refine an 8 ?_|refine an 7 ?_|refine xr ?_|refine or_ ?_|refine an_ ?_)
         |(refine q21 ?_;first|refine cT ?_|refine cF ?_|refine cX (fun _=>?_) (fun _=>?_)|refine beq_ ?_|refine bne_ ?_)
         |(refine q28 ?_;first|refine pkT ?_|refine pkF ?_|refine nt_ ?_|refine cv ?_|refine xt1 ?_|refine xtA ?_|refine nl ?_|refine fd ?_|refine fdA ?_)
         |(refine q33 ?_;first|(refine t30 ?_;first|refine lns ?_|refine lnS ?_|refine lnV ?_|refine lnn ?_)|refine mxl ?_|refine mxr ?_|refine mx_ ?_|refine mnl ?_|refine mnr ?_|refine mn_ ?_|refine apI ?_|refine apL ?_)|refine b0 ?_|refine b0A ?_|refine bS ?_|refine bA ?_|refine bF ?_|refine bs1I ?_|refine bs1 ?_|refine al_ ?_|refine bx ?_|refine mm ?_|refine msI ?_|refine clo2 ?_|refine clo ?_|refine mpB ?_|refine lkB (fun _=>?_) (fun _=>?_))
       |refine sk_last (by first|exact Consistent.nil|exact Consistent.one _|exact Consistent.ofL (by repeat' (first|exact True.intro|refine And.intro ?_ ?_|exact Compat.ne rfl))) ⟨by kernel_rfl,?_⟩|refine sk_last (by first|exact Consistent.nil|exact Consistent.one _|exact Consistent.ofL (by repeat' (first|exact True.intro|refine And.intro ?_ ?_|exact Compat.ne rfl))) ?_|refine wS ?_|refine wA ?_|refine wD ?_|refine wT ?_|refine wF ?_|refine wK ?_|refine wB ?_|refine wE ?_|refine wR ?_)
      all_goals
        first
          | refine ih (s.1 + 1, s.2) _ _ _ (GoTo.mk (τl := [0,1]) (by decide) rfl (by (repeat' (first|exact ObjsVia.nil|refine ObjsVia.flat rfl ?_|refine ObjsVia.cons rfl ?_|refine ObjsVia.dead rfl ?_));first|done|fail) (by (repeat' (first|exact RegsVia.nil|refine RegsVia.flat rfl ?_|refine RegsVia.cons rfl ?_|refine RegsVia.sl rfl (by assumption) rfl ?_|refine RegsVia.slvE rfl rfl (by first|rfl|omega|(simp;done)|(simp;omega)) ?_));first|done|fail)) ⟨by show s.1 + 1 ≤ _; omega, ?_⟩ (by show _ - (s.1 + 1) < _; omega)
          | refine ih (s.1 + 1, s.2 ++ [l.getD s.1 default]) _ _ _ (GoTo.mk (τl := [0,4]) (by decide) rfl (by (repeat' (first|exact ObjsVia.nil|refine ObjsVia.flat rfl ?_|refine ObjsVia.cons rfl ?_|refine ObjsVia.dead rfl ?_));first|done|fail) (by (repeat' (first|exact RegsVia.nil|refine RegsVia.flat rfl ?_|refine RegsVia.cons rfl ?_|refine RegsVia.sl rfl (by assumption) rfl ?_|refine RegsVia.slvE rfl rfl (by first|rfl|omega|(simp;done)|(simp;omega)) ?_));first|done|fail)) ⟨by show s.1 + 1 ≤ _; omega, ?_⟩ (by show _ - (s.1 + 1) < _; omega)
        show _ = saneL l fr (s.1 + 1)
        unfold saneL
        rw [← hq]
        symm
        first
          | (refine if_pos ?_; rw [keep0 h0]; refine decide_eq_true ?_; omega)
          | (refine if_neg ?_; rw [keep0 h0, decide_eq_false (by omega)]; decide)
    · have hlo := hla (by omega)
      have y1 := hlo.id
      have y2 := hlo.first
      have y3 := hlo.count
      repeat' (first
       |(refine qz ?_;first
         |(refine qg ?_;first|refine skp ?_|refine skp0 ?_)
         |refine bs1A (enc := fcells) ?_
         |refine eqH (fun _ => ?_) (fun _ => ?_)
         |(refine q4 ?_;first|(refine t0 ?_;first|refine mv1 ?_|refine as1 ?_|refine mvA ?_|refine asA ?_|refine mvT ?_|refine asT ?_)|(refine t1 ?_;first|refine ldI ?_|refine ldT ?_|refine ldV ?_|refine ld ?_|refine ldL ?_|refine ldLR ?_|refine ldW ?_|refine ldA ?_|refine ldR ?_)|(refine t2 ?_;first|refine stI ?_|refine stT ?_|refine st ?_|refine stW ?_)|(refine t3 ?_;first|refine ixs ?_|refine ixa ?_|refine ixS ?_|refine ixV ?_)|refine fa ?_)
         |(refine q15 ?_;first|refine ad ?_|refine sb ?_|refine ml ?_|refine qu ?_|refine re ?_|refine sr ?_|refine sl_ ?_|refine an 1 ?_|refine an 2 ?_|refine an 3 ?_|refine an 4 ?_|refine an 5 ?_|refine an 6 ?_|refine an 8 ?_|refine an 7 ?_|refine xr ?_|refine or_ ?_|refine an_ ?_)
         |(refine q21 ?_;first|refine cT ?_|refine cF ?_|refine cX (fun _=>?_) (fun _=>?_)|refine beq_ ?_|refine bne_ ?_)
         |(refine q28 ?_;first|refine pkT ?_|refine pkF ?_|refine nt_ ?_|refine cv ?_|refine xt1 ?_|refine xtA ?_|refine nl ?_|refine fd ?_|refine fdA ?_)
         |(refine q33 ?_;first|(refine t30 ?_;first|refine lns ?_|refine lnS ?_|refine lnV ?_|refine lnn ?_)|refine mxl ?_|refine mxr ?_|refine mx_ ?_|refine mnl ?_|refine mnr ?_|refine mn_ ?_|refine apI ?_|refine apL ?_)|refine b0 ?_|refine b0A ?_|refine bS ?_|refine bA ?_|refine bF ?_|refine bs1I ?_|refine bs1 ?_|refine al_ ?_|refine bx ?_|refine mm ?_|refine msI ?_|refine clo2 ?_|refine clo ?_|refine mpB ?_|refine lkB (fun _=>?_) (fun _=>?_))
       |refine sk_last (by first|exact Consistent.nil|exact Consistent.one _|exact Consistent.ofL (by repeat' (first|exact True.intro|refine And.intro ?_ ?_|exact Compat.ne rfl))) ⟨by kernel_rfl,?_⟩|refine sk_last (by first|exact Consistent.nil|exact Consistent.one _|exact Consistent.ofL (by repeat' (first|exact True.intro|refine And.intro ?_ ?_|exact Compat.ne rfl))) ?_|refine wS ?_|refine wA ?_|refine wD ?_|refine wT ?_|refine wF ?_|refine wK ?_|refine wB ?_|refine wE ?_|refine wR ?_)
      all_goals
        first
          | refine ih (s.1 + 1, s.2) _ _ _ (GoTo.mk (τl := [0,1]) (by decide) rfl (by (repeat' (first|exact ObjsVia.nil|refine ObjsVia.flat rfl ?_|refine ObjsVia.cons rfl ?_|refine ObjsVia.dead rfl ?_));first|done|fail) (by (repeat' (first|exact RegsVia.nil|refine RegsVia.flat rfl ?_|refine RegsVia.cons rfl ?_|refine RegsVia.sl rfl (by assumption) rfl ?_|refine RegsVia.slvE rfl rfl (by first|rfl|omega|(simp;done)|(simp;omega)) ?_));first|done|fail)) ⟨by show s.1 + 1 ≤ _; omega, ?_⟩ (by show _ - (s.1 + 1) < _; omega)
          | refine ih (s.1 + 1, s.2 ++ [l.getD s.1 default]) _ _ _ (GoTo.mk (τl := [0,5]) (by decide) rfl (by (repeat' (first|exact ObjsVia.nil|refine ObjsVia.flat rfl ?_|refine ObjsVia.cons rfl ?_|refine ObjsVia.dead rfl ?_));first|done|fail) (by (repeat' (first|exact RegsVia.nil|refine RegsVia.flat rfl ?_|refine RegsVia.cons rfl ?_|refine RegsVia.sl rfl (by assumption) rfl ?_|refine RegsVia.slvE rfl rfl (by first|rfl|omega|(simp;done)|(simp;omega)) ?_));first|done|fail)) ⟨by show s.1 + 1 ≤ _; omega, ?_⟩ (by show _ - (s.1 + 1) < _; omega)
        show _ = saneL l fr (s.1 + 1)
        unfold saneL
        rw [← hq]
        symm
        first
          | (refine if_pos ?_; rw [keep1 h0]; refine decide_eq_true ?_; omega)
          | (refine if_neg ?_; rw [keep1 h0, decide_eq_false (by omega)]; decide)
  · obtain he : s.1 = l.length := by omega
    rw [he] at hq
    repeat' (first
     |(refine qz ?_;first
       |(refine qg ?_;first|refine skp ?_|refine skp0 ?_)
       |(refine q4 ?_;first|(refine t0 ?_;first|refine mv1 ?_|refine as1 ?_|refine mvA ?_|refine asA ?_|refine mvT ?_|refine asT ?_)|(refine t1 ?_;first|refine ldI ?_|refine ldT ?_|refine ldV ?_|refine ld ?_|refine ldL ?_|refine ldLR ?_|refine ldW ?_|refine ldA ?_|refine ldR ?_)|(refine t2 ?_;first|refine stI ?_|refine stT ?_|refine st ?_|refine stW ?_)|(refine t3 ?_;first|refine ixs ?_|refine ixa ?_|refine ixS ?_|refine ixV ?_)|refine fa ?_)
       |(refine q15 ?_;first|refine ad ?_|refine sb ?_|refine ml ?_|refine qu ?_|refine re ?_|refine sr ?_|refine sl_ ?_|refine an 1 ?_|refine an 2 ?_|refine an 3 ?_|refine an 4 ?_|refine an 5 ?_|refine an 6 ?_|refine an 8 ?_|refine an 7 ?_|refine xr ?_|refine or_ ?_|refine an_ ?_)
       |(refine q21 ?_;first|refine cT ?_|refine cF ?_|refine cX (fun _=>?_) (fun _=>?_)|refine beq_ ?_|refine bne_ ?_)
       |(refine q28 ?_;first|refine pkT ?_|refine pkF ?_|refine nt_ ?_|refine cv ?_|refine xt1 ?_|refine xtA ?_|refine nl ?_|refine fd ?_|refine fdA ?_)
       |(refine q33 ?_;first|(refine t30 ?_;first|refine lns ?_|refine lnS ?_|refine lnV ?_|refine lnn ?_)|refine mxl ?_|refine mxr ?_|refine mx_ ?_|refine mnl ?_|refine mnr ?_|refine mn_ ?_|refine apI ?_|refine apL ?_)|refine b0 ?_|refine b0A ?_|refine bS ?_|refine bA ?_|refine bF ?_|refine bs1I ?_|refine bs1 ?_|refine al_ ?_|refine bx ?_|refine mm ?_|refine msI ?_|refine clo2 ?_|refine clo ?_|refine mpB ?_|refine lkB (fun _=>?_) (fun _=>?_))
     |refine sk_last (by first|exact Consistent.nil|exact Consistent.one _|exact Consistent.ofL (by repeat' (first|exact True.intro|refine And.intro ?_ ?_|exact Compat.ne rfl))) ⟨by kernel_rfl,?_⟩|refine sk_last (by first|exact Consistent.nil|exact Consistent.one _|exact Consistent.ofL (by repeat' (first|exact True.intro|refine And.intro ?_ ?_|exact Compat.ne rfl))) ?_|refine wS ?_|refine wA ?_|refine wD ?_|refine wT ?_|refine wF ?_|refine wK ?_|refine wB ?_|refine wE ?_|refine wR ?_)
    rw [← hq]
    show KCon _ _ _ _ _ _ _ _; refine kcon_via [0,1] (by first|exact .inr rfl|exact .inl rfl) (by first|exact fun m hm => rfl|exact ResL.one rfl (.cell rfl rfl (load_whole rfl) .nil)|exact ResL.two rfl (.cell rfl rfl (load_whole rfl) (.tmp rfl .nil))|exact ResL.zero rfl .nil) ?_ (by first|exact trivial|exact slv_ok (Nat.le_of_ble_eq_true rfl)|exact okT2 (slc_ok (Nat.le_of_ble_eq_true rfl)) trivial|simp [XV.okN,X1.ok,XC.ok]) (by decide) rfl (by repeat' (first|exact ObjsVia.nil|refine ObjsVia.flat rfl ?_|refine ObjsVia.cons rfl ?_|refine ObjsVia.dead rfl ?_)) (by repeat' (first|exact AllOk.nil|refine AllOk.flat ?_|refine AllOk.cons (by first|(simp [XObj.okN,XC.ok];done)|simp [XObj.okN,XC.ok, *]) ?_))
    simp only [XV.ren, List.map_cons, List.map_nil, X1.ren, slc_ren]
    rfl
end Go.Proofs.Ytaepmifmcohhgaa
