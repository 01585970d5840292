/-
  FateTells: its walk.
-/
import Derived.Test.YtaepmifmcohhgaaFateLaw
import Derived.Test.YtaepmifmcohhgaaFateAwake
namespace Go.Proofs.Ytaepmifmcohhgaa
open Go.Xm
set_option linter.unusedVariables false
set_option linter.unusedSectionVars false
set_option linter.unusedSimpArgs false
variable [Atoms]

theorem told_at {HS : Heap} {l : List Int} (hl : ByteL l) {o : XObj} (ho : RO o .u8 l) {c : XC} {i : Nat} (hc : SlOf c i 0 l.length) (hi : HS[i]? = some o) (hs : l.length ≤ 1000) {x y : Int} (hx : 0 ≤ x ∧ x ≤ 1000) (hy : 0 ≤ y ∧ y ≤ 1000) (hb : Nat.blt HS.length Mem.bound = true) :
    Inst.Sound Try.prog ⟨10, [.one c, .one (.int .i64 x), .one (.int .i64 y)], HS, .one (.bool (toldB l x.toNat y.toNat)), HS, []⟩ := by
  obtain ⟨c0, h0, rfl⟩ := hc.backN 0 (nth [i]) rfl
  obtain ⟨a, rfl⟩ : ∃ a : Nat, x = a := ⟨x.toNat, by omega⟩
  obtain ⟨b, rfl⟩ : ∃ b : Nat, y = b := ⟨y.toNat, by omega⟩
  have hfo := ho.flat
  exact inst_rd [i] (told_con l hl o ho c0 h0 hs a b (by omega) (by omega)) (by simp) (.flat hi .nil) (.flat .nil) (.cons (h0.ok (Nat.le_of_ble_eq_true rfl)) (.flat (.flat .nil))) (.cons rfl (.flat (.flat .nil))) trivial rfl hb rfl
theorem tells_at {HS : Heap} {l : List Int} (hl : ByteL l) {o : XObj} (ho : RO o .u8 l) {c : XC} {i p q : Nat} (hc : SlOf c i (0 + p * 1) (q - p)) (hi : HS[i]? = some o) (hn : p ≤ q ∧ q ≤ l.length) (hs : l.length ≤ 1000) (hb : Nat.blt HS.length Mem.bound = true) :
    Inst.Sound Try.prog ⟨8, [.one c], HS, .one (.bool (partB l p q)), HS, []⟩ := by
  rw [show 0 + p * 1 = p by omega] at hc
  obtain ⟨c0, h0, rfl⟩ := hc.backN 0 (nth [i]) rfl
  have hfo := ho.flat
  have hcon := tells_con l hl o ho c0 p (q - p) h0 (by omega) (by omega)
  rw [tells_part] at hcon
  exact inst_rd [i] hcon (by simp) (.flat hi .nil) (.flat .nil) (.cons (h0.ok (Nat.le_of_ble_eq_true rfl)) .nil) (.cons rfl .nil) trivial rfl hb rfl
theorem compat_tells {l : List Int} {c c' : XC} {i p q p' q' : Nat} {HS : Heap} (h : SlOf c i (0 + p * 1) (q - p)) (h' : SlOf c' i (0 + p' * 1) (q' - p')) : Compat ⟨8, [.one c], HS, .one (.bool (partB l p q)), HS, []⟩ ⟨8, [.one c'], HS, .one (.bool (partB l p' q')), HS, []⟩ := by
  intro _ ha _
  simp only [List.cons.injEq, XV.one.injEq, and_true] at ha
  subst ha
  obtain ⟨e1, h0 | ⟨e2, _⟩⟩ := h.same h'
  · have e3 : q' - p' = 0 := by omega
    unfold partB
    rw [h0, e3]
    exact ⟨rfl, rfl, rfl⟩
  · have e3 : p = p' := by omega
    subst e3
    unfold partB
    rw [e1]
    exact ⟨rfl, rfl, rfl⟩
theorem slok_backN {c : XC} {i n : Nat} (h : SlOk c i n) (j : Nat) (τ : Nat → Nat) (ht : τ j = i) : ∃ c0, SlOk c0 j n ∧ c0.ren τ = c := by
  subst ht
  rcases h with ⟨rfl, rfl⟩ | ⟨cap, rfl⟩
  · exact ⟨.nils, .inl ⟨rfl, rfl⟩, rfl⟩
  · exact ⟨.slice j 0 n (.exact cap), .inr ⟨cap, rfl⟩, rfl⟩
theorem awake_at {HS : Heap} (hb : Nat.blt HS.length Mem.bound = true) : Inst.Sound Try.prog ⟨7, [], HS, .one (.bool true), HS, []⟩ := inst_pure awake_con rfl rfl hb

section
variable {HS : Heap} {kind at_ burst : Int} {co cm : XC} {od : List Int} {nm iA iB : Nat} {oA oB : XObj} {a b : Int}
theorem fateLo_at (hoA : RO oA .u16 od) [hfB : FlatO oB] (hco : SlOk co iA od.length) (hcm : SlOk cm iB nm) (hd : iA ≠ iB) (hA : HS[iA]? = some oA) (hB : HS[iB]? = some oB) (hk : 0 ≤ kind ∧ kind < 256) (hk5 : kind % 8 < 5) (ha : 1 ≤ a ∧ a ≤ 64) (hb : 1 ≤ b ∧ b ≤ 64) (hbd : Nat.blt HS.length Mem.bound = true) :
    Inst.Sound Try.prog ⟨11, [.agg (sCells kind at_ burst co cm), .one (.int .i64 a), .one (.int .i64 b)], HS, .agg [.bool (decide (kind % 8 = 4)), .nils], HS, []⟩ := by
  obtain ⟨co0, h0, rfl⟩ := slok_backN hco 0 (nth [iA, iB]) rfl
  obtain ⟨cm0, h1, rfl⟩ := slok_backN hcm 1 (nth [iA, iB]) rfl
  obtain ⟨x, rfl⟩ : ∃ x : Nat, a = x := ⟨a.toNat, by omega⟩
  obtain ⟨y, rfl⟩ : ∃ y : Nat, b = y := ⟨b.toNat, by omega⟩
  have hfA := hoA.flat
  exact inst_rd [iA, iB] (fateLo_con kind at_ burst co0 cm0 od nm oA oB hoA h0 h1 hk hk5 x y (by omega) (by omega)) (by simp [hd]) (.flat hA (.flat hB .nil)) (.flat (.flat .nil)) (.cons (sObj_ok h0 h1 rfl) (.flat (.flat .nil))) (.cons rfl (.flat (.flat .nil))) (by simp [XV.okN, XC.ok]) rfl hbd rfl
theorem fate5_at (hoA : RO oA .u16 od) [hfB : FlatO oB] (hco : SlOk co iA od.length) (hcm : SlOk cm iB nm) (hd : iA ≠ iB) (hA : HS[iA]? = some oA) (hB : HS[iB]? = some oB) (hk : 0 ≤ kind ∧ kind < 256) (hk5 : kind % 8 = 5) (hat : 0 ≤ at_ ∧ at_ < 65536) (hbu : 0 ≤ burst ∧ burst < 65536) (ha : 1 ≤ a ∧ a ≤ 64) (hb : 1 ≤ b ∧ b ≤ 64)
    {n : Nat} (hn : HS.length = n) {HS' : Heap} (hh : putL HS [iA, iB] [oA, oB, .cells (il .u8 (m5 (a.toNat + b.toNat) (frOf at_ a.toNat) (szOf at_ a.toNat b.toNat) (at5 at_ a.toNat b.toNat) burst 16)) 5 false false] = HS') (hbd : Nat.blt HS'.length Mem.bound = true) :
    Inst.Sound Try.prog ⟨11, [.agg (sCells kind at_ burst co cm), .one (.int .i64 a), .one (.int .i64 b)], HS, .agg [.bool false, .slice n 0 (a.toNat + b.toNat) (.exact (a.toNat + b.toNat))], HS', [iA, iB]⟩ := by
  obtain ⟨co0, h0, rfl⟩ := slok_backN hco 0 (nth [iA, iB]) rfl
  obtain ⟨cm0, h1, rfl⟩ := slok_backN hcm 1 (nth [iA, iB]) rfl
  obtain ⟨x, rfl⟩ : ∃ x : Nat, a = x := ⟨a.toNat, by omega⟩
  obtain ⟨y, rfl⟩ : ∃ y : Nat, b = y := ⟨b.toNat, by omega⟩
  have hfA := hoA.flat
  subst hn
  exact inst_wr [iA, iB] [iA, iB] 1 (fate5_con kind at_ burst co0 cm0 od nm oA oB hoA h0 h1 hk hk5 hat hbu x y (by omega) (by omega)) (by simp [hd]) (.flat hA (.flat hB .nil)) (.flat (.flat .nil)) (.flat (.flat (.flat .nil))) rfl (.cons (sObj_ok h0 h1 rfl) (.flat (.flat .nil))) (.cons rfl (.flat (.flat .nil))) (by simp [XV.okN, XC.ok]) rfl (.flat (.flat (.flat .nil))) (by simp [roOk, XObj.live, XObj.own]) rfl hh hbd (.inl rfl)
theorem fate6_at (hoA : RO oA .u16 od) [hfB : FlatO oB] (hco : SlOk co iA od.length) (hcm : SlOk cm iB nm) (hd : iA ≠ iB) (hA : HS[iA]? = some oA) (hB : HS[iB]? = some oB) (hk : 0 ≤ kind ∧ kind < 256) (hk6 : kind % 8 = 6) (hat : 0 ≤ at_ ∧ at_ < 65536) (hod : ∀ p, 0 ≤ od.getD p 0 ∧ od.getD p 0 < 65536) (hol : od.length ≤ 30) (ha : 1 ≤ a ∧ a ≤ 64) (hb : 1 ≤ b ∧ b ≤ 64)
    {n : Nat} (hn : HS.length = n) {HS' : Heap} (hh : putL HS [iA, iB] [oA, oB, .cells (il .u8 (f6 at_ od (a.toNat + b.toNat) (frOf at_ a.toNat) (szOf at_ a.toNat b.toNat))) 5 false false] = HS') (hbd : Nat.blt HS'.length Mem.bound = true) :
    Inst.Sound Try.prog ⟨11, [.agg (sCells kind at_ burst co cm), .one (.int .i64 a), .one (.int .i64 b)], HS, .agg [.bool false, .slice n 0 (a.toNat + b.toNat) (.exact (a.toNat + b.toNat))], HS', [iA, iB]⟩ := by
  obtain ⟨co0, h0, rfl⟩ := slok_backN hco 0 (nth [iA, iB]) rfl
  obtain ⟨cm0, h1, rfl⟩ := slok_backN hcm 1 (nth [iA, iB]) rfl
  obtain ⟨x, rfl⟩ : ∃ x : Nat, a = x := ⟨a.toNat, by omega⟩
  obtain ⟨y, rfl⟩ : ∃ y : Nat, b = y := ⟨b.toNat, by omega⟩
  have hfA := hoA.flat
  subst hn
  exact inst_wr [iA, iB] [iA, iB] 1 (fate6_con kind at_ burst co0 cm0 od nm oA oB hoA h0 h1 hk hk6 hat hod hol x y (by omega) (by omega)) (by simp [hd]) (.flat hA (.flat hB .nil)) (.flat (.flat .nil)) (.flat (.flat (.flat .nil))) rfl (.cons (sObj_ok h0 h1 rfl) (.flat (.flat .nil))) (.cons rfl (.flat (.flat .nil))) (by simp [XV.okN, XC.ok]) rfl (.flat (.flat (.flat .nil))) (by simp [roOk, XObj.live, XObj.own]) rfl hh hbd (.inl rfl)
end
theorem byteNil : ByteL [] := fun _ => ⟨Int.le_refl 0, show (0 : Int) < 256 by decide⟩
theorem slObj_ok {kind at_ burst : Int} {co cm : XC} {n n' : Nat} (hco : SlOk co 1 n) (hcm : SlOk cm 2 n') : (sObj kind at_ burst co cm).okN 4 := by
  intro c hc
  simp only [sCells, List.mem_cons, List.not_mem_nil, or_false] at hc
  rcases hc with rfl | rfl | rfl | rfl | rfl
  · trivial
  · trivial
  · trivial
  · exact slok_ok hco (by omega)
  · exact slok_ok hcm (by omega)
theorem slObj_via {τ : Nat → Nat} {HS : Heap} {i : Nat} {l : List Nat} {hs : Heap} {kind at_ burst : Int} {co cm : XC} {n n' : Nat} (hco : SlOk co 1 n) (hcm : SlOk cm 2 n') (h : HS[i]? = some (sObj kind at_ burst co cm)) (h0 : τ 1 = 1) (h1 : τ 2 = 2) (r : ObjsVia τ HS l hs) : ObjsVia τ HS (i :: l) (sObj kind at_ burst co cm :: hs) := by
  refine ObjsVia.cons ?_ r
  rw [h]
  simp only [sObj, sCells, XObj.ren, List.map_cons, List.map_nil, slok_ren hco h0, slok_ren hcm h1]
  rfl
theorem law_con (l od : List Int) (nm : Nat) (oM oA oB : XObj) (hoM : RO oM .u8 l) (hl : ByteL l) (hoA : RO oA .u16 od) (hfB : FlatO oB) (hod : ∀ p, 0 ≤ od.getD p 0 ∧ od.getD p 0 < 65536) (cM co cm : XC) (hcM : SlOf cM 0 0 l.length) (hco : SlOk co 1 od.length) (hcoS : SlOf co 1 0 od.length) (hcm : SlOk cm 2 nm) (hnl : l.length ≤ 9223372036854775807) (hno : od.length ≤ 9223372036854775807)
    (a b kind at_ burst : Int) (hk : 0 ≤ kind ∧ kind < 256) (hat : 0 ≤ at_ ∧ at_ < 65536) (hbu : 0 ≤ burst ∧ burst < 65536) :
    Con Try.prog 4 [.one cM, .one (.int .i64 a), .one (.int .i64 b), .agg (sCells kind at_ burst co cm)] [oM, oA, oB] (.one (.bool true)) [oM, oA, oB] := by
  have hfM := hoM.flat
  have hfA := hoA.flat
  have hco3 := slok_ok (m := 3) hco (by omega)
  have hcm3 := slok_ok (m := 3) hcm (by omega)
  have ha0 := Int.emod_nonneg a (show (2 : Int) ^ 6 ≠ 0 by decide)
  have ha1 := Int.emod_lt_of_pos a (show (0 : Int) < 2 ^ 6 by decide)
  have hb0 := Int.emod_nonneg b (show (2 : Int) ^ 6 ≠ 0 by decide)
  have hb1 := Int.emod_lt_of_pos b (show (0 : Int) < 2 ^ 6 by decide)
  have hoN : RO oM .u8 [] := ⟨fun h => absurd h (Nat.lt_irrefl _), hfM⟩
  refine con_of_wx Try.func4 rfl (Nat.le_of_ble_eq_true rfl) (Nat.le_of_ble_eq_true rfl) (Nat.le_of_ble_eq_true rfl) (Nat.le_of_ble_eq_true rfl) ?_
  by_cases h100 : 100 < l.length
  · repeat' (first
     |(refine qz ?_;first
       |(refine qg ?_;first|refine skp ?_|refine skp0 ?_)
       |refine cl ?_ (hi := by exact awake_at rfl)
       |(refine q4 ?_;first|(refine t0 ?_;first|refine mv1 ?_|refine as1 ?_|refine mvA ?_|refine asA ?_|refine mvT ?_|refine asT ?_)|(refine t1 ?_;first|refine ldI ?_|refine ldT ?_|refine ldV ?_|refine ld ?_|refine ldW ?_|refine ldA ?_|refine ldR ?_)|(refine t2 ?_;first|refine stI ?_|refine stT ?_|refine st ?_|refine stW ?_)|(refine t3 ?_;first|refine ixs ?_|refine ixa ?_|refine ixS ?_|refine ixV ?_)|refine fa ?_)
       |(refine q15 ?_;first|refine ad ?_|refine sb ?_|refine ml ?_|refine qu ?_|refine re ?_|refine sr ?_|refine sl_ ?_|refine an 1 ?_|refine an 2 ?_|refine an 3 ?_|refine an 4 ?_|refine an 5 ?_|refine an 6 ?_|refine an 8 ?_|refine an 7 ?_|refine xr ?_|refine or_ ?_|refine an_ ?_)
       |(refine q21 ?_;first|refine cT ?_|refine cF ?_|refine cX (fun _=>?_) (fun _=>?_)|refine beq_ ?_|refine bne_ ?_)
       |(refine q28 ?_;first|refine pkT ?_|refine pkF ?_|refine nt_ ?_|refine cv ?_|refine xt1 ?_|refine xtA ?_|refine nl ?_|refine fd ?_|refine fdA ?_)
       |(refine q33 ?_;first|(refine t30 ?_;first|refine lns ?_|refine lnS ?_|refine lnV ?_|refine lnn ?_)|refine mxl ?_|refine mxr ?_|refine mx_ ?_|refine mnl ?_|refine mnr ?_|refine mn_ ?_|refine apI ?_)|refine b0 ?_|refine b0A ?_|refine bS ?_|refine bA ?_|refine bF ?_|refine bs1I ?_|refine bs1 ?_|refine al_ ?_|refine bx ?_|refine mm ?_|refine msI ?_|refine clo2 ?_|refine clo ?_|refine mpB ?_|refine lkB (fun _=>?_) (fun _=>?_))
     |refine sk_last (by first|exact Consistent.nil|exact Consistent.one _|exact Consistent.ofL (by repeat' (first|exact True.intro|refine And.intro ?_ ?_|exact Compat.ne rfl))) ⟨by kernel_rfl,?_⟩|refine sk_last (by first|exact Consistent.nil|exact Consistent.one _|exact Consistent.ofL (by repeat' (first|exact True.intro|refine And.intro ?_ ?_|exact Compat.ne rfl))) ?_|refine wS ?_|refine wA ?_|refine wD ?_|refine wT ?_|refine wF ?_|refine wK ?_|refine wB ?_|refine wE ?_|refine wR ?_)
    show KCon _ _ _ _ _ _ _ _; refine kcon_via [0,1,2] (by first|exact .inr rfl|exact .inl rfl) (by first|exact fun m hm => rfl|exact ResL.one rfl (.cell rfl rfl (load_whole rfl) .nil)|exact ResL.two rfl (.cell rfl rfl (load_whole rfl) (.tmp rfl .nil))|exact ResL.zero rfl .nil) ?_ (by first|exact trivial|exact slv_ok (Nat.le_of_ble_eq_true rfl)|simp [XV.okN,X1.ok,XC.ok]) (by decide) rfl (by repeat' (first|exact ObjsVia.nil|refine ObjsVia.flat rfl ?_|refine ObjsVia.cons rfl ?_|refine ObjsVia.dead rfl ?_)) (by repeat' (first|exact AllOk.nil|refine AllOk.flat ?_|refine AllOk.cons (by first|(simp [XObj.okN,XC.ok];done)|simp [XObj.okN,XC.ok, *]) ?_))
    rfl
  · have htd : toldB l (a % 2 ^ 6).toNat (b % 2 ^ 6).toNat = (partB l 0 (min (a % 2 ^ 6).toNat l.length) && partB l (min (a % 2 ^ 6).toNat l.length) (min ((a % 2 ^ 6).toNat + (b % 2 ^ 6).toNat) l.length)) := rfl
    repeat' (first
     |(refine qz ?_;first
       |(refine qg ?_;first|refine skp ?_|refine skp0 ?_)
       |refine cl ?_ (hi := by exact awake_at rfl)
       |refine clB (fun h1 => ?_) (fun h1 => ?_) (hi := by exact told_at hl hoM hcM rfl (by omega) (by omega) (by omega) rfl)
       |refine slS (p := 0) (q := min (a % 2 ^ 6).toNat l.length) (fun c1 hc1 => ?_)
       |refine slS (p := min (a % 2 ^ 6).toNat l.length) (q := min ((a % 2 ^ 6).toNat + (b % 2 ^ 6).toNat) l.length) (fun c2 hc2 => ?_)
       |refine clB (fun h2 => ?_) (fun h2 => ?_) (hi := by exact tells_at hl hoM hc1 rfl (by omega) (by omega) rfl)
       |refine clB (fun h3 => ?_) (fun h3 => ?_) (hi := by exact tells_at hl hoM hc2 rfl (by omega) (by omega) rfl)
       |(refine q4 ?_;first|(refine t0 ?_;first|refine mv1 ?_|refine as1 ?_|refine mvA ?_|refine asA ?_|refine mvT ?_|refine asT ?_)|(refine t1 ?_;first|refine ldI ?_|refine ldT ?_|refine ldV ?_|refine ld ?_|refine ldW ?_|refine ldA ?_|refine ldR ?_)|(refine t2 ?_;first|refine stI ?_|refine stT ?_|refine st ?_|refine stW ?_)|(refine t3 ?_;first|refine ixs ?_|refine ixa ?_|refine ixS ?_|refine ixV ?_)|refine fa ?_)
       |(refine q15 ?_;first|refine ad ?_|refine sb ?_|refine ml ?_|refine qu ?_|refine re ?_|refine sr ?_|refine sl_ ?_|refine an 1 ?_|refine an 2 ?_|refine an 3 ?_|refine an 4 ?_|refine an 5 ?_|refine an 6 ?_|refine an 8 ?_|refine an 7 ?_|refine xr ?_|refine or_ ?_|refine an_ ?_)
       |(refine q21 ?_;first|refine cT ?_|refine cF ?_|refine cX (fun _=>?_) (fun _=>?_)|refine beq_ ?_|refine bne_ ?_)
       |(refine q28 ?_;first|refine pkT ?_|refine pkF ?_|refine nt_ ?_|refine cv ?_|refine xt1 ?_|refine xtA ?_|refine nl ?_|refine fd ?_|refine fdA ?_)
       |(refine q33 ?_;first|(refine t30 ?_;first|refine lns ?_|refine lnS ?_|refine lnV ?_|refine lnn ?_)|refine mxl ?_|refine mxr ?_|refine mx_ ?_|refine mnl ?_|refine mnr ?_|refine mn_ ?_|refine apI ?_)|refine b0 ?_|refine b0A ?_|refine bS ?_|refine bA ?_|refine bF ?_|refine bs1I ?_|refine bs1 ?_|refine al_ ?_|refine bx ?_|refine mm ?_|refine msI ?_|refine clo2 ?_|refine clo ?_|refine mpB ?_|refine lkB (fun _=>?_) (fun _=>?_))
     |refine WX.meetS 8 (σ := Unit) (fun _ => [(1, .one (.int .i64 (a % 2 ^ 6))), (2, .one (.int .i64 (b % 2 ^ 6))), (7, .one (.ptr 3 0))]) (fun _ => [oM, oA, oB, sObj kind at_ burst co cm]) (fun _ => True) (fun _ _ => StOk.mk rfl rfl (.flat (.flat (.flat (.cons (slObj_ok hco hcm) .nil)))) (.flat (.flat (.cons (show 3 < 4 by omega) .nil)))) ?_ (fun _ _ => ?_)|refine sk_last (by first|exact Consistent.nil|exact Consistent.one _|exact Consistent.ofL (by repeat' (first|exact True.intro|refine And.intro ?_ ?_|exact Compat.ne rfl|exact compat_tells hc2 hc1))) ⟨by kernel_rfl,?_⟩|refine sk_last (by first|exact Consistent.nil|exact Consistent.one _|exact Consistent.ofL (by repeat' (first|exact True.intro|refine And.intro ?_ ?_|exact Compat.ne rfl|exact compat_tells hc2 hc1))) ?_|refine wS ?_|refine wA ?_|refine wD ?_|refine wT ?_|refine wF ?_|refine wK ?_|refine wB ?_|refine wE ?_|refine wR ?_)
    all_goals first
      | (rw [h1, h2, h3] at htd; exact absurd htd (by decide))
      | (rw [h1, h2, Bool.false_and] at htd; exact absurd htd (by decide))
      | exact ⟨(), _, trivial, GoTo.mk (τl := [0, 1, 2, 3]) (by decide) rfl (.flat rfl (.flat rfl (.flat rfl (slObj_via hco hcm rfl rfl rfl .nil)))) (.flat rfl (.flat rfl (.cons rfl .nil)))⟩
      | exact ⟨rfl, (), _, trivial, GoTo.mk (τl := [0, 1, 2, 3]) (by decide) rfl (.flat rfl (.flat rfl (.flat rfl (slObj_via hco hcm rfl rfl rfl .nil)))) (.flat rfl (.flat rfl (.cons rfl .nil)))⟩
      | skip
    · show KCon _ _ _ _ _ _ _ _; refine kcon_via [0,1,2] (by first|exact .inr rfl|exact .inl rfl) (by first|exact fun m hm => rfl|exact ResL.one rfl (.cell rfl rfl (load_whole rfl) .nil)|exact ResL.two rfl (.cell rfl rfl (load_whole rfl) (.tmp rfl .nil))|exact ResL.zero rfl .nil) ?_ (by first|exact trivial|exact slv_ok (Nat.le_of_ble_eq_true rfl)|simp [XV.okN,X1.ok,XC.ok]) (by decide) rfl (by repeat' (first|exact ObjsVia.nil|refine ObjsVia.flat rfl ?_|refine ObjsVia.cons rfl ?_|refine ObjsVia.dead rfl ?_)) (by repeat' (first|exact AllOk.nil|refine AllOk.flat ?_|refine AllOk.cons (by first|(simp [XObj.okN,XC.ok];done)|simp [XObj.okN,XC.ok, *]) ?_))
      rfl
    · show KCon _ _ _ _ _ _ _ _; refine kcon_via [0,1,2] (by first|exact .inr rfl|exact .inl rfl) (by first|exact fun m hm => rfl|exact ResL.one rfl (.cell rfl rfl (load_whole rfl) .nil)|exact ResL.two rfl (.cell rfl rfl (load_whole rfl) (.tmp rfl .nil))|exact ResL.zero rfl .nil) ?_ (by first|exact trivial|exact slv_ok (Nat.le_of_ble_eq_true rfl)|simp [XV.okN,X1.ok,XC.ok]) (by decide) rfl (by repeat' (first|exact ObjsVia.nil|refine ObjsVia.flat rfl ?_|refine ObjsVia.cons rfl ?_|refine ObjsVia.dead rfl ?_)) (by repeat' (first|exact AllOk.nil|refine AllOk.flat ?_|refine AllOk.cons (by first|(simp [XObj.okN,XC.ok];done)|simp [XObj.okN,XC.ok, *]) ?_))
      rfl
    · have hk7 : kind % 8 < 5 ∨ kind % 8 = 5 ∨ kind % 8 = 6 := by omega
      have n1 : (a % 2 ^ 6 + 1).toNat + (b % 2 ^ 6 + 1).toNat ≤ 128 := by omega
      rcases hk7 with hk7 | hk7 | hk7
      · repeat' (first
         |(refine qz ?_;first
           |(refine qg ?_;first|refine skp ?_|refine skp0 ?_)
           |refine cl ?_ (hi := by exact fateLo_at hoA hco hcm (by decide) rfl rfl hk hk7 (by omega) (by omega) rfl)
           |refine cl ?_ (hi := by exact told_at (l := []) byteNil hoN (i := 0) SlOf.nil rfl (by simp) (by omega) (by omega) rfl)
           |(refine q4 ?_;first|(refine t0 ?_;first|refine mv1 ?_|refine as1 ?_|refine mvA ?_|refine asA ?_|refine mvT ?_|refine asT ?_)|(refine t1 ?_;first|refine ldI ?_|refine ldT ?_|refine ldV ?_|refine ld ?_|refine ldW ?_|refine ldA ?_|refine ldR ?_)|(refine t2 ?_;first|refine stI ?_|refine stT ?_|refine st ?_|refine stW ?_)|(refine t3 ?_;first|refine ixs ?_|refine ixa ?_|refine ixS ?_|refine ixV ?_)|refine fa ?_)
           |(refine q15 ?_;first|refine ad ?_|refine sb ?_|refine ml ?_|refine qu ?_|refine re ?_|refine sr ?_|refine sl_ ?_|refine an 1 ?_|refine an 2 ?_|refine an 3 ?_|refine an 4 ?_|refine an 5 ?_|refine an 6 ?_|refine an 8 ?_|refine an 7 ?_|refine xr ?_|refine or_ ?_|refine an_ ?_)
           |(refine q21 ?_;first|refine cT ?_|refine cF ?_|refine cX (fun _=>?_) (fun _=>?_)|refine beq_ ?_|refine bne_ ?_)
           |(refine q28 ?_;first|refine pkT ?_|refine pkF ?_|refine nt_ ?_|refine cv ?_|refine xt1 ?_|refine xtA ?_|refine nl ?_|refine fd ?_|refine fdA ?_)
           |(refine q33 ?_;first|(refine t30 ?_;first|refine lns ?_|refine lnS ?_|refine lnV ?_|refine lnn ?_)|refine mxl ?_|refine mxr ?_|refine mx_ ?_|refine mnl ?_|refine mnr ?_|refine mn_ ?_|refine apI ?_)|refine b0 ?_|refine b0A ?_|refine bS ?_|refine bA ?_|refine bF ?_|refine bs1I ?_|refine bs1 ?_|refine al_ ?_|refine bx ?_|refine mm ?_|refine msI ?_|refine clo2 ?_|refine clo ?_|refine mpB ?_|refine lkB (fun _=>?_) (fun _=>?_))
         |refine sk_last (by first|exact Consistent.nil|exact Consistent.one _|exact Consistent.ofL (by repeat' (first|exact True.intro|refine And.intro ?_ ?_|exact Compat.ne rfl))) ⟨by kernel_rfl,?_⟩|refine sk_last (by first|exact Consistent.nil|exact Consistent.one _|exact Consistent.ofL (by repeat' (first|exact True.intro|refine And.intro ?_ ?_|exact Compat.ne rfl))) ?_|refine wS ?_|refine wA ?_|refine wD ?_|refine wT ?_|refine wF ?_|refine wK ?_|refine wB ?_|refine wE ?_|refine wR ?_)
        show KCon _ _ _ _ _ _ _ _; refine kcon_via [0,1,2] (by first|exact .inr rfl|exact .inl rfl) (by first|exact fun m hm => rfl|exact ResL.one rfl (.cell rfl rfl (load_whole rfl) .nil)|exact ResL.two rfl (.cell rfl rfl (load_whole rfl) (.tmp rfl .nil))|exact ResL.zero rfl .nil) ?_ (by first|exact trivial|exact slv_ok (Nat.le_of_ble_eq_true rfl)|simp [XV.okN,X1.ok,XC.ok]) (by decide) rfl (by repeat' (first|exact ObjsVia.nil|refine ObjsVia.flat rfl ?_|refine ObjsVia.cons rfl ?_|refine ObjsVia.dead rfl ?_)) (by repeat' (first|exact AllOk.nil|refine AllOk.flat ?_|refine AllOk.cons (by first|(simp [XObj.okN,XC.ok];done)|simp [XObj.okN,XC.ok, *]) ?_))
        exact congrArg (fun b => XV.one (XC.bool b)) (told_nil _ _)
      · have hmb := m5_byte ((a % 2 ^ 6 + 1).toNat + (b % 2 ^ 6 + 1).toNat) (frOf at_ (a % 2 ^ 6 + 1).toNat) (szOf at_ (a % 2 ^ 6 + 1).toNat (b % 2 ^ 6 + 1).toNat) (at5 at_ (a % 2 ^ 6 + 1).toNat (b % 2 ^ 6 + 1).toNat) burst 16
        have hml := m5_len ((a % 2 ^ 6 + 1).toNat + (b % 2 ^ 6 + 1).toNat) (frOf at_ (a % 2 ^ 6 + 1).toNat) (szOf at_ (a % 2 ^ 6 + 1).toNat (b % 2 ^ 6 + 1).toNat) (at5 at_ (a % 2 ^ 6 + 1).toNat (b % 2 ^ 6 + 1).toNat) burst 16
        repeat' (first
         |(refine qz ?_;first
           |(refine qg ?_;first|refine skp ?_|refine skp0 ?_)
           |refine cl ?_ (hi := by exact fate5_at hoA hco hcm (by decide) rfl rfl hk hk7 hat hbu (by omega) (by omega) (by first|(simp only [List.length_cons,List.length_nil,List.length_append,List.length_set,Nat.reduceAdd,Nat.zero_add];exact rfl)|exact rfl) (by first|(simp only [putL,List.set_cons_succ,List.set_cons_zero,List.cons_append,List.nil_append];exact rfl)|exact rfl) rfl)
           |refine cl ?_ (hi := by exact told_at hmb (RO.of _ _ _ _ _) (by rw [hml]; exact .mk (Nat.le_refl _)) rfl (by omega) (by omega) (by omega) rfl)
           |(refine q4 ?_;first|(refine t0 ?_;first|refine mv1 ?_|refine as1 ?_|refine mvA ?_|refine asA ?_|refine mvT ?_|refine asT ?_)|(refine t1 ?_;first|refine ldI ?_|refine ldT ?_|refine ldV ?_|refine ld ?_|refine ldW ?_|refine ldA ?_|refine ldR ?_)|(refine t2 ?_;first|refine stI ?_|refine stT ?_|refine st ?_|refine stW ?_)|(refine t3 ?_;first|refine ixs ?_|refine ixa ?_|refine ixS ?_|refine ixV ?_)|refine fa ?_)
           |(refine q15 ?_;first|refine ad ?_|refine sb ?_|refine ml ?_|refine qu ?_|refine re ?_|refine sr ?_|refine sl_ ?_|refine an 1 ?_|refine an 2 ?_|refine an 3 ?_|refine an 4 ?_|refine an 5 ?_|refine an 6 ?_|refine an 8 ?_|refine an 7 ?_|refine xr ?_|refine or_ ?_|refine an_ ?_)
           |(refine q21 ?_;first|refine cT ?_|refine cF ?_|refine cX (fun _=>?_) (fun _=>?_)|refine beq_ ?_|refine bne_ ?_)
           |(refine q28 ?_;first|refine pkT ?_|refine pkF ?_|refine nt_ ?_|refine cv ?_|refine xt1 ?_|refine xtA ?_|refine nl ?_|refine fd ?_|refine fdA ?_)
           |(refine q33 ?_;first|(refine t30 ?_;first|refine lns ?_|refine lnS ?_|refine lnV ?_|refine lnn ?_)|refine mxl ?_|refine mxr ?_|refine mx_ ?_|refine mnl ?_|refine mnr ?_|refine mn_ ?_|refine apI ?_)|refine b0 ?_|refine b0A ?_|refine bS ?_|refine bA ?_|refine bF ?_|refine bs1I ?_|refine bs1 ?_|refine al_ ?_|refine bx ?_|refine mm ?_|refine msI ?_|refine clo2 ?_|refine clo ?_|refine mpB ?_|refine lkB (fun _=>?_) (fun _=>?_))
         |refine sk_last (by first|exact Consistent.nil|exact Consistent.one _|exact Consistent.ofL (by repeat' (first|exact True.intro|refine And.intro ?_ ?_|exact Compat.ne rfl))) ⟨by kernel_rfl,?_⟩|refine sk_last (by first|exact Consistent.nil|exact Consistent.one _|exact Consistent.ofL (by repeat' (first|exact True.intro|refine And.intro ?_ ?_|exact Compat.ne rfl))) ?_|refine wS ?_|refine wA ?_|refine wD ?_|refine wT ?_|refine wF ?_|refine wK ?_|refine wB ?_|refine wE ?_|refine wR ?_)
        show KCon _ _ _ _ _ _ _ _; refine kcon_via [0,1,2] (by first|exact .inr rfl|exact .inl rfl) (by first|exact fun m hm => rfl|exact ResL.one rfl (.cell rfl rfl (load_whole rfl) .nil)|exact ResL.two rfl (.cell rfl rfl (load_whole rfl) (.tmp rfl .nil))|exact ResL.zero rfl .nil) ?_ (by first|exact trivial|exact slv_ok (Nat.le_of_ble_eq_true rfl)|simp [XV.okN,X1.ok,XC.ok]) (by decide) rfl (by repeat' (first|exact ObjsVia.nil|refine ObjsVia.flat rfl ?_|refine ObjsVia.cons rfl ?_|refine ObjsVia.dead rfl ?_)) (by repeat' (first|exact AllOk.nil|refine AllOk.flat ?_|refine AllOk.cons (by first|(simp [XObj.okN,XC.ok];done)|simp [XObj.okN,XC.ok, *]) ?_))
        exact congrArg (fun b => XV.one (XC.bool b)) (told5 _ _ _ _ (by omega) (by omega) (by omega))
      · have hmb : ByteL (f6 at_ od ((a % 2 ^ 6 + 1).toNat + (b % 2 ^ 6 + 1).toNat) (frOf at_ (a % 2 ^ 6 + 1).toNat) (szOf at_ (a % 2 ^ 6 + 1).toNat (b % 2 ^ 6 + 1).toNat)) := m6_byte _ _ _ _ _ _
        have hml : (f6 at_ od ((a % 2 ^ 6 + 1).toNat + (b % 2 ^ 6 + 1).toNat) (frOf at_ (a % 2 ^ 6 + 1).toNat) (szOf at_ (a % 2 ^ 6 + 1).toNat (b % 2 ^ 6 + 1).toNat)).length = (a % 2 ^ 6 + 1).toNat + (b % 2 ^ 6 + 1).toNat := m6_len ..
        repeat' (first
         |(refine qz ?_;first
           |(refine qg ?_;first|refine skp ?_|refine skp0 ?_)
           |refine cl ?_ (hi := by exact fate6_at hoA hco hcm (by decide) rfl rfl hk hk7 hat hod (by omega) (by omega) (by omega) (by first|(simp only [List.length_cons,List.length_nil,List.length_append,List.length_set,Nat.reduceAdd,Nat.zero_add];exact rfl)|exact rfl) (by first|(simp only [putL,List.set_cons_succ,List.set_cons_zero,List.cons_append,List.nil_append];exact rfl)|exact rfl) rfl)
           |refine cl ?_ (hi := by exact told_at hmb (RO.of _ _ _ _ _) (by rw [hml]; exact .mk (Nat.le_refl _)) rfl (by omega) (by omega) (by omega) rfl)
           |(refine q4 ?_;first|(refine t0 ?_;first|refine mv1 ?_|refine as1 ?_|refine mvA ?_|refine asA ?_|refine mvT ?_|refine asT ?_)|(refine t1 ?_;first|refine ldI ?_|refine ldT ?_|refine ldV ?_|refine ld ?_|refine ldW ?_|refine ldA ?_|refine ldR ?_)|(refine t2 ?_;first|refine stI ?_|refine stT ?_|refine st ?_|refine stW ?_)|(refine t3 ?_;first|refine ixs ?_|refine ixa ?_|refine ixS ?_|refine ixV ?_)|refine fa ?_)
           |(refine q15 ?_;first|refine ad ?_|refine sb ?_|refine ml ?_|refine qu ?_|refine re ?_|refine sr ?_|refine sl_ ?_|refine an 1 ?_|refine an 2 ?_|refine an 3 ?_|refine an 4 ?_|refine an 5 ?_|refine an 6 ?_|refine an 8 ?_|refine an 7 ?_|refine xr ?_|refine or_ ?_|refine an_ ?_)
           |(refine q21 ?_;first|refine cT ?_|refine cF ?_|refine cX (fun _=>?_) (fun _=>?_)|refine beq_ ?_|refine bne_ ?_)
           |(refine q28 ?_;first|refine pkT ?_|refine pkF ?_|refine nt_ ?_|refine cv ?_|refine xt1 ?_|refine xtA ?_|refine nl ?_|refine fd ?_|refine fdA ?_)
           |(refine q33 ?_;first|(refine t30 ?_;first|refine lns ?_|refine lnS ?_|refine lnV ?_|refine lnn ?_)|refine mxl ?_|refine mxr ?_|refine mx_ ?_|refine mnl ?_|refine mnr ?_|refine mn_ ?_|refine apI ?_)|refine b0 ?_|refine b0A ?_|refine bS ?_|refine bA ?_|refine bF ?_|refine bs1I ?_|refine bs1 ?_|refine al_ ?_|refine bx ?_|refine mm ?_|refine msI ?_|refine clo2 ?_|refine clo ?_|refine mpB ?_|refine lkB (fun _=>?_) (fun _=>?_))
         |refine sk_last (by first|exact Consistent.nil|exact Consistent.one _|exact Consistent.ofL (by repeat' (first|exact True.intro|refine And.intro ?_ ?_|exact Compat.ne rfl))) ⟨by kernel_rfl,?_⟩|refine sk_last (by first|exact Consistent.nil|exact Consistent.one _|exact Consistent.ofL (by repeat' (first|exact True.intro|refine And.intro ?_ ?_|exact Compat.ne rfl))) ?_|refine wS ?_|refine wA ?_|refine wD ?_|refine wT ?_|refine wF ?_|refine wK ?_|refine wB ?_|refine wE ?_|refine wR ?_)
        show KCon _ _ _ _ _ _ _ _; refine kcon_via [0,1,2] (by first|exact .inr rfl|exact .inl rfl) (by first|exact fun m hm => rfl|exact ResL.one rfl (.cell rfl rfl (load_whole rfl) .nil)|exact ResL.two rfl (.cell rfl rfl (load_whole rfl) (.tmp rfl .nil))|exact ResL.zero rfl .nil) ?_ (by first|exact trivial|exact slv_ok (Nat.le_of_ble_eq_true rfl)|simp [XV.okN,X1.ok,XC.ok]) (by decide) rfl (by repeat' (first|exact ObjsVia.nil|refine ObjsVia.flat rfl ?_|refine ObjsVia.cons rfl ?_|refine ObjsVia.dead rfl ?_)) (by repeat' (first|exact AllOk.nil|refine AllOk.flat ?_|refine AllOk.cons (by first|(simp [XObj.okN,XC.ok];done)|simp [XObj.okN,XC.ok, *]) ?_))
        exact congrArg (fun b => XV.one (XC.bool b)) (told6 _ _ _ _ (by omega) (by omega))
end Go.Proofs.Ytaepmifmcohhgaa
