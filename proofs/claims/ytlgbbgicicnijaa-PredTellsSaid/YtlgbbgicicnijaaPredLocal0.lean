/-
  PredLocal: its acts, its state.
-/
import Derived.Test.YtlgbbgicicnijaaPredFacts
namespace Go.Proofs.Ytlgbbgicicnijaa
open Go.Xm
set_option linter.unusedVariables false
set_option linter.unusedSectionVars false
set_option linter.unusedSimpArgs false
variable [Atoms]

structure ActV where
  mb : Int
  k : Int
  first : Int
  qp : Int
  seed : Int
structure ActV.Ok (a : ActV) : Prop where
  hmb : 0 ≤ a.mb ∧ a.mb < 256
  hk : 0 ≤ a.k ∧ a.k < 256
  hf : 0 ≤ a.first ∧ a.first < 256
  hq : 0 ≤ a.qp ∧ a.qp < 256
  hs : 0 ≤ a.seed ∧ a.seed < 65536
abbrev actCells (a : ActV) : List XC := [.int .u8 a.mb, .int .u8 a.k, .int .u8 a.first, .int .u8 a.qp, .int .u16 a.seed]
def actKn (a : ActV) : Kn := knOf a.first a.qp a.seed
abbrev flatActs (l : List ActV) : List XC := l.flatMap actCells
theorem known_at (a : ActV) (h : a.Ok) : Con Try.prog 11 [.agg (actCells a)] [] (.agg (kcells (actKn a))) [] := known_con _ _ _ _ _ h.hf h.hq h.hs

def rowAwake : Row1 := ⟨6, [], .one (.bool true)⟩
theorem runAwake : ((ycall noOrc Try.prog 100000 60).call rowAwake.f rowAwake.args Mem.empty).map (·.1) = some rowAwake.v := by kernel_rfl
theorem awake_con : Con Try.prog 6 [] [] (.one (.bool true)) [] := con_of_fun (fun_of_ran (r := rowAwake) (ran (noOrc_sound _) mixed runAwake (by kernel_rfl)))

theorem slOk_okN {c : XC} {i n m : Nat} (h : SlOk c i n) (hi : i < m) : (XV.one c).okN m := by
  rcases h with ⟨rfl, _⟩ | ⟨cap, rfl⟩
  · trivial
  · exact hi

def lH (oA oB : XObj) (A B C A' B' C' : Tab) (p x y : Int) : Heap :=
  [oA, oB, .cells [.int .i64 3, .int .i64 3, .map 3, .map 4, .map 5] 55 false false, .map (tabEnts A), .map (tabEnts B), .map (tabEnts C), .cells [.int .i64 3, .int .i64 3, .map 7, .map 8, .map 9] 55 false false, .map (tabEnts A'), .map (tabEnts B'), .map (tabEnts C'), .cells [.int .i64 p, .int .i64 x, .int .i64 y] 40 false false]
theorem lH_ok {oA oB : XObj} {A B C A' B' C' : Tab} {p x y : Int} (ha : ∀ n, oA.okN n) (hb : ∀ n, oB.okN n) : ∀ o ∈ lH oA oB A B C A' B' C' p x y, o.okN 11 := by
  intro o ho
  simp only [lH, List.mem_cons, List.not_mem_nil, or_false] at ho
  rcases ho with rfl | rfl | rfl | rfl | rfl | rfl | rfl | rfl | rfl | rfl | rfl
  · exact ha 11
  · exact hb 11
  · simp [XObj.okN, XC.ok]
  · exact ents_ok A 11
  · exact ents_ok B 11
  · exact ents_ok C 11
  · simp [XObj.okN, XC.ok]
  · exact ents_ok A' 11
  · exact ents_ok B' 11
  · exact ents_ok C' 11
  · simp [XObj.okN, XC.ok]
def lR1 (sa sb : XC) (n b q : Int) (len i : Nat) : Regs := [(55, .one (.int .i64 (i : Nat))), (54, .one (.int .i64 (len : Nat))), (53, .one sa), (1, .one sb), (11, .one (.ptr 2 0)), (12, .one (.ptr 6 0)), (13, .one (.int .i64 n)), (14, .one (.int .i64 b)), (15, .one (.int .i64 q)), (16, .one (.ptr 10 0))]
theorem lR1_ok {sa sb : XC} {n b q : Int} {len i lb : Nat} (ha : SlOk sa 0 len) (hb : SlOk sb 1 lb) : ∀ p ∈ lR1 sa sb n b q len i, p.2.okN 11 := by
  intro o ho
  simp only [lR1, List.mem_cons, List.not_mem_nil, or_false] at ho
  rcases ho with rfl | rfl | rfl | rfl | rfl | rfl | rfl | rfl | rfl | rfl <;> first
    | trivial
    | exact slOk_okN ha (by omega)
    | exact slOk_okN hb (by omega)
    | (show (_ : Nat) < 11; omega)
def lR2 (sb : XC) (n b q : Int) (len i : Nat) : Regs := [(86, .one (.int .i64 (i : Nat))), (85, .one (.int .i64 (len : Nat))), (84, .one sb), (11, .one (.ptr 2 0)), (12, .one (.ptr 6 0)), (13, .one (.int .i64 n)), (14, .one (.int .i64 b)), (15, .one (.int .i64 q)), (16, .one (.ptr 10 0))]
theorem lR2_ok {sb : XC} {n b q : Int} {len i : Nat} (hb : SlOk sb 1 len) : ∀ p ∈ lR2 sb n b q len i, p.2.okN 11 := by
  intro o ho
  simp only [lR2, List.mem_cons, List.not_mem_nil, or_false] at ho
  rcases ho with rfl | rfl | rfl | rfl | rfl | rfl | rfl | rfl | rfl <;> first
    | trivial
    | exact slOk_okN hb (by omega)
    | (show (_ : Nat) < 11; omega)
theorem less10 {al : Regs} {a0 a1 a2 a3 a4 a5 a6 a7 a8 a9 : Nat × XV} (h0 : rg al a0.1 = a0.2) (h1 : rg al a1.1 = a1.2) (h2 : rg al a2.1 = a2.2) (h3 : rg al a3.1 = a3.2) (h4 : rg al a4.1 = a4.2) (h5 : rg al a5.1 = a5.2) (h6 : rg al a6.1 = a6.2) (h7 : rg al a7.1 = a7.2) (h8 : rg al a8.1 = a8.2) (h9 : rg al a9.1 = a9.2) : Xm.Less [a0, a1, a2, a3, a4, a5, a6, a7, a8, a9] al :=
  less_cons h0 (less_cons h1 (less_cons h2 (less_cons h3 (less_cons h4 (less_cons h5 (less_cons h6 (less_cons h7 (less_cons h8 (less_cons h9 (less_nil _))))))))))
end Go.Proofs.Ytlgbbgicicnijaa
