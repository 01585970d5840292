/-
  The second machine, with variables in its states: regions, one operation at a time, what stands behind them last.
-/
import Derived.Test.YtaepmifmcohhgaaXwCall
namespace Go.Xm
set_option linter.unusedSectionVars false
variable [Atoms]

def StepsK (O : Orc) (P : Program) (ops : Array Oper) (nt : Nat) (l : List Oper) (al : Regs) (hs : Heap) (K : List Ab → Regs → Heap → Prop) : Prop :=
  ∃ bs al' hs', StepsX O P ops nt l al hs bs al' hs' ∧ K bs al' hs'

section
variable {O : Orc} {P : Program} {ops : Array Oper} {nt nI : Nat} {al : Regs} {hs : Heap} {o : Oper}

theorem StepsK.nil {K : List Ab → Regs → Heap → Prop} (h : K [] al hs) : StepsK O P ops nt [] al hs K := ⟨[], al, hs, .nil, h⟩

theorem StepsK.cons {o : Oper} {l : List Oper} {x : XV} {hs1 : Heap} {b : Ab} {K : List Ab → Regs → Heap → Prop} (h : OpStep O P ops al hs o x hs1 b) (hd : (match o.dst with | .none => true | some d => decide (d < nt)) = true)
    (hk : StepsK O P ops nt l (putr o.dst x al) hs1 fun bs => K (b :: bs)) : StepsK O P ops nt (o :: l) al hs K := by
  obtain ⟨bs, al', hs', h1, h2⟩ := hk
  exact ⟨b :: bs, al', hs', .cons h (fun d hd' => by rw [hd'] at hd; exact of_decide_eq_true hd) h1, h2⟩

/-- Operations that are done in their order. -/
theorem WX.acts (hO : OrcSound P O) {id : Nat} {K : Post1} (h : StepsK O P ops nt ops.toList al hs fun _ al' hs' => K .normal al' hs') : WX P nt nI (.code (.region id ops false)) al hs K := by
  obtain ⟨bs, al', hs', h1, h2⟩ := h
  exact WX.plain hO h1 h2

/-- Operations whose order is drawn. -/
theorem WX.draws (hO : OrcSound P O) (hP : P.follows .mixedOrders = true) {id : Nat} {K : Post1} (hst : drawnStatic ops nt (bef ops.toList) = true) (h : StepsK O P ops nt ops.toList al hs fun bs al' hs' => dynAb (bef ops.toList) bs = true ∧ K .normal al' hs') : WX P nt nI (.code (.region id ops true)) al hs K := by
  obtain ⟨bs, al', hs', h1, h2, h3⟩ := h
  exact WX.drawn hO hP hst h1 h2 h3

theorem WX.at {c : Cmd} {al' : Regs} {hs' : Heap} {K : Post1} (hl : Less al' al) (hh : hs = hs') (h : WX P nt nI c al' hs' K) : WX P nt nI c al hs K := by
  subst hh
  exact WX.less hl h

/-- A loop that counts. -/
theorem WX.count {c : Code} {K : Post1} (R : Nat → Regs) (H : Nat → Heap) (I : Nat → Prop) (N : Nat) (h0 : I 0)
    (step : ∀ i, i ≤ N → I i → (i < N → I (i + 1) → WX P nt nI (.round c) (R (i + 1)) (H (i + 1)) K) → WX P nt nI (.round c) (R i) (H i) K) : WX P nt nI (.round c) (R 0) (H 0) K := by
  have : ∀ d i, i + d = N → I i → WX P nt nI (.round c) (R i) (H i) K := by
    intro d
    induction d with
    | zero => intro i hi h; exact step i (by omega) h fun hlt => absurd hlt (by omega)
    | succ d ih => intro i hi h; exact step i (by omega) h fun hlt h' => ih (i + 1) (by omega) h'
  exact this N 0 (by omega) h0

/-- Ways that meet again. -/
theorem WX.seqAt {a b : Code} {K : Post1} (al' : Regs) (hs' : Heap) (h1 : WX P nt nI (.code a) al hs fun e al1 hs1 => e = .normal ∧ Less al' al1 ∧ hs1 = hs') (h2 : WX P nt nI (.code b) al' hs' K) : WX P nt nI (.code (.seq a b)) al hs K :=
  WX.seq (h1.mono fun e al1 hs1 ⟨he, hl, hh⟩ => by
    subst he
    exact WX.at hl hh h2)

/-- The same, where the ways' end is a block's. -/
theorem WX.midEnd {c : Code} {K : Post1} (al' : Regs) (hs' : Heap) (h1 : WX P nt nI (.code c) al hs fun e al1 hs1 => e = .normal ∧ Less al' al1 ∧ hs1 = hs') (h2 : ∀ al1, Less al' al1 → K .normal al1 hs') : WX P nt nI (.code c) al hs K :=
  h1.mono fun e al1 hs1 ⟨he, hl, hh⟩ => by
    subst he; subst hh
    exact h2 al1 hl

/-- An integer as one of another kind. -/
theorem OpStep.conv (hw : xwanted ops (rg al) o = some true) {s d : TypeId} {y : Operand} (ho : o.op = .convert s d y) {k k' : IntKind} {x z : Int} (hy : xeval (rg al) y = .one (.int k x)) (hc : xconvert P s d (.one (.int k x)) = some (.one (.int k' (xwrap k' x)))) (hz : k'.wrap x = z) :
    OpStep O P ops al hs o (.one (.int k' z)) hs quiet :=
  OpStep.pure hw (by rw [ho]; simp only [xpure, hy, hc, xwrap_eq, hz])

theorem OpStep.binV (hw : xwanted ops (rg al) o = some true) {op : BinOp} {t t' : TypeId} {a b : Operand} (ho : o.op = .binOp op t a b t') {u v x : XV} (ha : xeval (rg al) a = u) (hb : xeval (rg al) b = v) (h : xbin P op t u v = some x) : OpStep O P ops al hs o x hs quiet :=
  OpStep.pure hw (by rw [ho]; simp only [xpure, ha, hb, h])

theorem ResX.tmp {fn : Func} {a : Nat} {y : X1} (hr : fn.results.toList = [.tmp a]) (ha : toX1 (rg al a) = some y) : ResX P fn al hs y.toV := by
  intro m hm
  unfold xresults
  rw [hr]
  simp only [xresList, xres1, ha]

theorem ResX.cellTmp {fn : Func} {a b i off : Nat} {t : TypeId} {vs : List XC} {e : TypeId} {opn ro : Bool} {x y : X1} (hr : fn.results.toList = [.cell a t, .tmp b]) (ha : rg al a = .one (.ptr i off)) (hi : hs[i]? = some (.cells vs e opn ro)) (hl : xloadAt P t vs off = some x) (hb : toX1 (rg al b) = some y) :
    ResX P fn al hs (.tup [x, y]) := by
  intro m hm
  unfold xresults
  rw [hr]
  simp only [xresList, xres1, ha, hm.at hi, hl, hb]

end
end Go.Xm
