/-
  The second machine, as the kernel runs it: memory, addresses, calls.
-/
import Derived.Test.YtaepmifmcohhgaaXmFast2
namespace Go.Xm
set_option linter.unusedSectionVars false
variable [Atoms]
noncomputable section

/-! ### A load, a store -/
def yloadAt (P : Program) (t : TypeId) (vs : List XC) (off : Nat) : Option X1 :=
  oSome (xisAgg P t) fun b => @Bool.rec (fun _ => Option X1)
    (oSome (yget vs off) fun c => some (.one c))
    (oSome (xsize P t) fun s => yif (Nat.ble (Nat.add off s) (ylen vs)) (some (.agg (ytake s (ydrop off vs)))) .none) b
theorem yloadAt_eq (P : Program) (t : TypeId) (vs : List XC) (off : Nat) : yloadAt P t vs off = xloadAt P t vs off := by
  unfold yloadAt xloadAt
  cases h : xisAgg P t with
  | none => rfl
  | some b =>
    cases b
    · show oSome (yget vs off) _ = _
      rw [yget_eq, oSome_eq]
      cases vs[off]? <;> rfl
    · show oSome (xsize P t) _ = _
      cases xsize P t with
      | none => rfl
      | some s =>
        show yif _ _ _ = _
        rw [yif_eq, ylen_eq, ytake_eq, ydrop_eq]
        simp only [Nat.ble_eq]
        rfl

def toVf (x : X1) : XV := @X1.rec (fun _ => XV) .one .agg x
theorem toVf_eq (x : X1) : toVf x = x.toV := by cases x <;> rfl

def aLoad (t : TypeId) (a : Operand) : Act1 := fun _ P r m =>
  vPtr (yev a r) (fun i off => oCells (yobj m i) (fun vs _ _ _ => oSome (yloadAt P t vs off) fun x => some ⟨toVf x, m, false, some i⟩) .none) .none

theorem aLoad_eq (t : TypeId) (a : Operand) (O : Orc) (P : Program) (r : T XV) (m : Mem) : aLoad t a O P r m = xact O P (xeval (r.get .undef)) (.load t a) m := by
  unfold aLoad
  rcases vPtr_spec (yev a r) (fun i off => oCells (yobj m i) (fun vs _ _ _ => oSome (yloadAt P t vs off) fun x => some (⟨toVf x, m, false, some i⟩ : Out)) .none) .none with ⟨i, off, h1, h2⟩ | ⟨h1, h2⟩
  · rw [h2]
    rw [yev_eq] at h1
    simp only [xact, xpureO, xorc, xpure, xread, h1]
    rw [yobj_eq]
    cases hg : m.get i with
    | dead => rfl
    | map es => rfl
    | cells vs e opn ro =>
      show oSome _ _ = _
      rw [yloadAt_eq, oSome_eq]
      cases hq : xloadAt P t vs off with
      | none => simp only [hq, Option.map_none, Option.bind_none]
      | some x => simp only [hq, Option.map_some, Option.bind_some, toVf_eq]
  · rw [h2]
    rw [yev_eq] at h1
    have hn : xread P (xeval (r.get .undef)) (.load t a) = .none := by
      simp only [xread]
    simp only [xact, xpureO, xorc, xpure, hn, xwrite, xcallOp]

def vCells (v : XV) (f : List XC → Option Out) : Option Out := @XV.rec (fun _ => Option Out) .none (fun c => f [c]) f (fun _ => .none) v
theorem vCells_eq (v : XV) (f : List XC → Option Out) : vCells v f = oSome (xcells v) f := by cases v <;> rfl

/-- Cells laid over cells. -/
def ysplice (vs : List XC) (off : Nat) (cs : List XC) : List XC :=
  @List.rec XC (fun _ => List XC) vs (fun c t _ => @List.rec XC (fun _ => List XC) (ylset vs off c) (fun _ _ _ => yapp (ytake off vs) (yapp cs (ydrop (Nat.add off (ylen cs)) vs))) t) cs
theorem ysplice_eq (vs : List XC) (off : Nat) (cs : List XC) (h : off + cs.length ≤ vs.length) : ysplice vs off cs = vs.take off ++ cs ++ vs.drop (off + cs.length) := by
  cases cs with
  | nil => show vs = _; simp
  | cons c t =>
    cases t with
    | nil =>
      show ylset vs off c = _
      rw [ylset_eq]
      simp only [List.length_cons, List.length_nil] at h ⊢
      rw [List.set_eq_take_append_cons_drop, if_pos (by omega)]
      simp
    | cons c' t =>
      show yapp (ytake off vs) (yapp (c :: c' :: t) (ydrop (Nat.add off (ylen (c :: c' :: t))) vs)) = _
      rw [yapp_eq, yapp_eq, ytake_eq, ydrop_eq, ylen_eq, List.append_assoc]
      rfl

def aStore (t : TypeId) (a x : Operand) : Act1 := fun _ P r m =>
  vPtr (yev a r) (fun i off => vCells (yev x r) fun cs => oSome (xsize P t) fun s => yif (Nat.beq (ylen cs) s)
    (oCells (yobj m i) (fun vs e opn ro => @Bool.rec (fun _ => Option Out)
      (yif (Nat.ble (Nat.add off (ylen cs)) (ylen vs)) (some ⟨.tup [], yput m i (.cells (ysplice vs off cs) e opn false), true, .none⟩) .none) .none ro) .none) .none) .none

theorem aStore_eq (t : TypeId) (a x : Operand) (O : Orc) (P : Program) (r : T XV) (m : Mem) : aStore t a x O P r m = xact O P (xeval (r.get .undef)) (.store t a x) m := by
  have hx : xact O P (xeval (r.get .undef)) (.store t a x) m = (xstore P t (xeval (r.get .undef) a) (xeval (r.get .undef) x) m).bind fun p => some ⟨p.1, p.2, true, .none⟩ := by
    simp only [xact, xpureO, xorc, xpure, xread, xwrite, xcallOp]
    cases xstore P t (xeval (r.get .undef) a) (xeval (r.get .undef) x) m with
    | none => rfl
    | some p => rfl
  rw [hx]
  unfold aStore
  rw [← yev_eq a, ← yev_eq x]
  rcases vPtr_spec (yev a r) (fun i off => vCells (yev x r) fun cs => oSome (xsize P t) fun s => yif (Nat.beq (ylen cs) s)
    (oCells (yobj m i) (fun vs e opn ro => @Bool.rec (fun _ => Option Out)
      (yif (Nat.ble (Nat.add off (ylen cs)) (ylen vs)) (some ⟨.tup [], yput m i (.cells (ysplice vs off cs) e opn false), true, .none⟩) .none) .none ro) .none) .none) .none with ⟨i, off, h1, h2⟩ | ⟨h1, h2⟩
  · rw [h2, h1, vCells_eq, oSome_eq]
    unfold xstore
    cases hc : xcells (yev x r) with
    | none => rfl
    | some cs =>
      show oSome (xsize P t) _ = _
      cases hs : xsize P t with
      | none => rfl
      | some s =>
        show yif _ _ _ = _
        rw [yif_eq, ylen_eq]
        simp only [Nat.beq_eq]
        by_cases hl : cs.length = s
        · rw [if_pos hl, if_pos hl, yobj_eq]
          cases hg : m.get i with
          | dead => rfl
          | map es => rfl
          | cells vs e opn ro =>
            cases ro
            · show yif _ _ _ = _
              rw [yif_eq, ylen_eq]
              simp only [Nat.ble_eq]
              by_cases hf : off + cs.length ≤ vs.length
              · rw [if_pos hf, if_pos (show Nat.add off cs.length ≤ vs.length from hf)]
                rw [ysplice_eq vs off cs hf, yput_eq]
                rfl
              · rw [if_neg hf, if_neg (show ¬ Nat.add off cs.length ≤ vs.length from hf)]
                rfl
            · rfl
        · rw [if_neg hl, if_neg hl]; rfl
  · rw [h2]
    have : xstore P t (yev a r) (yev x r) m = .none := by
      unfold xstore
      split
      · rename_i i off cs s h _ _; exact absurd h (h1 i off)
      · rfl
    rw [this]; rfl

/-! ### Addresses -/
def tArr (P : Program) (t : TypeId) : Option (Nat × Nat) := match P.underlying t with
  | some (.array len e) => match xsize P e with
    | some s => some (len, s)
    | .none => .none
  | _ => .none
def tSl (P : Program) (t : TypeId) : Option Nat := match P.underlying t with
  | some (.slice e) => xsize P e
  | _ => .none
def tField (P : Program) (s : TypeId) (f : Nat) : Option Nat := match xfieldOf P s f with
  | some fd => match xsize P fd.type with
    | some (_ + 1) => some fd.offset
    | _ => .none
  | .none => .none

def inR (j : Int) (n : Nat) (f : Nat → Option Out) : Option Out := @Int.rec (fun _ => Option Out) (fun k => yif (Nat.blt k n) (f k) .none) (fun _ => .none) j
theorem inR_eq (j : Int) (n : Nat) (f : Nat → Option Out) : inR j n f = if 0 ≤ j ∧ j < n then f j.toNat else .none := by
  cases j with
  | ofNat k =>
    show yif (Nat.blt k n) (f k) .none = _
    rw [yif_eq]
    simp only [Nat.blt_eq]
    by_cases h : k < n
    · rw [if_pos h, if_pos ⟨Int.natCast_nonneg k, by exact Int.ofNat_lt.2 h⟩]; rfl
    · rw [if_neg h, if_neg (fun h' => h (Int.ofNat_lt.1 h'.2))]
  | negSucc k =>
    show Option.none = _
    rw [if_neg (by omega)]

def aIndexAddr (t : TypeId) (x ix : Operand) : Act1 := fun _ P r m =>
  vInt (yev ix r) (fun _ j => vOne (yev x r) (fun c =>
    cPtr c (fun i o => oSome (tArr P t) fun p => inR j p.1 fun k => some ⟨.one (.ptr i (Nat.add o (Nat.mul k p.2))), m, false, .none⟩)
      (cSl c (fun i o len _ => oSome (tSl P t) fun s => inR j len fun k => some ⟨.one (.ptr i (Nat.add o (Nat.mul k s))), m, false, .none⟩) .none)) .none) .none

theorem xact_none {O : Orc} {P : Program} {ρ : Operand → XV} {t : TypeId} {x i : Operand} {m : Mem} (h : xindexAddr P t (ρ x) (ρ i) = .none) : xact O P ρ (.indexAddr t x i) m = .none := by
  simp only [xact, xpureO, xorc, xpure, h, xread, xwrite, xcallOp]

theorem aIndexAddr_eq (t : TypeId) (x ix : Operand) (O : Orc) (P : Program) (r : T XV) (m : Mem) : aIndexAddr t x ix O P r m = xact O P (xeval (r.get .undef)) (.indexAddr t x ix) m := by
  have hx : xact O P (xeval (r.get .undef)) (.indexAddr t x ix) m = (xindexAddr P t (xeval (r.get .undef) x) (xeval (r.get .undef) ix)).bind fun v => some ⟨v, m, false, .none⟩ := by
    cases h : xindexAddr P t (xeval (r.get .undef) x) (xeval (r.get .undef) ix) with
    | none => exact xact_none h
    | some v => exact xact_pure h
  rw [hx]
  unfold aIndexAddr
  rw [← yev_eq x, ← yev_eq ix]
  generalize yev x r = vx
  generalize yev ix r = vi
  cases vi with
  | one ci =>
    cases ci with
    | int k j =>
      show vOne vx _ _ = _
      cases vx with
      | one c =>
        cases c with
        | ptr i o =>
          show oSome (tArr P t) _ = _
          rw [oSome_eq]
          unfold tArr xindexAddr
          cases hu : P.underlying t with
          | none => rfl
          | some d =>
            cases d <;> first
              | rfl
              | (rename_i len e
                 cases hs : xsize P e with
                 | none =>
                   simp only [hs]
                   split <;> rfl
                 | some s =>
                   simp only [hs, Option.bind_some, inR_eq]
                   split <;> rfl)
        | slice i o len cap =>
          show oSome (tSl P t) _ = _
          rw [oSome_eq]
          unfold tSl xindexAddr
          cases hu : P.underlying t with
          | none => rfl
          | some d =>
            cases d <;> first
              | rfl
              | (rename_i e
                 cases hs : xsize P e with
                 | none =>
                   simp only [hs]
                   split <;> rfl
                 | some s =>
                   simp only [hs, Option.bind_some, inR_eq]
                   split <;> rfl)
        | _ =>
          show Option.none = _
          unfold xindexAddr
          cases hu : P.underlying t with
          | none => rfl
          | some d => cases d <;> rfl
      | _ =>
        show Option.none = _
        unfold xindexAddr
        cases hu : P.underlying t with
        | none => rfl
        | some d => cases d <;> rfl
    | _ =>
      show Option.none = _
      unfold xindexAddr
      cases hu : P.underlying t with
      | none => rfl
      | some d => cases d <;> (cases vx <;> first | rfl | (rename_i c; cases c <;> rfl))
  | _ =>
    show Option.none = _
    unfold xindexAddr
    cases hu : P.underlying t with
    | none => rfl
    | some d => cases d <;> (cases vx <;> first | rfl | (rename_i c; cases c <;> rfl))

def aFieldAddr (s : TypeId) (x : Operand) (f : Nat) : Act1 := fun _ P r m =>
  vPtr (yev x r) (fun i o => oSome (tField P s f) fun k => some ⟨.one (.ptr i (Nat.add o k)), m, false, .none⟩) .none

theorem aFieldAddr_eq (s : TypeId) (x : Operand) (f : Nat) (O : Orc) (P : Program) (r : T XV) (m : Mem) : aFieldAddr s x f O P r m = xact O P (xeval (r.get .undef)) (.fieldAddr s x f) m := by
  have hx : xact O P (xeval (r.get .undef)) (.fieldAddr s x f) m = (xfieldAddr P s (xeval (r.get .undef) x) f).bind fun v => some ⟨v, m, false, .none⟩ := by
    cases h : xfieldAddr P s (xeval (r.get .undef) x) f with
    | none => simp only [xact, xpureO, xorc, xpure, h, xread, xwrite, xcallOp]; rfl
    | some v => exact xact_pure h
  rw [hx]
  unfold aFieldAddr
  rw [← yev_eq x]
  rcases vPtr_spec (yev x r) (fun i o => oSome (tField P s f) fun k => some (⟨.one (.ptr i (Nat.add o k)), m, false, .none⟩ : Out)) .none with ⟨i, o, h1, h2⟩ | ⟨h1, h2⟩
  · rw [h2, h1, oSome_eq]
    unfold tField xfieldAddr
    cases xfieldOf P s f with
    | none => rfl
    | some fd =>
      simp only []
      split
      · rename_i k hk
        rw [hk]; rfl
      · rename_i hk
        split
        · rename_i k hk'; exact (hk _ hk').elim
        · rfl
  · rw [h2]
    have : xfieldAddr P s (yev x r) f = .none := by
      unfold xfieldAddr
      split
      · rename_i fd i o h hh; exact absurd hh (h1 i o)
      · rfl
    rw [this]; rfl

def aExtract (x : Operand) (i : Nat) : Act1 := fun _ _ r m =>
  @XV.rec (fun _ => Option Out) .none (fun _ => .none) (fun _ => .none) (fun vs => oSome (yget vs i) fun y => some ⟨toVf y, m, false, .none⟩) (yev x r)
theorem aExtract_eq (x : Operand) (i : Nat) (O : Orc) (P : Program) (r : T XV) (m : Mem) : aExtract x i O P r m = xact O P (xeval (r.get .undef)) (.extract x i) m := by
  have hx : xact O P (xeval (r.get .undef)) (.extract x i) m = (xextract (xeval (r.get .undef) x) i).bind fun v => some ⟨v, m, false, .none⟩ := by
    cases h : xextract (xeval (r.get .undef) x) i with
    | none => simp only [xact, xpureO, xorc, xpure, h, xread, xwrite, xcallOp]; rfl
    | some v => exact xact_pure h
  rw [hx]
  unfold aExtract
  rw [← yev_eq x]
  cases yev x r with
  | tup vs =>
    show oSome (yget vs i) _ = _
    rw [oSome_eq, yget_eq]
    unfold xextract
    cases hq : vs[i]? with
    | none => simp only [hq, Option.map_none, Option.bind_none]
    | some y => simp only [hq, Option.map_some, Option.bind_some, toVf_eq]
  | _ => rfl

/-! ### A call -/
def ymapEv (l : List Operand) (r : T XV) (tl : List XV) : List XV := @List.rec Operand (fun _ => List XV) tl (fun x _ ih => yev x r :: ih) l
theorem ymapEv_eq (r : T XV) (tl : List XV) : ∀ l : List Operand, ymapEv l r tl = l.map (xeval (r.get .undef)) ++ tl
  | [] => rfl
  | x :: l => by show yev x r :: ymapEv l r tl = _; rw [ymapEv_eq r tl l, yev_eq]; rfl

def aCall (g : Operand) (args : Array Operand) (_ : Array TypeId) : Act1 := fun O P r m =>
  vOne (yev g r) (fun c => oSome (xfn c) fun p => yif (xcallable P p.1) (oSome (O.call p.1 (ymapEv args.toList r (p.2.map .one)) m) fun q => some ⟨q.1, q.2, true, .none⟩) .none) .none
theorem aCall_eq (g : Operand) (args : Array Operand) (ts : Array TypeId) (O : Orc) (P : Program) (r : T XV) (m : Mem) : aCall g args ts O P r m = xact O P (xeval (r.get .undef)) (.call ⟨.value g, args, ts⟩) m := by
  have hx : xact O P (xeval (r.get .undef)) (.call ⟨.value g, args, ts⟩) m = (xcallOp O P (xeval (r.get .undef)) (.call ⟨.value g, args, ts⟩) m).bind fun p => some ⟨p.1, p.2, true, .none⟩ := by
    simp only [xact, xpureO, xorc, xpure, xread, xwrite]
    cases xcallOp O P (xeval (r.get .undef)) (.call ⟨.value g, args, ts⟩) m <;> rfl
  rw [hx]
  unfold aCall
  simp only [xcallOp]
  rw [← yev_eq g]
  cases yev g r with
  | one c =>
    show oSome (xfn c) _ = _
    rw [oSome_eq]
    simp only []
    cases xfn c with
    | none => rfl
    | some p =>
      obtain ⟨f, caps⟩ := p
      show yif _ _ _ = _
      rw [yif_eq, oSome_eq, ymapEv_eq]
      simp only []
      by_cases hc : xcallable P f = true
      · rw [if_pos hc, if_pos hc]
      · rw [if_neg hc, if_neg hc]; rfl
  | _ => rfl

end
end Go.Xm
