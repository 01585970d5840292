/-
  The second machine: a region whose order is drawn, where one variable is made at any time ahead of its first use: the law.
-/
import Derived.Test.YtaepmifmcohhgaaXmDrawn3
namespace Go.Xm
set_option linter.unusedSectionVars false
set_option linter.unusedVariables false
variable [Atoms]

def pairOkF (bs : List Nat) (f i : Nat) (di : Out) (e : Nat) (me : Mem) (de : Out) : Bool :=
  !de.eff || i == e || ((!(di.eff && decide (e < i) && i != f) || bit bs i e) &&
    (match di.fp with
      | .none => true
      | some fp => bit bs i e || bit bs e i || (de.m.ent fp).ver == (me.ent fp).ver))
def drawnDynF (bs : List Nat) (f : Nat) (tr : List (Mem × Out)) : Bool :=
  (List.range tr.length).all fun i => match tr[i]? with
    | .none => true
    | some (_, di) => (!di.eff && di.fp.isNone) || (List.range tr.length).all fun e => match tr[e]? with
      | .none => true
      | some (me, de) => pairOkF bs f i di e me de
/-- What is read-only was there. -/
def roKept (m0 m : Mem) : Bool := (List.range m.n).all fun j => !(m.get j).live || (m.get j).own || (decide (j < m0.n) && (m0.get j).live)
/-- The operation f makes a variable, and may do so at any time. -/
def floatAt (ops : Array Oper) (bs : List Nat) (tr : List (Mem × Out)) (f : Nat) : Bool :=
  match ops[f]?, tr[0]?, tr[f]? with
  | some o, some (m0, _), some (mf, _) => match o.op, o.guard, o.dst with
    | .alloc _, .none, some d => roKept m0 mf && (List.range ops.size).all (fun i => i == f || (match ops[i]? with
        | .none => true
        | some oi => !((oi.looksAt ops).contains d || (match tr[i]? with | .none => false | some (_, di) => decide (di.fp = some mf.n))) || (List.range f).all fun e => match tr[e]? with
          | .none => true
          | some (_, de) => !de.eff || bit bs i e)) && drawnDynF bs f tr
    | _, _, _ => false
  | _, _, _ => false
def xdrawnF (O : Orc) (P : Program) (ops : Array Oper) (nt : Nat) (r : T XV) (m : Mem) : Option (T XV × Mem) :=
  if drawnStatic ops nt (bef ops.toList) then
    match xtrace O P ops nt ops.toList r m with
    | some (tr, r', m') => if (List.range ops.size).any (floatAt ops (bef ops.toList) tr) then some (r', m') else .none
    | .none => .none
  else .none

section
variable {O : Orc} {P : Program} {ops : Array Oper} {nt : Nat} {tr : List (Mem × Out)} {rs : Nat → T XV} {ms : Nat → Mem} {ds : Nat → Out}

structure DynF (ops : Array Oper) (ms : Nat → Mem) (ds : Nat → Out) (f d : Nat) (t : TypeId) : Prop where
  ord : ∀ i e, i < ops.size → e < ops.size → (ds i).eff = true → (ds e).eff = true → e < i → i ≠ f → Anc ops i e
  ver : ∀ i e fp, i < ops.size → e < ops.size → (ds i).fp = some fp → (ds e).eff = true → i ≠ e → ¬ Anc ops i e → ¬ Anc ops e i → ((ds e).m.ent fp).ver = ((ms e).ent fp).ver
  look : ∀ (i : Nat) (oi : Oper), ops[i]? = some oi → i ≠ f → d ∈ oi.looksAt ops → ∀ e, e < f → (ds e).eff = true → Anc ops i e
  rd : ∀ (i : Nat), i < ops.size → i ≠ f → (ds i).fp = some (ms f).n → ∀ e, e < f → (ds e).eff = true → Anc ops i e
  ro : ∀ j, j < (ms f).n → ((ms f).get j).live = true → ((ms f).get j).own = true ∨ (j < (ms 0).n ∧ ((ms 0).get j).live = true)
  lt : f < ops.size
  op : ∃ o, ops[f]? = some o ∧ o.op = .alloc t ∧ o.guard = .none ∧ o.dst = some d

theorem dynF_ok (hT : Trace O P ops nt ops.toList tr rs ms ds) {f : Nat} (hf : f < ops.size) (h : floatAt ops (bef ops.toList) tr f = true) : ∃ d t, DynF ops ms ds f d t := by
  obtain ⟨o, ho, h1, _⟩ := trace_get hT hf
  obtain ⟨_, _, h0, _⟩ := trace_get hT (show 0 < ops.size by omega)
  unfold floatAt at h
  rw [ho, h0, h1] at h
  simp only at h
  split at h
  · rename_i t d hop hg hd
    simp only [Bool.and_eq_true] at h
    obtain ⟨⟨hro, hlk⟩, hdy⟩ := h
    have pair : ∀ i e, i < ops.size → e < ops.size → ((!(ds i).eff && (ds i).fp.isNone) || pairOkF (bef ops.toList) f i (ds i) e (ms e) (ds e)) = true := by
      intro i e hi he
      obtain ⟨_, _, h1, _⟩ := trace_get hT hi
      obtain ⟨_, _, h2, _⟩ := trace_get hT he
      have hil : i < tr.length := (List.getElem?_eq_some_iff.1 h1).1
      have hel : e < tr.length := (List.getElem?_eq_some_iff.1 h2).1
      have h3 := List.all_eq_true.1 hdy i (List.mem_range.2 hil)
      rw [h1] at h3
      simp only [Bool.or_eq_true] at h3 ⊢
      rcases h3 with h3 | h3
      · exact .inl h3
      · have h4 := List.all_eq_true.1 h3 e (List.mem_range.2 hel)
        rw [h2] at h4
        exact .inr h4
    refine ⟨d, t, fun i e hi he h1 h2 hlt hif => ?_, fun i e fp hi he h1 h2 hne ha hb => ?_, fun i oi hoi hif hl e he heff => ?_, fun i hil hif hfp e he heff => ?_, fun j hj hlv => ?_, hf, o, ho, hop, hg, hd⟩
    · have hp := pair i e hi he
      have hb : (i == e) = false := by simp; omega
      have hq : (i != f) = true := by simpa using hif
      simp [pairOkF, h1, h2, hb, hlt, hq] at hp
      exact bef_spec ops i e hp.1
    · have hp := pair i e hi he
      have hq : (i == e) = false := by simpa using hne
      have n1 : bit (bef ops.toList) i e = false := by
        cases hx : bit (bef ops.toList) i e
        · rfl
        · exact absurd (bef_spec ops i e hx) ha
      have n2 : bit (bef ops.toList) e i = false := by
        cases hx : bit (bef ops.toList) e i
        · rfl
        · exact absurd (bef_spec ops e i hx) hb
      simp [pairOkF, h1, h2, hq, n1, n2] at hp
      exact hp.2
    · have hil : i < ops.size := (Array.getElem?_eq_some_iff.1 hoi).1
      have h3 := List.all_eq_true.1 hlk i (List.mem_range.2 hil)
      have hq : (i == f) = false := by simpa using hif
      rw [hoi, hq] at h3
      have hc : (oi.looksAt ops).contains d = true := by simpa using hl
      simp only [Bool.false_or, hc, Bool.true_or, Bool.not_true] at h3
      have h4 := List.all_eq_true.1 h3 e (List.mem_range.2 he)
      obtain ⟨_, _, h5, _⟩ := trace_get hT (show e < ops.size by omega)
      rw [h5] at h4
      simp only [heff, Bool.not_true, Bool.false_or] at h4
      exact bef_spec ops i e h4
    · obtain ⟨oi, hoi, h6, _⟩ := trace_get hT hil
      have h3 := List.all_eq_true.1 hlk i (List.mem_range.2 hil)
      have hq : (i == f) = false := by simpa using hif
      rw [hoi, hq, h6] at h3
      simp only [Bool.false_or, hfp, decide_true, Bool.or_true, Bool.not_true] at h3
      have h4 := List.all_eq_true.1 h3 e (List.mem_range.2 he)
      obtain ⟨_, _, h5, _⟩ := trace_get hT (show e < ops.size by omega)
      rw [h5] at h4
      simp only [heff, Bool.not_true, Bool.false_or] at h4
      exact bef_spec ops i e h4
    · have h3 := List.all_eq_true.1 hro j (List.mem_range.2 hj)
      simp only [hlv, Bool.not_true, Bool.false_or, Bool.or_eq_true, Bool.and_eq_true, decide_eq_true_eq] at h3
      exact h3
  · cases h

/-- The variable is there, though the text does not have it yet. -/
structure EarlyOk (P : Program) (ops : Array Oper) (ms : Nat → Mem) (ds : Nat → Out) (w0 : World) (f d : Nat) (t : TypeId) (b : Nat) (β : Env) (q : Nat) (g : Nat → XV) (listed : Array Bool) (a : Act) (w : World) : Prop where
  le : q ≤ f
  l : listed.getD f false = true
  un : g d = .undef
  ge : w0.heap.size ≤ b
  lt : b < w.heap.size
  blk : ∃ ti v, P.info? t = some ti ∧ ti.zero = some v ∧ w.heap[b]? = some (.cells v.cells t (0, 0))
  img : ¬ Img β (ms q) b
  tmp : a.tmps.getD d undef = .pointer (some ⟨b, 0, none⟩)

structure InvF (O : Orc) (P : Program) (ops : Array Oper) (nt : Nat) (rs : Nat → T XV) (ms : Nat → Mem) (ds : Nat → Out) (f d : Nat) (t : TypeId) (β0 : Env) (w0 : World) (dfs : List Deferred) (er : Option Nat) (listed : Array Bool) (a : Act) (w : World) : Prop where
  size : listed.size = ops.size
  cl : ∀ i j, Anc ops i j → listed.getD i false = true → listed.getD j false = true
  st : ∃ (β : Env) (q : Nat) (g : Nat → XV), q ≤ ops.size ∧ (∀ e, e < ops.size → (ds e).eff = true → (er.isSome = true → e ≠ f) → (listed.getD e false = true ↔ e < q)) ∧ Rel β (ms q) w ∧ RelF β (ms q).n nt g a.tmps ∧
    (∀ (i : Nat) (o : Oper) (t : Nat), listed.getD i false = true → (er.isSome = true → i ≠ f) → ops[i]? = some o → o.dst = some t → g t = (ds i).x) ∧
    (∀ t : Nat, (er.isSome = true → t ≠ d) → (∀ (i : Nat) (o : Oper), listed.getD i false = true → ops[i]? = some o → o.dst ≠ some t) → g t = (rs 0).get .undef t) ∧ Step β0 (ms 0) w0 β (ms q) w ∧
    (∀ b, er = some b → EarlyOk P ops ms ds w0 f d t b β q g listed a w ∧ ∃ e, e < f ∧ (ds e).eff = true ∧ listed.getD e false = false)
  dfs : a.defers = dfs

/-- The variable, taken for the text's. -/
theorem Rel.adopt {β : Env} {m m' : Mem} {w : World} (h : Rel β m w) {o : XObj} (hp : m.push o = some m') {b sz : Nat} (ho : ∀ β', Ext m.n β β' → RelO β' m'.n 0 sz o w.heap[b]?) (hn : ∀ j, j < m.n → (m.get j).live = true → β.blk j ≠ b) :
    ∃ β', Ext m.n β β' ∧ Rel β' m' w ∧ β'.blk m.n = b ∧ β'.base m.n = 0 ∧ m'.n = m.n + 1 ∧ m'.get m.n = o ∧ ∀ j, j < m.n → m'.get j = m.get j := by
  obtain ⟨h1, h2, h3, h4⟩ := Mem.push_spec hp
  let β' : Env := ⟨fun j => if j = m.n then b else β.blk j, fun j => if j = m.n then 0 else β.base j, fun j => if j = m.n then sz else β.size j⟩
  have hext : Ext m.n β β' := fun j hj => ⟨by simp only [β']; rw [if_neg (by omega)], by simp only [β']; rw [if_neg (by omega)], by simp only [β']; rw [if_neg (by omega)]⟩
  have hgn : m'.get m.n = o := by unfold Mem.get; rw [h3]
  have hgo : ∀ j, j < m.n → m'.get j = m.get j := fun j hj => by unfold Mem.get; rw [h4 j (by omega)]
  have e1 : β'.blk m.n = b := by simp [β']
  have e2 : β'.base m.n = 0 := by simp [β']
  have e3 : β'.size m.n = sz := by simp [β']
  refine ⟨β', hext, ⟨by omega, Fresh.push h.fresh hp, fun i hi => ?_, fun i j hi hj li lj hbb => ?_⟩, e1, e2, h2, hgn, hgo⟩
  · by_cases hin : i = m.n
    · subst hin
      rw [hgn, e1, e2, e3]
      exact ho β' hext
    · have hil : i < m.n := by omega
      rw [hgo i hil, (hext i hil).1, (hext i hil).2.1, (hext i hil).2.2]
      exact (h.obj i hil).ext hext (by omega)
  · by_cases hin : i = m.n
    · by_cases hjn : j = m.n
      · omega
      · have hjl : j < m.n := by omega
        rw [hgo j hjl] at lj
        rw [hin, e1, (hext j hjl).1] at hbb
        exact absurd hbb.symm (hn j hjl lj)
    · have hil : i < m.n := by omega
      rw [hgo i hil] at li
      by_cases hjn : j = m.n
      · rw [hjn, e1, (hext i hil).1] at hbb
        exact absurd hbb (hn i hil (XObj.live_of_own li))
      · have hjl : j < m.n := by omega
        rw [hgo j hjl] at lj
        rw [(hext i hil).1, (hext j hjl).1] at hbb
        exact h.inj i j hil hjl li lj hbb

theorem xdo_alloc {P : Program} {O : Orc} {g : Nat → XV} {o : Oper} {t : TypeId} {m : Mem} {dd : Out} (hop : o.op = .alloc t) (hg : o.guard = .none) (h : xdo O P ops g o m = some dd) : ∃ zs, xzero P t = some zs ∧ m.push (.cells zs t false false) = some dd.m ∧ dd.x = .one (.ptr m.n 0) ∧ dd.eff = true ∧ dd.fp = .none := by
  have hw : xwanted ops g o = some true := by unfold xwanted; rw [hg]
  unfold xdo at h
  rw [hw] at h
  simp only at h
  have n1 : xpureO O P (xeval g) o.op = .none := by unfold xpureO; rw [hop]; rfl
  have n2 : xread P (xeval g) o.op = .none := by rw [hop]; rfl
  have n3 : xwrite P (xeval g) o.op m = xalloc P t m := by rw [hop]; rfl
  have n4 : xcallOp O P (xeval g) o.op m = .none := by rw [hop]; rfl
  simp only [xact, n1, n2, n3] at h
  cases ha : xalloc P t m with
  | none => rw [ha] at h; simp only [n4] at h; cases h
  | some p =>
    obtain ⟨x, m'⟩ := p
    rw [ha] at h
    cases h
    unfold xalloc xnew at ha
    split at ha
    · rename_i zs hz
      split at ha
      · rename_i m1 hp
        cases ha
        exact ⟨zs, hz, hp, rfl, rfl, rfl⟩
      · cases ha
    · cases ha

/-- From the state where the variable is there early to the text's, as soon as the text comes to it. -/
theorem absorb (hs : StaticOk ops nt) (hT : Trace O P ops nt ops.toList tr rs ms ds) {f d : Nat} {t : TypeId} (hd : DynF ops ms ds f d t) {β0 : Env} {w0 : World} (hR0 : Rel β0 (ms 0) w0) {dfs : List Deferred} {listed : Array Bool} {a : Act} {w : World} {b : Nat}
    (hsz : listed.size = ops.size) (hcl : ∀ i j, Anc ops i j → listed.getD i false = true → listed.getD j false = true) (hdf : a.defers = dfs) {β : Env} {q : Nat} {g : Nat → XV} (heff : ∀ e, e < ops.size → (ds e).eff = true → e ≠ f → (listed.getD e false = true ↔ e < q)) (hm : Rel β (ms q) w) (hr : RelF β (ms q).n nt g a.tmps)
    (hg1 : ∀ (i : Nat) (o : Oper) (t : Nat), listed.getD i false = true → i ≠ f → ops[i]? = some o → o.dst = some t → g t = (ds i).x) (hg2 : ∀ t : Nat, t ≠ d → (∀ (i : Nat) (o : Oper), listed.getD i false = true → ops[i]? = some o → o.dst ≠ some t) → g t = (rs 0).get .undef t) (hst : Step β0 (ms 0) w0 β (ms q) w)
    (he : EarlyOk P ops ms ds w0 f d t b β q g listed a w) (hall : ∀ e, e < f → (ds e).eff = true → listed.getD e false = true) :
    InvF O P ops nt rs ms ds f d t β0 w0 dfs .none listed a w := by
  obtain ⟨o, ho, hop, hgd, hdst⟩ := hd.op
  obtain ⟨o', ho', _, hdo, hrs, hms⟩ := trace_get hT hd.lt
  rw [ho] at ho'
  cases ho'
  obtain ⟨zs, hz, hp, hx, hef, _⟩ := xdo_alloc hop hgd hdo
  rw [← hms] at hp
  have hlt := hd.lt
  have hqf := he.le
  have hmq : ms f = ms q := by
    have := ms_same hT q (f - q) (by omega) (fun e he1 he2 => by
      cases hxe : (ds e).eff
      · rfl
      · have h1 := hall e (by omega) hxe
        have := (heff e (by omega) hxe (by omega)).1 h1
        omega)
    rw [show q + (f - q) = f by omega] at this
    exact this
  rw [← hmq] at hm hr hst
  have himg := he.img
  rw [← hmq] at himg
  obtain ⟨ti, v, v1, v2, v3⟩ := he.blk
  have hnl : ∀ j, j < (ms f).n → ((ms f).get j).live = true → β.blk j ≠ b := fun j hj hl hb => by
    rcases hd.ro j hj hl with h1 | ⟨h1, h2⟩
    · exact himg ⟨j, hj, h1, hb⟩
    · have h3 := hR0.lt h1 h2
      have h4 := (hst.ext j h1).1
      have := he.ge
      omega
  obtain ⟨β', k1, k2, k3, k4, k5, k6, k7⟩ := hm.adopt hp (b := b) (sz := zs.length) (fun β' hext => by
    obtain ⟨ti', v', z1, z2, z3, z4⟩ := xzero_run hz β' (ms f).n
    rw [v1] at z1
    cases z1
    rw [v2] at z2
    cases z2
    have hn' := (Mem.push_spec hp).2.1
    refine ⟨v.cells, (0, 0), v3, ?_, by simp, fun _ => ⟨rfl, rfl⟩, fun c hc => XC.ok_mono (by omega) (z4 c hc), ?_⟩
    · rw [z3]; simp
    · rw [z3]; simp [List.take_of_length_le]) hnl
  have hdlt : d < nt := hs.dst f o d ho hdst
  refine ⟨hsz, hcl, ⟨β', f + 1, fun t' => if t' = d then .one (.ptr (ms f).n 0) else g t', by omega, fun e he1 he2 _ => ?_, k2, ⟨hr.size, hr.small, fun t' ht' => ?_, fun t' ht' => ?_⟩, fun i oi t' hl _ hoi hdi => ?_, fun t' _ ht' => ?_, ?_, fun b h => by cases h⟩, hdf⟩
  · by_cases hef : e = f
    · subst hef
      exact ⟨fun _ => by omega, fun _ => he.l⟩
    · have := heff e he1 he2 hef
      constructor
      · intro h; have := this.1 h; omega
      · intro h; exact hall e (by omega) he2
  · by_cases htd : t' = d
    · subst htd
      simp only [if_true]
      rw [he.tmp]
      exact ⟨by show (ms f).n < (ms (f + 1)).n; omega, by simp only [XC.den, k3, k4, Nat.add_zero]⟩
    · simp only [htd, if_false]
      exact (hr.rel t' ht').ext k1 (by omega)
  · have htd : t' ≠ d := by omega
    simp only [htd, if_false]
    exact hr.out t' ht'
  · by_cases hif : i = f
    · subst hif
      rw [ho] at hoi
      cases hoi
      rw [hdst] at hdi
      cases hdi
      simp only [if_true]
      exact hx.symm
    · have htd : t' ≠ d := fun e => hif (hs.uniq i f oi o t' hoi ho hdi (by rw [hdst, e]))
      simp only [htd, if_false]
      exact hg1 i oi t' hl hif hoi hdi
  · have htd : t' ≠ d := fun e => ht' f o he.l ho (by rw [hdst, e])
    simp only [htd, if_false]
    exact hg2 t' htd ht'
  · refine ⟨by have := hst.le; omega, fun j hj => ?_, k2, hst.os, hst.tape, hst.output, hst.size, hst.frame, fun k hk hi => ?_⟩
    · have h1 := hst.ext j hj
      have h2 := k1 j (by have := hst.le; omega)
      exact ⟨h2.1.trans h1.1, h2.2.1.trans h1.2.1, h2.2.2.trans h1.2.2⟩
    · obtain ⟨j, hj, hl, hb⟩ := hi
      by_cases hjn : j = (ms f).n
      · rw [hjn, k3] at hb
        have := he.ge
        omega
      · have hjl : j < (ms f).n := by omega
        rw [k7 j hjl] at hl
        rw [(k1 j hjl).1] at hb
        exact hst.img k hk ⟨j, hjl, hl, hb⟩

/-- Any operation but the variable's, or the variable's where the text has come to it. -/
theorem InvF.step (hO : OrcSound P O) (hs : StaticOk ops nt) (hnt : nt < 1000000) (hT : Trace O P ops nt ops.toList tr rs ms ds) {f d : Nat} {t0 : TypeId} (hd : DynF ops ms ds f d t0) (h0 : (ms 0).Fresh) {β0 : Env} {w0 : World} (hR0 : Rel β0 (ms 0) w0) {dfs : List Deferred} {er : Option Nat} {listed : Array Bool} {a : Act} {w : World}
    (h : InvF O P ops nt rs ms ds f d t0 β0 w0 dfs er listed a w) {i : Nat} (hi : i ∈ Region.ready .any ops listed) (hif : i = f → ∀ e, e < f → (ds e).eff = true → listed.getD e false = true) {K : Act → World → Prop} {Q : Exit → Act → World → Prop}
    (hK : ∀ a' w' er', InvF O P ops nt rs ms ds f d t0 β0 w0 dfs er' (listed.setIfInBounds i true) a' w' → K a' w') : wpOp P ops Q i K a w := by
  obtain ⟨hun, oi, hoi, hedges⟩ := mem_ready.1 hi
  have hilt : i < ops.size := (Array.getElem?_eq_some_iff.1 hoi).1
  have hil : i < listed.size := by rw [h.size]; exact hilt
  have hun' : listed.getD i false = false := by rw [← getD_flip hil]; exact hun
  obtain ⟨β, q, g, hq, heff, hm, hr, hg1, hg2, hst, hear⟩ := h.st
  obtain ⟨of, hof, hofop, hofg, hofd⟩ := hd.op
  have hanc : ∀ i' j, Anc ops i' j → i' = i → listed.getD j false = true := by
    intro i' j ha
    induction ha with
    | edge ho he hb =>
      intro e
      subst e
      rw [hoi] at ho
      cases ho
      exact hedges _ he hb
    | trans h1 h2 ih1 _ => intro e; exact h.cl _ _ h2 (ih1 e)
  have hanc' : ∀ j, Anc ops i j → listed.getD j false = true := fun j ha => hanc i j ha rfl
  have hno : ∀ j, Anc ops j i → listed.getD j false = false := fun j ha => by
    cases hx : listed.getD j false
    · rfl
    · have := h.cl j i ha hx
      rw [hun'] at this; cases this
  -- where the variable is there early, this is not its operation, nor does it look at it
  have early : er.isSome = true → i ≠ f ∧ listed.getD f false = true ∧ d ∉ oi.looksAt ops ∧ q ≤ f ∧ ∃ e, e < f ∧ (ds e).eff = true ∧ listed.getD e false = false := fun he => by
    obtain ⟨b, hb⟩ := Option.isSome_iff_exists.1 he
    obtain ⟨h1, e, e1, e2, e3⟩ := hear b hb
    have hne : i ≠ f := fun e' => by rw [e', h1.l] at hun'; cases hun'
    refine ⟨hne, h1.l, fun hlk => ?_, h1.le, e, e1, e2, e3⟩
    have := hanc' e (hd.look i oi hoi hne hlk e e1 e2)
    rw [e3] at this; cases this
  obtain ⟨o', ho', _, hdo, hrs, hms⟩ := trace_get hT hilt
  rw [hoi] at ho'
  cases ho'
  obtain ⟨hr1, hr2⟩ := rs_spec hs hnt hT i (by omega)
  have hlook : ∀ t ∈ oi.looksAt ops, g t = (rs i).get .undef t := by
    intro t ht
    have hsee : er.isSome = true → t ≠ d := fun he e => (early he).2.2.1 (e ▸ ht)
    by_cases hw : ∃ (j : Nat) (oj : Oper), ops[j]? = some oj ∧ oj.dst = some t
    · obtain ⟨j, oj, hj, hdj⟩ := hw
      have hjf : er.isSome = true → j ≠ f := fun he e => hsee he (by
        subst e
        rw [hof] at hj
        cases hj
        rw [hofd] at hdj
        exact (Option.some.inj hdj).symm)
      have nolisted : listed.getD j false = false → g t = (rs 0).get .undef t := fun hlj => hg2 t hsee (fun k ok hk hok e => by
        have := hs.uniq k j ok oj t hok hj e hdj
        subst this
        rw [hlj] at hk; cases hk)
      have nobefore : ¬ j < i → (rs i).get .undef t = (rs 0).get .undef t := fun hji => hr2 t (fun k ok hk hok e => by
        have := hs.uniq k j ok oj t hok hj e hdj
        omega)
      rcases Nat.lt_trichotomy j i with hji | hji | hji
      · have := (hs.look i j oi oj t hoi hj hdj ht (by omega)).1 hji
        rw [hg1 j oj t (hanc' j this) hjf hj hdj, hr1 j oj t hji hj hdj]
      · subst hji
        rw [nolisted hun', nobefore (by omega)]
      · have := (hs.look i j oi oj t hoi hj hdj ht (by omega)).2 hji
        rw [nolisted (hno j this), nobefore (by omega)]
    · have hnone : ∀ (k : Nat) (ok : Oper), ops[k]? = some ok → ok.dst ≠ some t := fun k ok hok e => hw ⟨k, ok, hok, e⟩
      rw [hg2 t hsee (fun k ok _ hok => hnone k ok hok), hr2 t (fun k ok _ hok => hnone k ok hok)]
  have hdstlt : ∀ t, oi.dst = some t → t < nt := fun t ht => hs.dst i oi t hoi ht
  have hcl : ∀ k j, Anc ops k j → (listed.setIfInBounds i true).getD k false = true → (listed.setIfInBounds i true).getD j false = true := by
    intro k j ha hk
    rw [getD_set hil] at hk ⊢
    by_cases hij : i = j
    · simp [hij]
    · simp only [hij, if_false]
      by_cases hik : i = k
      · subst hik; exact hanc' j ha
      · simp only [hik, if_false] at hk
        exact h.cl k j ha hk
  have hgs1 : ∀ {x : XV}, x = (ds i).x → ∀ (k : Nat) (ok : Oper) (t : Nat), (listed.setIfInBounds i true).getD k false = true → (er.isSome = true → k ≠ f) → ops[k]? = some ok → ok.dst = some t → (if oi.dst = some t then x else g t) = (ds k).x := by
    intro x hx k ok t hk hkf hok ht
    rw [getD_set hil] at hk
    by_cases hik : i = k
    · subst hik
      rw [hoi] at hok
      cases hok
      rw [if_pos ht, hx]
    · simp only [hik, if_false] at hk
      have : oi.dst ≠ some t := fun e => hik (hs.uniq i k oi ok t hoi hok e ht)
      rw [if_neg this]
      exact hg1 k ok t hk hkf hok ht
  have hgs2 : ∀ {x : XV} (t : Nat), (er.isSome = true → t ≠ d) → (∀ (k : Nat) (ok : Oper), (listed.setIfInBounds i true).getD k false = true → ops[k]? = some ok → ok.dst ≠ some t) → (if oi.dst = some t then x else g t) = (rs 0).get .undef t := by
    intro x t htd ht
    have hi' : (listed.setIfInBounds i true).getD i false = true := by rw [getD_set hil]; simp
    rw [if_neg (ht i oi hi' hoi)]
    refine hg2 t htd (fun k ok hk hok => ht k ok ?_ hok)
    rw [getD_set hil]
    split
    · rfl
    · exact hk
  -- what is known of the variable that is there early stays
  have keep : ∀ {b : Nat} {β' : Env} {m' : Mem} {w' : World} {u : Value} {q' : Nat} {x : XV}, er = some b → Step β (ms q) w β' m' w' → m' = ms q' → q' ≤ f → EarlyOk P ops ms ds w0 f d t0 b β' q' (fun t => if oi.dst = some t then x else g t) (listed.setIfInBounds i true) (a.put oi.dst u) w' := by
    intro b β' m' w' u q' x hb hs' hq' hle
    obtain ⟨h1, _⟩ := hear b hb
    have he : er.isSome = true := by rw [hb]; rfl
    have hne := (early he).1
    have hnd : oi.dst ≠ some d := fun e => hne (hs.uniq i f oi of d hoi hof e hofd)
    subst hq'
    refine ⟨hle, ?_, ?_, h1.ge, Nat.lt_of_lt_of_le h1.lt hs'.size, ?_, fun hi => h1.img (hs'.img b h1.lt hi), ?_⟩
    · rw [getD_set hil]; simp [h1.l]
    · simp only [hnd, if_false]; exact h1.un
    · obtain ⟨ti, v, v1, v2, v3⟩ := h1.blk
      exact ⟨ti, v, v1, v2, by rw [hs'.frame b h1.lt h1.img]; exact v3⟩
    · rw [← h1.tmp]
      cases hod : oi.dst with
      | none => rfl
      | some d' =>
        have : d' ≠ d := fun e => hnd (by rw [hod, e])
        simp [Act.put, Array.getD_eq_getD_getElem?, Array.getElem?_setIfInBounds_ne this]
  cases he : (ds i).eff with
  | false =>
    have hobj : ∀ fp, (ds i).fp = some fp → (ms q).get fp = (ms i).get fp := by
      intro fp hfp
      have verF : er.isSome = true → ((ds f).m.ent fp).ver = ((ms f).ent fp).ver := fun hes => by
        obtain ⟨hne, _, _, _, e, e1, e2, e3⟩ := early hes
        obtain ⟨o', ho', _, hdo', _, _⟩ := trace_get hT hd.lt
        rw [hof] at ho'
        cases ho'
        obtain ⟨zs, _, hp, _⟩ := xdo_alloc hofop hofg hdo'
        obtain ⟨_, _, _, h4⟩ := Mem.push_spec hp
        rw [h4 fp (fun e' => by
          have := hanc' e (hd.rd i hilt hne (by rw [hfp, e']) e e1 e2)
          rw [e3] at this; cases this)]
      rcases Nat.le_total q i with hqi | hqi
      · have := ent_same hO hT h0 fp q (i - q) (by omega) (fun e he1 he2 he3 => by
          by_cases hef : er.isSome = true ∧ e = f
          · rw [hef.2]; exact verF hef.1
          · have hne : i ≠ e := by omega
            refine hd.ver i e fp hilt (by omega) hfp he3 hne (fun ha => ?_) (fun ha => ?_)
            · have := (heff e (by omega) he3 (fun h1 h2 => hef ⟨h1, h2⟩)).1 (hanc' e ha)
              omega
            · have := Anc.lt hs ha
              omega)
        rw [show q + (i - q) = i by omega] at this
        exact this.symm
      · have := ent_same hO hT h0 fp i (q - i) (by omega) (fun e he1 he2 he3 => by
          have hne : i ≠ e := fun e' => by subst e'; rw [he] at he3; cases he3
          refine hd.ver i e fp hilt (by omega) hfp he3 hne (fun ha => ?_) (fun ha => ?_)
          · have := Anc.lt hs ha
            omega
          · have h1 := hno e ha
            have h2 := (heff e (by omega) he3 (fun h1 h2 => by have := (early h1).2.2.2.1; omega)).2 (by omega)
            rw [h1] at h2; cases h2)
        rw [show i + (q - i) = q by omega] at this
        exact this
    have hago := xdo_again hdo (g' := g) hlook he (m' := ms q) hobj
    refine xdo_wp hO hoi hago hm hr fun u β' w' hu hs' => hK _ _ er ?_
    refine ⟨by simp [h.size], hcl, ⟨β', q, fun t => if oi.dst = some t then (ds i).x else g t, hq, ?_, hs'.rel, RelF.put (hr.ext hs'.ext hs'.le) oi.dst hu hdstlt, hgs1 rfl, hgs2, hst.trans hs', fun b hb => ⟨keep hb hs' rfl (early (by rw [hb]; rfl)).2.2.2.1, ?_⟩⟩, ?_⟩
    · intro e hel hee hef
      rw [getD_set hil]
      have hie : i ≠ e := fun x => by subst x; rw [he] at hee; cases hee
      simp only [hie, if_false]
      exact heff e hel hee hef
    · obtain ⟨_, _, _, _, e, e1, e2, e3⟩ := early (by rw [hb]; rfl)
      refine ⟨e, e1, e2, ?_⟩
      rw [getD_set hil]
      have hie : i ≠ e := fun x => by subst x; rw [he] at e2; cases e2
      simp only [hie, if_false]
      exact e3
    · rw [put_defers', h.dfs]
  | true =>
    have hilf : er.isSome = true → i < f := fun hes => by
      obtain ⟨hne, _, _, _, e, e1, e2, e3⟩ := early hes
      rcases Nat.lt_or_ge i f with h1 | h1
      · exact h1
      · have := hanc' e (hd.ord i e hilt (by omega) he e2 (by omega) hne)
        rw [e3] at this; cases this
    have hqi : q ≤ i := by
      rcases Nat.lt_or_ge i q with hlt | hge
      · have := (heff i hilt he (fun h1 => (early h1).1)).2 hlt
        rw [hun'] at this; cases this
      · exact hge
    have hbefore : ∀ e, e < i → (ds e).eff = true → listed.getD e false = true := fun e hlt hee => by
      by_cases hii : i = f
      · exact hif hii e (by omega) hee
      · exact hanc' e (hd.ord i e hilt (by omega) he hee hlt hii)
    have hmq : ms i = ms q := by
      have := ms_same hT q (i - q) (by omega) (fun e he1 he2 => by
        cases hx : (ds e).eff
        · rfl
        · have h2 := (heff e (by omega) hx (fun h1 => by have := hilf h1; omega)).1 (hbefore e (by omega) hx)
          omega)
      rw [show q + (i - q) = i by omega] at this
      exact this
    have hago := xdo_again_eff hdo (g' := g) hlook
    rw [hmq] at hago
    have heff' : ∀ e, e < ops.size → (ds e).eff = true → (er.isSome = true → e ≠ f) → ((listed.setIfInBounds i true).getD e false = true ↔ e < i + 1) := by
      intro e hel hee hef
      rw [getD_set hil]
      by_cases hie : i = e
      · subst hie; simp
      · simp only [hie, if_false]
        constructor
        · intro hle
          rcases Nat.lt_or_ge i e with hlt | hge
          · by_cases hefq : e = f
            · cases her : er with
              | none =>
                have := (heff e hel hee (fun h => by rw [her] at h; cases h)).1 hle
                omega
              | some b => exact absurd hefq (hef (by rw [her]; rfl))
            · have := hd.ord e i hel hilt hee he hlt hefq
              have := hno e this
              rw [this] at hle; cases hle
          · omega
        · intro hlt
          exact hbefore e (by omega) hee
    refine xdo_wp hO hoi hago hm hr fun u β' w' hu hs' => ?_
    rw [← hms] at hu hs'
    have hput : (a.put oi.dst u).defers = dfs := by rw [put_defers', h.dfs]
    have hsz : (listed.setIfInBounds i true).size = ops.size := by simp [h.size]
    have hr' := RelF.put (hr.ext hs'.ext hs'.le) oi.dst hu hdstlt
    by_cases hmore : ∀ b, er = some b → ∃ e, e < f ∧ (ds e).eff = true ∧ (listed.setIfInBounds i true).getD e false = false
    · refine hK _ _ er ⟨hsz, hcl, ⟨β', i + 1, fun t => if oi.dst = some t then (ds i).x else g t, by omega, heff', hs'.rel, hr', hgs1 rfl, hgs2, hst.trans hs', fun b hb => ⟨keep hb hs' rfl (by have := hilf (by rw [hb]; rfl); omega), hmore b hb⟩⟩, hput⟩
    · cases her : er with
      | none => exact absurd (fun b hb => by rw [her] at hb; cases hb) hmore
      | some b =>
        have hes : er.isSome = true := by rw [her]; rfl
        have hall : ∀ e, e < f → (ds e).eff = true → (listed.setIfInBounds i true).getD e false = true := fun e e1 e2 => by
          cases hx : (listed.setIfInBounds i true).getD e false with
          | true => rfl
          | false => exact absurd (fun b' hb' => ⟨e, e1, e2, hx⟩) hmore
        exact hK _ _ .none (absorb hs hT hd hR0 hsz hcl hput (fun e e1 e2 e3 => heff' e e1 e2 (fun _ => e3)) hs'.rel hr' (fun k ok t hk hkf => hgs1 rfl k ok t hk (fun _ => hkf)) (fun t htd => hgs2 t (fun _ => htd)) (hst.trans hs') (keep her hs' rfl (by have := hilf hes; omega)) hall)

/-- The variable, made ahead of the text's time. -/
theorem InvF.early (hs : StaticOk ops nt) (hT : Trace O P ops nt ops.toList tr rs ms ds) {f d : Nat} {t0 : TypeId} (hd : DynF ops ms ds f d t0) {β0 : Env} {w0 : World} {dfs : List Deferred} {listed : Array Bool} {a : Act} {w : World}
    (h : InvF O P ops nt rs ms ds f d t0 β0 w0 dfs .none listed a w) (hi : f ∈ Region.ready .any ops listed) (hmore : ∃ e, e < f ∧ (ds e).eff = true ∧ listed.getD e false = false) {K : Act → World → Prop} {Q : Exit → Act → World → Prop}
    (hK : ∀ a' w' er', InvF O P ops nt rs ms ds f d t0 β0 w0 dfs er' (listed.setIfInBounds f true) a' w' → K a' w') : wpOp P ops Q f K a w := by
  obtain ⟨hun, oi, hoi, hedges⟩ := mem_ready.1 hi
  have hflt := hd.lt
  have hil : f < listed.size := by rw [h.size]; exact hflt
  have hun' : listed.getD f false = false := by rw [← getD_flip hil]; exact hun
  obtain ⟨β, q, g, hq, heff, hm, hr, hg1, hg2, hst, _⟩ := h.st
  obtain ⟨of, hof, hofop, hofg, hofd⟩ := hd.op
  obtain rfl : oi = of := by rw [hof] at hoi; exact (Option.some.inj hoi).symm
  obtain ⟨o', ho', _, hdo, _, _⟩ := trace_get hT hflt
  obtain rfl : oi = o' := by rw [hof] at ho'; exact Option.some.inj ho'
  obtain ⟨zs, hz, hp, hx, hfe, _⟩ := xdo_alloc hofop hofg hdo
  have hanc' : ∀ j, Anc ops f j → listed.getD j false = true := fun j ha => by
    have key : ∀ i' j, Anc ops i' j → i' = f → listed.getD j false = true := by
      intro i' j ha
      induction ha with
      | edge ho he hb =>
        intro e
        subst e
        rw [hof] at ho
        cases ho
        exact hedges _ he hb
      | trans h1 h2 ih1 _ => intro e; exact h.cl _ _ h2 (ih1 e)
    exact key f j ha rfl
  have hqf : q ≤ f := by
    rcases Nat.lt_or_ge f q with hlt | hge
    · have := (heff f hflt hfe (fun h => by cases h)).2 hlt
      rw [hun'] at this; cases this
    · exact hge
  have hdlt : d < nt := hs.dst f oi d hof hofd
  obtain ⟨ti, v, z1, z2, z3, z4⟩ := xzero_run hz β (ms q).n
  -- the block
  have hrun : ∀ ev : Operand → Value, (execOp ev oi).run P w = .ok (.value (.pointer (some ⟨w.heap.size, 0, none⟩))) (w.alloc (.cells v.cells t0)) := fun ev => by
    simp only [execOp, hofop, Instr.alloc, Sem.run_bind, zeroValue_run z1 z2, Result.andThen_ok, newVar_run, Sem.run_pure]
  have hheap : (w.alloc (.cells v.cells t0)).heap = w.heap.push (.cells v.cells t0 (0, 0)) := rfl
  have hb0 : ∀ k, k < w.heap.size → (w.alloc (.cells v.cells t0)).heap[k]? = w.heap[k]? := fun k hk => by
    rw [hheap, Array.getElem?_push, if_neg (Nat.ne_of_lt hk)]
  have hrel : Rel β (ms q) (w.alloc (.cells v.cells t0)) := by
    refine ⟨hm.bnd, hm.fresh, fun j hj => ?_, hm.inj⟩
    have := hm.obj j hj
    cases hg : (ms q).get j with
    | dead => trivial
    | cells c1 c2 c3 c4 =>
      rw [hb0 _ (hm.lt hj (by rw [hg]; rfl)), ← hg]; exact this
    | map es =>
      rw [hb0 _ (hm.lt hj (by rw [hg]; rfl)), ← hg]; exact this
  have hstep : Step β (ms q) w β (ms q) (w.alloc (.cells v.cells t0)) :=
    ⟨Nat.le_refl _, Ext.refl _ _, hrel, rfl, rfl, rfl, by rw [hheap]; simp, fun k hk _ => hb0 k hk, fun _ _ h => h⟩
  have hst' := hst.trans hstep
  have hsz' : (w.alloc (.cells v.cells t0)).heap.size = w.heap.size + 1 := by rw [hheap]; simp
  unfold wpOp
  rw [hof]
  simp only []
  have hwant : Region.wanted oi (yielded ops a.tmps) = true := by unfold Region.wanted; rw [hofg]
  rw [if_pos hwant]
  refine .inl ?_
  unfold Oper.wp
  rw [hrun]
  refine hK _ _ (some w.heap.size) ⟨by simp [h.size], fun k j ha hk => ?_, ⟨β, q, fun t => if t = d then .undef else g t, hq, fun e hel hee hef => ?_, hrel, ⟨?_, hr.small, fun t ht => ?_, fun t ht => ?_⟩, fun k ok t hk hkf hok ht => ?_, fun t htd ht => ?_, hst', fun b hb => ?_⟩, ?_⟩
  · rw [getD_set hil] at hk ⊢
    by_cases hij : f = j
    · simp [hij]
    · simp only [hij, if_false]
      by_cases hik : f = k
      · subst hik; exact hanc' j ha
      · simp only [hik, if_false] at hk
        exact h.cl k j ha hk
  · rw [getD_set hil]
    have : f ≠ e := fun e' => hef rfl e'.symm
    simp only [this, if_false]
    exact heff e hel hee (fun h => by cases h)
  · rw [hofd]; simpa [Act.put] using hr.size
  · by_cases htd : t = d
    · simp only [htd, if_true]; trivial
    · simp only [htd, if_false]
      have : (a.put oi.dst (.pointer (some ⟨w.heap.size, 0, none⟩))).tmps.getD t undef = a.tmps.getD t undef := by
        rw [hofd]
        simp [Act.put, Array.getD_eq_getD_getElem?, Array.getElem?_setIfInBounds_ne (Ne.symm htd)]
      rw [this]
      exact hr.rel t ht
  · by_cases htd : t = d
    · simp [htd]
    · simp only [htd, if_false]; exact hr.out t ht
  · have hkf' := hkf rfl
    rw [getD_set hil] at hk
    simp only [Ne.symm hkf', if_false] at hk
    have htd : t ≠ d := fun e => hkf' (hs.uniq k f ok oi t hok hof ht (by rw [hofd, e]))
    simp only [htd, if_false]
    exact hg1 k ok t hk (fun h => by cases h) hok ht
  · have htd' := htd rfl
    simp only [htd', if_false]
    refine hg2 t (fun h => by cases h) (fun k ok hk hok => ht k ok ?_ hok)
    rw [getD_set hil]
    split
    · rfl
    · exact hk
  · cases hb
    refine ⟨⟨hqf, by rw [getD_set hil]; simp, by simp, by have := hst.size; omega, by omega, ⟨ti, v, z1, z2, ?_⟩, fun hi => ?_, ?_⟩, ?_⟩
    · rw [hheap]; simp
    · obtain ⟨j, hj, hl, hb⟩ := hi
      have := hm.lt hj (XObj.live_of_own hl)
      omega
    · rw [hofd]
      simp [Act.put, Array.getD_eq_getD_getElem?, hr.size, hdlt]
    · obtain ⟨e, e1, e2, e3⟩ := hmore
      refine ⟨e, e1, e2, ?_⟩
      rw [getD_set hil]
      have : f ≠ e := by omega
      simp only [this, if_false]
      exact e3
  · rw [put_defers', h.dfs]

theorem InvF.any (hO : OrcSound P O) (hs : StaticOk ops nt) (hnt : nt < 1000000) (hT : Trace O P ops nt ops.toList tr rs ms ds) {f d : Nat} {t0 : TypeId} (hd : DynF ops ms ds f d t0) (h0 : (ms 0).Fresh) {β0 : Env} {w0 : World} (hR0 : Rel β0 (ms 0) w0) {dfs : List Deferred} {Q : Exit → Act → World → Prop}
    (hQ : Post β0 (ms 0) w0 nt dfs (rs ops.size) (ms ops.size) (Q .normal)) : ∀ (fuel : Nat) (er : Option Nat) (listed : Array Bool) (a : Act) (w : World), InvF O P ops nt rs ms ds f d t0 β0 w0 dfs er listed a w →
    (List.range ops.size).countP (fun i => listed.getD i false == false) ≤ fuel → wpAny P .any ops Q fuel listed a w := by
  have fin : ∀ (er : Option Nat) (listed : Array Bool) (a : Act) (w : World), InvF O P ops nt rs ms ds f d t0 β0 w0 dfs er listed a w → (∀ i, i < ops.size → listed.getD i false = true) → Q .normal a w := by
    intro er listed a w h hall
    obtain ⟨β, q, g, hq, heff, hm, hr, hg1, hg2, hst, hear⟩ := h.st
    cases er with
    | some b =>
      obtain ⟨_, e, e1, e2, e3⟩ := hear b rfl
      have := hall e (by have := hd.lt; omega)
      rw [e3] at this; cases this
    | none =>
      have nn : ∀ {p : Prop}, (Option.none : Option Nat).isSome = true → p := fun h => by cases h
      have hmq : ms ops.size = ms q := by
        have := ms_same hT q (ops.size - q) (by omega) (fun e he1 he2 => by
          cases hx : (ds e).eff
          · rfl
          · have := (heff e (by omega) hx nn).1 (hall e (by omega))
            omega)
        rw [show q + (ops.size - q) = ops.size by omega] at this
        exact this
      obtain ⟨hr1, hr2⟩ := rs_spec hs hnt hT ops.size (Nat.le_refl _)
      have hge : g = (rs ops.size).get .undef := by
        funext t
        by_cases hw : ∃ (j : Nat) (oj : Oper), ops[j]? = some oj ∧ oj.dst = some t
        · obtain ⟨j, oj, hj, hdj⟩ := hw
          have hjl : j < ops.size := (Array.getElem?_eq_some_iff.1 hj).1
          rw [hg1 j oj t (hall j hjl) nn hj hdj, hr1 j oj t hjl hj hdj]
        · have hnone : ∀ (k : Nat) (ok : Oper), ops[k]? = some ok → ok.dst ≠ some t := fun k ok hok e => hw ⟨k, ok, hok, e⟩
          rw [hg2 t nn (fun k ok _ hok => hnone k ok hok), hr2 t (fun k ok _ hok => hnone k ok hok)]
      subst hge
      rw [← hmq] at hr hst
      exact hQ a β w hr h.dfs hst
  intro fuel
  induction fuel with
  | zero =>
    intro er listed a w h hc
    have hall : ∀ i, i < ops.size → listed.getD i false = true := fun i hi => by
      cases hx : listed.getD i false
      · have : 0 < (List.range ops.size).countP (fun i => listed.getD i false == false) := List.countP_pos_iff.2 ⟨i, List.mem_range.2 hi, by simp [hx]⟩
        omega
      · rfl
    refine ⟨?_, fin er listed a w h hall⟩
    apply List.eq_nil_iff_forall_not_mem.2
    intro i hi
    obtain ⟨hun, oi, hoi, _⟩ := mem_ready.1 hi
    have hilt : i < ops.size := (Array.getElem?_eq_some_iff.1 hoi).1
    rw [getD_flip (by rw [h.size]; exact hilt), hall i hilt] at hun
    cases hun
  | succ fuel ih =>
    intro er listed a w h hc
    refine ⟨fun hnil => fin er listed a w h (fun i hi => ?_), fun i hi => ?_⟩
    · induction i using Nat.strongRecOn with
      | _ i ihi =>
        cases hx : listed.getD i false
        · exfalso
          have ho : ops[i]? = some ops[i] := by simp [hi]
          have : i ∈ Region.ready .any ops listed := mem_ready.2 ⟨by rw [getD_flip (by rw [h.size]; exact hi)]; exact hx, ops[i], ho, fun e he hb => by
            have hlt := hs.back i ops[i] ho e he hb
            exact ihi e.on hlt (by omega)⟩
          rw [hnil] at this
          cases this
        · rfl
    · obtain ⟨hun, oi, hoi, _⟩ := mem_ready.1 hi
      have hilt : i < ops.size := (Array.getElem?_eq_some_iff.1 hoi).1
      have hil : i < listed.size := by rw [h.size]; exact hilt
      have hcnt := countP_lt' (p := fun j => (listed.setIfInBounds i true).getD j false == false) (q := fun j => listed.getD j false == false) (i := i) (fun j hj => by
        rw [getD_set hil] at hj
        split at hj
        · simp at hj
        · exact hj) (by rw [← getD_flip hil, hun]; rfl) (by rw [getD_set hil]; simp) (List.range ops.size) (List.mem_range.2 hilt)
      by_cases hmore : ∃ e, e < f ∧ (ds e).eff = true ∧ listed.getD e false = false
      · by_cases hif : i = f
        · subst hif
          cases er with
          | none => exact h.early hs hT hd hi hmore fun a' w' er' h' => ih er' _ a' w' h' (by omega)
          | some b =>
            obtain ⟨_, _, _, _, _, _, _, _, _, _, hear⟩ := h.st
            have := (hear b rfl).1.l
            rw [← getD_flip hil, hun] at this; cases this
        · exact h.step hO hs hnt hT hd h0 hR0 hi (fun e => absurd e hif) fun a' w' er' h' => ih er' _ a' w' h' (by omega)
      · refine h.step hO hs hnt hT hd h0 hR0 hi (fun _ e e1 e2 => ?_) fun a' w' er' h' => ih er' _ a' w' h' (by omega)
        cases hx : listed.getD e false with
        | true => rfl
        | false => exact absurd ⟨e, e1, e2, hx⟩ hmore
end

theorem xdrawnF_wp {O : Orc} {P : Program} (hO : OrcSound P O) (hP : P.follows .mixedOrders = true) {ops : Array Oper} {nt id : Nat} {r r' : T XV} {m m' : Mem} (h : xdrawnF O P ops nt r m = some (r', m')) {β : Env} {w : World} {a : Act} (hr : RelR β m.n nt r a.tmps) (hm : Rel β m w)
    {Q : Exit → Act → World → Prop} (hq : Post β m w nt a.defers r' m' (Q .normal)) : (Code.region id ops true).wp P Q a w := by
  unfold xdrawnF at h
  split at h
  · rename_i hst
    have hs := drawnStatic_ok hst
    split at h
    · rename_i tr r1 m1 htr
      split at h
      · rename_i hdy
        simp only [Option.some.injEq, Prod.mk.injEq] at h
        obtain ⟨rfl, rfl⟩ := h
        obtain ⟨rs, ms, ds, hT, h1, h2, h3, h4⟩ := xtrace_spec htr
        subst h1
        subst h2
        obtain ⟨f, hf, hfl⟩ := List.any_eq_true.1 hdy
        obtain ⟨d, t, hd⟩ := dynF_ok hT (List.mem_range.1 hf) hfl
        have hdr := Step.drew hm
        refine wp_region_any hP ?_
        have hsz : ops.toList.length = ops.size := by simp
        rw [hsz] at h3 h4
        refine InvF.any hO hs hr.small hT hd hm.fresh hm (β0 := β) (w0 := w) (dfs := a.defers) (Q := Q) (by rw [h3, h4]; exact hq) _ .none _ a _ ?_ ?_
        · refine ⟨by simp, fun i j ha hi => ?_, ⟨β, 0, (rs 0).get .undef, by omega, fun e he _ _ => ?_, hdr.rel, hr, fun i o t hi => ?_, fun t _ _ => rfl, hdr, fun b hb => by cases hb⟩, rfl⟩
          · exfalso
            by_cases hlt : i < ops.size <;> simp [Array.getD_eq_getD_getElem?, hlt] at hi
          · simp [Array.getD_eq_getD_getElem?, he]
          · exfalso
            by_cases hlt : i < ops.size <;> simp [Array.getD_eq_getD_getElem?, hlt] at hi
        · exact Nat.le_trans List.countP_le_length (by simp)
      · cases h
    · cases h
  · cases h

/-- A region whose order is drawn: one order of what makes or writes; or one that leaves one variable's making open. -/
def xdrawn (O : Orc) (P : Program) (ops : Array Oper) (nt : Nat) (r : T XV) (m : Mem) : Option (T XV × Mem) :=
  match xdrawn1 O P ops nt r m with
  | some x => some x
  | .none => xdrawnF O P ops nt r m
theorem xdrawn_wp {O : Orc} {P : Program} (hO : OrcSound P O) (hP : P.follows .mixedOrders = true) {ops : Array Oper} {nt id : Nat} {r r' : T XV} {m m' : Mem} (h : xdrawn O P ops nt r m = some (r', m')) {β : Env} {w : World} {a : Act} (hr : RelR β m.n nt r a.tmps) (hm : Rel β m w)
    {Q : Exit → Act → World → Prop} (hq : Post β m w nt a.defers r' m' (Q .normal)) : (Code.region id ops true).wp P Q a w := by
  unfold xdrawn at h
  split at h
  · rename_i x hx
    cases h
    exact xdrawn1_wp hO hP hx hr hm hq
  · exact xdrawnF_wp hO hP h hr hm hq
theorem xdrawn_chg {O : Orc} {P : Program} (hO : OrcSound P O) {ops : Array Oper} {nt : Nat} {r r' : T XV} {m m' : Mem} (h : xdrawn O P ops nt r m = some (r', m')) : Chg m m' := by
  unfold xdrawn at h
  split at h
  · rename_i x hx
    cases h
    exact xdrawn1_chg hO hx
  · unfold xdrawnF at h
    split at h
    · split at h
      · rename_i tr r1 m1 htr
        split at h
        · simp only [Option.some.injEq, Prod.mk.injEq] at h
          obtain ⟨_, rfl⟩ := h
          exact xtrace_chg hO htr
        · cases h
      · cases h
    · cases h
end Go.Xm
