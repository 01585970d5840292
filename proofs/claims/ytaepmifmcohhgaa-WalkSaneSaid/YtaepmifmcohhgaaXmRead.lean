/-
  The second machine: the operations that read one block.
-/
import Derived.Test.YtaepmifmcohhgaaXmOpF
namespace Go.Xm
set_option linter.unusedSectionVars false
variable [Atoms]

/-- A block of cells, seen in the world. -/
theorem RelO.cell {β : Env} {n lo sz : Nat} {vs : List XC} {e : TypeId} {opn ro : Bool} {w : World} {b : Nat} (h : RelO β n lo sz (.cells vs e opn ro) w.heap[b]?) (j : Nat) (c : XC) (hj : vs[j]? = some c) :
    w.cell? ⟨b, lo + j, none⟩ = some (c.den β) := by
  obtain ⟨cs, fr, h1, _, _, _, _, h6⟩ := h
  rw [cell_of_row w b (lo + j) cs e fr h1]
  have h7 : ((cs.toList.drop lo).take vs.length)[j]? = some (c.den β) := by rw [h6]; simp [hj]
  rw [List.getElem?_take] at h7
  split at h7
  · rw [List.getElem?_drop] at h7; simpa using h7
  · cases h7

theorem RelO.okc' {β : Env} {n lo sz : Nat} {vs : List XC} {e : TypeId} {opn ro : Bool} {o : Option Obj} (h : RelO β n lo sz (.cells vs e opn ro) o) : ∀ c ∈ vs, c.ok n := by
  obtain ⟨cs, fr, h1, h2, h3, h4, h5, h6⟩ := h
  exact h5

theorem loadCells_run {P : Program} {β : Env} {n lo sz : Nat} {vs : List XC} {e : TypeId} {opn ro : Bool} {w : World} {b : Nat} (h : RelO β n lo sz (.cells vs e opn ro) w.heap[b]?) (off s : Nat) (hl : off + s ≤ vs.length) :
    (loadCells ⟨b, lo + off, none⟩ s).run P w = .ok (((vs.drop off).take s).map (·.den β)).toArray w := by
  have hlen : (((vs.drop off).take s).map (·.den β)).length = s := by simp; omega
  have := run_loadCells_list (P := P) w ⟨b, lo + off, none⟩ (((vs.drop off).take s).map (·.den β)) (fun j v hv => by
    rw [Addr.add_none, Nat.add_assoc]
    rw [List.getElem?_map] at hv
    obtain ⟨c, hc, rfl⟩ := Option.map_eq_some_iff.1 hv
    rw [List.getElem?_take] at hc
    split at hc
    · rw [List.getElem?_drop] at hc
      exact h.cell _ _ hc
    · cases hc)
  rwa [hlen] at this

def xloadAt (P : Program) (t : TypeId) (vs : List XC) (off : Nat) : Option X1 :=
  match xisAgg P t with
  | some true => match xsize P t with
    | some s => if off + s ≤ vs.length then some (.agg ((vs.drop off).take s)) else .none
    | .none => .none
  | some false => match vs[off]? with
    | some c => some (.one c)
    | .none => .none
  | .none => .none

theorem xloadAt_sound {P : Program} {t : TypeId} {vs : List XC} {off : Nat} {x : X1} (h : xloadAt P t vs off = some x) {β : Env} {n lo sz : Nat} {e : TypeId} {opn ro : Bool} {w : World} {b : Nat} (hr : RelO β n lo sz (.cells vs e opn ro) w.heap[b]?) :
    (loadVar t ⟨b, lo + off, none⟩).run P w = .ok (x.den β) w ∧ x.ok n := by
  unfold xloadAt at h
  split at h
  · rename_i ha
    split at h
    · rename_i s hs
      split at h
      · rename_i hl
        cases h
        refine ⟨?_, fun c hc => hr.okc' c (List.mem_of_mem_drop (List.mem_of_mem_take hc))⟩
        simp only [loadVar, Sem.run_bind, xisAgg_run ha, Result.andThen_ok, if_true, xsize_run hs, loadCells_run hr off s hl, Sem.run_pure, X1.den]
      · cases h
    · cases h
  · rename_i ha
    split at h
    · rename_i c hc
      cases h
      refine ⟨?_, hr.okc' c (List.mem_of_getElem? hc)⟩
      simp only [loadVar, Sem.run_bind, xisAgg_run ha, Result.andThen_ok, Bool.false_eq_true, if_false, run_load, hr.cell _ _ hc, X1.den]
    · cases h
  · cases h

/-! ### Maps -/

def xcheckElems (P : Program) (ck : TypeId → X1 → Bool) (elem : TypeId) (s : Nat) (cs : List XC) : Nat → Nat → Bool
  | _, 0 => true
  | i, k + 1 => match xpart P elem cs (i * s) with
    | some y => ck elem y && xcheckElems P ck elem s cs (i + 1) k
    | .none => false

/-- A key that may be one: no interface in it. -/
def xcheckKey (P : Program) : Nat → TypeId → X1 → Bool
  | 0, _, _ => false
  | d + 1, t, x =>
    match P.underlying t with
    | some (.array len elem) => match x, xsize P elem with
      | .agg cs, some s => xcheckElems P (xcheckKey P d) elem s cs 0 len
      | _, _ => false
    | some (.struct _) => false
    | some (.interface _) => false
    | some _ => true
    | .none => false

theorem checkElems_run {P : Program} {ck : TypeId → X1 → Bool} {elem : TypeId} {s : Nat} {cs : List XC} {n : Nat} (hc : ∀ c ∈ cs, c.ok n) (β : Env) (w : World) (f : TypeId → Value → Sem Unit) (hs : xsize P elem = some s)
    (hf : ∀ y : X1, y.ok n → ck elem y = true → (f elem (y.den β)).run P w = .ok () w) :
    ∀ (k i : Nat), xcheckElems P ck elem s cs i k = true →
      ((forIn (List.range' i k) PUnit.unit fun i (_ : PUnit) => do
          let s' ← sizeOf elem
          let y ← part elem (cs.map (·.den β)).toArray (i * s')
          f elem y
          pure (ForInStep.yield PUnit.unit) : Sem PUnit).run P w) = .ok PUnit.unit w
  | 0, i, _ => by simp
  | k + 1, i, h => by
    unfold xcheckElems at h
    split at h
    · rename_i y hy
      simp only [Bool.and_eq_true] at h
      obtain ⟨h1, h2⟩ := xpart_sound hy hc β w
      simp only [List.range'_succ, List.forIn_cons, Sem.run_bind, xsize_run hs, h1, Result.andThen_ok, hf y h2 h.1, Sem.run_pure]
      exact checkElems_run hc β w f hs hf k (i + 1) h.2
    · cases h

theorem xcheckKey_sound {P : Program} (e : Bool) {n : Nat} (β : Env) (w : World) : ∀ (d : Nat) (t : TypeId) (x : X1), xcheckKey P d t x = true → x.ok n → ∀ f, d ≤ f → (Instr.checkKey e f t (x.den β)).run P w = .ok () w
  | 0, t, x, h, _, _, _ => by simp [xcheckKey] at h
  | d + 1, t, x, h, hx, f, hf => by
    obtain ⟨g, rfl⟩ : ∃ g, f = g + 1 := ⟨f - 1, by omega⟩
    unfold xcheckKey at h
    unfold Instr.checkKey
    split at h
    · rename_i len elem hu
      split at h
      · rename_i cs s hs
        simp only [Sem.run_bind, run_underlying hu, Result.andThen_ok, X1.den]
        rw [Std.Legacy.Range.forIn_eq_forIn_range']
        simp only [Std.Legacy.Range.size, Nat.sub_zero, Nat.add_sub_cancel, Nat.div_one]
        have := checkElems_run (P := P) hx β w (fun t v => Instr.checkKey e g t v) hs (fun y hy hck => xcheckKey_sound e β w d elem y hck hy g (by omega)) len 0 h
        rw [this]
        rfl
      · cases h
    · cases h
    · cases h
    · rename_i ds h1 h2 h3 hu
      simp only [Sem.run_bind, run_underlying hu, Result.andThen_ok]
      cases ds <;> first
        | rfl
        | (exact (h1 _ _ rfl).elim)
        | (exact (h2 _ rfl).elim)
        | (exact (h3 _ rfl).elim)
    · cases h

def xfind (P : Program) (kt : TypeId) (key : X1) : List (X1 × X1) → Nat → Option (Option (Nat × X1))
  | [], _ => some .none
  | (k, v) :: es, i => match xequal P 40 kt key k with
    | some true => some (some (i, v))
    | some false => xfind P kt key es (i + 1)
    | .none => .none

def entMap (en : List MapEntry) : List (Value × Value) := en.map fun e => (e.key, e.val)

theorem findAsking_run {P : Program} {kt : TypeId} {key : X1} {n : Nat} (hk : key.ok n) (β : Env) (w : World) : ∀ (es : List (X1 × X1)) (en : List MapEntry) (i : Nat) (r : Option (Nat × X1)), xfind P kt key es i = some r →
    (∀ p ∈ es, p.1.ok n ∧ p.2.ok n) → entMap en = es.map (fun p => (p.1.den β, p.2.den β)) →
    (Instr.findAsking kt (key.den β) en i).run P w = .ok (r.map fun p => (p.1, p.2.den β)) w
  | [], [], i, r, h, _, _ => by simp only [xfind, Option.some.injEq] at h; subst h; rfl
  | [], _ :: _, i, r, h, _, he => by simp [entMap] at he
  | _ :: _, [], i, r, h, _, he => by simp [entMap] at he
  | (k, v) :: es, e :: en, i, r, h, hok, he => by
    simp only [entMap, List.map_cons, List.cons.injEq, Prod.mk.injEq] at he
    obtain ⟨⟨e1, e2⟩, e3⟩ := he
    have hko := (hok (k, v) (by simp)).1
    unfold xfind at h
    unfold Instr.findAsking
    split at h
    · rename_i hq
      cases h
      have := xequal_sound P 40 _ _ _ _ hq β n hk hko w Op.maxDepth (by decide)
      simp only [Sem.run_bind, e1, Op.equal, this, Result.andThen_ok, if_true, Sem.run_pure, e2]
      rfl
    · rename_i hq
      have := xequal_sound P 40 _ _ _ _ hq β n hk hko w Op.maxDepth (by decide)
      simp only [Sem.run_bind, e1, Op.equal, this, Result.andThen_ok, Bool.false_eq_true, if_false]
      exact findAsking_run hk β w es en (i + 1) r h (fun p hp => hok p (by simp [hp])) e3
    · cases h

/-- Where the model decides at once, it decides as '==' does. -/
theorem sameNow_eq {P : Program} {kt : TypeId} {d : TypeDesc} (hd : P.underlying kt = some d) {a b : Value} {r s : Bool} (h : Instr.sameNow d a b = some r) (w : World) (f : Nat) (hs : (Op.equalIn (f + 1) kt a b).run P w = .ok s w) : r = s := by
  rw [Op.equalIn] at hs
  simp only [Sem.run_bind, run_underlying hd, Result.andThen_ok] at hs
  unfold Instr.sameNow at h
  split at h
  · split at h
    · rename_i hk
      subst hk
      cases h
      simpa using hs
    · cases h
  · cases h
    simpa using hs
  · cases h
    simpa using hs
  · cases h

theorem findNow_eq {P : Program} {kt : TypeId} {d : TypeDesc} (hd : P.underlying kt = some d) {key : X1} {n : Nat} (hk : key.ok n) (β : Env) (w : World) : ∀ (es : List (X1 × X1)) (en : List MapEntry) (i : Nat) (r : Option (Nat × X1)) (q : Option (Nat × Value)), xfind P kt key es i = some r →
    (∀ p ∈ es, p.1.ok n ∧ p.2.ok n) → entMap en = es.map (fun p => (p.1.den β, p.2.den β)) → Instr.findNow d (key.den β) en i = some q → q = r.map fun p => (p.1, p.2.den β)
  | [], [], i, r, q, h, _, _, hq => by
    simp only [xfind, Option.some.injEq] at h
    simp only [Instr.findNow, Option.some.injEq] at hq
    subst h; subst hq; rfl
  | [], _ :: _, i, r, q, h, _, he, _ => by simp [entMap] at he
  | _ :: _, [], i, r, q, h, _, he, _ => by simp [entMap] at he
  | (k, v) :: es, e :: en, i, r, q, h, hok, he, hq => by
    simp only [entMap, List.map_cons, List.cons.injEq, Prod.mk.injEq] at he
    obtain ⟨⟨e1, e2⟩, e3⟩ := he
    have hko := (hok (k, v) (by simp)).1
    unfold xfind at h
    unfold Instr.findNow at hq
    split at h
    · rename_i hx
      cases h
      have := xequal_sound P 40 _ _ _ _ hx β n hk hko w 40 (by decide)
      rw [e1] at hq
      split at hq
      · cases hq; rw [e2]; rfl
      · rename_i hs
        have := sameNow_eq hd hs w 39 this
        cases this
      · cases hq
    · rename_i hx
      have := xequal_sound P 40 _ _ _ _ hx β n hk hko w 40 (by decide)
      rw [e1] at hq
      split at hq
      · rename_i hs
        have := sameNow_eq hd hs w 39 this
        cases this
      · exact findNow_eq hd hk β w es en (i + 1) r q h (fun p hp => hok p (by simp [hp])) e3 hq
      · cases hq
    · cases h

theorem findKey_run {P : Program} {kt : TypeId} {d : TypeDesc} (hd : P.underlying kt = some d) {key : X1} {n : Nat} (hk : key.ok n) (β : Env) (w : World) {es : List (X1 × X1)} {en : List MapEntry} {r : Option (Nat × X1)} (h : xfind P kt key es 0 = some r)
    (hok : ∀ p ∈ es, p.1.ok n ∧ p.2.ok n) (he : entMap en = es.map (fun p => (p.1.den β, p.2.den β))) :
    (Instr.findKey kt (key.den β) en).run P w = .ok (r.map fun p => (p.1, p.2.den β)) w := by
  unfold Instr.findKey
  simp only [Sem.run_bind, run_underlying hd, Result.andThen_ok]
  split
  · rename_i q hq
    rw [findNow_eq hd hk β w es en 0 r q h hok he hq]
    rfl
  · exact findAsking_run hk β w es en 0 r h hok he

def xzeroV (P : Program) (t : TypeId) : Option X1 :=
  match P.info? t with
  | some i => match i.zero with
    | some (.agg cs) => (cs.toList.mapM ofCell).map .agg
    | some v => (ofCell v).map .one
    | .none => .none
  | .none => .none

theorem xzeroV_sound {P : Program} {t : TypeId} {x : X1} (h : xzeroV P t = some x) (β : Env) (n : Nat) (w : World) : (zeroValue t).run P w = .ok (x.den β) w ∧ x.ok n := by
  unfold xzeroV at h
  split at h
  · rename_i i hi
    split at h
    · rename_i cs hv
      obtain ⟨l, hl, rfl⟩ := Option.map_eq_some_iff.1 h
      obtain ⟨h1, h2⟩ := ofCells_den hl β n
      refine ⟨?_, h1⟩
      rw [zeroValue_run hi hv]
      simp only [X1.den, ← h2]
    · rename_i v _ hv
      obtain ⟨c, hc, rfl⟩ := Option.map_eq_some_iff.1 h
      obtain ⟨h1, h2⟩ := ofCell_den hc β n
      refine ⟨?_, h1⟩
      rw [zeroValue_run hi hv, h2]
      rfl
    · cases h
  · cases h

/-- A look-up among entries. -/
def xlookIn (P : Program) (kt et : TypeId) (key : X1) (ok : Bool) (es : List (X1 × X1)) : Option XV :=
  if xcheckKey P 40 kt key then
    match P.underlying kt, xfind P kt key es 0 with
    | some _, some (some (_, v)) => some (if ok then .tup [v, .one (.bool true)] else v.toV)
    | some _, some .none => match xzeroV P et with
      | some z => some (if ok then .tup [z, .one (.bool false)] else z.toV)
      | .none => .none
    | _, _ => .none
  else .none

theorem xlookIn_sound {P : Program} {kt et : TypeId} {key : X1} {ok : Bool} {es : List (X1 × X1)} {r : XV} (h : xlookIn P kt et key ok es = some r) {β : Env} {n : Nat} (hk : key.ok n) {en : Array MapEntry}
    (hok : ∀ p ∈ es, p.1.ok n ∧ p.2.ok n) (he : en.toList.map (fun e => (e.key, e.val)) = es.map (fun p => (p.1.den β, p.2.den β))) (emp : Bool) (w : World) :
    ∃ z, (do
      Instr.checkKey emp 10000 kt (key.den β)
      let (v, ok') ← match ← Instr.findKey kt (key.den β) en.toList with
        | some (_, v) => pure (v, true)
        | none => pure (← zeroValue et, false)
      pure (if ok then Value.tuple #[v, .bool ok'] else v) : Sem Value).run P w = .ok z w ∧ RelV β n r z := by
  unfold xlookIn at h
  split at h
  · rename_i hc
    have hck := xcheckKey_sound (P := P) emp β w 40 kt key hc hk 10000 (by decide)
    split at h
    · rename_i d i v hd hf
      cases h
      have hfk := findKey_run hd hk β w hf hok he
      have hv : v.ok n := by
        have key : ∀ (es : List (X1 × X1)) (i j : Nat), xfind P kt key es i = some (some (j, v)) → ∃ p ∈ es, p.2 = v := by
          intro es
          induction es with
          | nil => intro i j h; simp [xfind] at h
          | cons p es ih =>
            intro i j h
            obtain ⟨k, u⟩ := p
            unfold xfind at h
            split at h
            · cases h; exact ⟨_, List.mem_cons_self .., rfl⟩
            · obtain ⟨p, hp, e⟩ := ih _ _ h
              exact ⟨p, List.mem_cons_of_mem _ hp, e⟩
            · cases h
        obtain ⟨p, hp, rfl⟩ := key es 0 i hf
        exact (hok p hp).2
      cases ok
      · exact ⟨v.den β, by simp [hck, hfk], RelV.toV.2 ⟨hv, rfl⟩⟩
      · refine ⟨_, by simp [hck, hfk]; rfl, fun x hx => ?_, rfl⟩
        rcases List.mem_cons.1 hx with rfl | hx
        · exact hv
        · simp only [List.mem_singleton] at hx; subst hx; trivial
    · rename_i d hd hf
      split at h
      · rename_i z hz
        cases h
        have hfk := findKey_run hd hk β w hf hok he
        obtain ⟨h1, h2⟩ := xzeroV_sound hz β n w
        cases ok
        · exact ⟨z.den β, by simp [hck, hfk, h1], RelV.toV.2 ⟨h2, rfl⟩⟩
        · refine ⟨_, by simp [hck, hfk, h1]; rfl, fun x hx => ?_, rfl⟩
          rcases List.mem_cons.1 hx with rfl | hx
          · exact h2
          · simp only [List.mem_singleton] at hx; subst hx; trivial
      · cases h
    · cases h
  · cases h

/-- 'w[lo:hi]' where the slice goes to its block's end: what the block holds must be known so far. -/
def xsliceEnd (P : Program) (t : TypeId) (i o len sz : Nat) (lo hi : Option XV) (vs : List XC) : Option XV :=
  match P.underlying t with
  | some (.slice elem) => match xsize P elem, xbnd hi len ((vs.length - o) / sz) with
    | some s, some h => match xbnd lo 0 h with
      | some l => if s = sz ∧ 0 < sz ∧ l < h ∧ o + h * sz ≤ vs.length then some (.one (.slice i (o + l * sz) (h - l) (.toEnd sz))) else .none
      | .none => .none
    | _, _ => .none
  | _ => .none

theorem sliceBound_mono {x : XV} {d y y' i : Nat} (h : xbnd (some x) d y = some i) (hy : y ≤ y') : xbnd (some x) d y' = some i := by
  unfold xbnd at h ⊢
  split at h
  · rename_i he; cases he
  · rename_i k j he
    cases he
    split at h
    · rename_i hj
      cases h
      rw [if_pos ⟨hj.1, by omega⟩]
    · cases h
  · cases h

theorem xsliceEnd_sound {P : Program} {t : TypeId} {i o len sz : Nat} {lo hi : Option XV} {vs : List XC} {r : XV} (h : xsliceEnd P t i o len sz lo hi vs = some r) {β : Env} {n : Nat} (hin : i < n) {e : TypeId} {opn ro : Bool} {w : World}
    (hr : RelO β n (β.base i) (β.size i) (.cells vs e opn ro) w.heap[β.blk i]?) {vl vh : Option Value} (h1 : OptRel β n lo vl) (h2 : OptRel β n hi vh) :
    ∃ z, (Instr.sliceAt t (XC.den β (.slice i o len (.toEnd sz))) vl vh .none).run P w = .ok z w ∧ RelV β n r z := by
  unfold xsliceEnd at h
  split at h
  · rename_i elem ht
    split at h
    · rename_i s hv hs hb
      split at h
      · rename_i l hl
        split at h
        · rename_i hc
          obtain ⟨rfl, hpos, hlh, hfit⟩ := hc
          cases h
          have hlen : vs.length ≤ β.size i := by
            obtain ⟨cs, fr, g1, g2, g3, _⟩ := hr
            split at g3 <;> omega
          have hcap : hv ≤ (β.size i - o) / s := by
            rw [Nat.le_div_iff_mul_le hpos]; omega
          have hcap' : (vs.length - o) / s ≤ (β.size i - o) / s := Nat.div_le_div_right (by omega)
          have hbd : (Instr.sliceBounds true len ((β.size i - o) / s) vl vh .none).run P w = .ok (l, hv, (β.size i - o) / s) w := by
            refine xbounds_sound (P := P) (isSlice := true) (lo := lo) (hi := hi) (mx := .none) ?_ h1 h2 .none w
            unfold xbounds
            simp only []
            have hb' : xbnd hi len ((β.size i - o) / s) = some hv := by
              cases hi with
              | none => exact hb
              | some x => exact sliceBound_mono hb hcap'
            rw [hb']
            simp only [hl]
          refine ⟨_, ?_, hin, rfl⟩
          simp only [Instr.sliceAt, Instr.slice, Sem.run_bind, run_underlying ht, Result.andThen_ok, XC.den, Sem.run_pure, hbd, xsize_run hs]
          rw [if_neg (by omega)]
          simp only [Option.map_some, Addr.add_none, Nat.add_assoc]
          have e1 : (β.size i - (o + l * s)) / s = (β.size i - o) / s - l := by
            rw [Nat.sub_add_eq, Nat.mul_comm l s, Nat.sub_mul_div]
          rw [e1]
        · cases h
      · cases h
    · cases h
  · cases h

theorem len_map_run {P : Program} {t ty kt et : TypeId} {ts : Array TypeId} {args : Array Value} {b : Nat} {en : Array MapEntry} {clock : Nat} {w : World} (ht : ts[0]? = some t) (hu : P.underlying t = some (.map kt et))
    (ha : args[0]? = some (.map (some b))) (hg : w.heap[b]? = some (.map en clock)) : (Builtin.len_ ts ty args).run P w = .ok (.int .i64 en.size) w := by
  have hgo : (getObj b).run P w = .ok (.map en clock) w := by simp only [getObj, Sem.run, hg]
  simp only [Builtin.len_, ht, ha, Sem.run_bind, run_underlying hu, hgo, Result.andThen_ok, Sem.run_pure, goInt]

/-- THE OPERATIONS THAT READ ONE BLOCK: which one, and what they make of it. -/
def xread (P : Program) (ρ : Operand → XV) (op : Op) : Option (Nat × (XObj → Option XV)) :=
  match op with
  | .load t a => match ρ a with
    | .one (.ptr i off) => some (i, fun o => match o with
      | .cells vs _ _ _ => (xloadAt P t vs off).map X1.toV
      | _ => .none)
    | _ => .none
  | .lookup t x ix ok => match P.underlying t, ρ x, toX1 (ρ ix) with
    | some (.map kt et), .one (.map i), some key => some (i, fun o => match o with
      | .map es => xlookIn P kt et key ok es
      | _ => .none)
    | _, _, _ => .none
  | .call ⟨.builtin .len, args, ts⟩ => match args.toList with
    | [x] => match ts[0]?, ρ x with
      | some t, .one (.map i) => match P.underlying t with
        | some (.map _ _) => some (i, fun o => match o with
          | .map es => some (.one (.int .i64 (es.length : Nat)))
          | _ => .none)
        | _ => .none
      | _, _ => .none
    | _ => .none
  | .slice t x lo hi .none => match ρ x with
    | .one (.slice i o len (.toEnd sz)) => some (i, fun b => match b with
      | .cells vs _ _ _ => xsliceEnd P t i o len sz (lo.map ρ) (hi.map ρ) vs
      | _ => .none)
    | _ => .none
  | _ => .none

theorem xread_sound {P : Program} {ρ : Operand → XV} {o : Oper} {i : Nat} {f : XObj → Option XV} (h : xread P ρ o.op = some (i, f)) {β : Env} {m : Mem} {ev : Operand → Value} (hr : ∀ x, RelV β m.n (ρ x) (ev x)) {w : World} (hm : Rel β m w)
    {r : XV} (hf : f (m.get i) = some r) : ∃ z, (execOp ev o).run P w = .ok (.value z) w ∧ RelV β m.n r z := by
  unfold xread at h
  split at h
  · rename_i t a ho
    split at h
    · rename_i j off ha
      cases h
      have hra := hr a
      rw [ha] at hra
      obtain ⟨h1, h2⟩ := hra
      have hob := hm.obj i h1
      simp only at hf
      split at hf
      · rename_i vs e opn ro hg
        rw [hg] at hob
        obtain ⟨x, hx, rfl⟩ := Option.map_eq_some_iff.1 hf
        obtain ⟨h3, h4⟩ := xloadAt_sound (P := P) hx hob
        refine ⟨x.den β, ?_, RelV.toV.2 ⟨h4, rfl⟩⟩
        simp only [execOp, ho, h2, XC.den, Instr.loadAt, Instr.sureAddr, Sem.run_bind, Sem.run_pure, Result.andThen_ok, h3]
      · cases hf
    · cases h
  · rename_i t x ix ok ho
    split at h
    · rename_i kt et j key hu hx hk
      cases h
      have hrx := hr x
      rw [hx] at hrx
      obtain ⟨h1, h2⟩ := hrx
      obtain ⟨h3, h4⟩ := toX1_rel hk (hr ix)
      have hob := hm.obj i h1
      simp only at hf
      split at hf
      · rename_i es hg
        rw [hg] at hob
        obtain ⟨en, clock, h5, h6, h7⟩ := hob
        obtain ⟨z, hz, hz2⟩ := xlookIn_sound hf h3 h6 h7 en.isEmpty w
        refine ⟨z, ?_, hz2⟩
        have hgo : (getObj (β.blk i)).run P w = .ok (.map en clock) w := by simp only [getObj, Sem.run, h5]
        simp only [execOp, ho, h2, h4, XC.den, Instr.lookup, Sem.run_bind, run_underlying hu, hgo, Sem.run_pure, Result.andThen_ok]
        simp only [Sem.run_bind] at hz
        exact congrArg (fun (q : Result Value) => q.andThen fun a w' => Result.ok (Next.value a) w') hz
      · cases hf
    · cases h
  · rename_i args ts ho
    split at h
    · rename_i x hargs
      split at h
      · rename_i t j ht hx
        split at h
        · rename_i kt et hu
          cases h
          have hrx := hr x
          rw [hx] at hrx
          obtain ⟨h1, h2⟩ := hrx
          have hob := hm.obj i h1
          simp only at hf
          split at hf
          · rename_i es hg
            cases hf
            rw [hg] at hob
            obtain ⟨en, clock, h5, h6, h7⟩ := hob
            refine ⟨_, ?_, trivial, rfl⟩
            have ha : (args.map ev)[0]? = some (.map (some (β.blk i))) := by
              have : args.map ev = #[ev x] := by apply Array.toList_inj.1; simp [hargs]
              rw [this, h2]; rfl
            have hlen : en.size = es.length := by
              have := congrArg List.length h7
              simpa using this
            have hl := len_map_run (P := P) (ty := o.type) ht hu ha h5
            rw [hlen] at hl
            simp only [execOp, ho, resolve, invoke, builtin, Sem.run_bind, Sem.run_pure, Result.andThen_ok, hl]
            rfl
          · cases hf
        · cases h
      · cases h
    · cases h
  · rename_i t x lo hi ho
    split at h
    · rename_i j off len sz hx
      cases h
      have hrx := hr x
      rw [hx] at hrx
      obtain ⟨h1, h2⟩ := hrx
      have hob := hm.obj i h1
      simp only at hf
      split at hf
      · rename_i vs e opn ro hg
        rw [hg] at hob
        obtain ⟨z, hz, hz2⟩ := xsliceEnd_sound hf h1 hob (optRel_map hr lo) (optRel_map hr hi)
        exact ⟨z, by simp only [execOp, ho, h2, Option.map_none, Sem.run_bind, hz, Result.andThen_ok, Sem.run_pure], hz2⟩
      · cases hf
    · cases h
  · cases h

end Go.Xm
