/-
  The second machine: slices that are made, maps, appends, copies.
-/
import Derived.Test.YtaepmifmcohhgaaXmWrite
namespace Go.Xm
set_option linter.unusedSectionVars false
variable [Atoms]

/-- So many cells, of the zero value's, one after the other. -/
def xzeros (zs : List XC) (k : Nat) : List XC := (List.range k).map fun j => zs.getD (j % zs.length) .nili

theorem xzeros_map {β : Env} {zs : List XC} {n : Nat} (hz : ∀ c ∈ zs, c.ok n) (k : Nat) (v : Array Value) (hv : v = (zs.map (·.den β)).toArray) (h0 : 0 < zs.length ∨ k = 0) :
    ((Array.range k).map (fun j => v[j % v.size]!)) = ((xzeros zs k).map (·.den β)).toArray ∧ ∀ c ∈ xzeros zs k, c.ok n := by
  subst hv
  constructor
  · apply Array.toList_inj.1
    simp only [Array.toList_map, Array.toList_range, xzeros, List.map_map]
    apply List.map_congr_left
    intro j hj
    have hj' : j < k := by simpa using hj
    have hpos : 0 < zs.length := by rcases h0 with h | h <;> omega
    have hlt : j % zs.length < zs.length := Nat.mod_lt _ hpos
    simp [hlt, List.getD_eq_getElem?_getD]
  · intro c hc
    obtain ⟨j, hj, rfl⟩ := List.mem_map.1 hc
    have hj' : j < k := by simpa using hj
    have hpos : 0 < zs.length := by rcases h0 with h | h <;> omega
    have hlt : j % zs.length < zs.length := Nat.mod_lt _ hpos
    refine hz _ ?_
    rw [List.getD_eq_getElem?_getD, List.getElem?_eq_getElem hlt]
    exact List.getElem_mem _

def xslElem (P : Program) (t : TypeId) : Option TypeId :=
  match P.underlying t with
  | some (.slice e) => some e
  | _ => .none

theorem xslElem_run {P : Program} {t e : TypeId} (h : xslElem P t = some e) : P.underlying t = some (.slice e) := by
  unfold xslElem at h
  split at h
  · rename_i he; cases h; exact he
  · cases h

def xbuildSlice (P : Program) (t : TypeId) (len : Nat) (parts : List (Nat × XV)) (m : Mem) : Option (XV × Mem) :=
  match xslElem P t with
  | some e => match xsize P e, xzero P e with
    | some s, some zs =>
      if len * s ≤ 16777216 ∧ 0 < zs.length then
        match xfill (fun i => some (i * s, s)) (xzeros zs (len * s)) parts with
        | some cs => match m.push (.cells cs e false false) with
          | some m' => some (.one (.slice m.n 0 len (.exact len)), m')
          | .none => .none
        | .none => .none
      else .none
    | _, _ => .none
  | .none => .none

theorem xbuildSlice_sound {P : Program} {t : TypeId} {len : Nat} {parts : List (Nat × XV)} {m m' : Mem} {r : XV} (h : xbuildSlice P t len parts m = some (r, m')) {β : Env} {w : World} (hm : Rel β m w) {vs : Array (Nat × Value)}
    (hp : All2 (fun p q => p.1 = q.1 ∧ RelV β m.n p.2 q.2) parts vs.toList) :
    ∃ v β' w', (Instr.buildSlice t len vs).run P w = .ok v w' ∧ RelV β' m'.n r v ∧ Step β m w β' m' w' := by
  unfold xbuildSlice at h
  split at h
  · rename_i e he
    split at h
    · rename_i s zs hs hz
      split at h
      · rename_i hc
        split at h
        · rename_i cs hf
          split at h
          · rename_i m1 hpush
            cases h
            obtain ⟨i, v, h1, h2, h3, h4⟩ := xzero_run hz β m.n
            obtain ⟨g1, g2⟩ := xzeros_map h4 (len * s) _ h3 (.inl hc.2)
            obtain ⟨h5, h6⟩ := xfill_sound hf g2 hp
            obtain ⟨β', k1, k2, k3⟩ := push_cells hm h6 hpush
            refine ⟨.slice (some ⟨w.heap.size, 0, none⟩) len len, β', _, ?_, ?_, k1⟩
            · have hu := xslElem_run he
              have hz00 : len * s = 0 → ((Array.range (len * s)).map fun j => (#[] : Array Value)[j % (#[] : Array Value).size]!) = ((xzeros zs (len * s)).map (·.den β)).toArray := fun hz0 => by rw [hz0]; simp [xzeros]
              simp only [Instr.buildSlice, Sem.run_bind, run_underlying hu, Result.andThen_ok, xsize_run hs]
              rw [if_neg (by omega)]
              by_cases hz0 : len * s = 0
              · rw [if_pos hz0]
                simp only [Sem.run_bind, Sem.run_pure, Result.andThen_ok]
                rw [hz00 hz0]
                simp only [h5]
                rfl
              · rw [if_neg hz0]
                simp only [Sem.run_bind, zeroValue_run h1 h2, Result.andThen_ok, Sem.run_pure, g1, h5]
                rfl
            · exact ⟨by show m.n < m'.n; omega, by simp only [XC.den, k2.1, k2.2, Nat.add_zero]⟩
          · cases h
        · cases h
      · cases h
    · cases h
  · cases h

/-! ### Maps -/

theorem push_map {β : Env} {m m' : Mem} {w : World} (h : Rel β m w) (hp : m.push (.map []) = some m') :
    ∃ β', Step β m w β' m' (w.alloc (.map #[] 0)) ∧ β'.blk m.n = w.heap.size ∧ m'.n = m.n + 1 := by
  have hn := (Mem.push_spec hp).2.1
  obtain ⟨β', h1, h2, _, _⟩ := Step.push h hp (ob := .map #[] 0) (sz := 0) (fun β' _ => ⟨#[], 0, rfl, by simp, by simp⟩)
  exact ⟨β', h1, h2, hn⟩

def xmakeMap (m : Mem) : Option (XV × Mem) :=
  match m.push (.map []) with
  | some m' => some (.one (.map m.n), m')
  | .none => .none

theorem xmakeMap_sound {P : Program} {t : TypeId} {m m' : Mem} {r : XV} (h : xmakeMap m = some (r, m')) {β : Env} {w : World} (hm : Rel β m w) {ev : Operand → Value} {o : Oper} (ho : o.op = .makeMap t .none) : Does P (execOp ev o) β m w r m' := by
  unfold xmakeMap at h
  split at h
  · rename_i m1 hp
    cases h
    obtain ⟨β', k1, k2, k3⟩ := push_map hm hp
    refine ⟨.value (.map (some w.heap.size)), _, β', _, ?_, rfl, ?_, k1⟩
    · simp only [execOp, ho, Option.map_none, Instr.makeMap]
      rfl
    · exact ⟨by show m.n < m'.n; omega, by simp only [XC.den, k2]⟩
  · cases h

def xplainC : XC → Bool
  | .bool _ => true
  | .int _ _ => true
  | .str _ => true
  | _ => false

def xplainK : X1 → Bool
  | .one c => xplainC c
  | .agg cs => cs.all xplainC

theorem sameBits_plain {β : Env} {c : XC} (h : xplainC c = true) (k : Nat) : Instr.sameBits (k + 1) (c.den β) (c.den β) = true := by
  cases c <;> first
    | (simp [xplainC] at h; done)
    | (simp [XC.den, Instr.sameBits]; done)
    | (simp only [XC.den, Instr.sameBits, beq_bytes]; simp)

theorem sameBits_key {β : Env} {x : X1} (h : xplainK x = true) (k : Nat) : Instr.sameBits (k + 2) (x.den β) (x.den β) = true := by
  cases x with
  | one c => exact sameBits_plain h (k + 1)
  | agg cs =>
    simp only [xplainK, List.all_eq_true] at h
    simp only [X1.den, Instr.sameBits, beq_self_eq_true, Bool.true_and, List.all_eq_true]
    intro p hp
    obtain ⟨a, b⟩ := p
    have key : ∀ l : List XC, (∀ c ∈ l, xplainC c = true) → ∀ p ∈ (l.map (·.den β)).zip (l.map (·.den β)), Instr.sameBits (k + 1) p.1 p.2 = true := by
      intro l
      induction l with
      | nil => intro _ p hp; simp at hp
      | cons c l ih =>
        intro hl p hp
        simp only [List.map_cons, List.zip_cons_cons, List.mem_cons] at hp
        rcases hp with rfl | hp
        · exact sameBits_plain (hl c (by simp)) k
        · exact ih (fun c hc => hl c (by simp [hc])) p hp
    exact key cs h (a, b) hp

/-- Where a key stands, the key that stands is the same one. -/
def xmapUpdate (P : Program) (t : TypeId) (mp key x : XV) (m : Mem) : Option (XV × Mem) :=
  match P.underlying t, mp, toX1 key, toX1 x with
  | some (.map kt _), .one (.map i), some k, some v =>
    match m.get i with
    | .map es =>
      if xcheckKey P 40 kt k then
        match P.underlying kt, xfind P kt k es 0 with
        | some _, some (some (j, _)) => match es[j]? with
          | some (k', _) => if k' = k ∧ xplainK k = true then some (.tup [], m.put i (.map (es.set j (k, v)))) else .none
          | .none => .none
        | some _, some .none => some (.tup [], m.put i (.map (es ++ [(k, v)])))
        | _, _ => .none
      else .none
    | _ => .none
  | _, _, _, _ => .none

theorem setObj_run {P : Program} {w : World} {r : Nat} {o : Obj} {en : Array MapEntry} {c : Nat} (h : w.heap[r]? = some (.map en c)) : (setObj r o).run P w = .ok () { w with heap := w.heap.setIfInBounds r o } := by
  simp only [setObj, Sem.run, h]

theorem map_step {β : Env} {m : Mem} {w : World} (hm : Rel β m w) {i : Nat} (hi : i < m.n) {es es' : List (X1 × X1)} (hg : m.get i = .map es) {en' : Array MapEntry} {c' : Nat} (hok : ∀ p ∈ es', p.1.ok m.n ∧ p.2.ok m.n)
    (he : en'.toList.map (fun e => (e.key, e.val)) = es'.map (fun p => (p.1.den β, p.2.den β))) : Step β m w β (m.put i (.map es')) { w with heap := w.heap.setIfInBounds (β.blk i) (.map en' c') } := by
  have hob := hm.obj i hi
  rw [hg] at hob
  obtain ⟨en, c, h1, h2, h3⟩ := hob
  have hlt : β.blk i < w.heap.size := (Array.getElem?_eq_some_iff.1 h1).1
  refine Step.put hm hi (by rw [hg]; rfl) rfl rfl rfl (by simp) (fun k hk => ?_) ?_
  · exact Array.getElem?_setIfInBounds_ne (Ne.symm hk)
  · exact ⟨en', c', by simp [hlt], hok, he⟩

theorem xmapUpdate_sound {P : Program} {t : TypeId} {mp key x r : XV} {m m' : Mem} (h : xmapUpdate P t mp key x m = some (r, m')) {β : Env} {w : World} (hm : Rel β m w) {u k' v' : Value} (hu : RelV β m.n mp u) (hk : RelV β m.n key k') (hv : RelV β m.n x v') :
    r = .tup [] ∧ ∃ β' w', (Instr.mapUpdate t u k' v').run P w = .ok () w' ∧ Step β m w β' m' w' := by
  unfold xmapUpdate at h
  split at h
  · rename_i kt et i k v ht hkx hvx
    obtain ⟨h1, rfl⟩ := hu
    obtain ⟨h2, rfl⟩ := toX1_rel hkx hk
    obtain ⟨h3, rfl⟩ := toX1_rel hvx hv
    split at h
    · rename_i es hg
      have hob := hm.obj i h1
      rw [hg] at hob
      obtain ⟨en, c, g1, g2, g3⟩ := hob
      have hgo : (getObj (β.blk i)).run P w = .ok (.map en c) w := by simp only [getObj, Sem.run, g1]
      split at h
      · rename_i hck
        have hckr := xcheckKey_sound (P := P) false β w 40 kt k hck h2 10000 (by decide)
        split at h
        · rename_i d j v0 hd hf
          have hfk := findKey_run hd h2 β w hf g2 g3
          split at h
          · rename_i k1 v1 hes
            split at h
            · rename_i hsame
              cases h
              obtain ⟨rfl, hpl⟩ := hsame
              refine ⟨rfl, β, _, ?_, map_step hm h1 hg (en' := en.modify j fun e => { e with key := k1.den β, val := v.den β }) (c' := c) ?_ ?_⟩
              · have hej : en[j]?.map (·.key) = some (k1.den β) := by
                  have := congrArg (·[j]?) g3
                  simp only [List.getElem?_map, hes, Option.map_some, Array.getElem?_toList] at this
                  cases hej : en[j]? with
                  | none => rw [hej] at this; cases this
                  | some e => rw [hej] at this; simp only [Option.map_some, Option.some.injEq, Prod.mk.injEq] at this; simp [this.1]
                have hkts : (Instr.keyThatStays (k1.den β) (k1.den β)).run P w = .ok (k1.den β) w := by
                  simp only [Instr.keyThatStays, sameBits_key hpl 9998, if_true, Sem.run_pure]
                simp only [Instr.mapUpdate, Sem.run_bind, run_underlying ht, Result.andThen_ok, XC.den, hgo, hckr, hfk, Option.map_some, hej, Option.getD_some, hkts, setObj_run g1]
              · intro p hp
                rcases List.mem_or_eq_of_mem_set hp with hp | rfl
                · exact g2 p hp
                · exact ⟨h2, h3⟩
              · apply List.ext_getElem?
                intro q
                have hq := congrArg (·[q]?) g3
                simp only [List.getElem?_map, Array.getElem?_toList] at hq
                simp only [List.getElem?_map, Array.getElem?_toList, Array.getElem?_modify, List.getElem?_set]
                by_cases hjq : j = q
                · subst hjq
                  rw [hes] at hq
                  have hlt : j < es.length := (List.getElem?_eq_some_iff.1 hes).1
                  cases hej : en[j]? with
                  | none => rw [hej] at hq; cases hq
                  | some e => simp [hlt]
                · simp only [hjq, if_false]
                  exact hq
            · cases h
          · cases h
        · rename_i d hd hf
          cases h
          have hfk := findKey_run hd h2 β w hf g2 g3
          refine ⟨rfl, β, _, ?_, map_step hm h1 hg (en' := en.push { key := k.den β, val := v.den β, born := c }) (c' := c + 1) ?_ ?_⟩
          · simp only [Instr.mapUpdate, Sem.run_bind, run_underlying ht, Result.andThen_ok, XC.den, hgo, hckr, hfk, Option.map_none, setObj_run g1]
          · intro p hp
            rcases List.mem_append.1 hp with hp | hp
            · exact g2 p hp
            · simp only [List.mem_singleton] at hp; subst hp; exact ⟨h2, h3⟩
          · simp [g3]
        · cases h
      · cases h
    · cases h
  · cases h

end Go.Xm
