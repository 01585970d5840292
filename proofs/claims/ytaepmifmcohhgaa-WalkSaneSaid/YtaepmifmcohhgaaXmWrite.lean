/-
  The second machine: the operations that make or write blocks.
-/
import Derived.Test.YtaepmifmcohhgaaXmRead
namespace Go.Xm
set_option linter.unusedSectionVars false
variable [Atoms]

def nextV : Next → Option Value
  | .value v => some v
  | .skip => some undef
  | _ => .none

/-- What an operation comes to, in a world. -/
def Does (P : Program) (s : Sem Next) (β : Env) (m : Mem) (w : World) (x : XV) (m' : Mem) : Prop :=
  ∃ nx v β' w', s.run P w = .ok nx w' ∧ nextV nx = some v ∧ RelV β' m'.n x v ∧ Step β m w β' m' w'

theorem RelV.skip {β : Env} {n : Nat} : RelV β n (.tup []) undef := ⟨by simp, rfl⟩

/-- A new block of cells. -/
theorem push_cells {β : Env} {m m' : Mem} {w : World} (h : Rel β m w) {cs : List XC} {t : TypeId} (hc : ∀ c ∈ cs, c.ok m.n) (hp : m.push (.cells cs t false false) = some m') :
    ∃ β', Step β m w β' m' (w.alloc (.cells (cs.map (·.den β)).toArray t)) ∧ (β'.blk m.n = w.heap.size ∧ β'.base m.n = 0) ∧ m'.n = m.n + 1 := by
  have hn := (Mem.push_spec hp).2.1
  obtain ⟨β', h1, h2, _, h3⟩ := Step.push h hp (ob := .cells (cs.map (·.den β)).toArray t) (sz := cs.length) (fun β' he =>
    ⟨(cs.map (·.den β)).toArray, (0, 0), rfl, by simp, by simp, fun _ => ⟨rfl, rfl⟩, fun c hm => XC.ok_mono (by omega) (hc c hm), by
      rw [map_den_ext he hc]
      have hl : cs.length = (cs.map (·.den β)).length := by simp
      show (cs.map (·.den β)).take cs.length = _
      rw [hl, List.take_length]⟩)
  exact ⟨β', h1, ⟨h2, h3⟩, hn⟩

theorem newVar_run {P : Program} (t : TypeId) (v : Value) (w : World) : (newVar t v).run P w = .ok ⟨w.heap.size, 0, none⟩ (w.alloc (.cells v.cells t)) := rfl

def xnew (m : Mem) (cs : List XC) (t : TypeId) : Option (XV × Mem) :=
  match m.push (.cells cs t false false) with
  | some m' => some (.one (.ptr m.n 0), m')
  | .none => .none

def xalloc (P : Program) (t : TypeId) (m : Mem) : Option (XV × Mem) :=
  match xzero P t with
  | some zs => xnew m zs t
  | .none => .none

theorem xalloc_sound {P : Program} {t : TypeId} {m m' : Mem} {x : XV} (h : xalloc P t m = some (x, m')) {β : Env} {w : World} (hm : Rel β m w) {ev : Operand → Value} {o : Oper} (ho : o.op = .alloc t) :
    Does P (execOp ev o) β m w x m' := by
  unfold xalloc xnew at h
  split at h
  · rename_i zs hz
    split at h
    · rename_i m1 hp
      cases h
      obtain ⟨i, v, h1, h2, h3, h4⟩ := xzero_run hz β m.n
      obtain ⟨β', g1, g2, g3⟩ := push_cells hm h4 hp
      refine ⟨.value (.pointer (some ⟨w.heap.size, 0, none⟩)), _, β', _, ?_, rfl, ?_, g1⟩
      · simp only [execOp, ho, Instr.alloc, Sem.run_bind, zeroValue_run h1 h2, Result.andThen_ok, newVar_run, Sem.run_pure, h3]
      · exact ⟨by show m.n < m'.n; omega, by simp only [XC.den, g2.1, g2.2, Nat.add_zero]⟩
    · cases h
  · cases h

def xbox (t : TypeId) (x : XV) (m : Mem) : Option (XV × Mem) :=
  match xcells x with
  | some cs => xnew m cs t
  | .none => .none

theorem xbox_sound {P : Program} {t : TypeId} {m m' : Mem} {x r : XV} (h : xbox t x m = some (r, m')) {β : Env} {w : World} (hm : Rel β m w) {ev : Operand → Value} {o : Oper} {xo : Operand} (ho : o.op = .box t xo) (hx : RelV β m.n x (ev xo)) :
    Does P (execOp ev o) β m w r m' := by
  unfold xbox xnew at h
  split at h
  · rename_i cs hc
    split at h
    · rename_i m1 hp
      cases h
      obtain ⟨h1, h2⟩ := xcells_rel hc hx
      obtain ⟨β', g1, g2, g3⟩ := push_cells hm h2 hp
      refine ⟨.value (.pointer (some ⟨w.heap.size, 0, none⟩)), _, β', _, ?_, rfl, ?_, g1⟩
      · simp only [execOp, ho, Instr.box, Sem.run_bind, Result.andThen_ok, newVar_run, Sem.run_pure, h1]
      · exact ⟨by show m.n < m'.n; omega, by simp only [XC.den, g2.1, g2.2, Nat.add_zero]⟩
    · cases h
  · cases h

/-! ### A store -/

theorem setRow_other' (w : World) (g : Nat) (cs : Array Value) (k : Nat) (h : k ≠ g) : (w.setRow g cs).heap[k]? = w.heap[k]? := by
  simp only [World.setRow, Array.getElem?_modify]
  rw [if_neg (by omega)]

theorem take_splice {α : Type} (cur new : List α) (L off : Nat) (h : off + new.length ≤ L) (hL : L ≤ cur.length) :
    (cur.take off ++ new ++ cur.drop (off + new.length)).take L = (cur.take L).take off ++ new ++ (cur.take L).drop (off + new.length) := by
  apply List.ext_getElem?
  intro j
  simp only [List.getElem?_take, List.getElem?_append, List.length_append, List.length_take, List.getElem?_drop]
  rw [show min off cur.length = off by omega, show min off (min L cur.length) = off by omega]
  split
  · split
    · split
      · rfl
      · rfl
    · rw [if_pos (by omega)]
  · rename_i hj
    split
    · omega
    · rw [if_neg (by omega)]

/-- A row of cells, written into. -/
theorem relO_splice {β : Env} {n lo sz : Nat} {vs cs : List XC} {e : TypeId} {opn : Bool} {w : World} {b off : Nat} (h : RelO β n lo sz (.cells vs e opn false) w.heap[b]?) (hc : ∀ c ∈ cs, c.ok n) (hl : off + cs.length ≤ vs.length) :
    lo = 0 ∧ ∃ cur, w.heap[b]? = some (.cells cur e (0, 0)) ∧ off + cs.length ≤ cur.size ∧
      RelO β n lo sz (.cells (vs.take off ++ cs ++ vs.drop (off + cs.length)) e opn false) (w.setRow b (cur.toList.take off ++ cs.map (·.den β) ++ cur.toList.drop (off + cs.length)).toArray).heap[b]? := by
  obtain ⟨cur, fr, h1, h2, h3, h4, h5, h6⟩ := h
  obtain ⟨hf, hlo⟩ := h4 rfl
  subst hf hlo
  rw [List.drop_zero] at h6
  have hvl : vs.length ≤ cur.size := by split at h3 <;> omega
  refine ⟨rfl, cur, h1, by omega, _, (0, 0), setRow_heap w b cur _ e (0, 0) h1, ?_, ?_, fun _ => ⟨rfl, rfl⟩, mem_splice h5 hc, ?_⟩
  · simp; omega
  · have : (vs.take off ++ cs ++ vs.drop (off + cs.length)).length = vs.length := by simp; omega
    rw [this]; exact h3
  · have e1 : (vs.take off ++ cs ++ vs.drop (off + cs.length)).length = vs.length := by simp; omega
    rw [e1, List.drop_zero]
    have e2 := take_splice cur.toList (cs.map (·.den β)) vs.length off (by simpa using hl) (by simpa using hvl)
    simp only [List.length_map] at e2
    simp only [e2, h6]
    rw [map_splice]

def xstore (P : Program) (t : TypeId) (a x : XV) (m : Mem) : Option (XV × Mem) :=
  match a, xcells x, xsize P t with
  | .one (.ptr i off), some cs, some s =>
    if cs.length = s then
      match m.get i with
      | .cells vs e opn false => if off + cs.length ≤ vs.length then some (.tup [], m.put i (.cells (vs.take off ++ cs ++ vs.drop (off + cs.length)) e opn false)) else .none
      | _ => .none
    else .none
  | _, _, _ => .none

theorem oneCell_map {β : Env} {cs : List XC} : ∀ v ∈ cs.map (·.den β), v.oneCell' = true := by
  intro v hv
  obtain ⟨c, _, rfl⟩ := List.mem_map.1 hv
  exact (XC.den_cells β c).2

theorem store_step {β : Env} {m : Mem} {w : World} (hm : Rel β m w) {i off : Nat} (hi : i < m.n) {vs cs : List XC} {e : TypeId} {opn : Bool} (hg : m.get i = .cells vs e opn false) (hc : ∀ c ∈ cs, c.ok m.n) (hl : off + cs.length ≤ vs.length) :
    ∃ w', (∀ P : Program, (storeCells ⟨β.blk i, β.base i + off, none⟩ (cs.map (·.den β)) 0).run P w = .ok () w') ∧ Step β m w β (m.put i (.cells (vs.take off ++ cs ++ vs.drop (off + cs.length)) e opn false)) w' := by
  have hob := hm.obj i hi
  rw [hg] at hob
  obtain ⟨hlo, cur, g1, g2, g3⟩ := relO_splice hob hc hl
  rw [hlo, Nat.zero_add]
  refine ⟨_, fun P => run_storeCells_at P (β.blk i) off e (cs.map (·.den β)) 0 cur w g1 (by simpa using g2) oneCell_map, ?_⟩
  simp only [Nat.add_zero, List.length_map]
  exact Step.put hm hi (by rw [hg]; rfl) rfl rfl rfl (by simp) (fun k hk => setRow_other' w _ _ k hk) g3

theorem xstore_sound {P : Program} {t : TypeId} {m m' : Mem} {a x r : XV} (h : xstore P t a x m = some (r, m')) {β : Env} {w : World} (hm : Rel β m w) {ev : Operand → Value} {o : Oper} {ao xo : Operand} (ho : o.op = .store t ao xo)
    (ha : RelV β m.n a (ev ao)) (hx : RelV β m.n x (ev xo)) : Does P (execOp ev o) β m w r m' := by
  unfold xstore at h
  split at h
  · rename_i i off cs s hc hs
    split at h
    · rename_i hl
      split at h
      · rename_i vs e opn hg
        split at h
        · rename_i hfit
          cases h
          obtain ⟨h1, h2⟩ := ha
          obtain ⟨h3, h4⟩ := xcells_rel hc hx
          obtain ⟨w', g1, g2⟩ := store_step hm h1 hg h4 hfit
          refine ⟨.skip, undef, β, w', ?_, rfl, RelV.skip, g2⟩
          have hsz : (ev xo).cells.size = s := by rw [h3]; simpa using hl
          simp only [execOp, ho, Instr.storeAt, h2, XC.den, Instr.sureAddr, Sem.run_bind, Sem.run_pure, Result.andThen_ok, storeVar, xsize_run hs, hsz, ne_eq, not_true_eq_false, if_false]
          have := g1 P
          rw [h3]
          simp only [Result.andThen_ok, this]
        · cases h
      · cases h
    · cases h
  · cases h

end Go.Xm
