/-
  The second machine: make, append, copy.
-/
import Derived.Test.YtaepmifmcohhgaaXmWrite2
namespace Go.Xm
set_option linter.unusedSectionVars false
variable [Atoms]

def xmakeSlice (P : Program) (t : TypeId) (l c : XV) (m : Mem) : Option (XV × Mem) :=
  match xslElem P t, l, c with
  | some e, .one (.int _ l), .one (.int _ c) => match P.info? e, xzero P e with
    | some i, some zs =>
      if 0 ≤ l ∧ l ≤ c ∧ c ≤ 281474976710656 ∧ i.bytes * c ≤ 281474976710656 ∧ 0 < zs.length then
        match m.push (.cells (xzeros zs (c.toNat * i.size)) e false false) with
        | some m' => some (.one (.slice m.n 0 l.toNat (.exact c.toNat)), m')
        | .none => .none
      else .none
    | _, _ => .none
  | _, _, _ => .none

theorem xmakeSlice_sound {P : Program} {t : TypeId} {l c r : XV} {m m' : Mem} (h : xmakeSlice P t l c m = some (r, m')) {β : Env} {w : World} (hm : Rel β m w) {u v : Value} (hl : RelV β m.n l u) (hc : RelV β m.n c v) :
    ∃ z β' w', (Instr.makeSlice t u v).run P w = .ok z w' ∧ RelV β' m'.n r z ∧ Step β m w β' m' w' := by
  unfold xmakeSlice at h
  split at h
  · rename_i e kl l kc c he
    obtain ⟨_, rfl⟩ := hl
    obtain ⟨_, rfl⟩ := hc
    split at h
    · rename_i i zs hi hz
      split at h
      · rename_i hcond
        obtain ⟨c1, c2, c3, c4, c5⟩ := hcond
        split at h
        · rename_i m1 hp
          cases h
          obtain ⟨i', v, h1, h2, h3, h4⟩ := xzero_run hz β m.n
          rw [hi] at h1
          cases h1
          obtain ⟨g1, g2⟩ := xzeros_map h4 (c.toNat * i.size) _ h3 (.inl c5)
          obtain ⟨β', k1, k2, k3⟩ := push_cells hm g2 hp
          refine ⟨.slice (some ⟨w.heap.size, 0, none⟩) l.toNat c.toNat, β', _, ?_, ?_, k1⟩
          · have hu := xslElem_run he
            have wl : IntKind.i64.wrap l = l := IntWalk.i64_in l ⟨by omega, by omega⟩
            have wc : IntKind.i64.wrap c = c := IntWalk.i64_in c ⟨by omega, by omega⟩
            have hsz : xsize P e = some i.size := by simp [xsize, hi]
            have hz00 : c.toNat * i.size = 0 → ((Array.range (c.toNat * i.size)).map fun j => (#[] : Array Value)[j % (#[] : Array Value).size]!) = ((xzeros zs (c.toNat * i.size)).map (·.den β)).toArray := fun hz0 => by rw [hz0]; simp [xzeros]
            have hti : (typeInfo e).run P w = .ok i w := by simp [typeInfo, hi]
            simp only [Instr.makeSlice, XC.den, asInt, asIntOf, Sem.run_bind, run_underlying hu, Result.andThen_ok, Sem.run_pure, hti, wl, wc]
            rw [if_neg (by
              have d1 : decide (c < 0) = false := by simp; omega
              have d2 : decide ((i.bytes : Int) * c > 2 ^ 48) = false := by simp; omega
              have d3 : decide (l < 0) = false := by simp; omega
              have d4 : decide (l > c) = false := by simp; omega
              simp only [d1, d2, d3, d4]; decide)]
            simp only [Sem.run_bind, run_askRoom, Result.andThen_ok, xsize_run hsz]
            by_cases hz0 : c.toNat * i.size = 0
            · rw [if_pos hz0]
              simp only [Sem.run_bind, Sem.run_pure, Result.andThen_ok]
              rw [hz00 hz0]
              rfl
            · rw [if_neg hz0]
              simp only [Sem.run_bind, zeroValue_run hi h2, Result.andThen_ok, Sem.run_pure, g1]
              rfl
          · exact ⟨by show m.n < m'.n; omega, by simp only [XC.den, k2.1, k2.2, Nat.add_zero]⟩
        · cases h
      · cases h
    · cases h
  · cases h

/-- What is appended, or copied: how many, and their cells. -/
def xsrc (P : Program) (t : TypeId) (sz : Nat) (x : XV) (m : Mem) : Option (Nat × List XC) :=
  match P.underlying t, x with
  | some (.slice _), .one .nils => some (0, [])
  | some (.slice _), .one (.slice i off len _) => if len = 0 then some (0, []) else match m.get i with
    | .cells vs _ _ _ => if off + len * sz ≤ vs.length then some (len, (vs.drop off).take (len * sz)) else .none
    | _ => .none
  | some .string, .one (.str s) => if sz = 1 then some (s.length, s.map fun b => .int .u8 b.toNat) else .none
  | _, _ => .none

structure SrcOk (P : Program) (t : TypeId) (sz : Nat) (β : Env) (m : Mem) (v : Value) (n : Nat) (cs : List XC) : Prop where
  len : cs.length = n * sz
  ok : ∀ c ∈ cs, c.ok m.n
  lenOf : ∀ w, (Builtin.lenOf v).run P w = .ok n w
  first : ∀ w, Rel β m w → (Builtin.firstCells sz n v).run P w = .ok (cs.map (·.den β)).toArray w
  firstK : ∀ w, Rel β m w → ∀ k, k ≤ n → (Builtin.firstCells sz k v).run P w = .ok ((cs.take (k * sz)).map (·.den β)).toArray w
  noInt : ∃ d, P.underlying t = some d ∧ ((∃ q, d = .slice q) ∨ d = .string)

theorem xsrc_sound {P : Program} {t : TypeId} {sz n : Nat} {x : XV} {m : Mem} {cs : List XC} (h : xsrc P t sz x m = some (n, cs)) {β : Env} {v : Value} (hv : RelV β m.n x v) {w0 : World} (hm0 : Rel β m w0) : SrcOk P t sz β m v n cs := by
  unfold xsrc at h
  split at h
  · rename_i e hu
    cases h
    obtain ⟨_, rfl⟩ := hv
    exact ⟨by simp, by simp, fun _ => rfl, fun _ _ => rfl, fun _ _ k _ => by simp [Builtin.firstCells, XC.den], _, hu, .inl ⟨_, rfl⟩⟩
  · rename_i e i off len cap hu
    obtain ⟨h1, rfl⟩ := hv
    by_cases hl0 : len = 0
    · rw [if_pos hl0] at h
      cases h
      subst hl0
      exact ⟨by simp, by simp, fun _ => by cases cap <;> rfl, fun _ _ => by cases cap <;> simp [Builtin.firstCells, XC.den, loadCells, loadCellsFrom], fun _ _ k hk => by
        obtain rfl : k = 0 := by omega
        cases cap <;> simp [Builtin.firstCells, XC.den, loadCells, loadCellsFrom], _, hu, .inl ⟨_, rfl⟩⟩
    rw [if_neg hl0] at h
    split at h
    · rename_i vs et opn ro hg
      split at h
      · rename_i hfit
        cases h
        have hok := hm0.obj i h1
        rw [hg] at hok
        refine ⟨by simp; omega, fun c hc => hok.okc' c (List.mem_of_mem_drop (List.mem_of_mem_take hc)), fun _ => by cases cap <;> rfl, fun w hm => ?_, fun w hm k hk => ?_, _, hu, .inl ⟨_, rfl⟩⟩
        · have hob := hm.obj i h1
          rw [hg] at hob
          have := loadCells_run (P := P) hob off (n * sz) hfit
          cases cap <;> exact this
        · have hob := hm.obj i h1
          rw [hg] at hob
          have hkn : k * sz ≤ n * sz := Nat.mul_le_mul_right _ hk
          have := loadCells_run (P := P) hob off (k * sz) (by omega)
          have e : ((vs.drop off).take (n * sz)).take (k * sz) = (vs.drop off).take (k * sz) := by rw [List.take_take, Nat.min_eq_left hkn]
          rw [e]
          cases cap <;> exact this
      · cases h
    · cases h
  · rename_i s hu
    obtain ⟨_, rfl⟩ := hv
    split at h
    · rename_i hs
      cases h
      refine ⟨by simp [hs], fun c hc => ?_, fun _ => rfl, fun w _ => ?_, fun w _ k _ => ?_, _, hu, .inr rfl⟩
      · obtain ⟨b, _, rfl⟩ := List.mem_map.1 hc; trivial
      · have e1 : (⟨s.toArray⟩ : ByteArray).extract 0 s.length = ⟨s.toArray⟩ := by rw [bytes_extract]; simp
        simp only [Builtin.firstCells, XC.den, e1, Sem.run_pure]
        congr 1
        apply Array.toList_inj.1
        simp [XC.den]
      · have e1 : (⟨s.toArray⟩ : ByteArray).extract 0 k = ⟨(s.take k).toArray⟩ := by rw [bytes_extract]; simp
        subst hs
        simp only [Builtin.firstCells, XC.den, e1, Sem.run_pure]
        congr 1
        apply Array.toList_inj.1
        simp [List.map_take]
        rfl
    · cases h
  · cases h

section
variable {P : Program} {t e ty : TypeId} {sz n sLen sCap : Nat} {ts : Array TypeId} {args : Array Value} {x : Value} {base : Option Addr} {t1 : TypeId} {w : World}

theorem append_room_run (ht0 : ts[0]? = some t) (hu : P.underlying t = some (.slice e)) (hs : xsize P e = some sz) (ht1 : ts[1]? = some t1) {d : TypeDesc} (hd1 : P.underlying t1 = some d) (hd2 : (∃ q, d = .slice q) ∨ d = .string)
    (ha0 : args[0]? = some (.slice base sLen sCap)) (ha1 : args[1]? = some x) (hl : ∀ w, (Builtin.lenOf x).run P w = .ok n w) (hr : sLen + n ≤ sCap) {new : Array Value} (hf : (Builtin.firstCells sz n x).run P w = .ok new w) :
    (Builtin.append_ ts ty args).run P w = (do
        if let some a := base then storeCells (a.add (sLen * sz)) new.toList
        pure (.slice base (sLen + n) sCap) : Sem Value).run P w := by
  rcases hd2 with ⟨q, rfl⟩ | rfl <;>
    (simp only [Builtin.append_, ht0, ht1, ha0, ha1, Sem.run_bind, run_underlying hu, Result.andThen_ok, xsize_run hs, run_underlying hd1, Sem.run_pure, Bool.false_eq_true, if_false, hl, hr, if_true, Bool.not_false, hf]
     cases base <;> rfl)

theorem append_grow_run (ht0 : ts[0]? = some t) (hu : P.underlying t = some (.slice e)) (hs : xsize P e = some sz) {i : TypeInfo} (hi : P.info? e = some i) {z : Value} (hz0 : i.zero = some z) (ht1 : ts[1]? = some t1) {d : TypeDesc} (hd1 : P.underlying t1 = some d) (hd2 : (∃ q, d = .slice q) ∨ d = .string)
    (ha0 : args[0]? = some (.slice base sLen sCap)) (ha1 : args[1]? = some x) (hl : ∀ w, (Builtin.lenOf x).run P w = .ok n w) (hr : sCap < sLen + n) (hmax : sLen + n ≤ 9223372036854775807) (hby : (sLen + n) * i.bytes ≤ 140737488355328)
    {old new : Array Value} (hf0 : (Builtin.firstCells sz sLen (.slice base sLen sCap)).run P w.drew = .ok old w.drew) (hf : (Builtin.firstCells sz n x).run P w.drew = .ok new w.drew) :
    (Builtin.append_ ts ty args).run P w = .ok (.slice (some ⟨w.heap.size, 0, none⟩) (sLen + n) (grownCap w (sLen + n) sCap e))
      (w.drew.alloc (.cells (old ++ new ++ Builtin.zeroCells z.cells (grownCap w (sLen + n) sCap e - (sLen + n))) e)) := by
  have hti : ∀ w, (typeInfo e).run P w = .ok i w := fun w => by simp [typeInfo, hi]
  have hfit := growslice_fits hr hby
  have h63 : ¬ (((sLen + n : Nat) : Int) > IntKind.i64.max) := by
    have : IntKind.i64.max = 9223372036854775807 := by decide
    rw [this]; omega
  have h48 : ¬ (Builtin.nextslicecap (sLen + n) sCap * i.bytes > 2 ^ 48) := by omega
  rcases hd2 with ⟨q, rfl⟩ | rfl <;>
    (simp only [Builtin.append_, ht0, ht1, ha0, ha1, Sem.run_bind, run_underlying hu, Result.andThen_ok, xsize_run hs, run_underlying hd1, Sem.run_pure, Bool.false_eq_true, if_false, hl, Nat.not_le.2 hr, Bool.not_false, if_true, hti, h63, h48, false_and,
      run_choose, Question.forced, run_askRoom, World.drew_eq, hf0, hf, zeroValue_run hi hz0]
     rfl)
end

/-- A block that goes on under a new number, written anew where it lies. -/
theorem Step.move {β : Env} {m m' : Mem} {w w' : World} (h : Rel β m w) {i : Nat} (hi : i < m.n) (hl : (m.get i).own = true) {o : XObj} (hp : (m.put i .dead).push o = some m')
    (hos : w'.os = w.os) (htape : w'.tape = w.tape) (hout : w'.output = w.output) (hsz : w'.heap.size = w.heap.size)
    (hother : ∀ k, k ≠ β.blk i → w'.heap[k]? = w.heap[k]?) (ho : ∀ β', Ext m.n β β' → RelO β' m'.n (β.base i) (β.size i) o w'.heap[β.blk i]?) :
    ∃ β', Step β m w β' m' w' ∧ (β'.blk m.n = β.blk i ∧ β'.base m.n = β.base i) ∧ β'.size m.n = β.size i ∧ m'.n = m.n + 1 := by
  obtain ⟨h1, h2, h3, h4⟩ := Mem.push_spec hp
  simp only [Mem.n_put] at h1 h2 h3 h4
  have hib : i < Mem.bound := by omega
  let β' : Env := ⟨fun j => if j = m.n then β.blk i else β.blk j, fun j => if j = m.n then β.base i else β.base j, fun j => if j = m.n then β.size i else β.size j⟩
  have hext : Ext m.n β β' := fun j hj => ⟨by simp only [β']; rw [if_neg (by omega)], by simp only [β']; rw [if_neg (by omega)], by simp only [β']; rw [if_neg (by omega)]⟩
  have hblk : β'.blk m.n = β.blk i := by simp [β']
  have hszn : β'.size m.n = β.size i := by simp [β']
  have hban : β'.base m.n = β.base i := by simp [β']
  have hgn : m'.get m.n = o := by unfold Mem.get; rw [h3]
  have hgi : m'.get i = .dead := by
    unfold Mem.get
    rw [h4 i (by omega), Mem.ent_put_eq m _ hi hib]
  have hget : ∀ j, j ≠ m.n → j ≠ i → m'.get j = m.get j := fun j hj hji => by
    unfold Mem.get
    rw [h4 j hj, Mem.ent_put_ne m _ hji]
  refine ⟨β', ⟨by omega, hext, ⟨by omega, Fresh.push (Fresh.put h.fresh _) hp, ?_, ?_⟩, hos, htape, hout, by omega, ?_, ?_⟩, ⟨hblk, hban⟩, hszn, h2⟩
  · intro j hj
    by_cases hjn : j = m.n
    · subst hjn
      rw [hgn, hblk, hszn, hban]
      exact ho β' hext
    · by_cases hji : j = i
      · subst hji; rw [hgi]; trivial
      · rw [hget j hjn hji, (hext j (by omega)).1, (hext j (by omega)).2.1, (hext j (by omega)).2.2]
        by_cases hlv : (m.get j).live = true
        · rw [hother _ (fun e => hji (h.inj i j hi (by omega) hl hlv e.symm).symm)]
          exact (h.obj j (by omega)).ext hext (by omega)
        · cases hg : m.get j with
          | dead => trivial
          | cells vs elem opn ro => rw [hg] at hlv; simp [XObj.live] at hlv
          | map es => rw [hg] at hlv; simp [XObj.live] at hlv
  · intro a b ha hb hla hlb he
    have low : ∀ j, j < m'.n → j ≠ m.n → (m'.get j).live = true → j < m.n ∧ j ≠ i ∧ (m.get j).live = true ∧ β'.blk j = β.blk j := fun j hj hjn hlv => by
      have hji : j ≠ i := fun e => by subst e; rw [hgi] at hlv; cases hlv
      rw [hget j hjn hji] at hlv
      exact ⟨by omega, hji, hlv, (hext j (by omega)).1⟩
    have lowo : ∀ j, j < m'.n → j ≠ m.n → (m'.get j).own = true → j < m.n ∧ j ≠ i ∧ (m.get j).own = true ∧ β'.blk j = β.blk j := fun j hj hjn hlv => by
      have hji : j ≠ i := fun e => by subst e; rw [hgi] at hlv; cases hlv
      rw [hget j hjn hji] at hlv
      exact ⟨by omega, hji, hlv, (hext j (by omega)).1⟩
    by_cases han : a = m.n
    · by_cases hbn : b = m.n
      · omega
      · obtain ⟨k1, k2, k3, k4⟩ := low b hb hbn hlb
        rw [han, hblk, k4] at he
        exact (k2 (h.inj i b hi k1 hl k3 he).symm).elim
    · obtain ⟨k1, k2, k3, k4⟩ := lowo a ha han hla
      by_cases hbn : b = m.n
      · rw [hbn, hblk, k4] at he
        exact (k2 (h.inj a i k1 hi k3 (XObj.live_of_own hl) he)).elim
      · obtain ⟨q1, q2, q3, q4⟩ := low b hb hbn hlb
        rw [k4, q4] at he
        exact h.inj a b k1 q1 k3 q3 he
  · intro k hk hn
    exact hother k (fun e => hn ⟨i, hi, hl, e.symm⟩)
  · intro k hk ⟨j, hj, hlj, hb⟩
    by_cases hjn : j = m.n
    · rw [hjn, hblk] at hb
      exact ⟨i, hi, hl, hb⟩
    · have hji : j ≠ i := fun e => by subst e; rw [hgi] at hlj; cases hlj
      rw [hget j hjn hji] at hlj
      rw [(hext j (by omega)).1] at hb
      exact ⟨j, by omega, hlj, hb⟩

/-- append: to what is nil, full, roomy, or goes to its block's end. -/
def xappend (P : Program) (t t1 : TypeId) (s x : XV) (m : Mem) : Option (XV × Mem) :=
  match xslElem P t with
  | some e => match P.info? e, xzero P e with
    | some i, some zs =>
      match xsrc P t1 i.size x m with
      | some (n, cs) =>
        if zs.length = i.size ∧ 0 < i.size then
          match s with
          | .one .nils =>
            if n = 0 then some (.one .nils, m)
            else if n ≤ 9223372036854775807 ∧ n * i.bytes ≤ 140737488355328 then
              match m.push (.cells cs e true false) with
              | some m' => some (.one (.slice m.n 0 n (.toEnd i.size)), m')
              | .none => .none
            else .none
          | .one (.slice j off len (.exact c)) =>
            if len + n ≤ c then
              if n = 0 then some (.one (.slice j off len (.exact c)), m)
              else match m.get j with
                | .cells vs et opn false =>
                  if off + len * i.size + cs.length ≤ vs.length then
                    some (.one (.slice j off (len + n) (.exact c)), m.put j (.cells (vs.take (off + len * i.size) ++ cs ++ vs.drop (off + len * i.size + cs.length)) et opn false))
                  else .none
                | _ => .none
            else if len + n ≤ 9223372036854775807 ∧ (len + n) * i.bytes ≤ 140737488355328 then
              match m.get j with
              | .cells vs _ _ _ =>
                if off + len * i.size ≤ vs.length then
                  match m.push (.cells ((vs.drop off).take (len * i.size) ++ cs) e true false) with
                  | some m' => some (.one (.slice m.n 0 (len + n) (.toEnd i.size)), m')
                  | .none => .none
                else .none
              | _ => .none
            else .none
          | .one (.slice j off len (.toEnd sz)) =>
            if sz = i.size ∧ len + n ≤ 9223372036854775807 ∧ (len + n) * i.bytes ≤ 140737488355328 then
              match m.get j with
              | .cells vs et opn false =>
                if n = 0 then (if off + len * i.size ≤ vs.length then some (.one (.slice j off len (.toEnd sz)), m) else .none)
                else if off = 0 ∧ vs.length = len * i.size ∧ opn = true ∧ et = e then
                  match (m.put j .dead).push (.cells (vs ++ cs) e true false) with
                  | some m' => some (.one (.slice m.n 0 (len + n) (.toEnd sz)), m')
                  | .none => .none
                else .none
              | _ => .none
            else .none
          | _ => .none
        else .none
      | .none => .none
    | _, _ => .none
  | .none => .none

end Go.Xm
