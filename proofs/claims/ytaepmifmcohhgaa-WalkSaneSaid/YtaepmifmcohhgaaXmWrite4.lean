/-
  The second machine: append, held against the model's; copy; and all operations that make or write, as one function.
-/
import Derived.Test.YtaepmifmcohhgaaXmWrite3
namespace Go.Xm
set_option linter.unusedSectionVars false
variable [Atoms]

theorem grow_step {β : Env} {m m' : Mem} {w : World} (hm : Rel β m w) {vs : List XC} {e : TypeId} {isz need cap : Nat} (hc : ∀ c ∈ vs, c.ok m.n) (hp : m.push (.cells vs e true false) = some m') (hv : vs.length = need * isz) (hcap : need ≤ cap)
    {rest : Array Value} (hr : rest.size = (cap - need) * isz) :
    ∃ β', Step β m w β' m' (w.drew.alloc (.cells ((vs.map (·.den β)).toArray ++ rest) e)) ∧ (β'.blk m.n = w.heap.size ∧ β'.base m.n = 0) ∧ β'.size m.n = cap * isz ∧ m'.n = m.n + 1 := by
  have hn := (Mem.push_spec hp).2.1
  have hd := Step.drew hm
  have hsz : need * isz + (cap - need) * isz = cap * isz := by rw [← Nat.add_mul]; congr 1; omega
  obtain ⟨β', h1, h2, h3, h4⟩ := Step.push hd.rel hp (ob := .cells ((vs.map (·.den β)).toArray ++ rest) e) (sz := cap * isz) (fun β' he =>
    ⟨(vs.map (·.den β)).toArray ++ rest, (0, 0), rfl, by simp [hr, hv, hsz], by simp only [if_true]; rw [hv]; exact Nat.mul_le_mul_right _ hcap, fun _ => ⟨rfl, rfl⟩, fun c hm => XC.ok_mono (by omega) (hc c hm), by
      rw [map_den_ext he hc, Array.toList_append, List.drop_zero]
      have hl : vs.length = (vs.map (·.den β)).length := by simp
      rw [hl]
      exact List.take_left⟩)
  exact ⟨β', hd.trans h1, ⟨h2, h4⟩, h3, hn⟩

theorem mul_div_self' {cap isz : Nat} (h : 0 < isz) : (cap * isz - 0) / isz = cap := by rw [Nat.sub_zero, Nat.mul_div_cancel _ h]

theorem xappend_sound {P : Program} {t t1 : TypeId} {s x r : XV} {m m' : Mem} (h : xappend P t t1 s x m = some (r, m')) {β : Env} {w : World} (hm : Rel β m w) {ts : Array TypeId} {args : Array Value} (ht0 : ts[0]? = some t) (ht1 : ts[1]? = some t1)
    {u v : Value} (ha0 : args[0]? = some u) (ha1 : args[1]? = some v) (hu : RelV β m.n s u) (hv : RelV β m.n x v) (ty : TypeId) :
    ∃ z β' w', (Builtin.append_ ts ty args).run P w = .ok z w' ∧ RelV β' m'.n r z ∧ Step β m w β' m' w' := by
  unfold xappend at h
  split at h
  · rename_i e he
    have hue := xslElem_run he
    split at h
    · rename_i i zs hi hz
      split at h
      · rename_i n cs hsrc
        have so := xsrc_sound hsrc hv hm
        have hs : xsize P e = some i.size := by simp [xsize, hi]
        obtain ⟨i', z, hi', hzv, hzc, hzok⟩ := xzero_run hz β m.n
        rw [hi] at hi'
        cases hi'
        obtain ⟨d, hd1, hd2⟩ := so.noInt
        have hdr := (Step.drew hm).rel
        split at h
        · rename_i hzl
          obtain ⟨hzl, hpos⟩ := hzl
          have hzsz : z.cells.size = i.size := by rw [hzc]; simp [hzl]
          have grow : ∀ (base : Option Addr) (sLen sCap : Nat) (olds : List XC) (m1 : Mem), args[0]? = some (.slice base sLen sCap) → sCap < sLen + n → sLen + n ≤ 9223372036854775807 → (sLen + n) * i.bytes ≤ 140737488355328 →
              (Builtin.firstCells i.size sLen (.slice base sLen sCap)).run P w.drew = .ok (olds.map (·.den β)).toArray w.drew → (∀ c ∈ olds, c.ok m.n) → olds.length = sLen * i.size → m.push (.cells (olds ++ cs) e true false) = some m1 →
              ∃ z β' w', (Builtin.append_ ts ty args).run P w = .ok z w' ∧ RelV β' m1.n (.one (.slice m.n 0 (sLen + n) (.toEnd i.size))) z ∧ Step β m w β' m1 w' := by
            intro base sLen sCap olds m1 ha0' hlt hmax hby hf0 hok hlo hpush
            have hrun := append_grow_run (P := P) (ty := ty) ht0 hue hs hi hzv ht1 hd1 hd2 ha0' ha1 so.lenOf hlt hmax hby hf0 (so.first w.drew hdr)
            have hge := grownCap_ge w (sLen + n) sCap e
            obtain ⟨β', k1, k2, k3, k4⟩ := grow_step (rest := Builtin.zeroCells z.cells (grownCap w (sLen + n) sCap e - (sLen + n))) hm (vs := olds ++ cs) (isz := i.size) (need := sLen + n) (cap := grownCap w (sLen + n) sCap e)
              (fun c hc => by rcases List.mem_append.1 hc with hc | hc; exact hok c hc; exact so.ok c hc) hpush (by rw [List.length_append, hlo, so.len, Nat.add_mul]) hge (by rw [size_zeroCells, hzsz])
            refine ⟨_, β', _, hrun, ?_, ?_⟩
            · refine ⟨by show m.n < m1.n; omega, ?_⟩
              simp only [XC.den, k2.1, k2.2, k3, mul_div_self' hpos, Nat.add_zero]
            · have e1 : ((olds ++ cs).map (·.den β)).toArray = (olds.map (·.den β)).toArray ++ (cs.map (·.den β)).toArray := by simp
              rw [e1] at k1
              exact k1
          split at h
          · -- nil
            obtain ⟨_, rfl⟩ := hu
            split at h
            · rename_i hn
              cases h
              refine ⟨.slice none 0 0, β, w, ?_, ⟨trivial, rfl⟩, Step.refl hm⟩
              rw [append_room_run (P := P) (ty := ty) ht0 hue hs ht1 hd1 hd2 ha0 ha1 so.lenOf (by omega) (so.first w hm), hn]
              rfl
            · split at h
              · rename_i hb
                split at h
                · rename_i m1 hp
                  cases h
                  have := grow none 0 0 [] m' ha0 (by omega) (by omega) (by simpa using hb.2) (by simp [Builtin.firstCells]) (by simp) (by simp) (by simpa using hp)
                  simpa using this
                · cases h
              · cases h
          · -- exact
            rename_i j off len c
            obtain ⟨hj, rfl⟩ := hu
            split at h
            · rename_i hroom
              have hrun := append_room_run (P := P) (ty := ty) ht0 hue hs ht1 hd1 hd2 ha0 ha1 so.lenOf hroom (so.first w hm)
              split at h
              · rename_i hn
                cases h
                have hcs : cs = [] := List.eq_nil_of_length_eq_zero (by rw [so.len, hn]; simp)
                refine ⟨.slice (some ⟨β.blk j, β.base j + off, none⟩) len c, β, w, ?_, ⟨hj, rfl⟩, Step.refl hm⟩
                rw [hrun, hcs, hn]
                rfl
              · split at h
                · rename_i vs et opn hg
                  split at h
                  · rename_i hfit
                    cases h
                    obtain ⟨w', g1, g2⟩ := store_step hm hj hg so.ok hfit
                    refine ⟨.slice (some ⟨β.blk j, β.base j + off, none⟩) (len + n) c, β, w', ?_, ⟨by rw [Mem.n_put]; exact hj, rfl⟩, g2⟩
                    rw [hrun]
                    simp only [Addr.add_none, Nat.add_assoc, Sem.run_bind, g1 P, Result.andThen_ok, Sem.run_pure]
                  · cases h
                · cases h
            · rename_i hroom
              split at h
              · rename_i hb
                split at h
                · rename_i vs et opn ro hg
                  split at h
                  · rename_i hfit
                    split at h
                    · rename_i m1 hp
                      cases h
                      have hob := hdr.obj j hj
                      rw [hg] at hob
                      exact grow _ len c _ m' ha0 (by omega) hb.1 hb.2 (loadCells_run (P := P) hob off (len * i.size) hfit) (fun c hc => hob.okc' c (List.mem_of_mem_drop (List.mem_of_mem_take hc))) (by simp; omega) hp
                    · cases h
                  · cases h
                · cases h
              · cases h
          · -- to the end
            rename_i j off len sz
            obtain ⟨hj, rfl⟩ := hu
            split at h
            · rename_i hb
              obtain ⟨rfl, hmax, hby⟩ := hb
              split at h
              · rename_i vs et opn hg
                have hob := hm.obj j hj
                rw [hg] at hob
                have hvl : vs.length ≤ β.size j := by
                  obtain ⟨cs', fr, g1, g2, g3, _⟩ := hob
                  split at g3 <;> omega
                split at h
                · rename_i hn
                  split at h
                  · rename_i hfit
                    cases h
                    have hroom : len + n ≤ (β.size j - off) / i.size := by
                      rw [hn, Nat.add_zero, Nat.le_div_iff_mul_le hpos]; omega
                    have hrun := append_room_run (P := P) (ty := ty) ht0 hue hs ht1 hd1 hd2 ha0 ha1 so.lenOf hroom (so.first w hm)
                    have hcs : cs = [] := List.eq_nil_of_length_eq_zero (by rw [so.len, hn]; simp)
                    refine ⟨.slice (some ⟨β.blk j, β.base j + off, none⟩) len ((β.size j - off) / i.size), β, w, ?_, ⟨hj, rfl⟩, Step.refl hm⟩
                    rw [hrun, hcs, hn]
                    rfl
                  · cases h
                · split at h
                  · rename_i hc
                    obtain ⟨rfl, hvs, rfl, rfl⟩ := hc
                    split at h
                    · rename_i m1 hp
                      cases h
                      by_cases hroom : len + n ≤ (β.size j - 0) / i.size
                      · have hrun := append_room_run (P := P) (ty := ty) ht0 hue hs ht1 hd1 hd2 ha0 ha1 so.lenOf hroom (so.first w hm)
                        obtain ⟨cur, fr, g1, g2, g3, g4, g5, g6⟩ := hob
                        obtain ⟨hfr, hlo⟩ := g4 rfl
                        subst hfr
                        rw [hlo, List.drop_zero] at g6
                        have hcap : (len + n) * i.size ≤ cur.size := by
                          rw [Nat.le_div_iff_mul_le hpos] at hroom
                          omega
                        have hnl : len * i.size + cs.length = (len + n) * i.size := by rw [so.len, Nat.add_mul]
                        have hst := run_storeCells_at P (β.blk j) (len * i.size) et (cs.map (·.den β)) 0 cur w g1 (by simp; omega) oneCell_map
                        simp only [Nat.add_zero, List.length_map] at hst
                        obtain ⟨β', k1, k2, k3, k4⟩ := Step.move hm hj (by rw [hg]; rfl) hp (w' := w.setRow (β.blk j) (cur.toList.take (len * i.size) ++ cs.map (·.den β) ++ cur.toList.drop (len * i.size + cs.length)).toArray)
                          rfl rfl rfl (by simp) (fun k hk => setRow_other' w _ _ k hk) (fun β' hx => by
                            have hn1 : m.n ≤ m'.n := by have := (Mem.push_spec hp).2.1; simp only [Mem.n_put] at this; omega
                            refine ⟨_, (0, 0), setRow_heap w (β.blk j) cur _ et (0, 0) g1, ?_, ?_, fun _ => ⟨rfl, hlo⟩, ?_, ?_⟩
                            · simp; omega
                            · simp only [if_true, List.length_append]; omega
                            · intro c hc
                              rcases List.mem_append.1 hc with hc | hc
                              · exact XC.ok_mono hn1 (g5 c hc)
                              · exact XC.ok_mono hn1 (so.ok c hc)
                            · rw [hvs] at g6
                              rw [hlo, List.drop_zero]
                              simp only [g6]
                              have hl : (vs ++ cs).length = (vs.map (·.den β) ++ cs.map (·.den β)).length := by simp
                              rw [hl, List.take_left, List.map_append, map_den_ext hx g5, map_den_ext hx so.ok])
                        refine ⟨.slice (some ⟨β.blk j, β.base j + 0, none⟩) (len + n) ((β.size j - 0) / i.size), β', _, ?_, ?_, k1⟩
                        · rw [hrun]
                          simp only [hlo, Addr.add_none, Nat.zero_add, Sem.run_bind, hst, Result.andThen_ok, Sem.run_pure]
                        · exact ⟨by show m.n < m'.n; omega, by simp only [XC.den, k2.1, k2.2, k3]⟩
                      · -- it grows
                        have hobd := hdr.obj j hj
                        rw [hg] at hobd
                        have hl0 := loadCells_run (P := P) hobd 0 (len * i.size) (by omega)
                        have hall : (vs.drop 0).take (len * i.size) = vs := by rw [List.drop_zero, ← hvs, List.take_length]
                        rw [hall] at hl0
                        -- first the old block is given up
                        have hkill := Step.kill hm hj
                        have hrun := append_grow_run (P := P) (ty := ty) ht0 hue hs hi hzv ht1 hd1 hd2 ha0 ha1 so.lenOf (Nat.lt_of_not_le hroom) hmax hby hl0 (so.first w.drew hdr)
                        have hge := grownCap_ge w (len + n) ((β.size j - 0) / i.size) et
                        obtain ⟨β', k1, k2, k3, k4⟩ := grow_step (rest := Builtin.zeroCells z.cells (grownCap w (len + n) ((β.size j - 0) / i.size) et - (len + n))) hkill.rel (vs := vs ++ cs) (isz := i.size) (need := len + n) (cap := grownCap w (len + n) ((β.size j - 0) / i.size) et)
                          (fun c hc => by
                            rw [Mem.n_put]
                            rcases List.mem_append.1 hc with hc | hc
                            · exact hob.okc' c hc
                            · exact so.ok c hc) hp (by rw [List.length_append, hvs, so.len, Nat.add_mul]) hge (by rw [size_zeroCells, hzsz])
                        simp only [Mem.n_put] at k2 k3 k4
                        refine ⟨_, β', _, hrun, ?_, ?_⟩
                        · refine ⟨by show m.n < m'.n; omega, ?_⟩
                          simp only [XC.den, k2.1, k2.2, k3, mul_div_self' hpos, Nat.add_zero]
                        · have e1 : ((vs ++ cs).map (·.den β)).toArray = (vs.map (·.den β)).toArray ++ (cs.map (·.den β)).toArray := by simp
                          rw [e1] at k1
                          exact hkill.trans k1
                    · cases h
                  · cases h
              · cases h
            · cases h
          · cases h
        · cases h
      · cases h
    · cases h
  · cases h

/-- copy -/
def xcopy (P : Program) (t t1 : TypeId) (d x : XV) (m : Mem) : Option (XV × Mem) :=
  match xslElem P t with
  | some e => match xsize P e with
    | some sz => match xsrc P t1 sz x m with
      | some (n, cs) => match d with
        | .one .nils => some (.one (.int .i64 0), m)
        | .one (.slice j off len _) => match m.get j with
          | .cells vs et opn false =>
            if off + (Nat.min n len) * sz ≤ vs.length then
              some (.one (.int .i64 (Nat.min n len : Nat)), m.put j (.cells (vs.take off ++ cs.take ((Nat.min n len) * sz) ++ vs.drop (off + (cs.take ((Nat.min n len) * sz)).length)) et opn false))
            else .none
          | _ => .none
        | _ => .none
      | .none => .none
    | .none => .none
  | .none => .none

theorem xcopy_sound {P : Program} {t t1 : TypeId} {d x r : XV} {m m' : Mem} (h : xcopy P t t1 d x m = some (r, m')) {β : Env} {w : World} (hm : Rel β m w) {ts : Array TypeId} {args : Array Value} (ht0 : ts[0]? = some t)
    {u v : Value} (ha0 : args[0]? = some u) (ha1 : args[1]? = some v) (hu : RelV β m.n d u) (hv : RelV β m.n x v) (ty : TypeId) :
    ∃ z β' w', (Builtin.copy_ ts ty args).run P w = .ok z w' ∧ RelV β' m'.n r z ∧ Step β m w β' m' w' := by
  unfold xcopy at h
  split at h
  · rename_i e he
    have hue := xslElem_run he
    split at h
    · rename_i sz hs
      split at h
      · rename_i n cs hsrc
        have so := xsrc_sound hsrc hv hm
        split at h
        · cases h
          obtain ⟨_, rfl⟩ := hu
          refine ⟨.int .i64 0, β, w, ?_, ⟨trivial, rfl⟩, Step.refl hm⟩
          have hk := so.firstK w hm 0 (Nat.zero_le _)
          simp only [Builtin.copy_, ht0, ha0, ha1, XC.den, Sem.run_bind, run_underlying hue, Result.andThen_ok, so.lenOf, Nat.min_zero, xsize_run hs, hk, Sem.run_pure]
          rfl
        · rename_i j off len cap
          obtain ⟨hj, rfl⟩ := hu
          split at h
          · rename_i vs et opn hg
            split at h
            · rename_i hfit
              cases h
              have hmin : Nat.min n len ≤ n := Nat.min_le_left _ _
              have hk := so.firstK w hm (Nat.min n len) hmin
              have hlen : (cs.take ((Nat.min n len) * sz)).length = (Nat.min n len) * sz := by
                rw [List.length_take, so.len, Nat.min_eq_left (Nat.mul_le_mul_right _ hmin)]
              obtain ⟨w', g1, g2⟩ := store_step hm hj hg (cs := cs.take ((Nat.min n len) * sz)) (off := off) (fun c hc => so.ok c (List.mem_of_mem_take hc)) (by rw [hlen]; exact hfit)
              refine ⟨.int .i64 (Nat.min n len : Nat), β, w', ?_, ⟨trivial, rfl⟩, g2⟩
              have e1 : ∃ c', XC.den β (.slice j off len cap) = .slice (some ⟨β.blk j, β.base j + off, none⟩) len c' := by cases cap <;> exact ⟨_, rfl⟩
              obtain ⟨c', e1⟩ := e1
              rw [e1] at ha0
              simp only [Builtin.copy_, ht0, ha0, ha1, Sem.run_bind, run_underlying hue, Result.andThen_ok, so.lenOf, xsize_run hs, hk, g1 P, Sem.run_pure, goInt]
            · cases h
          · cases h
        · cases h
      · cases h
    · cases h
  · cases h

/-- ALL OPERATIONS THAT MAKE OR WRITE. -/
def xwrite (P : Program) (ρ : Operand → XV) (op : Op) (m : Mem) : Option (XV × Mem) :=
  match op with
  | .alloc t => xalloc P t m
  | .box t x => xbox t (ρ x) m
  | .store t a x => xstore P t (ρ a) (ρ x) m
  | .buildSlice t len parts => xbuildSlice P t len (parts.toList.map fun p => (p.1, ρ p.2)) m
  | .makeMap _ .none => xmakeMap m
  | .mapUpdate t mp k x => xmapUpdate P t (ρ mp) (ρ k) (ρ x) m
  | .insert t mp k x => xmapUpdate P t (ρ mp) (ρ k) (ρ x) m
  | .makeSlice t l c => xmakeSlice P t (ρ l) (ρ c) m
  | .call ⟨.builtin .append, args, ts⟩ => match args.toList, ts[0]?, ts[1]? with
    | [s, x], some t, some t1 => xappend P t t1 (ρ s) (ρ x) m
    | _, _, _ => .none
  | .call ⟨.builtin .copy, args, ts⟩ => match args.toList, ts[0]?, ts[1]? with
    | [s, x], some t, some t1 => xcopy P t t1 (ρ s) (ρ x) m
    | _, _, _ => .none
  | _ => .none

theorem args_two {args : Array Operand} {s x : Operand} (h : args.toList = [s, x]) (ev : Operand → Value) : (args.map ev)[0]? = some (ev s) ∧ (args.map ev)[1]? = some (ev x) := by
  have : args.map ev = #[ev s, ev x] := by apply Array.toList_inj.1; simp [h]
  rw [this]
  exact ⟨rfl, rfl⟩

theorem xwrite_sound {P : Program} {ρ : Operand → XV} {o : Oper} {m m' : Mem} {r : XV} (h : xwrite P ρ o.op m = some (r, m')) {β : Env} {w : World} (hm : Rel β m w) {ev : Operand → Value} (hr : ∀ x, RelV β m.n (ρ x) (ev x)) :
    Does P (execOp ev o) β m w r m' := by
  unfold xwrite at h
  split at h
  · rename_i t ho
    exact xalloc_sound h hm ho
  · rename_i t x ho
    exact xbox_sound h hm ho (hr x)
  · rename_i t a x ho
    exact xstore_sound h hm ho (hr a) (hr x)
  · rename_i t len parts ho
    obtain ⟨v, β', w', h1, h2, h3⟩ := xbuildSlice_sound h hm (vs := parts.map fun (i, x) => (i, ev x)) (by
      rw [Array.toList_map]
      exact All2.map_same _ _ _ fun p _ => ⟨rfl, hr p.2⟩)
    exact ⟨.value v, v, β', w', by simp only [execOp, ho, Sem.run_bind, h1, Result.andThen_ok, Sem.run_pure], rfl, h2, h3⟩
  · rename_i t ho
    exact xmakeMap_sound h hm ho
  · rename_i t mp k x ho
    obtain ⟨rfl, β', w', h1, h2⟩ := xmapUpdate_sound h hm (hr mp) (hr k) (hr x)
    exact ⟨.skip, undef, β', w', by simp only [execOp, ho, Sem.run_bind, h1, Result.andThen_ok, Sem.run_pure], rfl, RelV.skip, h2⟩
  · rename_i t mp k x ho
    obtain ⟨rfl, β', w', h1, h2⟩ := xmapUpdate_sound h hm (hr mp) (hr k) (hr x)
    exact ⟨.skip, undef, β', w', by simp only [execOp, ho, Sem.run_bind, h1, Result.andThen_ok, Sem.run_pure], rfl, RelV.skip, h2⟩
  · rename_i t l c ho
    obtain ⟨v, β', w', h1, h2, h3⟩ := xmakeSlice_sound h hm (hr l) (hr c)
    exact ⟨.value v, v, β', w', by simp only [execOp, ho, Sem.run_bind, h1, Result.andThen_ok, Sem.run_pure], rfl, h2, h3⟩
  · rename_i args ts ho
    split at h
    · rename_i s x t t1 hargs ht0 ht1
      obtain ⟨ha0, ha1⟩ := args_two hargs ev
      obtain ⟨v, β', w', h1, h2, h3⟩ := xappend_sound h hm ht0 ht1 ha0 ha1 (hr s) (hr x) o.type
      exact ⟨.value v, v, β', w', by simp only [execOp, ho, resolve, invoke, builtin, Sem.run_bind, h1, Result.andThen_ok, Sem.run_pure], rfl, h2, h3⟩
    · cases h
  · rename_i args ts ho
    split at h
    · rename_i s x t t1 hargs ht0 ht1
      obtain ⟨ha0, ha1⟩ := args_two hargs ev
      obtain ⟨v, β', w', h1, h2, h3⟩ := xcopy_sound h hm ht0 ha0 ha1 (hr s) (hr x) o.type
      exact ⟨.value v, v, β', w', by simp only [execOp, ho, resolve, invoke, builtin, Sem.run_bind, h1, Result.andThen_ok, Sem.run_pure], rfl, h2, h3⟩
    · cases h
  · cases h

end Go.Xm
