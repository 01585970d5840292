/-
  The second machine: a region whose order is drawn: the law.
-/
import Derived.Test.YtaepmifmcohhgaaXmDrawn2
namespace Go.Xm
set_option linter.unusedSectionVars false
variable [Atoms]

theorem countP_le' {p q : Nat → Bool} : ∀ (l : List Nat), (∀ j, p j = true → q j = true) → l.countP p ≤ l.countP q
  | [], _ => Nat.le_refl _
  | j :: l, h => by
    have := countP_le' l h
    simp only [List.countP_cons]
    by_cases hp : p j = true
    · simp [hp, h j hp]; exact this
    · simp [hp]; omega

theorem countP_lt' {p q : Nat → Bool} {i : Nat} (h : ∀ j, p j = true → q j = true) (hq : q i = true) (hp : p i = false) : ∀ (l : List Nat), i ∈ l → l.countP p < l.countP q
  | j :: l, hi => by
    have hle := countP_le' l h
    simp only [List.countP_cons]
    rcases List.mem_cons.1 hi with rfl | hi
    · simp [hq, hp]; omega
    · have := countP_lt' h hq hp l hi
      by_cases hpj : p j = true
      · simp [hpj, h j hpj]; exact this
      · simp [hpj]; omega

section
variable {O : Orc} {P : Program} {ops : Array Oper} {nt : Nat} {tr : List (Mem × Out)} {rs : Nat → T XV} {ms : Nat → Mem} {ds : Nat → Out}

structure DynOk (ops : Array Oper) (ms : Nat → Mem) (ds : Nat → Out) : Prop where
  ord : ∀ i e, i < ops.size → e < ops.size → (ds i).eff = true → (ds e).eff = true → e < i → Anc ops i e
  ver : ∀ i e fp, i < ops.size → e < ops.size → (ds i).fp = some fp → (ds e).eff = true → i ≠ e → ¬ Anc ops i e → ¬ Anc ops e i → ((ds e).m.ent fp).ver = ((ms e).ent fp).ver

theorem trace_get (hT : Trace O P ops nt ops.toList tr rs ms ds) {i : Nat} (hi : i < ops.size) : ∃ o, ops[i]? = some o ∧ tr[i]? = some (ms i, ds i) ∧ xdo O P ops ((rs i).get .undef) o (ms i) = some (ds i) ∧ rs (i + 1) = xset nt (rs i) o.dst (ds i).x ∧ ms (i + 1) = (ds i).m := by
  have ho : ops[i]? = some ops[i] := by simp [hi]
  have := hT.at_ i ops[i] (by simp [hi])
  exact ⟨_, ho, this⟩

theorem dyn_ok (hT : Trace O P ops nt ops.toList tr rs ms ds) (h : drawnDyn (bef ops.toList) tr = true) : DynOk ops ms ds := by
  have pair : ∀ i e, i < ops.size → e < ops.size → ((!(ds i).eff && (ds i).fp.isNone) || pairOk (bef ops.toList) i (ds i) e (ms e) (ds e)) = true := by
    intro i e hi he
    obtain ⟨_, _, h1, _⟩ := trace_get hT hi
    obtain ⟨_, _, h2, _⟩ := trace_get hT he
    have hil : i < tr.length := (List.getElem?_eq_some_iff.1 h1).1
    have hel : e < tr.length := (List.getElem?_eq_some_iff.1 h2).1
    have h3 := List.all_eq_true.1 h i (List.mem_range.2 hil)
    rw [h1] at h3
    simp only [Bool.or_eq_true] at h3 ⊢
    rcases h3 with h3 | h3
    · exact .inl h3
    · have h4 := List.all_eq_true.1 h3 e (List.mem_range.2 hel)
      rw [h2] at h4
      exact .inr h4
  refine ⟨fun i e hi he h1 h2 hlt => ?_, fun i e fp hi he h1 h2 hne ha hb => ?_⟩
  · have hp := pair i e hi he
    have hb : (i == e) = false := by simp; omega
    simp [pairOk, h1, h2, hb, hlt] at hp
    exact bef_spec ops i e hp.1
  · have hp := pair i e hi he
    have hq : (i == e) = false := by simpa using hne
    have n1 : bit (bef ops.toList) i e = false := by
      cases hx : bit (bef ops.toList) i e
      · rfl
      · exact absurd (bef_spec ops i e hx) ha
    have n2 : bit (bef ops.toList) e i = false := by
      cases hx : bit (bef ops.toList) e i
      · rfl
      · exact absurd (bef_spec ops e i hx) hb
    simp [pairOk, h1, h2, hq, n1, n2] at hp
    exact hp.2

theorem fresh_at (hO : OrcSound P O) (hT : Trace O P ops nt ops.toList tr rs ms ds) (h0 : (ms 0).Fresh) : ∀ k, k ≤ ops.size → (ms k).Fresh
  | 0, _ => h0
  | k + 1, hk => by
    obtain ⟨o, _, _, h2, _, h4⟩ := trace_get hT (show k < ops.size by omega)
    rw [h4]
    exact ((xdo_chg hO h2).mono (fresh_at hO hT h0 k (by omega))).2

/-- Where nothing is made or written, nothing turns. -/
theorem ms_same (hT : Trace O P ops nt ops.toList tr rs ms ds) (k : Nat) : ∀ d, k + d ≤ ops.size → (∀ e, k ≤ e → e < k + d → (ds e).eff = false) → ms (k + d) = ms k
  | 0, _, _ => rfl
  | d + 1, hk, h => by
    obtain ⟨o, _, _, h2, _, h4⟩ := trace_get hT (show k + d < ops.size by omega)
    have := xdo_quiet h2 (h (k + d) (by omega) (by omega))
    rw [show k + (d + 1) = k + d + 1 by omega, h4, this]
    exact ms_same hT k d (by omega) (fun e he he' => h e he (by omega))

/-- Where no write meets a block, it stays. -/
theorem ent_same (hO : OrcSound P O) (hT : Trace O P ops nt ops.toList tr rs ms ds) (h0 : (ms 0).Fresh) (fp k : Nat) : ∀ d, k + d ≤ ops.size → (∀ e, k ≤ e → e < k + d → (ds e).eff = true → ((ds e).m.ent fp).ver = ((ms e).ent fp).ver) → (ms (k + d)).get fp = (ms k).get fp
  | 0, _, _ => rfl
  | d + 1, hk, h => by
    obtain ⟨o, _, _, h2, _, h4⟩ := trace_get hT (show k + d < ops.size by omega)
    have ih := ent_same hO hT h0 fp k d (by omega) (fun e he he' => h e he (by omega))
    rw [show k + (d + 1) = k + d + 1 by omega, h4, ← ih]
    cases he : (ds (k + d)).eff with
    | false => rw [xdo_quiet h2 he]
    | true =>
      have hv := h (k + d) (by omega) (by omega) he
      have hm := ((xdo_chg hO h2).mono (fresh_at hO hT h0 (k + d) (by omega))).1
      unfold Mem.get
      rw [(hm.2 fp).2 hv]

/-- The temporaries behind so many operations. -/
theorem rs_spec (hs : StaticOk ops nt) (hnt : nt < 1000000) (hT : Trace O P ops nt ops.toList tr rs ms ds) : ∀ k, k ≤ ops.size →
    (∀ (j : Nat) (o : Oper) (t : Nat), j < k → ops[j]? = some o → o.dst = some t → (rs k).get .undef t = (ds j).x) ∧
    (∀ t : Nat, (∀ (j : Nat) (o : Oper), j < k → ops[j]? = some o → o.dst ≠ some t) → (rs k).get .undef t = (rs 0).get .undef t)
  | 0, _ => ⟨fun j o t hj => by omega, fun t _ => rfl⟩
  | k + 1, hk => by
    obtain ⟨o, ho, _, _, h3, _⟩ := trace_get hT (show k < ops.size by omega)
    obtain ⟨ih1, ih2⟩ := rs_spec hs hnt hT k (by omega)
    have other : ∀ t, o.dst ≠ some t → (rs (k + 1)).get .undef t = (rs k).get .undef t := fun t ht => by
      rw [h3]
      unfold xset
      split
      · rename_i d hd
        split
        · exact T.get_set_ne _ _ _ _ _ _ (fun e => ht (by rw [hd, e]))
        · rfl
      · rfl
    refine ⟨fun j o' t hj ho' ht => ?_, fun t ht => ?_⟩
    · rcases Nat.lt_or_ge j k with hjk | hjk
      · rw [other t (fun e => by have := hs.uniq k j o o' t ho ho' e ht; omega)]
        exact ih1 j o' t hjk ho' ht
      · have : j = k := by omega
        subst this
        rw [ho] at ho'
        cases ho'
        have hd := hs.dst j o t ho ht
        rw [h3, ht]
        simp only [xset, hd, if_true]
        exact T.get_set_eq _ _ _ _ _ (by omega)
    · rw [other t (ht k o (by omega) ho)]
      exact ih2 t (fun j o' hj => ht j o' (by omega))

structure Inv (O : Orc) (P : Program) (ops : Array Oper) (nt : Nat) (rs : Nat → T XV) (ms : Nat → Mem) (ds : Nat → Out) (β0 : Env) (w0 : World) (dfs : List Deferred) (listed : Array Bool) (a : Act) (w : World) : Prop where
  size : listed.size = ops.size
  cl : ∀ i j, Anc ops i j → listed.getD i false = true → listed.getD j false = true
  st : ∃ (β : Env) (q : Nat) (g : Nat → XV), q ≤ ops.size ∧ (∀ e, e < ops.size → (ds e).eff = true → (listed.getD e false = true ↔ e < q)) ∧ Rel β (ms q) w ∧ RelF β (ms q).n nt g a.tmps ∧
    (∀ (i : Nat) (o : Oper) (t : Nat), listed.getD i false = true → ops[i]? = some o → o.dst = some t → g t = (ds i).x) ∧
    (∀ t : Nat, (∀ (i : Nat) (o : Oper), listed.getD i false = true → ops[i]? = some o → o.dst ≠ some t) → g t = (rs 0).get .undef t) ∧ Step β0 (ms 0) w0 β (ms q) w
  dfs : a.defers = dfs

theorem getD_set {listed : Array Bool} {i j : Nat} (hi : i < listed.size) : (listed.setIfInBounds i true).getD j false = (if i = j then true else listed.getD j false) := by
  by_cases h : i = j
  · subst h; simp [Array.getD_eq_getD_getElem?, hi]
  · simp only [h, if_false]
    simp [Array.getD_eq_getD_getElem?, Array.getElem?_setIfInBounds_ne h]

theorem getD_flip {listed : Array Bool} {j : Nat} (hj : j < listed.size) : listed.getD j true = listed.getD j false := by
  simp [Array.getD_eq_getD_getElem?, hj]

theorem Inv.step (hO : OrcSound P O) (hs : StaticOk ops nt) (hnt : nt < 1000000) (hT : Trace O P ops nt ops.toList tr rs ms ds) (hd : DynOk ops ms ds) (h0 : (ms 0).Fresh) {β0 : Env} {w0 : World} {dfs : List Deferred} {listed : Array Bool} {a : Act} {w : World}
    (h : Inv O P ops nt rs ms ds β0 w0 dfs listed a w) {i : Nat} (hi : i ∈ Region.ready .any ops listed) {K : Act → World → Prop} {Q : Exit → Act → World → Prop}
    (hK : ∀ a' w', Inv O P ops nt rs ms ds β0 w0 dfs (listed.setIfInBounds i true) a' w' → K a' w') : wpOp P ops Q i K a w := by
  obtain ⟨hun, oi, hoi, hedges⟩ := mem_ready.1 hi
  have hilt : i < ops.size := (Array.getElem?_eq_some_iff.1 hoi).1
  have hil : i < listed.size := by rw [h.size]; exact hilt
  have hun' : listed.getD i false = false := by rw [← getD_flip hil]; exact hun
  obtain ⟨β, q, g, hq, heff, hm, hr, hg1, hg2, hst⟩ := h.st
  have hanc : ∀ i' j, Anc ops i' j → i' = i → listed.getD j false = true := by
    intro i' j ha
    induction ha with
    | edge ho he hb =>
      intro e
      subst e
      rw [hoi] at ho
      cases ho
      exact hedges _ he hb
    | trans h1 h2 ih1 _ => intro e; exact h.cl _ _ h2 (ih1 e)
  have hanc' : ∀ j, Anc ops i j → listed.getD j false = true := fun j ha => hanc i j ha rfl
  have hno : ∀ j, Anc ops j i → listed.getD j false = false := fun j ha => by
    cases hx : listed.getD j false
    · rfl
    · have := h.cl j i ha hx
      rw [hun'] at this; cases this
  obtain ⟨o', ho', _, hdo, hrs, hms⟩ := trace_get hT hilt
  rw [hoi] at ho'
  cases ho'
  obtain ⟨hr1, hr2⟩ := rs_spec hs hnt hT i (by omega)
  -- what the operation looks at is what it looked at in the text's order
  have hlook : ∀ t ∈ oi.looksAt ops, g t = (rs i).get .undef t := by
    intro t ht
    by_cases hw : ∃ (j : Nat) (oj : Oper), ops[j]? = some oj ∧ oj.dst = some t
    · obtain ⟨j, oj, hj, hdj⟩ := hw
      have nolisted : listed.getD j false = false → g t = (rs 0).get .undef t := fun hlj => hg2 t (fun k ok hk hok e => by
        have := hs.uniq k j ok oj t hok hj e hdj
        subst this
        rw [hlj] at hk; cases hk)
      have nobefore : ¬ j < i → (rs i).get .undef t = (rs 0).get .undef t := fun hji => hr2 t (fun k ok hk hok e => by
        have := hs.uniq k j ok oj t hok hj e hdj
        omega)
      rcases Nat.lt_trichotomy j i with hji | hji | hji
      · have := (hs.look i j oi oj t hoi hj hdj ht (by omega)).1 hji
        rw [hg1 j oj t (hanc' j this) hj hdj, hr1 j oj t hji hj hdj]
      · subst hji
        rw [nolisted hun', nobefore (by omega)]
      · have := (hs.look i j oi oj t hoi hj hdj ht (by omega)).2 hji
        rw [nolisted (hno j this), nobefore (by omega)]
    · have hnone : ∀ (k : Nat) (ok : Oper), ops[k]? = some ok → ok.dst ≠ some t := fun k ok hok e => hw ⟨k, ok, hok, e⟩
      rw [hg2 t (fun k ok _ hok => hnone k ok hok), hr2 t (fun k ok _ hok => hnone k ok hok)]
  have hdstlt : ∀ t, oi.dst = some t → t < nt := fun t ht => hs.dst i oi t hoi ht
  have hcl : ∀ k j, Anc ops k j → (listed.setIfInBounds i true).getD k false = true → (listed.setIfInBounds i true).getD j false = true := by
    intro k j ha hk
    rw [getD_set hil] at hk ⊢
    by_cases hij : i = j
    · simp [hij]
    · simp only [hij, if_false]
      by_cases hik : i = k
      · subst hik; exact hanc' j ha
      · simp only [hik, if_false] at hk
        exact h.cl k j ha hk
  have hgs1 : ∀ {x : XV}, x = (ds i).x → ∀ (k : Nat) (ok : Oper) (t : Nat), (listed.setIfInBounds i true).getD k false = true → ops[k]? = some ok → ok.dst = some t → (if oi.dst = some t then x else g t) = (ds k).x := by
    intro x hx k ok t hk hok ht
    rw [getD_set hil] at hk
    by_cases hik : i = k
    · subst hik
      rw [hoi] at hok
      cases hok
      rw [if_pos ht, hx]
    · simp only [hik, if_false] at hk
      have : oi.dst ≠ some t := fun e => hik (hs.uniq i k oi ok t hoi hok e ht)
      rw [if_neg this]
      exact hg1 k ok t hk hok ht
  have hgs2 : ∀ {x : XV} (t : Nat), (∀ (k : Nat) (ok : Oper), (listed.setIfInBounds i true).getD k false = true → ops[k]? = some ok → ok.dst ≠ some t) → (if oi.dst = some t then x else g t) = (rs 0).get .undef t := by
    intro x t ht
    have hi' : (listed.setIfInBounds i true).getD i false = true := by rw [getD_set hil]; simp
    rw [if_neg (ht i oi hi' hoi)]
    refine hg2 t (fun k ok hk hok => ht k ok ?_ hok)
    rw [getD_set hil]
    split
    · rfl
    · exact hk
  cases he : (ds i).eff with
  | false =>
    -- it reads, or reckons
    have hobj : ∀ fp, (ds i).fp = some fp → (ms q).get fp = (ms i).get fp := by
      intro fp hfp
      rcases Nat.le_total q i with hqi | hqi
      · have := ent_same hO hT h0 fp q (i - q) (by omega) (fun e he1 he2 he3 => by
          have hne : i ≠ e := by omega
          refine hd.ver i e fp hilt (by omega) hfp he3 hne (fun ha => ?_) (fun ha => ?_)
          · have := (heff e (by omega) he3).1 (hanc' e ha)
            omega
          · have := Anc.lt hs ha
            omega)
        rw [show q + (i - q) = i by omega] at this
        exact this.symm
      · have := ent_same hO hT h0 fp i (q - i) (by omega) (fun e he1 he2 he3 => by
          have hne : i ≠ e := fun e' => by subst e'; rw [he] at he3; cases he3
          refine hd.ver i e fp hilt (by omega) hfp he3 hne (fun ha => ?_) (fun ha => ?_)
          · have := Anc.lt hs ha
            omega
          · have h1 := hno e ha
            have h2 := (heff e (by omega) he3).2 (by omega)
            rw [h1] at h2; cases h2)
        rw [show i + (q - i) = q by omega] at this
        exact this
    have hago := xdo_again hdo (g' := g) hlook he (m' := ms q) hobj
    refine xdo_wp hO hoi hago hm hr fun u β' w' hu hs' => hK _ _ ?_
    refine ⟨by simp [h.size], hcl, ⟨β', q, fun t => if oi.dst = some t then (ds i).x else g t, hq, ?_, hs'.rel, RelF.put (hr.ext hs'.ext hs'.le) oi.dst hu hdstlt, hgs1 rfl, hgs2, hst.trans hs'⟩, ?_⟩
    · intro e hel hee
      rw [getD_set hil]
      have hie : i ≠ e := fun x => by subst x; rw [he] at hee; cases hee
      simp only [hie, if_false]
      exact heff e hel hee
    · rw [put_defers', h.dfs]
  | true =>
    -- it makes or writes: it is the next one that does
    have hqi : q ≤ i := by
      rcases Nat.lt_or_ge i q with hlt | hge
      · have := (heff i hilt he).2 hlt
        rw [hun'] at this; cases this
      · exact hge
    have hmq : ms i = ms q := by
      have := ms_same hT q (i - q) (by omega) (fun e he1 he2 => by
        cases hx : (ds e).eff
        · rfl
        · have h1 := hd.ord i e hilt (by omega) he hx (by omega)
          have h2 := (heff e (by omega) hx).1 (hanc' e h1)
          omega)
      rw [show q + (i - q) = i by omega] at this
      exact this
    have hago := xdo_again_eff hdo (g' := g) hlook
    rw [hmq] at hago
    refine xdo_wp hO hoi hago hm hr fun u β' w' hu hs' => hK _ _ ?_
    rw [← hms] at hu hs'
    refine ⟨by simp [h.size], hcl, ⟨β', i + 1, fun t => if oi.dst = some t then (ds i).x else g t, by omega, ?_, hs'.rel, RelF.put (hr.ext hs'.ext hs'.le) oi.dst hu hdstlt, hgs1 rfl, hgs2, hst.trans hs'⟩, ?_⟩
    · intro e hel hee
      rw [getD_set hil]
      by_cases hie : i = e
      · subst hie; simp
      · simp only [hie, if_false]
        constructor
        · intro hle
          rcases Nat.lt_or_ge i e with hlt | hge
          · have := hd.ord e i hel hilt hee he hlt
            have := hno e this
            rw [this] at hle; cases hle
          · omega
        · intro hlt
          have : e < i := by omega
          exact hanc' e (hd.ord i e hilt hel he hee this)
    · rw [put_defers', h.dfs]

theorem Inv.any (hO : OrcSound P O) (hs : StaticOk ops nt) (hnt : nt < 1000000) (hT : Trace O P ops nt ops.toList tr rs ms ds) (hd : DynOk ops ms ds) (h0 : (ms 0).Fresh) {β0 : Env} {w0 : World} {dfs : List Deferred} {Q : Exit → Act → World → Prop}
    (hQ : Post β0 (ms 0) w0 nt dfs (rs ops.size) (ms ops.size) (Q .normal)) : ∀ (fuel : Nat) (listed : Array Bool) (a : Act) (w : World), Inv O P ops nt rs ms ds β0 w0 dfs listed a w →
    (List.range ops.size).countP (fun i => listed.getD i false == false) ≤ fuel → wpAny P .any ops Q fuel listed a w := by
  have fin : ∀ (listed : Array Bool) (a : Act) (w : World), Inv O P ops nt rs ms ds β0 w0 dfs listed a w → (∀ i, i < ops.size → listed.getD i false = true) → Q .normal a w := by
    intro listed a w h hall
    obtain ⟨β, q, g, hq, heff, hm, hr, hg1, hg2, hst⟩ := h.st
    have hmq : ms ops.size = ms q := by
      have := ms_same hT q (ops.size - q) (by omega) (fun e he1 he2 => by
        cases hx : (ds e).eff
        · rfl
        · have := (heff e (by omega) hx).1 (hall e (by omega))
          omega)
      rw [show q + (ops.size - q) = ops.size by omega] at this
      exact this
    obtain ⟨hr1, hr2⟩ := rs_spec hs hnt hT ops.size (Nat.le_refl _)
    have hge : g = (rs ops.size).get .undef := by
      funext t
      by_cases hw : ∃ (j : Nat) (oj : Oper), ops[j]? = some oj ∧ oj.dst = some t
      · obtain ⟨j, oj, hj, hdj⟩ := hw
        have hjl : j < ops.size := (Array.getElem?_eq_some_iff.1 hj).1
        rw [hg1 j oj t (hall j hjl) hj hdj, hr1 j oj t hjl hj hdj]
      · have hnone : ∀ (k : Nat) (ok : Oper), ops[k]? = some ok → ok.dst ≠ some t := fun k ok hok e => hw ⟨k, ok, hok, e⟩
        rw [hg2 t (fun k ok _ hok => hnone k ok hok), hr2 t (fun k ok _ hok => hnone k ok hok)]
    subst hge
    rw [← hmq] at hr hst
    exact hQ a β w hr h.dfs hst
  intro fuel
  induction fuel with
  | zero =>
    intro listed a w h hc
    have hall : ∀ i, i < ops.size → listed.getD i false = true := fun i hi => by
      cases hx : listed.getD i false
      · have : 0 < (List.range ops.size).countP (fun i => listed.getD i false == false) := List.countP_pos_iff.2 ⟨i, List.mem_range.2 hi, by simp [hx]⟩
        omega
      · rfl
    refine ⟨?_, fin listed a w h hall⟩
    apply List.eq_nil_iff_forall_not_mem.2
    intro i hi
    obtain ⟨hun, oi, hoi, _⟩ := mem_ready.1 hi
    have hilt : i < ops.size := (Array.getElem?_eq_some_iff.1 hoi).1
    rw [getD_flip (by rw [h.size]; exact hilt), hall i hilt] at hun
    cases hun
  | succ fuel ih =>
    intro listed a w h hc
    refine ⟨fun hnil => fin listed a w h (fun i hi => ?_), fun i hi => ?_⟩
    · induction i using Nat.strongRecOn with
      | _ i ihi =>
        cases hx : listed.getD i false
        · exfalso
          have ho : ops[i]? = some ops[i] := by simp [hi]
          have : i ∈ Region.ready .any ops listed := mem_ready.2 ⟨by rw [getD_flip (by rw [h.size]; exact hi)]; exact hx, ops[i], ho, fun e he hb => by
            have hlt := hs.back i ops[i] ho e he hb
            exact ihi e.on hlt (by omega)⟩
          rw [hnil] at this
          cases this
        · rfl
    · refine h.step hO hs hnt hT hd h0 hi fun a' w' h' => ih _ a' w' h' ?_
      obtain ⟨hun, oi, hoi, _⟩ := mem_ready.1 hi
      have hilt : i < ops.size := (Array.getElem?_eq_some_iff.1 hoi).1
      have hil : i < listed.size := by rw [h.size]; exact hilt
      have := countP_lt' (p := fun j => (listed.setIfInBounds i true).getD j false == false) (q := fun j => listed.getD j false == false) (i := i) (fun j hj => by
        rw [getD_set hil] at hj
        split at hj
        · simp at hj
        · exact hj) (by rw [← getD_flip hil, hun]; rfl) (by rw [getD_set hil]; simp) (List.range ops.size) (List.mem_range.2 hilt)
      omega
end

/-- A REGION WHOSE ORDER IS DRAWN. -/
theorem xdrawn1_wp {O : Orc} {P : Program} (hO : OrcSound P O) (hP : P.follows .mixedOrders = true) {ops : Array Oper} {nt id : Nat} {r r' : T XV} {m m' : Mem} (h : xdrawn1 O P ops nt r m = some (r', m')) {β : Env} {w : World} {a : Act} (hr : RelR β m.n nt r a.tmps) (hm : Rel β m w)
    {Q : Exit → Act → World → Prop} (hq : Post β m w nt a.defers r' m' (Q .normal)) : (Code.region id ops true).wp P Q a w := by
  unfold xdrawn1 at h
  split at h
  · rename_i hst
    have hs := drawnStatic_ok hst
    split at h
    · rename_i tr r1 m1 htr
      split at h
      · rename_i hdy
        simp only [Option.some.injEq, Prod.mk.injEq] at h
        obtain ⟨rfl, rfl⟩ := h
        obtain ⟨rs, ms, ds, hT, h1, h2, h3, h4⟩ := xtrace_spec htr
        subst h1
        subst h2
        have hd := dyn_ok hT hdy
        have hdr := Step.drew hm
        refine wp_region_any hP ?_
        have hsz : ops.toList.length = ops.size := by simp
        rw [hsz] at h3 h4
        refine Inv.any hO hs hr.small hT hd hm.fresh (β0 := β) (w0 := w) (dfs := a.defers) (Q := Q) (by rw [h3, h4]; exact hq) _ _ a _ ?_ ?_
        · refine ⟨by simp, fun i j ha hi => ?_, ⟨β, 0, (rs 0).get .undef, by omega, fun e he _ => ?_, hdr.rel, hr, fun i o t hi => ?_, fun t _ => rfl, hdr⟩, rfl⟩
          · exfalso
            by_cases hlt : i < ops.size <;> simp [Array.getD_eq_getD_getElem?, hlt] at hi
          · simp [Array.getD_eq_getD_getElem?, he]
          · exfalso
            by_cases hlt : i < ops.size <;> simp [Array.getD_eq_getD_getElem?, hlt] at hi
        · exact Nat.le_trans List.countP_le_length (by simp)
      · cases h
    · cases h
  · cases h

theorem xtrace_chg {O : Orc} {P : Program} (hO : OrcSound P O) {ops : Array Oper} {nt : Nat} : ∀ {l : List Oper} {r r' : T XV} {m m' : Mem} {tr : List (Mem × Out)}, xtrace O P ops nt l r m = some (tr, r', m') → Chg m m' := by
  intro l
  induction l with
  | nil =>
    intro r r' m m' tr h
    simp only [xtrace, Option.some.injEq, Prod.mk.injEq] at h
    obtain ⟨_, _, rfl⟩ := h
    exact .same _
  | cons o l ih =>
    intro r r' m m' tr h
    unfold xtrace at h
    split at h
    · rename_i d hd
      split at h
      · rename_i tr1 r1 m1 ht
        simp only [Option.some.injEq, Prod.mk.injEq] at h
        obtain ⟨_, _, rfl⟩ := h
        exact (xdo_chg hO hd).trans (ih ht)
      · cases h
    · cases h
theorem xdrawn1_chg {O : Orc} {P : Program} (hO : OrcSound P O) {ops : Array Oper} {nt : Nat} {r r' : T XV} {m m' : Mem} (h : xdrawn1 O P ops nt r m = some (r', m')) : Chg m m' := by
  have key : ∀ {l : List Oper} {r r' : T XV} {m m' : Mem} {tr : List (Mem × Out)}, xtrace O P ops nt l r m = some (tr, r', m') → Chg m m' := by
    intro l
    induction l with
    | nil =>
      intro r r' m m' tr h
      simp only [xtrace, Option.some.injEq, Prod.mk.injEq] at h
      obtain ⟨_, _, rfl⟩ := h
      exact .same _
    | cons o l ih =>
      intro r r' m m' tr h
      unfold xtrace at h
      split at h
      · rename_i d hd
        split at h
        · rename_i tr1 r1 m1 ht
          simp only [Option.some.injEq, Prod.mk.injEq] at h
          obtain ⟨_, _, rfl⟩ := h
          exact (xdo_chg hO hd).trans (ih ht)
        · cases h
      · cases h
  unfold xdrawn1 at h
  split at h
  · split at h
    · rename_i tr r1 m1 htr
      split at h
      · simp only [Option.some.injEq, Prod.mk.injEq] at h
        obtain ⟨_, rfl⟩ := h
        exact key htr
      · cases h
    · cases h
  · cases h

end Go.Xm
