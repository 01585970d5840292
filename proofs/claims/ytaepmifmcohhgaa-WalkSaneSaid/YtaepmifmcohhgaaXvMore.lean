/-
  The second machine, with variables in its states: maps, whole values, results; loops.
-/
import Derived.Test.YtaepmifmcohhgaaXvRule
namespace Go.Xm
set_option linter.unusedSectionVars false
variable [Atoms]
variable {P : Program} {ops : Array Oper} {nt nI : Nat} {al : Regs} {hs : Heap} {o : Oper} {l : List Oper} {L : List Inst} {K : List Ab → Regs → Heap → Prop} {d : Nat}

/-! ### Maps as lists of keys and values -/
section
variable {α γ : Type} [DecidableEq α]
def ents (kc : α → X1) (vc : γ → X1) (M : List (α × γ)) : List (X1 × X1) := M.map fun p => (kc p.1, vc p.2)
def locate (k : α) : List (α × γ) → Option (Nat × γ)
  | [] => .none
  | p :: M => if k = p.1 then some (0, p.2) else (locate k M).map fun q => (q.1 + 1, q.2)
def mlook (M : List (α × γ)) (k : α) : Option γ := (locate k M).map (·.2)
def putm (M : List (α × γ)) (k : α) (v : γ) : List (α × γ) := match locate k M with
  | some (j, _) => M.set j (k, v)
  | .none => M ++ [(k, v)]

theorem mlook_nil (k : α) : mlook ([] : List (α × γ)) k = .none := rfl
theorem mlook_cons (p : α × γ) (M : List (α × γ)) (k : α) : mlook (p :: M) k = if k = p.1 then some p.2 else mlook M k := by
  by_cases h : k = p.1
  · simp [mlook, locate, h]
  · simp [mlook, locate, h, Function.comp_def]
theorem locate_get {k : α} : ∀ {M : List (α × γ)} {j : Nat} {v : γ}, locate k M = some (j, v) → M[j]? = some (k, v)
  | [], j, v, h => by cases h
  | p :: M, j, v, h => by
    unfold locate at h
    by_cases hk : k = p.1
    · rw [if_pos hk] at h
      cases h
      simp [hk]
    · rw [if_neg hk] at h
      obtain ⟨q, h1, h2⟩ := Option.map_eq_some_iff.1 h
      cases h2
      simpa using locate_get (M := M) (j := q.1) (v := q.2) h1
theorem locate_none {k : α} : ∀ {M : List (α × γ)}, locate k M = .none → ∀ p ∈ M, p.1 ≠ k
  | [], _, p, hp => by cases hp
  | q :: M, h, p, hp => by
    unfold locate at h
    by_cases hk : k = q.1
    · rw [if_pos hk] at h; cases h
    · rw [if_neg hk] at h
      rcases List.mem_cons.1 hp with rfl | hp
      · exact fun e => hk e.symm
      · exact locate_none (by simpa using h) p hp
theorem mlook_append_new (k : α) (v : γ) (k' : α) : ∀ {M : List (α × γ)}, (∀ p ∈ M, p.1 ≠ k) → mlook (M ++ [(k, v)]) k' = if k' = k then some v else mlook M k'
  | [], _ => by simp [mlook_cons, mlook_nil]
  | p :: M, h => by
    have ih := mlook_append_new k v k' (M := M) fun q hq => h q (List.mem_cons_of_mem _ hq)
    simp only [List.cons_append, mlook_cons, ih]
    have hp := h p (List.mem_cons_self ..)
    by_cases h1 : k' = p.1
    · rw [if_pos h1, if_neg (fun e => hp (by rw [← h1, e])), if_pos h1]
    · rw [if_neg h1, if_neg h1]
theorem mlook_set (k : α) (v : γ) (k' : α) : ∀ {M : List (α × γ)} {j : Nat} {u : γ}, locate k M = some (j, u) → mlook (M.set j (k, v)) k' = if k' = k then some v else mlook M k'
  | [], j, u, h => by cases h
  | p :: M, j, u, h => by
    unfold locate at h
    by_cases hk : k = p.1
    · rw [if_pos hk] at h
      cases h
      simp only [List.set_cons_zero, mlook_cons]
      by_cases h1 : k' = k
      · simp [h1]
      · simp only [show p.1 = k from hk.symm, h1, if_false]
    · rw [if_neg hk] at h
      obtain ⟨q, h1, h2⟩ := Option.map_eq_some_iff.1 h
      cases h2
      simp only [List.set_cons_succ, mlook_cons, mlook_set k v k' (M := M) (j := q.1) (u := q.2) h1]
      by_cases h1 : k' = p.1
      · rw [if_pos h1, if_neg (fun e => hk (by rw [← h1, e])), if_pos h1]
      · rw [if_neg h1, if_neg h1]
theorem mlook_put (M : List (α × γ)) (k : α) (v : γ) (k' : α) : mlook (putm M k v) k' = if k' = k then some v else mlook M k' := by
  unfold putm
  split
  · rename_i j u h; exact mlook_set k v k' h
  · rename_i h; exact mlook_append_new k v k' (locate_none h)
theorem ents_append (kc : α → X1) (vc : γ → X1) (M : List (α × γ)) (p : α × γ) : ents kc vc (M ++ [p]) = ents kc vc M ++ [(kc p.1, vc p.2)] := by simp [ents]
theorem ents_set (kc : α → X1) (vc : γ → X1) (M : List (α × γ)) (j : Nat) (p : α × γ) : ents kc vc (M.set j p) = (ents kc vc M).set j (kc p.1, vc p.2) := by simp [ents, List.map_set]

/-- What keys must be: they compare as the small machine compares them. -/
structure KeyOk (P : Program) (kt : TypeId) (kc : α → X1) : Prop where
  und : ∃ ds, P.underlying kt = some ds
  eq : ∀ a b, xequal P 40 kt (kc a) (kc b) = some (decide (a = b))
  check : ∀ a, xcheckKey P 40 kt (kc a) = true
  plain : ∀ a, xplainK (kc a) = true

theorem xfind_ents {kt : TypeId} {kc : α → X1} (hk : KeyOk P kt kc) (vc : γ → X1) (k : α) : ∀ (M : List (α × γ)) (i : Nat), xfind P kt (kc k) (ents kc vc M) i = some ((locate k M).map fun q => (i + q.1, vc q.2))
  | [], i => rfl
  | p :: M, i => by
    have ih := xfind_ents hk vc k M (i + 1)
    show (match xequal P 40 kt (kc k) (kc p.1) with
      | some true => some (some (i, vc p.2))
      | some false => xfind P kt (kc k) (ents kc vc M) (i + 1)
      | .none => .none) = _
    rw [hk.eq]
    unfold locate
    by_cases h : k = p.1
    · simp [h]
    · simp only [h, decide_false, ih, if_false, Option.map_map]
      congr 2
      funext q
      simp only [Function.comp]
      congr 1
      omega

theorem OpStep.lookup {O : Orc} (hw : xwanted ops (rg al) o = some true) {t : TypeId} {x ix : Operand} {ok : Bool} (ho : o.op = .lookup t x ix ok) {kt et : TypeId} (hu : P.underlying t = some (.map kt et)) {i : Nat} (hx : xeval (rg al) x = .one (.map i)) {key : X1} (hk : toX1 (xeval (rg al) ix) = some key)
    {es : List (X1 × X1)} (hi : hs[i]? = some (.map es)) {v : XV} (hv : xlookIn P kt et key ok es = some v) : OpStep O P ops al hs o v hs ⟨false, some i, []⟩ := by
  intro m hm
  refine ⟨m, ?_, hm, fun _ _ => rfl⟩
  unfold xdo
  rw [hw]
  obtain ⟨f, hf1, hf2⟩ : ∃ f, xread P (xeval (rg al)) o.op = some (i, f) ∧ ∀ es', f (.map es') = xlookIn P kt et key ok es' := by
    rw [ho]
    simp only [xread, hu, hx, hk]
    exact ⟨_, rfl, fun _ => rfl⟩
  refine xact_read (by rw [ho]; rfl) (by rw [ho]; rfl) hf1 ?_
  rw [hm.at hi, hf2, hv]

theorem xlook_ents {kt et : TypeId} {kc : α → X1} (hk : KeyOk P kt kc) {vc : γ → X1} {z : γ} (hz : xzeroV P et = some (vc z)) (k : α) (M : List (α × γ)) :
    xlookIn P kt et (kc k) true (ents kc vc M) = some (.tup [vc ((mlook M k).getD z), .one (.bool (mlook M k).isSome)]) := by
  obtain ⟨ds, hu⟩ := hk.und
  unfold xlookIn
  rw [if_pos (hk.check k), hu, xfind_ents hk]
  unfold mlook
  cases h : locate k M with
  | none => simp [hz]
  | some q => simp

/-- 'v, ok := m[k]' -/
theorem sk_look {t : TypeId} {x ix : Operand} (ho : o.op = .lookup t x ix true) {kt et : TypeId} [hu : TUnd P t (.map kt et)] (hw : xwanted ops (rg al) o = some true) (hd : o.dst = some d) (hlt : Nat.blt d nt = true) {kc : α → X1} (hko : KeyOk P kt kc) {vc : γ → X1} {z : γ} (hz : xzeroV P et = some (vc z)) {i : Nat} (hx : xeval (rg al) x = .one (.map i)) {k : α} (hk : toX1 (xeval (rg al) ix) = some (kc k))
    {M : List (α × γ)} (hi : hs[i]? = some (.map (ents kc vc M))) (hn : SK P ops nt L l ((d, .tup [vc ((mlook M k).getD z), .one (.bool (mlook M k).isSome)]) :: al) hs fun bs => K (⟨false, some i, []⟩ :: bs)) : SK P ops nt L (o :: l) al hs K :=
  SK.lift hd hlt (fun _ => OpStep.lookup hw ho hu.out hx hk hi (xlook_ents hko hz k M)) hn
/-- The same, both ways. -/
theorem sk_look2 {t : TypeId} {x ix : Operand} (ho : o.op = .lookup t x ix true) {kt et : TypeId} [hu : TUnd P t (.map kt et)] (hw : xwanted ops (rg al) o = some true) (hd : o.dst = some d) (hlt : Nat.blt d nt = true) {kc : α → X1} (hko : KeyOk P kt kc) {vc : γ → X1} {z : γ} (hz : xzeroV P et = some (vc z)) {i : Nat} (hx : xeval (rg al) x = .one (.map i)) {k : α} (hk : toX1 (xeval (rg al) ix) = some (kc k))
    {M : List (α × γ)} (hi : hs[i]? = some (.map (ents kc vc M))) (h1 : ∀ v, mlook M k = some v → SK P ops nt L l ((d, .tup [vc v, .one (.bool true)]) :: al) hs fun bs => K (⟨false, some i, []⟩ :: bs))
    (h2 : mlook M k = .none → SK P ops nt L l ((d, .tup [vc z, .one (.bool false)]) :: al) hs fun bs => K (⟨false, some i, []⟩ :: bs)) : SK P ops nt L (o :: l) al hs K := by
  refine sk_look ho hw hd hlt hko hz hx hk hi ?_
  cases h : mlook M k with
  | none => exact h2 h
  | some v => exact h1 v h

theorem OpStep.mapup {O : Orc} (hw : xwanted ops (rg al) o = some true) {t : TypeId} {x ix y : Operand} (ho : o.op = .mapUpdate t x ix y) {kt et : TypeId} (hu : P.underlying t = some (.map kt et)) {kc : α → X1} (hko : KeyOk P kt kc) {vc : γ → X1} {i : Nat} (hx : xeval (rg al) x = .one (.map i)) {k : α} (hk : toX1 (xeval (rg al) ix) = some (kc k)) {v : γ} (hv : toX1 (xeval (rg al) y) = some (vc v))
    {M : List (α × γ)} (hi : hs[i]? = some (.map (ents kc vc M))) : OpStep O P ops al hs o (.tup []) (hs.set i (.map (ents kc vc (putm M k v)))) ⟨true, .none, [i]⟩ := by
  intro m hm
  refine ⟨m.put i (.map (ents kc vc (putm M k v))), ?_, hm.put hi _, put_ver⟩
  unfold xdo
  rw [hw]
  refine xact_write (by rw [ho]; rfl) (by rw [ho]; rfl) (by rw [ho]; rfl) ?_
  rw [ho]
  obtain ⟨ds, hd⟩ := hko.und
  simp only [xwrite, xmapUpdate, hu, hx, hk, hv, hm.at hi, hko.check k, if_true, hd, xfind_ents hko]
  unfold putm
  cases hl : locate k M with
  | none => simp [ents_append]
  | some q =>
    have hg := locate_get (j := q.1) (v := q.2) hl
    have e : (ents kc vc M)[q.1]? = some (kc k, vc q.2) := by simp [ents, hg]
    simp only [Option.map_some, Nat.zero_add, e, hko.plain k, and_self, if_true, ents_set]
/-- 'm[k] = v' -/
theorem sk_mapup {t : TypeId} {x ix y : Operand} (ho : o.op = .mapUpdate t x ix y) {kt et : TypeId} [hu : TUnd P t (.map kt et)] (hw : xwanted ops (rg al) o = some true) (hd : o.dst = .none) {kc : α → X1} (hko : KeyOk P kt kc) {vc : γ → X1} {i : Nat} (hx : xeval (rg al) x = .one (.map i)) {k : α} (hk : toX1 (xeval (rg al) ix) = some (kc k)) {v : γ} (hv : toX1 (xeval (rg al) y) = some (vc v))
    {M : List (α × γ)} (hi : hs[i]? = some (.map (ents kc vc M))) {hs' : Heap} (hh : hs.set i (.map (ents kc vc (putm M k v))) = hs') (hn : SK P ops nt L l al hs' fun bs => K (⟨true, .none, [i]⟩ :: bs)) : SK P ops nt L (o :: l) al hs K := by
  subst hh
  exact SK.lift0 hd (fun _ => OpStep.mapup hw ho hu.out hko hx hk hv hi) hn
end

theorem OpStep.makeMap {O : Orc} (hw : xwanted ops (rg al) o = some true) {t : TypeId} (ho : o.op = .makeMap t .none) (hb : Nat.blt hs.length Mem.bound = true) : OpStep O P ops al hs o (.one (.map hs.length)) (hs ++ [.map []]) ⟨true, .none, [hs.length]⟩ := by
  intro m hm
  obtain ⟨m', h1, h2, h3⟩ := hm.push (.map []) (by simpa [Nat.blt_eq] using hb)
  refine ⟨m', ?_, h2, h3⟩
  unfold xdo
  rw [hw]
  refine xact_write (by rw [ho]; rfl) (by rw [ho]; rfl) (by rw [ho]; rfl) ?_
  rw [ho]
  simp only [xwrite, xmakeMap, h1, hm.n]
theorem sk_makemap {t : TypeId} (ho : o.op = .makeMap t .none) (hw : xwanted ops (rg al) o = some true) (hd : o.dst = some d) (hlt : Nat.blt d nt = true) {n : Nat} (hn : hs.length = n) (hb : Nat.blt n Mem.bound = true) {hs' : Heap} (hh : hs ++ [.map []] = hs')
    (hk : SK P ops nt L l ((d, .one (.map n)) :: al) hs' fun bs => K (⟨true, .none, [n]⟩ :: bs)) : SK P ops nt L (o :: l) al hs K := by
  subst hn hh
  exact SK.lift hd hlt (fun _ => OpStep.makeMap hw ho hb) hk

theorem keyInt {kt : TypeId} {k : IntKind} [hu : TUnd P kt (.int k)] : KeyOk P kt (fun z : Int => .one (.int k z)) := by
  refine ⟨⟨_, hu.out⟩, fun a b => ?_, fun a => ?_, fun a => rfl⟩
  · simp only [xequal, hu.out, xeqS, if_true]
    congr 1
  · simp only [xcheckKey, hu.out]
theorem keyInt3 {kt e : TypeId} {k : IntKind} [hu : TUnd P kt (.array 3 e)] [hv : TUnd P e (.int k)] [hs : TSize P e 1] [ha : TScal P e] : KeyOk P kt (fun z : Int × Int × Int => .agg [.int k z.1, .int k z.2.1, .int k z.2.2]) := by
  refine ⟨⟨_, hu.out⟩, fun a b => ?_, fun a => ?_, fun a => rfl⟩
  · obtain ⟨a1, a2, a3⟩ := a
    obtain ⟨b1, b2, b3⟩ := b
    simp only [xequal, hu.out, hs.out, xeqElems, xpart, ha.out, hv.out, xeqS, if_true, Nat.reduceAdd, Nat.mul_one, List.getElem?_cons_zero, List.getElem?_cons_succ]
    by_cases h1 : a1 = b1
    · by_cases h2 : a2 = b2
      · by_cases h3 : a3 = b3
        · simp [h1, h2, h3]
        · have e3 : (a3 == b3) = false := by simpa using h3
          simp [h1, h2, h3, e3]
      · have e2 : (a2 == b2) = false := by simpa using h2
        simp [h1, h2, e2]
    · have e1 : (a1 == b1) = false := by simpa using h1
      simp [h1, e1]
  · simp only [xcheckKey, hu.out, hs.out, xcheckElems, xpart, ha.out, hv.out, Nat.reduceAdd, Nat.mul_one, List.getElem?_cons_zero, List.getElem?_cons_succ, Bool.and_true]

/-! ### Whole values -/
def catParts : List (Nat × XV) → Option (List XC)
  | [] => some []
  | p :: r => match xcells p.2, catParts r with
    | some cs, some ds => some (cs ++ ds)
    | _, _ => .none

/-- Parts that stand one behind the other. -/
def inRow (place : Nat → Option (Nat × Nat)) (total : Nat) : Nat → List (Nat × XV) → Bool
  | off, [] => off == total
  | off, p :: r => match place p.1, xcells p.2 with
    | some (a, s), some cs => a == off && s == cs.length && inRow place total (off + s) r
    | _, _ => false

theorem xfill_row {place : Nat → Option (Nat × Nat)} : ∀ (parts : List (Nat × XV)) (zs : List XC) (off : Nat) (out : List XC), inRow place zs.length off parts = true → catParts parts = some out → xfill place zs parts = some (zs.take off ++ out)
  | [], zs, off, out, h, hc => by
    simp only [inRow, beq_iff_eq] at h
    simp only [catParts, Option.some.injEq] at hc
    subst hc
    simp [xfill, h]
  | p :: r, zs, off, out, h, hc => by
    obtain ⟨i, v⟩ := p
    unfold inRow at h
    simp only at h
    split at h
    · rename_i a s cs h1 h2
      simp only [Bool.and_eq_true, beq_iff_eq] at h
      obtain ⟨⟨rfl, rfl⟩, h3⟩ := h
      unfold catParts at hc
      simp only [h2] at hc
      split at hc
      · rename_i cs' ds hcs hr
        cases hcs
        cases hc
        have hle : ∀ (r : List (Nat × XV)) (off : Nat), inRow place zs.length off r = true → off ≤ zs.length := by
          intro r
          induction r with
          | nil => intro off h; simp only [inRow, beq_iff_eq] at h; omega
          | cons q r ih =>
            intro off h
            unfold inRow at h
            split at h
            · simp only [Bool.and_eq_true] at h
              have := ih _ h.2
              omega
            · cases h
        have hl := hle r _ h3
        unfold xfill
        simp only [h1, h2]
        rw [if_pos ⟨trivial, hl⟩]
        have hlen : (zs.take a ++ cs ++ zs.drop (a + cs.length)).length = zs.length := by simp; omega
        rw [xfill_row r _ (a + cs.length) ds (by rw [hlen]; exact h3) hr]
        have e : (zs.take a ++ cs ++ zs.drop (a + cs.length)).take (a + cs.length) = zs.take a ++ cs := by
          rw [List.take_append_of_le_length (by simp; omega), List.take_of_length_le (by simp; omega)]
        rw [e, List.append_assoc]
      · cases hc
    · cases h

theorem sk_buildA {t : TypeId} {parts : Array (Nat × Operand)} (ho : o.op = .build t parts) {zs : List XC} [hz : TZero P t zs] {n : Nat} {e : TypeId} [hu : TUnd P t (.array n e)] {s : Nat} [hs' : TSize P e s] (hw : xwanted ops (rg al) o = some true) (hd : o.dst = some d) (hlt : Nat.blt d nt = true)
    (hr : inRow (fun i => some (i * s, s)) zs.length 0 (parts.toList.map fun p => (p.1, xeval (rg al) p.2)) = true) {out : List XC} (hc : catParts (parts.toList.map fun p => (p.1, xeval (rg al) p.2)) = some out) {out' : List XC} (hn : out = out')
    (hk : SK P ops nt L l ((d, .agg out') :: al) hs fun bs => K (quiet :: bs)) : SK P ops nt L (o :: l) al hs K := by
  subst hn
  exact SK.lift hd hlt (fun _ => OpStep.pure hw (by rw [ho]; simp only [xpure, xbuild, hz.out, hu.out, hs'.out, xfill_row _ zs 0 out hr hc, Option.map_some, List.take_zero, List.nil_append])) hk
theorem sk_buildS {t : TypeId} {parts : Array (Nat × Operand)} (ho : o.op = .build t parts) {zs : List XC} [hz : TZero P t zs] {pl : List (Nat × Nat)} [hp : TPlaces P t pl] (hw : xwanted ops (rg al) o = some true) (hd : o.dst = some d) (hlt : Nat.blt d nt = true)
    (hr : inRow (fun i => pl[i]?) zs.length 0 (parts.toList.map fun p => (p.1, xeval (rg al) p.2)) = true) {out : List XC} (hc : catParts (parts.toList.map fun p => (p.1, xeval (rg al) p.2)) = some out) {out' : List XC} (hn : out = out')
    (hk : SK P ops nt L l ((d, .agg out') :: al) hs fun bs => K (quiet :: bs)) : SK P ops nt L (o :: l) al hs K := by
  subst hn
  obtain ⟨fs, h1, h2⟩ := hp.out
  exact SK.lift hd hlt (fun _ => OpStep.pure hw (by rw [ho]; simp only [xpure, xbuild, hz.out, h1, h2, xfill_row _ zs 0 out hr hc, Option.map_some, List.take_zero, List.nil_append])) hk
/-- A zero value. -/
theorem sk_build0 {t : TypeId} (ho : o.op = .build t #[]) {zs : List XC} [hz : TZero P t zs] {pl : List (Nat × Nat)} [hp : TPlaces P t pl] (hw : xwanted ops (rg al) o = some true) (hd : o.dst = some d) (hlt : Nat.blt d nt = true)
    (hk : SK P ops nt L l ((d, .agg zs) :: al) hs fun bs => K (quiet :: bs)) : SK P ops nt L (o :: l) al hs K := by
  obtain ⟨fs, h1, h2⟩ := hp.out
  exact SK.lift hd hlt (fun _ => OpStep.pure hw (by rw [ho]; simp only [xpure, xbuild, hz.out, h1, h2, List.map_nil, xfill, Option.map_some])) hk
theorem sk_build0A {t : TypeId} (ho : o.op = .build t #[]) {zs : List XC} [hz : TZero P t zs] {n : Nat} {e : TypeId} [hu : TUnd P t (.array n e)] {s : Nat} [hs' : TSize P e s] (hw : xwanted ops (rg al) o = some true) (hd : o.dst = some d) (hlt : Nat.blt d nt = true)
    (hk : SK P ops nt L l ((d, .agg zs) :: al) hs fun bs => K (quiet :: bs)) : SK P ops nt L (o :: l) al hs K :=
  SK.lift hd hlt (fun _ => OpStep.pure hw (by rw [ho]; simp only [xpure, xbuild, hz.out, hu.out, hs'.out, List.map_nil, xfill, Option.map_some])) hk

theorem sk_nnp {t t' e : TypeId} {a : Operand} (ho : o.op = .binOp .neq t a (.const (.pointer .none)) t') [hu : TUnd P t (.pointer e)] (hw : xwanted ops (rg al) o = some true) (hd : o.dst = some d) (hlt : Nat.blt d nt = true) {i off : Nat} (ha : xeval (rg al) a = .one (.ptr i off))
    (hk : SK P ops nt L l ((d, .one (.bool true)) :: al) hs fun bs => K (quiet :: bs)) : SK P ops nt L (o :: l) al hs K :=
  SK.lift hd hlt (fun _ => OpStep.pure hw (by
    have hb : xeval (rg al) (.const (.pointer .none)) = .one .nilp := rfl
    rw [ho]
    simp only [xpure, ha, hb, xbin, xeqV, xequal, hu.out, xeqS]
    rfl)) hk

def eqFrom (f g : Nat → Int) : Nat → Nat → Bool
  | _, 0 => true
  | i, m + 1 => f i == g i && eqFrom f g (i + 1) m
theorem eqFrom_iff (f g : Nat → Int) : ∀ (m i : Nat), eqFrom f g i m = true ↔ ∀ j, i ≤ j → j < i + m → f j = g j
  | 0, i => ⟨fun _ j h1 h2 => by omega, fun _ => rfl⟩
  | m + 1, i => by
    unfold eqFrom
    rw [Bool.and_eq_true, eqFrom_iff f g m (i + 1), beq_iff_eq]
    constructor
    · rintro ⟨h0, h⟩ j h1 h2
      by_cases hj : j = i
      · rw [hj]; exact h0
      · exact h j (by omega) (by omega)
    · exact fun h => ⟨h i (Nat.le_refl _) (by omega), fun j h1 h2 => h j (by omega) (by omega)⟩
theorem xeqElems_ti {e : TypeId} {k : IntKind} [hv : TUnd P e (.int k)] [TScal P e] (n : Nat) (f g : Nat → Int) (dd : Nat) : ∀ (m i : Nat), i + m = n → xeqElems P (xequal P (dd + 1)) e 1 (ti k n f) (ti k n g) i m = some (eqFrom f g i m)
  | 0, i, h => rfl
  | m + 1, i, h => by
    have ih := xeqElems_ti (e := e) (k := k) n f g dd m (i + 1) (by omega)
    have e1 : ∀ f : Nat → Int, xpart P e (ti k n f) (i * 1) = some (.one (.int k (f i))) := fun f => by
      simp only [xpart, TScal.out (P := P) (t := e), Nat.mul_one, ti_get (show i < n by omega)]
    have e2 : ∀ a b : Int, xequal P (dd + 1) e (.one (.int k a)) (.one (.int k b)) = some (a == b) := fun a b => by
      simp only [xequal, hv.out, xeqS, if_true]
    unfold xeqElems eqFrom
    rw [e1, e1]
    simp only [e2]
    cases hf : f i == g i with
    | true => simp only [ih, Bool.true_and]
    | false => rfl
/-- '!=' of two arrays of integers. -/
theorem sk_neti {t t' e : TypeId} {a b : Operand} {n : Nat} {k : IntKind} (ho : o.op = .binOp .neq t a b t') [hu : TUnd P t (.array n e)] [hv : TUnd P e (.int k)] [hs' : TSize P e 1] [hsc : TScal P e] (hg : P.eqGuardType P.depth t = false) (hw : xwanted ops (rg al) o = some true) (hd : o.dst = some d) (hlt : Nat.blt d nt = true) {f g : Nat → Int} (ha : xeval (rg al) a = .agg (ti k n f)) (hb : xeval (rg al) b = .agg (ti k n g))
    (h1 : (¬ ∀ j, j < n → f j = g j) → SK P ops nt L l ((d, .one (.bool true)) :: al) hs fun bs => K (quiet :: bs)) (h2 : (∀ j, j < n → f j = g j) → SK P ops nt L l ((d, .one (.bool false)) :: al) hs fun bs => K (quiet :: bs)) : SK P ops nt L (o :: l) al hs K := by
  have hx : xequal P 40 t (.agg (ti k n f)) (.agg (ti k n g)) = some (eqFrom f g 0 n) := by
    unfold xequal
    simp only [hu.out, hs'.out]
    exact xeqElems_ti n f g 38 n 0 (by omega)
  have hp : xpure P (xeval (rg al)) o.op = some (.one (.bool (!eqFrom f g 0 n))) := by
    rw [ho]
    simp only [xpure, ha, hb, xbin, xeqV, hg, Bool.false_eq_true, if_false, hx, Option.map_some]
  have hi := eqFrom_iff f g n 0
  cases h : eqFrom f g 0 n with
  | true => exact SK.lift hd hlt (fun _ => OpStep.pure hw (by rw [hp, h]; rfl)) (h2 fun j hj => hi.1 h j (Nat.zero_le _) (by omega))
  | false => exact SK.lift hd hlt (fun _ => OpStep.pure hw (by rw [hp, h]; rfl)) (h1 fun hall => by
      rw [hi.2 fun j _ hj => hall j (by omega)] at h; cases h)

/-! ### Results -/
inductive ResL (P : Program) (al : Regs) (hs : Heap) : List ResultVar → List X1 → Prop where
  | nil : ResL P al hs [] []
  | tmp {t : Nat} {x : X1} {l : List ResultVar} {xs : List X1} : toX1 (rg al t) = some x → ResL P al hs l xs → ResL P al hs (.tmp t :: l) (x :: xs)
  | cell {a i off : Nat} {t : TypeId} {vs : List XC} {e : TypeId} {opn ro : Bool} {x : X1} {l : List ResultVar} {xs : List X1} : rg al a = .one (.ptr i off) → hs[i]? = some (.cells vs e opn ro) → xloadAt P t vs off = some x → ResL P al hs l xs → ResL P al hs (.cell a t :: l) (x :: xs)
theorem ResL.run {l : List ResultVar} {xs : List X1} (h : ResL P al hs l xs) {m : Mem} (hm : Holds m hs) : xresList P (rg al) m l = some xs := by
  induction h with
  | nil => rfl
  | tmp h1 _ ih => simp only [xresList, xres1, h1, ih]
  | cell h1 h2 h3 _ ih => simp only [xresList, xres1, h1, hm.at h2, h3, ih]
theorem ResL.one {fn : Func} {l : List ResultVar} {x : X1} (hl : fn.results.toList = l) (h : ResL P al hs l [x]) : ResX P fn al hs x.toV := fun m hm => by
  unfold xresults; rw [hl, h.run hm]
theorem ResL.two {fn : Func} {l : List ResultVar} {x y : X1} {r : List X1} (hl : fn.results.toList = l) (h : ResL P al hs l (x :: y :: r)) : ResX P fn al hs (.tup (x :: y :: r)) := fun m hm => by
  unfold xresults; rw [hl, h.run hm]
theorem ResL.zero {fn : Func} {l : List ResultVar} (hl : fn.results.toList = l) (h : ResL P al hs l []) : ResX P fn al hs (.tup []) := fun m hm => by
  unfold xresults; rw [hl, h.run hm]
theorem load_whole {t : TypeId} {s : Nat} [ht : TAggr P t] [hs' : TSize P t s] {vs : List XC} (h : s = vs.length) : xloadAt P t vs 0 = some (.agg vs) := load_all ht.out (by rw [hs'.out, h])
theorem load_cell {t : TypeId} [ht : TScal P t] {vs : List XC} {off : Nat} {c : XC} (h : vs[off]? = some c) : xloadAt P t vs off = some (.one c) := load_one ht.out h

/-! ### Views of a few objects -/
theorem view1 {HS : Heap} {o : XObj} (i : Nat) (h : HS[i]? = some (o.ren fun _ => i)) (ho : o.okN 1) : View (fun _ => i) HS [o] := by
  have hl : i < HS.length := (List.getElem?_eq_some_iff.1 h).1
  refine ⟨fun _ _ => hl, fun a b ha hb _ => ?_, fun j o' hj => ?_, fun j o' hj => ?_⟩
  · simp only [List.length_cons, List.length_nil] at ha hb; omega
  · have : o' ∈ [o] := List.mem_of_getElem? hj
    simp only [List.mem_singleton] at this
    subst this; exact ho
  · have : o' ∈ [o] := List.mem_of_getElem? hj
    simp only [List.mem_singleton] at this
    subst this; exact .inr h
/-- The numbers of a list. -/
def nth (l : List Nat) (j : Nat) : Nat := l.getD j 0
theorem viewL {HS hs : Heap} (l : List Nat) (hlen : hs.length = l.length) (hd : l.Nodup) (hok : ∀ o ∈ hs, o.okN hs.length) (h : ∀ (j : Nat) (o : XObj), hs[j]? = some o → HS[nth l j]? = some (o.ren (nth l))) : View (nth l) HS hs := by
  refine ⟨fun j hj => ?_, fun a b ha hb hab => ?_, fun j o hj => hok o (List.mem_of_getElem? hj), fun j o hj => .inr (h j o hj)⟩
  · have := h j _ (List.getElem?_eq_getElem hj)
    exact (List.getElem?_eq_some_iff.1 this).1
  · unfold nth at hab
    have ha' : a < l.length := by omega
    have hb' : b < l.length := by omega
    rw [List.getD_eq_getElem?_getD, List.getD_eq_getElem?_getD, List.getElem?_eq_getElem ha', List.getElem?_eq_getElem hb'] at hab
    exact (List.getElem_inj hd).1 hab

/-! ### Loops -/
/-- A loop with something that grows less. -/
theorem WX.while {σ : Type} {c : Code} {K : Post1} (R : σ → Regs) (H : σ → Heap) (I : σ → Prop) (μ : σ → Nat) (s0 : σ) (h0 : I s0)
    (step : ∀ s, I s → (∀ s', I s' → μ s' < μ s → WX P nt nI (.round c) (R s') (H s') K) → WX P nt nI (.round c) (R s) (H s) K) : WX P nt nI (.round c) (R s0) (H s0) K := by
  have : ∀ n s, μ s ≤ n → I s → WX P nt nI (.round c) (R s) (H s) K := by
    intro n
    induction n with
    | zero => intro s hs hI; exact step s hI fun s' _ h => absurd h (by omega)
    | succ n ih => intro s hs hI; exact step s hI fun s' h' hlt => ih s' (by omega) h'
  exact this (μ s0) s0 (Nat.le_refl _) h0
end Go.Xm
