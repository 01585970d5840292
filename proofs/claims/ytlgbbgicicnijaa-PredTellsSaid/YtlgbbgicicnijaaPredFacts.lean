/-
  The table's contracts, joined: what is expected, edges, a block put; and what a block put changes.
-/
import Derived.Test.YtlgbbgicicnijaaPredExpA
import Derived.Test.YtlgbbgicicnijaaPredExpB
import Derived.Test.YtlgbbgicicnijaaPredEdge
import Derived.Test.YtlgbbgicicnijaaXvArg
namespace Go.Proofs.Ytlgbbgicicnijaa
open Go.Xm
set_option linter.unusedVariables false
set_option linter.unusedSectionVars false
set_option linter.unusedSimpArgs false
variable [Atoms]

def wideOf (cols p : Int) : Int := if p = 0 then 2 * cols else cols
/-- A block, by its plane, column, row. -/
def blk (A B C : Tab) (cols p x y : Int) : Option Kn := lookAt (pickTab A B C p) (wideOf cols p) x y

structure PlaceOk (cols p x y : Int) : Prop where
  pp : p = 0 ∨ p = 1 ∨ p = 2
  x0 : 0 ≤ x
  x1 : x < wideOf cols p
  yy : 0 ≤ y ∧ y ≤ 200
  m : 0 ≤ y * wideOf cols p ∧ y * wideOf cols p ≤ 400
  ww : 1 ≤ wideOf cols p ∧ wideOf cols p ≤ 16
theorem place_ok {cols rows mb k : Int} (hc : 1 ≤ cols ∧ cols ≤ 8) (hr : 0 ≤ rows ∧ rows ≤ 8) (hm : 0 ≤ mb ∧ mb < cols * rows) (hk : 0 ≤ k ∧ k < 6) : PlaceOk cols (placeOf cols mb k).1 (placeOf cols mb k).2.1 (placeOf cols mb k).2.2 := by
  have h1 : cols = 1 ∨ cols = 2 ∨ cols = 3 ∨ cols = 4 ∨ cols = 5 ∨ cols = 6 ∨ cols = 7 ∨ cols = 8 := by omega
  by_cases h4 : k < 4
  · have e : placeOf cols mb k = (0, 2 * (mb % cols) + k % 2, 2 * (mb / cols) + k / 2) := by unfold placeOf; rw [if_pos h4]
    rw [e]
    have ew : wideOf cols 0 = 2 * cols := by simp [wideOf]
    refine ⟨.inl rfl, ?_, ?_, ?_, ?_, ?_⟩ <;> simp only [ew] <;> rcases h1 with rfl | rfl | rfl | rfl | rfl | rfl | rfl | rfl <;> omega
  · have e : placeOf cols mb k = (k - 3, mb % cols, mb / cols) := by unfold placeOf; rw [if_neg h4]
    rw [e]
    have ew : wideOf cols (k - 3) = cols := by unfold wideOf; rw [if_neg (by omega)]
    refine ⟨by show k - 3 = 0 ∨ k - 3 = 1 ∨ k - 3 = 2; omega, ?_, ?_, ?_, ?_, ?_⟩ <;> simp only [ew] <;> rcases h1 with rfl | rfl | rfl | rfl | rfl | rfl | rfl | rfl <;> omega
theorem wide_eq (cols mb k : Int) (hk : 0 ≤ k) : (if k < 4 then 2 * cols else cols) = wideOf cols (placeOf cols mb k).1 := by
  unfold wideOf placeOf
  by_cases h4 : k < 4
  · simp [h4]
  · rw [if_neg h4, if_neg h4, if_neg]
    show ¬ k - 3 = 0
    omega

theorem insideB_iff {cols rows mb k : Int} : insideB cols rows mb k = true ↔ 0 ≤ mb ∧ mb < cols * rows ∧ 0 ≤ k ∧ k < 6 := by simp [insideB]
theorem cr_bnd {cols rows : Int} (hc : 1 ≤ cols ∧ cols ≤ 8) (hr : 0 ≤ rows ∧ rows ≤ 8) : 0 ≤ cols * rows ∧ cols * rows ≤ 64 := by
  have h1 : cols = 1 ∨ cols = 2 ∨ cols = 3 ∨ cols = 4 ∨ cols = 5 ∨ cols = 6 ∨ cols = 7 ∨ cols = 8 := by omega
  rcases h1 with rfl | rfl | rfl | rfl | rfl | rfl | rfl | rfl <;> omega

section
variable {cols rows mb k q : Int} {A B C : Tab}

theorem place_at (hc : 1 ≤ cols ∧ cols ≤ 8) (hr : 0 ≤ rows ∧ rows ≤ 8) (hin : insideB cols rows mb k = true) :
    Con Try.prog 20 [.one (.ptr 0 0), .one (.int .i64 mb), .one (.int .i64 k)] (tabH cols rows A B C) (.tup [.one (.int .i64 (placeOf cols mb k).1), .one (.int .i64 (wideOf cols (placeOf cols mb k).1)), .one (.int .i64 (placeOf cols mb k).2.1), .one (.int .i64 (placeOf cols mb k).2.2)]) (tabH cols rows A B C) := by
  have hi := insideB_iff.1 hin
  have hcr := cr_bnd hc hr
  have := place_con cols rows mb k A B C hc ⟨hi.1, by omega⟩ ⟨hi.2.2.1, by omega⟩
  unfold place4 at this
  rw [wide_eq cols mb k hi.2.2.1] at this
  exact this

theorem expected_con (hc : 1 ≤ cols ∧ cols ≤ 8) (hr : 0 ≤ rows ∧ rows ≤ 8) (hin : insideB cols rows mb k = true) {p x y : Int} (hpl : placeOf cols mb k = (p, x, y)) {la lb lc : Option Kn} (ha : blk A B C cols p (x - 1) y = la) (hb : blk A B C cols p x (y - 1) = lb) (hcc : blk A B C cols p (x - 1) (y - 1) = lc) :
    Con Try.prog 17 [.one (.ptr 0 0), .one (.int .i64 mb), .one (.int .i64 k), .one (.int .i64 q)] (tabH cols rows A B C) (expV (expd la lb lc q)) (tabH cols rows A B C) := by
  have hi := insideB_iff.1 hin
  have hcr := cr_bnd hc hr
  have ok := place_ok hc hr ⟨hi.1, hi.2.1⟩ hi.2.2
  have hP := place_at (A := A) (B := B) (C := C) hc hr hin
  rw [hpl] at ok hP
  have hm := ok.m
  have hw := ok.ww
  have hm1 : (y - 1) * wideOf cols p = y * wideOf cols p - wideOf cols p := by rw [Int.sub_mul, Int.one_mul]
  have e1 : -1000 ≤ y * wideOf cols p ∧ y * wideOf cols p ≤ 1000 := by simp only at hm; omega
  have e2 : -1000 ≤ (y - 1) * wideOf cols p ∧ (y - 1) * wideOf cols p ≤ 1000 := by simp only at hm hw; rw [hm1]; omega
  have e3 : 0 ≤ x ∧ x ≤ 1000 := by have := ok.x0; have := ok.x1; simp only at *; omega
  have e4 : 0 ≤ y ∧ y ≤ 1000 := by have := ok.yy; simp only at *; omega
  unfold blk at ha hb hcc
  cases la with
  | some a => cases lb with
    | some b => cases lc with
      | some c => exact exp_sss cols rows mb k p _ x y q A B C hin hcr hP ok.pp e1 e2 e3 e4 a b c ha hb hcc
      | none => exact exp_ssn cols rows mb k p _ x y q A B C hin hcr hP ok.pp e1 e2 e3 e4 a b ha hb hcc
    | none => cases lc with
      | some c => exact exp_sns cols rows mb k p _ x y q A B C hin hcr hP ok.pp e1 e2 e3 e4 a c ha hb hcc
      | none => exact exp_snn cols rows mb k p _ x y q A B C hin hcr hP ok.pp e1 e2 e3 e4 a ha hb hcc
  | none => cases lb with
    | some b => cases lc with
      | some c => exact exp_nss cols rows mb k p _ x y q A B C hin hcr hP ok.pp e1 e2 e3 e4 b c ha hb hcc
      | none => exact exp_nsn cols rows mb k p _ x y q A B C hin hcr hP ok.pp e1 e2 e3 e4 b ha hb hcc
    | none => cases lc with
      | some c => exact exp_nns cols rows mb k p _ x y q A B C hin hcr hP ok.pp e1 e2 e3 e4 c ha hb hcc
      | none => exact exp_nnn cols rows mb k p _ x y q A B C hin hcr hP ok.pp e1 e2 e3 e4 ha hb hcc

def edgeOfKn (o : Option Kn) (s : Nat) (q : Int) : Nat → Int := match o with
  | some b => if b.qp = q then em b s 7 else noEdge
  | none => noEdge
def edgeF (la lb lc : Option Kn) (q : Int) : Nat → Int :=
  if (expd la lb lc q).1 = 1 then edgeOfKn la 8 q else if (expd la lb lc q).1 = 2 then edgeOfKn lb 1 q else noEdge
theorem expd_from (la lb lc : Option Kn) (q : Int) : ((expd la lb lc q).1 = 0 ∧ la = none ∧ lb = none) ∨ ((expd la lb lc q).1 = 1 ∧ ∃ a, la = some a) ∨ ((expd la lb lc q).1 = 2 ∧ ∃ b, lb = some b) := by
  cases la with
  | some a => cases lb with
    | some b =>
      have h : (expd (some a) (some b) lc q).1 = 1 ∨ (expd (some a) (some b) lc q).1 = 2 := by
        cases lc <;> simp only [expd] <;> split <;> simp
      rcases h with h | h
      · exact .inr (.inl ⟨h, _, rfl⟩)
      · exact .inr (.inr ⟨h, _, rfl⟩)
    | none => exact .inr (.inl ⟨rfl, _, rfl⟩)
  | none => cases lb with
    | some b => exact .inr (.inr ⟨rfl, _, rfl⟩)
    | none => exact .inl ⟨rfl, rfl, rfl⟩

theorem edge_con (hc : 1 ≤ cols ∧ cols ≤ 8) (hr : 0 ≤ rows ∧ rows ≤ 8) (hin : insideB cols rows mb k = true) {p x y : Int} (hpl : placeOf cols mb k = (p, x, y)) {la lb lc : Option Kn} (ha : blk A B C cols p (x - 1) y = la) (hb : blk A B C cols p x (y - 1) = lb) (hcc : blk A B C cols p (x - 1) (y - 1) = lc) :
    Con Try.prog 18 [.one (.ptr 0 0), .one (.int .i64 mb), .one (.int .i64 k), .one (.int .i64 q)] (tabH cols rows A B C) (.agg (ti .i64 64 (edgeF la lb lc q))) (tabH cols rows A B C) := by
  have hE := expected_con (q := q) hc hr hin hpl ha hb hcc
  have hi := insideB_iff.1 hin
  have ok := place_ok hc hr ⟨hi.1, hi.2.1⟩ hi.2.2
  have hP := place_at (A := A) (B := B) (C := C) hc hr hin
  rw [hpl] at ok hP
  have hm := ok.m
  have hw := ok.ww
  have hm1 : (y - 1) * wideOf cols p = y * wideOf cols p - wideOf cols p := by rw [Int.sub_mul, Int.one_mul]
  have e1 : -1000 ≤ y * wideOf cols p ∧ y * wideOf cols p ≤ 1000 := by simp only at hm; omega
  have e2 : -1000 ≤ (y - 1) * wideOf cols p ∧ (y - 1) * wideOf cols p ≤ 1000 := by simp only at hm hw; rw [hm1]; omega
  have e3 : 0 ≤ x ∧ x ≤ 1000 := by have := ok.x0; have := ok.x1; simp only at *; omega
  have e4 : 0 ≤ y ∧ y ≤ 1000 := by have := ok.yy; simp only at *; omega
  unfold blk at ha hb hcc
  unfold edgeF
  rcases expd_from la lb lc q with ⟨h0, rfl, rfl⟩ | ⟨h1, a, rfl⟩ | ⟨h2, b, rfl⟩
  · rw [h0, if_neg (by decide), if_neg (by decide)]
    unfold expV at hE
    rw [h0] at hE
    exact edge_0 cols rows mb k p _ x y q _ A B C hP ok.pp e1 e2 e3 e4 hE
  · rw [if_pos h1]
    unfold expV at hE
    rw [h1] at hE
    exact edge_1 cols rows mb k p _ x y q _ A B C hP ok.pp e1 e2 e3 e4 a ha hE
  · rw [h2, if_neg (by decide), if_pos rfl]
    unfold expV at hE
    rw [h2] at hE
    exact edge_2 cols rows mb k p _ x y q _ A B C hP ok.pp e1 e2 e3 e4 b hb hE

theorem set_con (hc : 1 ≤ cols ∧ cols ≤ 8) (hr : 0 ≤ rows ∧ rows ≤ 8) (hin : insideB cols rows mb k = true) {p x y : Int} (hpl : placeOf cols mb k = (p, x, y)) (b : Kn) :
    Con Try.prog 10 [.one (.ptr 0 0), .one (.int .i64 mb), .one (.int .i64 k), .agg (kcells b)] (tabH cols rows A B C) (.tup []) (tabH cols rows (setT p 0 A (y * wideOf cols p + x) b) (setT p 1 B (y * wideOf cols p + x) b) (setT p 2 C (y * wideOf cols p + x) b)) := by
  have hi := insideB_iff.1 hin
  have hcr := cr_bnd hc hr
  have ok := place_ok hc hr ⟨hi.1, hi.2.1⟩ hi.2.2
  have hP := place_at (A := A) (B := B) (C := C) hc hr hin
  rw [hpl] at ok hP
  have hm := ok.m
  have hw := ok.ww
  exact set_core cols rows mb k p _ x y b A B C hin hcr hP ok.pp (by simp only at hm; omega) (by have := ok.x0; have := ok.x1; simp only at *; omega)
end

/-! ### What a block put changes -/
theorem key_inj {w x y x' y' : Int} (hx : 0 ≤ x ∧ x < w) (hx' : 0 ≤ x' ∧ x' < w) : y * w + x = y' * w + x' ↔ x = x' ∧ y = y' := by
  constructor
  · intro h
    have h1 : (y * w + x) % w = x := by rw [Int.add_comm, Int.add_mul_emod_self_right]; exact Int.emod_eq_of_lt hx.1 hx.2
    have h2 : (y' * w + x') % w = x' := by rw [Int.add_comm, Int.add_mul_emod_self_right]; exact Int.emod_eq_of_lt hx'.1 hx'.2
    have e : x = x' := by rw [← h1, h, h2]
    subst e
    have h3 : y * w = y' * w := by omega
    exact ⟨rfl, Int.eq_of_mul_eq_mul_right (by omega) h3⟩
  · rintro ⟨rfl, rfl⟩; rfl
theorem lookAt_put {T : Tab} {w x y x' y' : Int} {b : Kn} (hx : 0 ≤ x ∧ x < w) (hy : 0 ≤ y) : lookAt (putm T (y * w + x) b) w x' y' = if x' = x ∧ y' = y then some b else lookAt T w x' y' := by
  unfold lookAt
  by_cases h : x' < 0 ∨ y' < 0 ∨ w ≤ x'
  · rw [if_pos h, if_pos h, if_neg (by omega)]
  · rw [if_neg h, if_neg h, mlook_put]
    have := key_inj (w := w) (x := x') (y := y') (x' := x) (y' := y) (by omega) hx
    by_cases e : x' = x ∧ y' = y
    · rw [if_pos e, if_pos (this.2 e)]
    · rw [if_neg e, if_neg (fun h => e (this.1 h))]
theorem pick_set {A B C : Tab} {p p' key : Int} {b : Kn} (hp : p = 0 ∨ p = 1 ∨ p = 2) (hp' : p' = 0 ∨ p' = 1 ∨ p' = 2) :
    pickTab (setT p 0 A key b) (setT p 1 B key b) (setT p 2 C key b) p' = if p' = p then putm (pickTab A B C p) key b else pickTab A B C p' := by
  rcases hp with rfl | rfl | rfl <;> rcases hp' with rfl | rfl | rfl <;> simp [pickTab, setT]
/-- A block put, seen at any place. -/
theorem blk_set {A B C : Tab} {cols p x y p' x' y' : Int} {b : Kn} (hp : p = 0 ∨ p = 1 ∨ p = 2) (hp' : p' = 0 ∨ p' = 1 ∨ p' = 2) (hx : 0 ≤ x ∧ x < wideOf cols p) (hy : 0 ≤ y) :
    blk (setT p 0 A (y * wideOf cols p + x) b) (setT p 1 B (y * wideOf cols p + x) b) (setT p 2 C (y * wideOf cols p + x) b) cols p' x' y' = if p' = p ∧ x' = x ∧ y' = y then some b else blk A B C cols p' x' y' := by
  unfold blk
  rw [pick_set hp hp']
  by_cases h : p' = p
  · subst h
    rw [if_pos rfl, lookAt_put hx hy]
    simp
  · rw [if_neg h, if_neg (fun e => h e.1)]

/-! ### Instances -/
theorem inst_new {cols rows : Int} {HS HS' : Heap} (hc : 0 ≤ cols ∧ cols ≤ 8) (hr : 0 ≤ rows ∧ rows ≤ 8) {n : Nat} (hn : HS.length = n) (hh : HS ++ [.cells [.int .i64 cols, .int .i64 rows, .map (n + 1), .map (n + 2), .map (n + 3)] 55 false false, .map (tabEnts []), .map (tabEnts []), .map (tabEnts [])] = HS') (hb : Nat.blt HS'.length Mem.bound = true) :
    Inst.Sound Try.prog ⟨9, [.one (.int .i64 cols), .one (.int .i64 rows)], HS, .one (.ptr n 0), HS', []⟩ := by
  subst hn hh
  refine inst_at (new_con cols rows hc hr) (ρ := id) (Nat.zero_le _) (view_nil _ _) (fun x hx => ?_) (args_ren_shut (fun x hx => ?_) _) ?_ ⟨by simp, fun j o h => ?_, fun i hi _ => ?_⟩ (fun j o h hl ho => ?_) (fun i hi _ => ?_) hb rfl
  · simp only [List.mem_cons, List.not_mem_nil, or_false] at hx
    rcases hx with rfl | rfl <;> trivial
  · simp only [List.mem_cons, List.not_mem_nil, or_false] at hx
    rcases hx with rfl | rfl <;> rfl
  · simp [XV.ren, XC.ren, beyond]
  · match j, h with
    | 0, h => cases h; simp [beyond, XObj.ren, XC.ren]
    | 1, h => cases h; simp [beyond, XObj.ren, ents_ren]
    | 2, h => cases h; simp [beyond, XObj.ren, ents_ren]
    | 3, h => cases h; simp [beyond, XObj.ren, ents_ren]
    | j + 4, h => simp [tabH] at h
  · rw [List.getElem?_append_left hi]
  · match j, h with
    | 0, h => cases h; cases ho
    | 1, h => cases h; cases ho
    | 2, h => cases h; cases ho
    | 3, h => cases h; cases ho
    | j + 4, h => simp [tabH] at h
  · rw [List.getElem?_append_left hi]

theorem inst_set {cols rows mb k : Int} {A B C A2 B2 C2 : Tab} {HS HS' : Heap} {b : Kn} (hcon : Con Try.prog 10 [.one (.ptr 0 0), .one (.int .i64 mb), .one (.int .i64 k), .agg (kcells b)] (tabH cols rows A B C) (.tup []) (tabH cols rows A2 B2 C2))
    (a e c d : Nat) (hd : [a, e, c, d].Nodup) (ha : HS[a]? = some (.cells [.int .i64 cols, .int .i64 rows, .map e, .map c, .map d] 55 false false)) (he : HS[e]? = some (.map (tabEnts A))) (hc : HS[c]? = some (.map (tabEnts B))) (hdd : HS[d]? = some (.map (tabEnts C)))
    (hh : ((HS.set e (.map (tabEnts A2))).set c (.map (tabEnts B2))).set d (.map (tabEnts C2)) = HS') (hb : Nat.blt HS'.length Mem.bound = true) :
    Inst.Sound Try.prog ⟨10, [.one (.ptr a 0), .one (.int .i64 mb), .one (.int .i64 k), .agg (kcells b)], HS, .tup [], HS', [e, c, d]⟩ := by
  subst hh
  have hla := (List.getElem?_eq_some_iff.1 ha).1
  have hle := (List.getElem?_eq_some_iff.1 he).1
  have hlc := (List.getElem?_eq_some_iff.1 hc).1
  have hld := (List.getElem?_eq_some_iff.1 hdd).1
  simp only [List.nodup_cons, List.mem_cons, List.not_mem_nil, or_false, not_or, not_false_eq_true, List.nodup_nil, and_true] at hd
  obtain ⟨⟨d1, d2, d3⟩, ⟨d4, d5⟩, d6⟩ := hd
  refine inst_at hcon (ρ := nth [a, e, c, d]) (Nat.le_refl _) (tabH_view a e c d (by simp [d1, d2, d3, d4, d5, d6]) ha he hc hdd) (fun x hx => ?_) ?_ rfl ⟨by simp, fun j o h => ?_, fun i hi hne => ?_⟩ (fun j o h hl ho => ?_) (fun i hi hne => ?_) hb rfl
  · simp only [List.mem_cons, List.not_mem_nil, or_false] at hx
    rcases hx with rfl | rfl | rfl | rfl
    · show 0 < 4; omega
    · trivial
    · trivial
    · exact XV.okN_shut (x := .agg (kcells b)) (kc_shut b) _
  · simp only [List.map_cons, List.map_nil, XV.ren, XC.ren, cells_ren_shut (kc_shut b)]
    rfl
  · match j, h with
    | 0, h =>
      cases h
      show (((HS.set e _).set c _).set d _)[a]? = _
      rw [List.getElem?_set_ne (Ne.symm d3), List.getElem?_set_ne (Ne.symm d2), List.getElem?_set_ne (Ne.symm d1), ha]
      rfl
    | 1, h =>
      cases h
      show (((HS.set e _).set c _).set d _)[e]? = _
      rw [List.getElem?_set_ne (Ne.symm d5), List.getElem?_set_ne (Ne.symm d4), List.getElem?_set_self hle]
      simp only [XObj.ren, ents_ren]
    | 2, h =>
      cases h
      show (((HS.set e _).set c _).set d _)[c]? = _
      rw [List.getElem?_set_ne (Ne.symm d6), List.getElem?_set_self (by simpa using hlc)]
      simp only [XObj.ren, ents_ren]
    | 3, h =>
      cases h
      show (((HS.set e _).set c _).set d _)[d]? = _
      rw [List.getElem?_set_self (by simpa using hld)]
      simp only [XObj.ren, ents_ren]
    | j + 4, h => simp [tabH] at h
  · have n1 := hne 1 (show 1 < 4 by omega)
    have n2 := hne 2 (show 2 < 4 by omega)
    have n3 := hne 3 (show 3 < 4 by omega)
    rw [List.getElem?_set_ne (show d ≠ i from n3), List.getElem?_set_ne (show c ≠ i from n2), List.getElem?_set_ne (show e ≠ i from n1)]
  · match j, h with
    | 0, h => cases h; cases ho
    | 1, h => cases h; cases ho
    | 2, h => cases h; cases ho
    | 3, h => cases h; cases ho
    | j + 4, h => simp [tabH] at h
  · simp only [List.mem_cons, List.not_mem_nil, or_false, not_or] at hne
    rw [List.getElem?_set_ne (Ne.symm hne.2.2), List.getElem?_set_ne (Ne.symm hne.2.1), List.getElem?_set_ne (Ne.symm hne.1)]
end Go.Proofs.Ytlgbbgicicnijaa
