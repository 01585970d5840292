/-
  The second machine: calls of functions whose contracts are known, where their objects lie among others: those that read, those that turn objects or make new ones.
-/
import Derived.Test.YtaepmifmcohhgaaXvOps
namespace Go.Xm
set_option linter.unusedSectionVars false
set_option linter.unusedVariables false
variable [Atoms]
variable {P : Program}

theorem ObjsVia.view {ls : List Nat} {HS hs : Heap} (nd : ls.Nodup) (ho : ObjsVia (nth ls) HS ls hs) (hk : AllOk hs.length hs) : View (nth ls) HS hs := by
  obtain ⟨hlen, hobj⟩ := ho.at
  refine ⟨fun j hj => ?_, fun i j hi hj hij => ?_, fun j o hj => hk.at o (List.mem_of_getElem? hj), fun j o hj => (hobj j o hj).2⟩
  · exact (hobj j _ (List.getElem?_eq_getElem hj)).1
  · unfold nth at hij
    have ha' : i < ls.length := by omega
    have hb' : j < ls.length := by omega
    rw [List.getD_eq_getElem?_getD, List.getD_eq_getElem?_getD, List.getElem?_eq_getElem ha', List.getElem?_eq_getElem hb'] at hij
    exact (List.getElem_inj nd).1 hij

/-- Arguments that are as they must be. -/
inductive ArgsOk (n : Nat) : List XV → Prop where
  | nil : ArgsOk n []
  | flat {v : XV} {l : List XV} [FlatV v] : ArgsOk n l → ArgsOk n (v :: l)
  | cons {v : XV} {l : List XV} : v.okN n → ArgsOk n l → ArgsOk n (v :: l)
theorem ArgsOk.at {n : Nat} {l : List XV} (h : ArgsOk n l) : ∀ x ∈ l, x.okN n := by
  induction h with
  | nil => intro o h; cases h
  | @flat o hs inst _ ih =>
    intro x hx
    rcases List.mem_cons.1 hx with rfl | hx
    · exact inst.ok n
    · exact ih x hx
  | cons h1 _ ih =>
    intro x hx
    rcases List.mem_cons.1 hx with rfl | hx
    · exact h1
    · exact ih x hx
/-- The same arguments, seen by the caller. -/
inductive ArgsRen (τ : Nat → Nat) : List XV → List XV → Prop where
  | nil : ArgsRen τ [] []
  | flat {v : XV} {l m : List XV} [FlatV v] : ArgsRen τ l m → ArgsRen τ (v :: l) (v :: m)
  | cons {v w : XV} {l m : List XV} : v.ren τ = w → ArgsRen τ l m → ArgsRen τ (v :: l) (w :: m)
theorem ArgsRen.eq {τ : Nat → Nat} {l m : List XV} (h : ArgsRen τ l m) : l.map (·.ren τ) = m := by
  induction h with
  | nil => rfl
  | @flat v l m inst _ ih => simp only [List.map_cons, ih, inst.ren]
  | cons h _ ih => simp only [List.map_cons, ih, h]

/-- Objects that lie so. -/
inductive ObjsAt (τ : Nat → Nat) (HS : Heap) : List Nat → Heap → Prop where
  | nil : ObjsAt τ HS [] []
  | flat {i : Nat} {o : XObj} {l : List Nat} {hs : Heap} [FlatO o] : HS[i]? = some o → ObjsAt τ HS l hs → ObjsAt τ HS (i :: l) (o :: hs)
  | cons {i : Nat} {o : XObj} {l : List Nat} {hs : Heap} : HS[i]? = some (o.ren τ) → ObjsAt τ HS l hs → ObjsAt τ HS (i :: l) (o :: hs)
theorem ObjsAt.via {τ : Nat → Nat} {HS : Heap} {l : List Nat} {hs : Heap} (h : ObjsAt τ HS l hs) : ObjsVia τ HS l hs := by
  induction h with
  | nil => exact .nil
  | flat h1 _ ih => exact .flat h1 ih
  | cons h1 _ ih => exact .cons h1 ih
theorem ObjsAt.at {τ : Nat → Nat} {HS : Heap} {l : List Nat} {hs : Heap} (h : ObjsAt τ HS l hs) : ∀ (j : Nat) (o : XObj), hs[j]? = some o → HS[nth l j]? = some (o.ren τ) := by
  induction h with
  | nil => intro j o h; simp at h
  | @flat i o l hs inst h1 _ ih =>
    intro j o' hj
    cases j with
    | zero => simp at hj; subst hj; rw [inst.ren]; exact h1
    | succ j => exact ih j o' (by simpa using hj)
  | cons h1 _ ih =>
    intro j o' hj
    cases j with
    | zero => simp at hj; subst hj; exact h1
    | succ j => exact ih j o' (by simpa using hj)

/-- A function that reads objects. -/
theorem inst_rd {f : FuncId} {args0 args : List XV} {hs0 HS : Heap} {v v' : XV} (ls : List Nat) (hc : Con P f args0 hs0 v hs0) (nd : ls.Nodup) (ho : ObjsAt (nth ls) HS ls hs0) (hk : AllOk hs0.length hs0) (ha : ArgsOk hs0.length args0) (e1 : ArgsRen (nth ls) args0 args) (hv : v.okN hs0.length) (e2 : v.ren (nth ls) = v') (hb : Nat.blt HS.length Mem.bound = true) (hb0 : Nat.blt hs0.length Mem.bound = true) :
    Inst.Sound P ⟨f, args, HS, v', HS, []⟩ := by
  obtain ⟨hlen, _⟩ := ho.via.at
  have hat := ho.at
  have kc : ∀ c : XC, c.ok hs0.length → c.ren (beyond (nth ls) hs0.length HS.length) = c.ren (nth ls) := by
    intro c
    induction c with
    | ptr i off => exact fun h => by simp only [XC.ren, beyond]; rw [if_pos (show i < hs0.length from h)]
    | slice i off len cap => exact fun h => by simp only [XC.ren, beyond]; rw [if_pos (show i < hs0.length from h)]
    | map i => exact fun h => by simp only [XC.ren, beyond]; rw [if_pos (show i < hs0.length from h)]
    | bind g c ih1 ih2 => exact fun h => by simp only [XC.ren, ih1 h.1, ih2 h.2]
    | _ => intro _; rfl
  have kcs : ∀ cs : List XC, (∀ c ∈ cs, c.ok hs0.length) → cs.map (·.ren (beyond (nth ls) hs0.length HS.length)) = cs.map (·.ren (nth ls)) := fun cs h => List.map_congr_left fun c hc => kc c (h c hc)
  have k1 : ∀ x : X1, x.ok hs0.length → x.ren (beyond (nth ls) hs0.length HS.length) = x.ren (nth ls) := fun x h => by
    cases x with
    | one c => simp only [X1.ren, kc c h]
    | agg cs => simp only [X1.ren, kcs cs h]
  have kv : ∀ x : XV, x.okN hs0.length → x.ren (beyond (nth ls) hs0.length HS.length) = x.ren (nth ls) := fun x h => by
    cases x with
    | undef => rfl
    | one c => simp only [XV.ren, kc c h]
    | agg cs => simp only [XV.ren, kcs cs h]
    | tup xs => simp only [XV.ren]; rw [List.map_congr_left fun c hc => k1 c (h c hc)]
  have ko : ∀ x : XObj, x.okN hs0.length → x.ren (beyond (nth ls) hs0.length HS.length) = x.ren (nth ls) := fun x h => by
    cases x with
    | dead => rfl
    | cells vs e a b => simp only [XObj.ren, kcs vs h]
    | map es => simp only [XObj.ren]; rw [List.map_congr_left fun p hp => by rw [k1 _ (h p hp).1, k1 _ (h p hp).2]]
  refine inst_at hc (Nat.le_refl _) (ho.via.view nd hk) ha.at e1.eq ((kv v hv).trans e2) ⟨by simp, fun j o h => ?_, fun i hi _ => rfl⟩ (fun j o h hl _ => ⟨o, h, hl⟩) (fun i hi _ => rfl) hb hb0
  have hj : j < hs0.length := (List.getElem?_eq_some_iff.1 h).1
  rw [ko o (hk.at o (List.mem_of_getElem? h)), show beyond (nth ls) hs0.length HS.length j = nth ls j from if_pos hj]
  exact hat j o h

/-- An object that holds these numbers, if there are any. -/
structure RO (o : XObj) (k : IntKind) (l : List Int) : Prop where
  get : 0 < l.length → ∃ e opn ro, o = .cells (il k l) e opn ro
  flat : FlatO o
theorem RO.of (k : IntKind) (l : List Int) (e : TypeId) (opn ro : Bool) : RO (.cells (il k l) e opn ro) k l := ⟨fun _ => ⟨e, opn, ro, rfl⟩, inferInstance⟩

/-- Objects put where they lie, new ones behind. -/
def putL (HS : Heap) : List Nat → Heap → Heap
  | i :: ls, o :: os => putL (HS.set i o) ls os
  | [], os => HS ++ os
  | _ :: _, [] => HS
theorem putL_len : ∀ (ls : List Nat) (HS os : Heap), ls.length ≤ os.length → (putL HS ls os).length = HS.length + (os.length - ls.length)
  | [], HS, os, _ => by simp [putL]
  | i :: ls, HS, o :: os, h => by
    simp only [putL, List.length_cons] at h ⊢
    rw [putL_len ls _ os (by omega), List.length_set]; omega
  | _ :: _, _, [], h => by simp at h
theorem putL_old : ∀ (ls : List Nat) (HS os : Heap) (i : Nat), i < HS.length → i ∉ ls → (putL HS ls os)[i]? = HS[i]?
  | [], HS, os, i, hi, _ => by simp only [putL]; exact List.getElem?_append_left hi
  | k :: ls, HS, o :: os, i, hi, h => by
    simp only [List.mem_cons, not_or] at h
    simp only [putL]
    rw [putL_old ls _ os i (by rw [List.length_set]; exact hi) h.2, List.getElem?_set_ne (Ne.symm h.1)]
  | _ :: _, _, [], i, hi, _ => rfl
theorem putL_new : ∀ (ls : List Nat) (HS os : Heap) (j : Nat), ls.length ≤ j → j < os.length → (putL HS ls os)[HS.length + (j - ls.length)]? = os[j]?
  | [], HS, os, j, _, hj => by
    simp only [putL, List.length_nil, Nat.sub_zero]
    rw [List.getElem?_append_right (by omega)]; congr 1; omega
  | k :: ls, HS, o :: os, j, h, hj => by
    cases j with
    | zero => simp at h
    | succ j =>
      simp only [List.length_cons] at h hj
      have := putL_new ls (HS.set k o) os j (by omega) (by omega)
      rw [List.length_set] at this
      simp only [putL, List.length_cons, List.getElem?_cons_succ]
      rw [← this]; congr 1; omega
  | _ :: _, _, [], j, _, hj => by simp at hj
theorem putL_at : ∀ (ls : List Nat) (HS os : Heap), ls.Nodup → (∀ i ∈ ls, i < HS.length) → ∀ (j : Nat), j < ls.length → j < os.length → (putL HS ls os)[nth ls j]? = os[j]?
  | [], _, _, _, _, j, hj, _ => by simp at hj
  | k :: ls, HS, o :: os, nd, hi, j, hj, ho => by
    have hk : k ∉ ls := (List.nodup_cons.1 nd).1
    have nd' := (List.nodup_cons.1 nd).2
    have hi' : ∀ i ∈ ls, i < (HS.set k o).length := fun i h => by rw [List.length_set]; exact hi i (List.mem_cons_of_mem _ h)
    simp only [putL]
    cases j with
    | zero =>
      show (putL (HS.set k o) ls os)[k]? = some o
      rw [putL_old ls _ os k (by rw [List.length_set]; exact hi k (List.mem_cons_self ..)) hk, List.getElem?_set_self (hi k (List.mem_cons_self ..))]
    | succ j =>
      simp only [List.length_cons] at hj ho
      exact putL_at ls _ os nd' hi' j (by omega) (by omega)
  | _ :: _, _, [], _, _, j, _, ho => by simp at ho

/-- The same objects, seen by the caller. -/
inductive ObjsRen (τ : Nat → Nat) : Heap → Heap → Prop where
  | nil : ObjsRen τ [] []
  | flat {o : XObj} {l m : Heap} [FlatO o] : ObjsRen τ l m → ObjsRen τ (o :: l) (o :: m)
  | cons {o w : XObj} {l m : Heap} : o.ren τ = w → ObjsRen τ l m → ObjsRen τ (o :: l) (w :: m)
theorem ObjsRen.eq {τ : Nat → Nat} {l m : Heap} (h : ObjsRen τ l m) : l.map (·.ren τ) = m := by
  induction h with
  | nil => rfl
  | @flat v l m inst _ ih => simp only [List.map_cons, ih, inst.ren]
  | cons h _ ih => simp only [List.map_cons, ih, h]

/-- What is read-only was there. -/
def roOk : Heap → Heap → Bool
  | _, [] => true
  | o0 :: hs0, o :: hs => (o0.live || !o.live || o.own) && roOk hs0 hs
  | [], o :: hs => (!o.live || o.own) && roOk [] hs
theorem roOk_at : ∀ {hs0 hs : Heap}, roOk hs0 hs = true → ∀ (j : Nat) (o : XObj), hs[j]? = some o → o.live = true → o.own = false → ∃ o0, hs0[j]? = some o0 ∧ o0.live = true
  | _, [], _, j, o, h, _, _ => by simp at h
  | o0 :: hs0, o :: hs, hr, j, x, h, hl, ho => by
    simp only [roOk, Bool.and_eq_true] at hr
    cases j with
    | zero =>
      simp only [List.getElem?_cons_zero, Option.some.injEq] at h
      subst h
      refine ⟨o0, rfl, ?_⟩
      rw [hl, ho] at hr
      simpa using hr.1
    | succ j => exact roOk_at hr.2 j x (by simpa using h) hl ho
  | [], o :: hs, hr, j, x, h, hl, ho => by
    simp only [roOk, Bool.and_eq_true] at hr
    cases j with
    | zero =>
      simp only [List.getElem?_cons_zero, Option.some.injEq] at h
      subst h
      rw [hl, ho] at hr
      simp at hr
    | succ j =>
      obtain ⟨o0, h1, _⟩ := roOk_at hr.2 j x (by simpa using h) hl ho
      simp at h1

theorem beyond_nth {ls : List Nat} {N k : Nat} (j : Nat) (hj : j < ls.length + k) : beyond (nth ls) ls.length N j = nth (ls ++ List.range' N k) j := by
  unfold beyond nth
  by_cases h : j < ls.length
  · rw [if_pos h, List.getD_eq_getElem?_getD, List.getD_eq_getElem?_getD, List.getElem?_append_left h]
  · rw [if_neg h, List.getD_eq_getElem?_getD, List.getElem?_append_right (by omega), List.getElem?_range' (by omega)]
    simp

/-- A function that turns objects, or makes new ones. -/
theorem inst_wr {f : FuncId} {args0 args : List XV} {hs0 hs0' HS HS' os : Heap} {v v' : XV} (ls ws : List Nat) (k : Nat) (hc : Con P f args0 hs0 v hs0') (nd : ls.Nodup) (ho : ObjsVia (nth ls) HS ls hs0) (hk : AllOk hs0.length hs0) (hk' : AllOk hs0'.length hs0') (hn : ls.length + k = hs0'.length) (ha : ArgsOk hs0.length args0) (e1 : ArgsRen (nth ls) args0 args) (hv : v.okN hs0'.length)
    (e2 : v.ren (nth (ls ++ List.range' HS.length k)) = v') (hr : ObjsRen (nth (ls ++ List.range' HS.length k)) hs0' os) (hro : roOk hs0 hs0' = true) (hb0 : Nat.blt hs0.length Mem.bound = true) (hh : putL HS ls os = HS') (hb : Nat.blt HS'.length Mem.bound = true) (hws : ws = ls ∨ ∀ i, i < HS.length → i ∉ ws → HS'[i]? = HS[i]?) :
    Inst.Sound P ⟨f, args, HS, v', HS', ws⟩ := by
  subst hh
  obtain ⟨hlen, hobj⟩ := ho.at
  have eos := hr.eq
  have los : os.length = hs0'.length := by rw [← eos]; simp
  have hin : ∀ i ∈ ls, i < HS.length := by
    intro i hi
    obtain ⟨j, hj, rfl⟩ := List.mem_iff_getElem.1 hi
    have := (hobj j _ (List.getElem?_eq_getElem (by omega : j < hs0.length))).1
    unfold nth at this
    rwa [List.getD_eq_getElem?_getD, List.getElem?_eq_getElem hj] at this
  have kc : ∀ n (c : XC), c.ok n → n ≤ hs0'.length → c.ren (beyond (nth ls) hs0.length HS.length) = c.ren (nth (ls ++ List.range' HS.length k)) := by
    intro n c
    have e : ∀ i, i < n → n ≤ hs0'.length → beyond (nth ls) hs0.length HS.length i = nth (ls ++ List.range' HS.length k) i := fun i hi hl => by
      rw [hlen]; exact beyond_nth i (by omega)
    induction c with
    | ptr i off => exact fun h hl => by simp only [XC.ren, e i h hl]
    | slice i off len cap => exact fun h hl => by simp only [XC.ren, e i h hl]
    | map i => exact fun h hl => by simp only [XC.ren, e i h hl]
    | bind g c ih1 ih2 => exact fun h hl => by simp only [XC.ren, ih1 h.1 hl, ih2 h.2 hl]
    | _ => intro _ _; rfl
  have kcs : ∀ cs : List XC, (∀ c ∈ cs, c.ok hs0'.length) → cs.map (·.ren (beyond (nth ls) hs0.length HS.length)) = cs.map (·.ren (nth (ls ++ List.range' HS.length k))) := fun cs h => List.map_congr_left fun c hc => kc _ c (h c hc) (Nat.le_refl _)
  have k1 : ∀ x : X1, x.ok hs0'.length → x.ren (beyond (nth ls) hs0.length HS.length) = x.ren (nth (ls ++ List.range' HS.length k)) := fun x h => by
    cases x with
    | one c => simp only [X1.ren, kc _ c h (Nat.le_refl _)]
    | agg cs => simp only [X1.ren, kcs cs h]
  have kv : ∀ x : XV, x.okN hs0'.length → x.ren (beyond (nth ls) hs0.length HS.length) = x.ren (nth (ls ++ List.range' HS.length k)) := fun x h => by
    cases x with
    | undef => rfl
    | one c => simp only [XV.ren, kc _ c h (Nat.le_refl _)]
    | agg cs => simp only [XV.ren, kcs cs h]
    | tup xs => simp only [XV.ren]; rw [List.map_congr_left fun c hc => k1 c (h c hc)]
  have ko : ∀ x : XObj, x.okN hs0'.length → x.ren (beyond (nth ls) hs0.length HS.length) = x.ren (nth (ls ++ List.range' HS.length k)) := fun x h => by
    cases x with
    | dead => rfl
    | cells vs e a b => simp only [XObj.ren, kcs vs h]
    | map es => simp only [XObj.ren]; rw [List.map_congr_left fun p hp => by rw [k1 _ (h p hp).1, k1 _ (h p hp).2]]
  refine inst_at hc (by omega) (ho.view nd hk) ha.at e1.eq ((kv v hv).trans e2) ⟨?_, fun j o hj => ?_, fun i hi hne => ?_⟩ (roOk_at hro) (fun i hi hne => ?_) hb hb0
  · rw [putL_len ls HS os (by omega)]; omega
  · have hjl : j < hs0'.length := (List.getElem?_eq_some_iff.1 hj).1
    have hoj : os[j]? = some (o.ren (nth (ls ++ List.range' HS.length k))) := by rw [← eos, List.getElem?_map, hj]; rfl
    rw [ko o (hk'.at o (List.mem_of_getElem? hj)), hlen]
    unfold beyond
    by_cases h : j < ls.length
    · rw [if_pos h, putL_at ls HS os nd hin j h (by omega)]; exact hoj
    · rw [if_neg h, putL_new ls HS os j (by omega) (by omega)]; exact hoj
  · refine putL_old ls HS os i hi fun hm => ?_
    obtain ⟨j, hj, e⟩ := List.mem_iff_getElem.1 hm
    refine hne j (by omega) ?_
    unfold nth
    rw [List.getD_eq_getElem?_getD, List.getElem?_eq_getElem hj]
    exact e
  · rcases hws with e | h
    · subst e; exact putL_old ws HS os i hi hne
    · exact h i hi hne
theorem SlOk.of {c : XC} {i n : Nat} (h : SlOk c i n) (hn : ∀ cap, c = .slice i 0 n (.exact cap) → n ≤ cap) : SlOf c i 0 n := by
  rcases h with ⟨rfl, rfl⟩ | ⟨cap, rfl⟩
  · exact .nil
  · exact .mk (hn cap rfl)
theorem SlOf.back {c : XC} {i off n : Nat} (h : SlOf c i off n) : ∃ c0, SlOf c0 0 off n ∧ c0.ren (fun _ => i) = c := by
  rcases h with ⟨rfl, rfl | ⟨o, cap, rfl⟩⟩ | ⟨cap, h1, rfl⟩
  · exact ⟨.nils, .nil, rfl⟩
  · exact ⟨.slice 0 o 0 (.exact cap), .inl ⟨rfl, .inr ⟨_, _, rfl⟩⟩, rfl⟩
  · exact ⟨.slice 0 off n (.exact cap), .inr ⟨_, h1, rfl⟩, rfl⟩
theorem SlOf.backN {c : XC} {i off n : Nat} (h : SlOf c i off n) (j : Nat) (τ : Nat → Nat) (ht : τ j = i) : ∃ c0, SlOf c0 j off n ∧ c0.ren τ = c := by
  subst ht
  rcases h with ⟨rfl, rfl | ⟨o, cap, rfl⟩⟩ | ⟨cap, h1, rfl⟩
  · exact ⟨.nils, .nil, rfl⟩
  · exact ⟨.slice j o 0 (.exact cap), .inl ⟨rfl, .inr ⟨_, _, rfl⟩⟩, rfl⟩
  · exact ⟨.slice j off n (.exact cap), .inr ⟨_, h1, rfl⟩, rfl⟩

/-- The end of a function: its objects under their own numbers. -/
theorem kcon_via {fn : Func} {n : Nat} {e : XE} {al : Regs} {hs hs' : Heap} {v1 v : XV} (τl : List Nat) (he : e = .normal ∨ e = .ret) (hr : ResX P fn al hs v1) (hv : v1 = v.ren (nth τl)) (hok : v.okN hs'.length) (nd : τl.Nodup) (hid : (List.range n).all (fun j => nth τl j == j) = true) (ho : ObjsVia (nth τl) hs τl hs') (hk : AllOk hs'.length hs') : KCon P fn n v hs' e al hs :=
  kcon_of (nth τl) he hr hv hok (ho.view nd hk) fun j hj => by
    have := List.all_eq_true.1 hid j (List.mem_range.2 hj)
    simpa using this

/-! ### More operations -/
variable {ops : Array Oper} {nt nI : Nat} {al : Regs} {hs : Heap} {o : Oper} {l : List Oper} {L : List Inst} {K : List Ab → Regs → Heap → Prop} {d : Nat}

theorem xzeros_il (k : IntKind) (n : Nat) : xzeros [.int k 0] n = il k (List.replicate n 0) := by
  unfold xzeros il
  apply List.ext_getElem?
  intro i
  by_cases h : i < n
  · simp [h, Nat.mod_one]
  · simp [h]

/-- 'make' of a slice of numbers. -/
theorem sk_msI {t e : TypeId} {a b : Operand} {k : IntKind} (ho : o.op = .makeSlice t a b) [hu : TUnd P t (.slice e)] [hz : TZero P e [.int k 0]] [hI : TI P e 1] (hw : xwanted ops (rg al) o = some true) (hd : o.dst = some d) (hlt : Nat.blt d nt = true) {kl kc : IntKind} {x y : Int} (ha : xeval (rg al) a = .one (.int kl x)) (hb : xeval (rg al) b = .one (.int kc y)) {n : Nat} (hx : x = (n : Nat)) (hy : y = (n : Nat)) (hn : n ≤ 2000000000)
    {N : Nat} (hN : hs.length = N) (hbd : Nat.blt N Mem.bound = true) {hs' : Heap} (hh : hs ++ [.cells (il k (List.replicate n 0)) e false false] = hs') (hk : SK P ops nt L l ((d, .one (.slice N 0 n (.exact n))) :: al) hs' fun bs => K (⟨true, .none, [N]⟩ :: bs)) : SK P ops nt L (o :: l) al hs K := by
  subst hN hh hx hy
  refine SK.lift hd hlt (fun _ => ?_) hk
  intro m hm
  obtain ⟨m', h1, h2, h3⟩ := hm.push (.cells (il k (List.replicate n 0)) e false false) (by simpa [Nat.blt_eq] using hbd)
  refine ⟨m', ?_, h2, h3⟩
  unfold xdo
  rw [hw]
  refine xact_write (by rw [ho]; rfl) (by rw [ho]; rfl) (by rw [ho]; rfl) ?_
  rw [ho]
  obtain ⟨ti, hti, hs1, hby⟩ := hI.get
  have hbb : (ti.bytes : Int) * (n : Nat) ≤ 281474976710656 := by
    have : (ti.bytes : Int) * (n : Nat) ≤ 65536 * (n : Nat) := Int.mul_le_mul_of_nonneg_right (by omega) (by omega)
    omega
  simp only [xwrite, xmakeSlice, xslElem, hu.out, ha, hb, hti, hz.out, hs1, Int.toNat_natCast, Nat.mul_one, xzeros_il, h1, hm.n]
  rw [if_pos ⟨by omega, by omega, by omega, hbb, by simp⟩]

/-- A slice of one number. -/
theorem sk_bs1I {t e : TypeId} {y : Operand} {k : IntKind} (ho : o.op = .buildSlice t 1 #[(0, y)]) [hu : TUnd P t (.slice e)] [hz : TZero P e [.int k 0]] [hse : TSize P e 1] (hw : xwanted ops (rg al) o = some true) (hd : o.dst = some d) (hlt : Nat.blt d nt = true) {z : Int} (hy : xcells (xeval (rg al) y) = some [.int k z]) {n : Nat} (hn : hs.length = n) (hb : Nat.blt n Mem.bound = true) {hs' : Heap} (hh : hs ++ [.cells (il k [z]) e false false] = hs')
    (hk : SK P ops nt L l ((d, .one (.slice n 0 1 (.exact 1))) :: al) hs' fun bs => K (⟨true, .none, [n]⟩ :: bs)) : SK P ops nt L (o :: l) al hs K :=
  sk_bs1 ho rfl hw hd hlt hy hn hb hh hk

theorem src_all {t1 e : TypeId} [hu : TUnd P t1 (.slice e)] {x : XV} {j len sz : Nat} {cap : Cap} {vs : List XC} {et : TypeId} {opn ro : Bool} (hx : x = .one (.slice j 0 len cap)) (hj : hs[j]? = some (.cells vs et opn ro)) (hl : vs.length = len * sz) : ∀ M, Holds M hs → xsrc P t1 sz x M = some (len, vs) := by
  intro M hM
  subst hx
  have := hM.at hj
  by_cases h0 : len = 0
  · subst h0
    have : vs = [] := List.length_eq_zero_iff.1 (by simpa using hl)
    subst this
    cases cap <;> simp only [xsrc, hu.out, if_true]
  · cases cap <;> simp only [xsrc, hu.out, this, Nat.zero_add, List.drop_zero, h0, if_false] <;> rw [if_pos (by omega), List.take_of_length_le (by omega)]

/-- 'append' to a list of numbers that grows. -/
theorem sk_apI {t t1 e e1 : TypeId} {a b : Operand} {k : IntKind} (ho : o.op = .call ⟨.builtin .append, #[a, b], #[t, t1]⟩) [hu : TUnd P t (.slice e)] [hu1 : TUnd P t1 (.slice e1)] [hz : TZero P e [.int k 0]] [hI : TI P e 1] (hw : xwanted ops (rg al) o = some true) (hd : o.dst = some d) (hlt : Nat.blt d nt = true)
    {i n j len : Nat} {cap : Cap} {q r : List Int} {et : TypeId} {opn ro : Bool} (ha : xeval (rg al) a = slv i n 1) (hi : hs[i]? = some (slo e (il k q))) (hb : xeval (rg al) b = .one (.slice j 0 len cap)) (hj : hs[j]? = some (.cells (il k r) et opn ro)) (hn : q.length = n) (hr : r.length = len) (hm : 0 < len ∧ n + len ≤ 2000000000)
    {N : Nat} (hN : hs.length = N) (hbd : Nat.blt N Mem.bound = true) {hs' : Heap} (hh : hs.set i .dead ++ [slo e (il k (q ++ r))] = hs')
    (hk : SK P ops nt L l ((d, slv N (n + len) 1) :: al) hs' fun bs => K (⟨true, .none, [i, N]⟩ :: bs)) : SK P ops nt L (o :: l) al hs K := by
  have hne : il k (q ++ r) ≠ [] := by
    intro h
    have : (il k (q ++ r)).length = 0 := by rw [h]; rfl
    rw [il_len, List.length_append] at this
    omega
  rw [slv_pos (by omega)] at hk
  exact sk_apG ho hw hd hlt (sz := 1) ⟨rfl, by omega⟩ ha hi (by rw [il_len]; omega) (src_all hb hj (by rw [il_len]; omega)) ⟨hm.1, by omega⟩ hN hbd (by rw [il_append, ← slo_pos hne]; exact hh) hk

/-! ### Maps of numbers -/
def kI (k : IntKind) (z : Int) : X1 := .one (.int k z)
def vB (b : Bool) : X1 := .one (.bool b)
def vI (k : IntKind) (z : Int) : X1 := .one (.int k z)
theorem kI_ok {kt : TypeId} {k : IntKind} [hu : TUnd P kt (.int k)] : KeyOk P kt (kI k) := keyInt
theorem map_flat {α γ : Type} {kc : α → X1} {vc : γ → X1} (hk : ∀ a, (kc a).shut = true) (hv : ∀ c, (vc c).shut = true) (M : List (α × γ)) : FlatO (.map (ents kc vc M)) := by
  refine ⟨fun τ => ?_, fun n p hp => ?_⟩
  · simp only [XObj.ren, ents, List.map_map]
    congr 1
    refine List.map_congr_left fun p _ => ?_
    simp only [Function.comp, X1.ren_shut (hk p.1), X1.ren_shut (hv p.2)]
  · obtain ⟨q, _, rfl⟩ := List.mem_map.1 hp
    exact ⟨X1.ok_of_shut (hk q.1) n, X1.ok_of_shut (hv q.2) n⟩
instance {k : IntKind} {M : List (Int × Bool)} : FlatO (.map (ents (kI k) vB M)) := map_flat (fun _ => rfl) (fun _ => rfl) M
instance {k k' : IntKind} {M : List (Int × Int)} : FlatO (.map (ents (kI k) (vI k') M)) := map_flat (fun _ => rfl) (fun _ => rfl) M

/-- 'append' of numbers to a slice that is full. -/
theorem sk_apE {t t1 e e1 : TypeId} {a b : Operand} {k : IntKind} (ho : o.op = .call ⟨.builtin .append, #[a, b], #[t, t1]⟩) [hu : TUnd P t (.slice e)] [hu1 : TUnd P t1 (.slice e1)] [hz : TZero P e [.int k 0]] [hI : TI P e 1] (hw : xwanted ops (rg al) o = some true) (hd : o.dst = some d) (hlt : Nat.blt d nt = true)
    {i len n : Nat} {q r : List Int} {et : TypeId} {opn ro : Bool} (ha : xeval (rg al) a = .one (.slice i 0 len (.exact len))) (hi : hs[i]? = some (.cells (il k q) et opn ro)) (hq : q.length = len) (hr : r.length = n) (hsrc : ∀ M, Holds M hs → xsrc P t1 1 (xeval (rg al) b) M = some (n, il k r)) (hm : len + n ≤ 2000000000)
    {N : Nat} (hN : hs.length = N) (hbd : Nat.blt N Mem.bound = true) {hs' : Heap} (hh : hs ++ [.cells (il k (q ++ r)) e true false] = hs')
    (h1 : n = 0 → SK P ops nt L l ((d, .one (.slice i 0 len (.exact len))) :: al) hs fun bs => K (⟨true, .none, []⟩ :: bs)) (h2 : 0 < n → SK P ops nt L l ((d, .one (.slice N 0 (len + n) (.toEnd 1))) :: al) hs' fun bs => K (⟨true, .none, [N]⟩ :: bs)) : SK P ops nt L (o :: l) al hs K := by
  subst hN hh
  obtain ⟨ti, hti, hs1, hby⟩ := hI.get
  have hbytes : (len + n) * ti.bytes ≤ 140737488355328 := Nat.le_trans (Nat.mul_le_mul_left _ hby) (by omega)
  by_cases h0 : n = 0
  · refine SK.lift hd hlt (fun _ => ?_) (h1 h0)
    subst h0
    intro M hM
    refine ⟨M, ?_, hM, fun _ _ => rfl⟩
    unfold xdo
    rw [hw]
    refine xact_write (by rw [ho]; rfl) (by rw [ho]; rfl) (by rw [ho]; rfl) ?_
    rw [ho]
    simp only [xwrite, xappend, xslElem, hu.out, hti, hz.out, ha, hs1, hsrc M hM, List.getElem?_toArray, List.getElem?_cons_zero, List.getElem?_cons_succ]
    simp
  · refine SK.lift hd hlt (fun _ => ?_) (h2 (by omega))
    intro M hM
    obtain ⟨m', p1, p2, p3⟩ := hM.push (.cells (il k (q ++ r)) e true false) (by simpa [Nat.blt_eq] using hbd)
    refine ⟨m', ?_, p2, p3⟩
    unfold xdo
    rw [hw]
    refine xact_write (by rw [ho]; rfl) (by rw [ho]; rfl) (by rw [ho]; rfl) ?_
    rw [ho]
    have e1 : ¬ len + n ≤ len := by omega
    have e2 : 0 + len * 1 ≤ (il k q).length := by rw [il_len]; omega
    have e3 : ((il k q).drop 0).take (len * 1) ++ il k r = il k (q ++ r) := by
      rw [List.drop_zero, List.take_of_length_le (by rw [il_len]; omega), il_append]
    simp only [xwrite, xappend, xslElem, hu.out, hti, hz.out, ha, hs1, hsrc M hM, List.getElem?_toArray, List.getElem?_cons_zero, List.getElem?_cons_succ, e1, if_false, hM.at hi, e2, if_true, e3, p1, hM.n]
    rw [if_pos ⟨rfl, by omega⟩, if_pos ⟨by omega, hbytes⟩]
theorem sk_loadR {t : TypeId} {a : Operand} (ho : o.op = .load t a) [ht : TScal P t] (hw : xwanted ops (rg al) o = some true) (hd : o.dst = some d) (hlt : Nat.blt d nt = true) {i off : Nat} (ha : xeval (rg al) a = .one (.ptr i off)) {ob : XObj} (hi : hs[i]? = some ob) {k : IntKind} {q : List Int} (hro : RO ob k q) (hc : off < q.length)
    (hk : SK P ops nt L l ((d, .one (.int k (q.getD off 0))) :: al) hs fun bs => K (⟨false, some i, []⟩ :: bs)) : SK P ops nt L (o :: l) al hs K := by
  obtain ⟨e, opn, ro, rfl⟩ := hro.get (by omega)
  exact sk_load ho hw hd hlt ha hi (il_get hc) hk
theorem src_ro {t1 e1 : TypeId} [hu1 : TUnd P t1 (.slice e1)] {c : XC} {i n : Nat} {k : IntKind} {r : List Int} {ob : XObj} {x : XV} (hx : x = .one c) (hc : SlOk c i n) (hi : hs[i]? = some ob) (hr : r.length = n) (hro : RO ob k r) : ∀ M, Holds M hs → xsrc P t1 1 x M = some (n, il k r) := by
  intro M hM
  subst hx
  by_cases h0 : n = 0
  · subst h0
    have : r = [] := List.length_eq_zero_iff.1 hr
    subst this
    rcases hc with ⟨rfl, _⟩ | ⟨cap, rfl⟩ <;> simp only [xsrc, hu1.out, if_true] <;> rfl
  · rcases hc with ⟨rfl, rfl⟩ | ⟨cap, rfl⟩
    · exact absurd rfl h0
    · obtain ⟨e, opn, ro, rfl⟩ := hro.get (by omega)
      simp only [xsrc, hu1.out, hM.at hi, h0, if_false]
      rw [if_pos (by rw [il_len]; omega), List.drop_zero, List.take_of_length_le (by rw [il_len]; omega)]
/-! ### Lists of values of several cells -/
/-- How a value is written in cells. -/
class FEnc {α : Type} (enc : α → List XC) (s : outParam Nat) : Prop where
  len : ∀ a, (enc a).length = s
  shut : ∀ a, (enc a).all XC.shut = true
  pos : 0 < s
def fl {α : Type} (enc : α → List XC) (l : List α) : List XC := l.flatMap enc
section
variable {α : Type} {enc : α → List XC} {s : Nat} [hE : FEnc enc s]
theorem fl_len (l : List α) : (fl enc l).length = l.length * s := by
  induction l with
  | nil => simp [fl]
  | cons a l ih => simp only [fl, List.flatMap_cons, List.length_append, hE.len, List.length_cons] at ih ⊢; rw [ih, Nat.add_mul]; omega
theorem fl_append (l m : List α) : fl enc (l ++ m) = fl enc l ++ fl enc m := by simp [fl]
theorem fl_one (a : α) : fl enc [a] = enc a := by simp [fl]
theorem fl_shut {α : Type} {enc : α → List XC} {s : Nat} [hE : FEnc enc s] (l : List α) : (fl enc l).all XC.shut = true := by
  rw [List.all_eq_true]
  intro c hc
  obtain ⟨a, _, ha⟩ := List.mem_flatMap.1 hc
  exact List.all_eq_true.1 (hE.shut a) c ha
theorem fl_at (l : List α) (j : Nat) (hj : j < l.length) (dflt : α) : j * s + s ≤ (fl enc l).length ∧ ((fl enc l).drop (j * s)).take s = enc (l.getD j dflt) :=
  flat_at enc s l (fun a _ => hE.len a) j _ (by simp [List.getD_eq_getElem?_getD, hj])
theorem fl_ne {α : Type} {enc : α → List XC} {s : Nat} [hE : FEnc enc s] {l : List α} (h : l ≠ []) : fl enc l ≠ [] := fun e => by
  have := fl_len (enc := enc) l
  rw [e] at this
  have hp := hE.pos
  cases l with
  | nil => exact h rfl
  | cons a l => simp only [List.length_cons, List.length_nil, Nat.add_mul] at this; omega
instance {e : TypeId} {a b : Bool} {l : List α} : FlatO (.cells (fl enc l) e a b) := flatO_of (fl_shut l)
instance {e : TypeId} {l : List α} : FlatO (slo e (fl enc l)) := slo_flat (fl_shut l)
instance {a : α} : FlatV (.agg (enc a)) := flatV_of (hE.shut a)
instance {a : α} {e : TypeId} {x y : Bool} : FlatO (.cells (enc a) e x y) := flatO_of (hE.shut a)

/-- An object that holds these values, if there are any. -/
structure ROL (o : XObj) (enc : α → List XC) (l : List α) : Prop where
  get : 0 < l.length → ∃ e opn ro, o = .cells (fl enc l) e opn ro
  flat : FlatO o

theorem sk_loadL [Inhabited α] {t : TypeId} {a : Operand} (ho : o.op = .load t a) [ht : TAggr P t] [hs' : TSize P t s] (hw : xwanted ops (rg al) o = some true) (hd : o.dst = some d) (hlt : Nat.blt d nt = true) {i off : Nat} (ha : xeval (rg al) a = .one (.ptr i off)) {e : TypeId} {q : List α} (hi : hs[i]? = some (slo e (fl enc q))) {j : Nat} (hj : off = j * s) (hc : j < q.length)
    (hk : SK P ops nt L l ((d, .agg (enc (q.getD j default))) :: al) hs fun bs => K (⟨false, some i, []⟩ :: bs)) : SK P ops nt L (o :: l) al hs K := by
  obtain ⟨h1, h2⟩ := fl_at (enc := enc) q j hc default
  subst hj
  exact sk_loada ho hw hd hlt ha (hi.trans (congrArg some (slo_pos (fl_ne (fun e => by rw [e] at hc; exact absurd hc (Nat.not_lt_zero _)))))) h1 h2 hk
theorem sk_loadLR [Inhabited α] {t : TypeId} {a : Operand} (ho : o.op = .load t a) [ht : TAggr P t] [hs' : TSize P t s] (hw : xwanted ops (rg al) o = some true) (hd : o.dst = some d) (hlt : Nat.blt d nt = true) {i off : Nat} (ha : xeval (rg al) a = .one (.ptr i off)) {ob : XObj} {q : List α} (hi : hs[i]? = some ob) (hro : ROL ob enc q) {j : Nat} (hj : off = j * s) (hc : j < q.length)
    (hk : SK P ops nt L l ((d, .agg (enc (q.getD j default))) :: al) hs fun bs => K (⟨false, some i, []⟩ :: bs)) : SK P ops nt L (o :: l) al hs K := by
  obtain ⟨h1, h2⟩ := fl_at (enc := enc) q j hc default
  obtain ⟨e, opn, ro, rfl⟩ := hro.get (by omega)
  subst hj
  exact sk_loada ho hw hd hlt ha hi h1 h2 hk
/-- A slice of one value. -/
theorem sk_bs1A {t e : TypeId} {y : Operand} {zs : List XC} (ho : o.op = .buildSlice t 1 #[(0, y)]) [hu : TUnd P t (.slice e)] [hz : TZero P e zs] [hse : TSize P e s] (hzl : zs.length = s) (hsm : s ≤ 16777216) (hw : xwanted ops (rg al) o = some true) (hd : o.dst = some d) (hlt : Nat.blt d nt = true) {a : α} (hy : xcells (xeval (rg al) y) = some (enc a)) {n : Nat} (hn : hs.length = n) (hb : Nat.blt n Mem.bound = true) {hs' : Heap} (hh : hs ++ [.cells (fl enc [a]) e false false] = hs')
    (hk : SK P ops nt L l ((d, .one (.slice n 0 1 (.exact 1))) :: al) hs' fun bs => K (⟨true, .none, [n]⟩ :: bs)) : SK P ops nt L (o :: l) al hs K := by
  subst hn hh
  refine SK.lift hd hlt (fun _ => ?_) hk
  intro m hm
  obtain ⟨m', h1, h2, h3⟩ := hm.push (.cells (fl enc [a]) e false false) (by simpa [Nat.blt_eq] using hb)
  refine ⟨m', ?_, h2, h3⟩
  unfold xdo
  rw [hw]
  refine xact_write (by rw [ho]; rfl) (by rw [ho]; rfl) (by rw [ho]; rfl) ?_
  rw [ho]
  have hp := hE.pos
  have hlen := hE.len a
  have hzz : (xzeros zs (1 * s)).length = s := by simp [xzeros]
  have hf : xfill (fun i => some (i * s, s)) (xzeros zs (1 * s)) [(0, xeval (rg al) y)] = some (fl enc [a]) := by
    simp only [xfill, hy, hlen, Nat.zero_mul]
    rw [if_pos ⟨trivial, by rw [hzz]; omega⟩, fl_one]
    simp only [List.take_zero, List.nil_append, Nat.zero_add]
    rw [List.drop_of_length_le (by rw [hzz]; omega), List.append_nil]
  simp only [xwrite, xbuildSlice, xslElem, hu.out, hse.out, hz.out, List.map_cons, List.map_nil, h1, hm.n, hf]
  rw [if_pos ⟨by omega, by omega⟩]
/-- 'append' to a list of values that grows. -/
theorem sk_apL {t t1 e e1 : TypeId} {a b : Operand} {zs : List XC} (ho : o.op = .call ⟨.builtin .append, #[a, b], #[t, t1]⟩) [hu : TUnd P t (.slice e)] [hu1 : TUnd P t1 (.slice e1)] [hz : TZero P e zs] [hI : TI P e s] (hzl : zs.length = s) (hw : xwanted ops (rg al) o = some true) (hd : o.dst = some d) (hlt : Nat.blt d nt = true)
    {i n j len : Nat} {cap : Cap} {q r : List α} {et : TypeId} {opn ro : Bool} (ha : xeval (rg al) a = slv i n s) (hi : hs[i]? = some (slo e (fl enc q))) (hb : xeval (rg al) b = .one (.slice j 0 len cap)) (hj : hs[j]? = some (.cells (fl enc r) et opn ro)) (hn : q.length = n) (hr : r.length = len) (hm : 0 < len ∧ n + len ≤ 2000000000)
    {N : Nat} (hN : hs.length = N) (hbd : Nat.blt N Mem.bound = true) {hs' : Heap} (hh : hs.set i .dead ++ [slo e (fl enc (q ++ r))] = hs')
    (hk : SK P ops nt L l ((d, slv N (n + len) s) :: al) hs' fun bs => K (⟨true, .none, [i, N]⟩ :: bs)) : SK P ops nt L (o :: l) al hs K := by
  have hne : fl enc (q ++ r) ≠ [] := fl_ne (fun h => by
    have : (q ++ r).length = 0 := by rw [h]; rfl
    rw [List.length_append] at this
    omega)
  rw [slv_pos (by omega)] at hk
  exact sk_apG ho hw hd hlt (sz := s) ⟨hzl, hE.pos⟩ ha hi (by rw [fl_len, hn]) (src_all hb hj (by rw [fl_len, hr])) ⟨hm.1, by omega⟩ hN hbd (by rw [← fl_append, ← slo_pos hne]; exact hh) hk
end

/-- 'm[k]' -/
theorem sk_look1 {α γ : Type} [DecidableEq α] {t : TypeId} {x ix : Operand} (ho : o.op = .lookup t x ix false) {kt et : TypeId} [hu : TUnd P t (.map kt et)] (hw : xwanted ops (rg al) o = some true) (hd : o.dst = some d) (hlt : Nat.blt d nt = true) {kc : α → X1} (hko : KeyOk P kt kc) {vc : γ → X1} {z : γ} (hz : xzeroV P et = some (vc z)) {i : Nat} (hx : xeval (rg al) x = .one (.map i)) {k : α} (hk : toX1 (xeval (rg al) ix) = some (kc k))
    {M : List (α × γ)} (hi : hs[i]? = some (.map (ents kc vc M))) (hn : SK P ops nt L l ((d, (vc ((mlook M k).getD z)).toV) :: al) hs fun bs => K (⟨false, some i, []⟩ :: bs)) : SK P ops nt L (o :: l) al hs K := by
  refine SK.lift hd hlt (fun _ => OpStep.lookup hw ho hu.out hx hk hi (v := (vc ((mlook M k).getD z)).toV) ?_) hn
  obtain ⟨ds, hu⟩ := hko.und
  unfold xlookIn
  rw [if_pos (hko.check k), hu, xfind_ents hko]
  unfold mlook
  cases h : locate k M with
  | none => simp [hz]
  | some q => simp
/-- The same of a map of booleans, both ways. -/
theorem sk_lookB {kk : IntKind} {t : TypeId} {x ix : Operand} (ho : o.op = .lookup t x ix false) {kt et : TypeId} [hu : TUnd P t (.map kt et)] [hku : TUnd P kt (.int kk)] (hz : xzeroV P et = some (.one (.bool false))) (hw : xwanted ops (rg al) o = some true) (hd : o.dst = some d) (hlt : Nat.blt d nt = true) {i : Nat} (hx : xeval (rg al) x = .one (.map i)) {z : Int} (hk : toX1 (xeval (rg al) ix) = some (.one (.int kk z)))
    {M : List (Int × Bool)} (hi : hs[i]? = some (.map (ents (kI kk) vB M))) (h1 : (mlook M z).getD false = true → SK P ops nt L l ((d, .one (.bool true)) :: al) hs fun bs => K (⟨false, some i, []⟩ :: bs)) (h2 : (mlook M z).getD false = false → SK P ops nt L l ((d, .one (.bool false)) :: al) hs fun bs => K (⟨false, some i, []⟩ :: bs)) : SK P ops nt L (o :: l) al hs K := by
  refine sk_look1 ho hw hd hlt (kc := kI kk) (vc := vB) (z := false) kI_ok hz hx hk hi ?_
  · cases h : (mlook M z).getD false with
    | true => exact h1 h
    | false => exact h2 h
end Go.Xm
