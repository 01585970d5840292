/-
  The second machine, as the kernel runs it: operations.
-/
import Derived.Test.YtaepmifmcohhgaaXmFast
namespace Go.Xm
set_option linter.unusedSectionVars false
variable [Atoms]
noncomputable section
variable {α : Type}

/-! ### Looking into values -/
def cBool (c : XC) (f : Bool → α) (d : α) : α := @XC.rec (fun _ => α) f (fun _ _ => d) (fun _ _ => d) (fun _ _ _ => d) (fun _ => d) d (fun _ _ => d) d (fun _ _ _ _ => d) d (fun _ => d) (fun _ => d) (fun _ _ _ _ => d) d d (fun _ => d) c
def cInt (c : XC) (f : IntKind → Int → α) (d : α) : α := @XC.rec (fun _ => α) (fun _ => d) f (fun _ _ => d) (fun _ _ _ => d) (fun _ => d) d (fun _ _ => d) d (fun _ _ _ _ => d) d (fun _ => d) (fun _ => d) (fun _ _ _ _ => d) d d (fun _ => d) c
def cPtr (c : XC) (f : Nat → Nat → α) (d : α) : α := @XC.rec (fun _ => α) (fun _ => d) (fun _ _ => d) (fun _ _ => d) (fun _ _ _ => d) (fun _ => d) d f d (fun _ _ _ _ => d) d (fun _ => d) (fun _ => d) (fun _ _ _ _ => d) d d (fun _ => d) c
def cSl (c : XC) (f : Nat → Nat → Nat → Cap → α) (d : α) : α := @XC.rec (fun _ => α) (fun _ => d) (fun _ _ => d) (fun _ _ => d) (fun _ _ _ => d) (fun _ => d) d (fun _ _ => d) d f d (fun _ => d) (fun _ => d) (fun _ _ _ _ => d) d d (fun _ => d) c
def vOne (v : XV) (f : XC → α) (d : α) : α := @XV.rec (fun _ => α) d f (fun _ => d) (fun _ => d) v

def vBool (v : XV) (f : Bool → α) (d : α) : α := vOne v (fun c => cBool c f d) d
def vInt (v : XV) (f : IntKind → Int → α) (d : α) : α := vOne v (fun c => cInt c f d) d
def vPtr (v : XV) (f : Nat → Nat → α) (d : α) : α := vOne v (fun c => cPtr c f d) d

theorem vBool_spec (v : XV) (f : Bool → α) (d : α) : (∃ b, v = .one (.bool b) ∧ vBool v f d = f b) ∨ ((∀ b, v ≠ .one (.bool b)) ∧ vBool v f d = d) := by
  cases v with
  | one c => cases c <;> first
    | exact .inl ⟨_, rfl, rfl⟩
    | exact .inr ⟨by simp, rfl⟩
  | _ => exact .inr ⟨by simp, rfl⟩
theorem vInt_spec (v : XV) (f : IntKind → Int → α) (d : α) : (∃ k n, v = .one (.int k n) ∧ vInt v f d = f k n) ∨ ((∀ k n, v ≠ .one (.int k n)) ∧ vInt v f d = d) := by
  cases v with
  | one c => cases c <;> first
    | exact .inl ⟨_, _, rfl, rfl⟩
    | exact .inr ⟨by simp, rfl⟩
  | _ => exact .inr ⟨by simp, rfl⟩
theorem vPtr_spec (v : XV) (f : Nat → Nat → α) (d : α) : (∃ i o, v = .one (.ptr i o) ∧ vPtr v f d = f i o) ∨ ((∀ i o, v ≠ .one (.ptr i o)) ∧ vPtr v f d = d) := by
  cases v with
  | one c => cases c <;> first
    | exact .inl ⟨_, _, rfl, rfl⟩
    | exact .inr ⟨by simp, rfl⟩
  | _ => exact .inr ⟨by simp, rfl⟩

def oCells (o : XObj) (f : List XC → TypeId → Bool → Bool → α) (d : α) : α := @XObj.rec (fun _ => α) d f (fun _ => d) o
theorem oCells_spec (o : XObj) (f : List XC → TypeId → Bool → Bool → α) (d : α) : (∃ vs e a b, o = .cells vs e a b ∧ oCells o f d = f vs e a b) ∨ ((∀ vs e a b, o ≠ .cells vs e a b) ∧ oCells o f d = d) := by
  cases o with
  | cells vs e a b => exact .inl ⟨_, _, _, _, rfl, rfl⟩
  | _ => exact .inr ⟨by simp, rfl⟩

def oSome {γ : Type} (x : Option γ) (f : γ → Option α) : Option α := @Option.rec γ (fun _ => Option α) .none f x
theorem oSome_eq {γ : Type} (x : Option γ) (f : γ → Option α) : oSome x f = x.bind f := by cases x <;> rfl

def yent (m : Mem) (i : Nat) : Ent := ytget Ent.none m.t i
theorem yent_eq (m : Mem) (i : Nat) : yent m i = m.ent i := ytget_eq _ _ _
def yobj (m : Mem) (i : Nat) : XObj := (yent m i).obj
theorem yobj_eq (m : Mem) (i : Nat) : yobj m i = m.get i := by unfold yobj Mem.get; rw [yent_eq]
def yput (m : Mem) (i : Nat) (o : XObj) : Mem := yif (Nat.blt i m.n) (yif (Nat.blt i Mem.bound) ⟨m.n, ytset Ent.none 31 m.t i ⟨Nat.add (yent m i).ver 1, o⟩⟩ m) m
theorem yput_eq (m : Mem) (i : Nat) (o : XObj) : yput m i o = m.put i o := by
  unfold yput Mem.put
  rw [yif_eq, yif_eq, ytset_eq, yent_eq]
  cases Nat.blt i m.n <;> cases Nat.blt i Mem.bound <;> rfl
def ypush (m : Mem) (o : XObj) : Option Mem := yif (Nat.blt m.n Mem.bound) (some ⟨Nat.add m.n 1, ytset Ent.none 31 m.t m.n ⟨1, o⟩⟩) .none
theorem ypush_eq (m : Mem) (o : XObj) : ypush m o = m.push o := by
  unfold ypush Mem.push
  rw [yif_eq, ytset_eq]
  simp only [Nat.blt_eq]

/-! ### Arithmetic -/
def ikn (k : IntKind) : Nat := @IntKind.rec (fun _ => Nat) 0 1 2 3 4 5 6 7 k
def ikeq (k k' : IntKind) : Bool := Nat.beq (ikn k) (ikn k')
theorem ikeq_eq (k k' : IntKind) : (ikeq k k' = true) = (k = k') := by cases k <;> cases k' <;> simp [ikeq, ikn]

def yw64 (n : Int) : Int := @Int.rec (fun _ => Int) (fun m => yif (Nat.blt m 9223372036854775808) (Int.ofNat m) (IntKind.wrap .i64 (Int.ofNat m))) (fun m => yif (Nat.blt m 9223372036854775808) (Int.negSucc m) (IntKind.wrap .i64 (Int.negSucc m))) n
def yw8 (n : Int) : Int := @Int.rec (fun _ => Int) (fun m => Int.ofNat (Nat.mod m 256)) (fun m => IntKind.wrap .u8 (Int.negSucc m)) n
def ywU (n : Int) : Int := @Int.rec (fun _ => Int) (fun m => Int.ofNat (Nat.mod m 18446744073709551616)) (fun m => IntKind.wrap .u64 (Int.negSucc m)) n
def ywrap (k : IntKind) : Int → Int := @IntKind.rec (fun _ => Int → Int) (IntKind.wrap .i8) (IntKind.wrap .i16) (IntKind.wrap .i32) yw64 yw8 (xwrap .u16) (xwrap .u32) ywU k
theorem ywrap_eq (k : IntKind) (n : Int) : ywrap k n = xwrap k n := by
  cases k
  · exact (xwrap_eq .i8 n).symm
  · exact (xwrap_eq .i16 n).symm
  · exact (xwrap_eq .i32 n).symm
  · cases n with
    | ofNat m => show yif _ _ _ = _; rw [yif_eq]; rfl
    | negSucc m => show yif _ _ _ = _; rw [yif_eq]; rfl
  · cases n <;> rfl
  · rfl
  · rfl
  · cases n <;> rfl

abbrev Ar : Type := IntKind → IntKind → Int → Int → Option XC
def arSlow (op : BinOp) : Ar := fun k k' a b => xbinInt op k k' a b
def arAdd : Ar := fun k k' a b => yif (ikeq k k') (some (.int k (ywrap k (yadd a b)))) .none
def arSub : Ar := fun k k' a b => yif (ikeq k k') (some (.int k (ywrap k (ysub a b)))) .none
def arLss : Ar := fun k k' a b => yif (ikeq k k') (some (.bool (ylt a b))) .none
def arGtr : Ar := fun k k' a b => yif (ikeq k k') (some (.bool (ylt b a))) .none
def arLeq : Ar := fun k k' a b => yif (ikeq k k') (some (.bool (Bool.not (ylt b a)))) .none
def arGeq : Ar := fun k k' a b => yif (ikeq k k') (some (.bool (Bool.not (ylt a b)))) .none
def arEql : Ar := fun k k' a b => yif (ikeq k k') (some (.bool (yieq a b))) .none
def arNeq : Ar := fun k k' a b => yif (ikeq k k') (some (.bool (Bool.not (yieq a b)))) .none
def ar (op : BinOp) : Ar := @BinOp.rec (fun _ => Ar) arAdd arSub (arSlow .mul) (arSlow .quo) (arSlow .rem) (arSlow .and) (arSlow .or) (arSlow .xor) (arSlow .shl) (arSlow .shr) (arSlow .andNot) arEql arNeq arLss arLeq arGtr arGeq op
theorem ar_eq (op : BinOp) (k k' : IntKind) (a b : Int) : ar op k k' a b = xbinInt op k k' a b := by
  have h : ∀ x : XC, yif (ikeq k k') (some x) .none = xsame k k' (some x) := fun x => by
    rw [yif_eq, xsame]
    simp only [ikeq_eq]
  cases op <;> first
    | rfl
    | (show yif _ _ _ = _
       rw [h]
       simp only [xbinInt, ywrap_eq, yadd_eq, ysub_eq, ylt_eq, yieq_eq])
  all_goals first
    | rfl
    | (congr 3; rw [← decide_not]; congr 1; simp)

/-! ### One operation -/
abbrev Act1 : Type := Orc → Program → T XV → Mem → Option Out
def qv (m : Mem) (x : XV) : Option Out := some ⟨x, m, false, .none⟩
def slow (op : Op) : Act1 := fun O P r m => xact O P (xeval (r.get .undef)) op m

def aMove (x : Operand) : Act1 := fun _ _ r m => some ⟨yev x r, m, false, .none⟩
def aPick (c a b : Operand) : Act1 := fun O P r m => vBool (yev c r) (fun t => some ⟨@Bool.rec (fun _ => XV) (yev b r) (yev a r) t, m, false, .none⟩) (slow (.pick c a b) O P r m)
def aBin (op : BinOp) (t : TypeId) (x y : Operand) (t' : TypeId) : Act1 := fun O P r m =>
  vInt (yev x r) (fun k a => vInt (yev y r) (fun k' b => @Option.rec XC (fun _ => Option Out) (slow (.binOp op t x y t') O P r m) (fun c => some ⟨.one c, m, false, .none⟩) (ar op k k' a b)) (slow (.binOp op t x y t') O P r m)) (slow (.binOp op t x y t') O P r m)

theorem xact_pure {O : Orc} {P : Program} {ρ : Operand → XV} {op : Op} {m : Mem} {x : XV} (h : xpure P ρ op = some x) : xact O P ρ op m = some ⟨x, m, false, .none⟩ := by
  unfold xact xpureO; rw [h]

theorem aMove_eq (x : Operand) (O : Orc) (P : Program) (r : T XV) (m : Mem) : aMove x O P r m = xact O P (xeval (r.get .undef)) (.move x) m := by
  rw [xact_pure (x := xeval (r.get .undef) x) rfl]
  show some _ = some _
  rw [yev_eq]
theorem aAssign_eq (x : Operand) (O : Orc) (P : Program) (r : T XV) (m : Mem) : aMove x O P r m = xact O P (xeval (r.get .undef)) (.assign x) m := by
  rw [xact_pure (x := xeval (r.get .undef) x) rfl]
  show some _ = some _
  rw [yev_eq]
theorem aPick_eq (c a b : Operand) (O : Orc) (P : Program) (r : T XV) (m : Mem) : aPick c a b O P r m = xact O P (xeval (r.get .undef)) (.pick c a b) m := by
  unfold aPick
  rcases vBool_spec (yev c r) (fun t => some (⟨@Bool.rec (fun _ => XV) (yev b r) (yev a r) t, m, false, .none⟩ : Out)) (slow (.pick c a b) O P r m) with ⟨t, h1, h2⟩ | ⟨h1, h2⟩
  · rw [h2]
    rw [yev_eq] at h1
    rw [xact_pure (x := if t then xeval (r.get .undef) a else xeval (r.get .undef) b) (by simp only [xpure, h1])]
    rw [yev_eq, yev_eq]
    cases t <;> rfl
  · rw [h2]; rfl
theorem aBin_eq (op : BinOp) (t : TypeId) (x y : Operand) (t' : TypeId) (O : Orc) (P : Program) (r : T XV) (m : Mem) : aBin op t x y t' O P r m = xact O P (xeval (r.get .undef)) (.binOp op t x y t') m := by
  unfold aBin
  rcases vInt_spec (yev x r) (fun k a => vInt (yev y r) (fun k' b => @Option.rec XC (fun _ => Option Out) (slow (.binOp op t x y t') O P r m) (fun c => some (⟨.one c, m, false, .none⟩ : Out)) (ar op k k' a b)) (slow (.binOp op t x y t') O P r m)) (slow (.binOp op t x y t') O P r m) with ⟨k, a, h1, h2⟩ | ⟨h1, h2⟩
  · rw [h2]
    rcases vInt_spec (yev y r) (fun k' b => @Option.rec XC (fun _ => Option Out) (slow (.binOp op t x y t') O P r m) (fun c => some (⟨.one c, m, false, .none⟩ : Out)) (ar op k k' a b)) (slow (.binOp op t x y t') O P r m) with ⟨k', b, h3, h4⟩ | ⟨h3, h4⟩
    · rw [h4, ar_eq]
      rw [yev_eq] at h1 h3
      cases hb : xbinInt op k k' a b with
      | some c => rw [xact_pure (x := .one c) (by simp only [xpure, xbin, h1, h3, hb, Option.map_some])]
      | none => rfl
    · rw [h4]; rfl
  · rw [h2]; rfl

end
end Go.Xm
