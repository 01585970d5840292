/-
  The second machine, as the kernel runs it: the same functions by their recursors, the operation first, so that nothing is laid out that is not run; each is one with the function that the laws are about.
-/
import Derived.Test.YtaepmifmcohhgaaXmCall
namespace Go.Xm
noncomputable section

/-! ### Lists, trees -/
section
variable {α : Type}
def yget (l : List α) (n : Nat) : Option α :=
  @List.rec α (fun _ => Nat → Option α) (fun _ => .none) (fun a _ ih n => @Nat.rec (fun _ => Option α) (some a) (fun k _ => ih k) n) l n
theorem yget_eq : ∀ (l : List α) (n : Nat), yget l n = l[n]?
  | [], n => rfl
  | a :: l, 0 => rfl
  | a :: l, n + 1 => by
    show yget l n = (a :: l)[n + 1]?
    rw [yget_eq l n]; rfl

def ydrop (n : Nat) (l : List α) : List α :=
  @List.rec α (fun _ => Nat → List α) (fun _ => []) (fun a t ih n => @Nat.rec (fun _ => List α) (a :: t) (fun k _ => ih k) n) l n
theorem ydrop_eq : ∀ (n : Nat) (l : List α), ydrop n l = l.drop n
  | n, [] => by show ([] : List α) = [].drop n; simp
  | 0, a :: l => rfl
  | n + 1, a :: l => by show ydrop n l = l.drop n; exact ydrop_eq n l

def ytake (n : Nat) (l : List α) : List α :=
  @List.rec α (fun _ => Nat → List α) (fun _ => []) (fun a _ ih n => @Nat.rec (fun _ => List α) [] (fun k _ => a :: ih k) n) l n
theorem ytake_eq : ∀ (n : Nat) (l : List α), ytake n l = l.take n
  | n, [] => by show ([] : List α) = [].take n; simp
  | 0, a :: l => rfl
  | n + 1, a :: l => by show a :: ytake n l = a :: l.take n; rw [ytake_eq n l]

def yapp (l k : List α) : List α := @List.rec α (fun _ => List α) k (fun a _ ih => a :: ih) l
theorem yapp_eq : ∀ (l k : List α), yapp l k = l ++ k
  | [], k => rfl
  | a :: l, k => by show a :: yapp l k = a :: (l ++ k); rw [yapp_eq l k]

def ylen (l : List α) : Nat := @List.rec α (fun _ => Nat) 0 (fun _ _ ih => Nat.add ih 1) l
theorem ylen_eq : ∀ (l : List α), ylen l = l.length
  | [] => rfl
  | a :: l => by show Nat.add (ylen l) 1 = l.length + 1; rw [ylen_eq l]

def ylset (l : List α) (n : Nat) (x : α) : List α :=
  @List.rec α (fun _ => Nat → List α) (fun _ => []) (fun a t ih n => @Nat.rec (fun _ => List α) (x :: t) (fun k _ => a :: ih k) n) l n
theorem ylset_eq : ∀ (l : List α) (n : Nat) (x : α), ylset l n x = l.set n x
  | [], n, x => by show ([] : List α) = [].set n x; simp
  | a :: l, 0, x => rfl
  | a :: l, n + 1, x => by show a :: ylset l n x = a :: l.set n x; rw [ylset_eq l n x]

def ytget (d : α) (t : T α) (n : Nat) : α :=
  @T.rec α (fun _ => Nat → α) (fun _ => d) (fun v _ _ ihl ihr n => @Nat.rec (fun _ => α) v (fun k _ => @Nat.rec (fun _ => α) (ihl (Nat.div k 2)) (fun _ _ => ihr (Nat.div k 2)) (Nat.mod k 2)) n) t n
theorem ytget_eq (d : α) : ∀ (t : T α) (n : Nat), ytget d t n = t.get d n
  | .leaf, n => by rw [T.get_leaf]; rfl
  | .node v l r, 0 => rfl
  | .node v l r, n + 1 => by
    rw [T.get_succ]
    show @Nat.rec (fun _ => α) (ytget d l (n / 2)) (fun _ _ => ytget d r (n / 2)) (n % 2) = _
    rw [ytget_eq d l, ytget_eq d r]
    rcases Nat.mod_two_eq_zero_or_one n with h | h <;> rw [h] <;> rfl

def ytset (d : α) (f : Nat) (t : T α) (n : Nat) (x : α) : T α :=
  @Nat.rec (fun _ => T α → Nat → T α) (fun t _ => t) (fun _ ih t n =>
    @T.rec α (fun _ => T α)
      (@Nat.rec (fun _ => T α) (.node x .leaf .leaf) (fun k _ => @Nat.rec (fun _ => T α) (.node d (ih .leaf (Nat.div k 2)) .leaf) (fun _ _ => .node d .leaf (ih .leaf (Nat.div k 2))) (Nat.mod k 2)) n)
      (fun v l r _ _ => @Nat.rec (fun _ => T α) (.node x l r) (fun k _ => @Nat.rec (fun _ => T α) (.node v (ih l (Nat.div k 2)) r) (fun _ _ => .node v l (ih r (Nat.div k 2))) (Nat.mod k 2)) n) t) f t n
theorem ytset_eq (d : α) (x : α) : ∀ (f : Nat) (t : T α) (n : Nat), ytset d f t n x = T.set d f t n x
  | 0, t, n => by cases t <;> rfl
  | f + 1, .leaf, 0 => rfl
  | f + 1, .leaf, n + 1 => by
    rw [T.set_leaf_succ]
    show @Nat.rec (fun _ => T α) (T.node d (ytset d f .leaf (n / 2) x) .leaf) (fun _ _ => T.node d .leaf (ytset d f .leaf (n / 2) x)) (n % 2) = _
    rw [ytset_eq d x f]
    rcases Nat.mod_two_eq_zero_or_one n with h | h <;> rw [h] <;> rfl
  | f + 1, .node v l r, 0 => rfl
  | f + 1, .node v l r, n + 1 => by
    rw [T.set_node_succ]
    show @Nat.rec (fun _ => T α) (T.node v (ytset d f l (n / 2) x) r) (fun _ _ => T.node v l (ytset d f r (n / 2) x)) (n % 2) = _
    rw [ytset_eq d x f, ytset_eq d x f]
    rcases Nat.mod_two_eq_zero_or_one n with h | h <;> rw [h] <;> rfl
end

def yif {α : Type} (b : Bool) (x y : α) : α := @Bool.rec (fun _ => α) y x b
theorem yif_eq {α : Type} (b : Bool) (x y : α) : yif b x y = if b = true then x else y := by cases b <;> rfl

/-! ### Registers, operands -/

def yconst (v : Value) : XV := match ofCell v with
  | some c => .one c
  | .none => .undef
def yevTmp (t : Nat) (r : T XV) : XV := ytget .undef r t
def yevConst (v : Value) (_ : T XV) : XV := yconst v
def yevGlobal (_ : Nat) (_ : T XV) : XV := .undef
def yevFunc (f : FuncId) (_ : T XV) : XV := .one (.fn f)
def yev (x : Operand) : T XV → XV := @Operand.rec (fun _ => T XV → XV) yevTmp yevConst yevGlobal yevFunc x
theorem yev_eq (x : Operand) (r : T XV) : yev x r = xeval (r.get .undef) x := by
  cases x with
  | tmp t => exact ytget_eq _ _ _
  | const v => rfl
  | global g => rfl
  | func f => rfl

def ysetSome (d : Nat) (nt : Nat) (r : T XV) (v : XV) : T XV := yif (Nat.blt d nt) (ytset .undef 31 r d v) r
def ysetNone (_ : Nat) (r : T XV) (_ : XV) : T XV := r
def yset (d : Option Nat) : Nat → T XV → XV → T XV := @Option.rec Nat (fun _ => Nat → T XV → XV → T XV) ysetNone ysetSome d
theorem yset_eq (nt : Nat) (r : T XV) (d : Option Nat) (v : XV) : yset d nt r v = xset nt r d v := by
  cases d with
  | none => rfl
  | some d =>
    show yif (Nat.blt d nt) (ytset .undef 31 r d v) r = if d < nt then T.set .undef 31 r d v else r
    rw [yif_eq, ytset_eq]
    simp [Nat.blt_eq]

/-! ### Integers -/

def yneg (n : Nat) : Int := @Nat.rec (fun _ => Int) (Int.ofNat 0) (fun k _ => Int.negSucc k) n
theorem yneg_eq (n : Nat) : yneg n = -(n : Int) := by cases n <;> rfl
def ysubNat (m n : Nat) : Int := yif (Nat.ble n m) (Int.ofNat (Nat.sub m n)) (yneg (Nat.sub n m))
theorem ysubNat_eq (m n : Nat) : ysubNat m n = (m : Int) - n := by
  unfold ysubNat
  rw [yif_eq]
  split
  · rename_i h
    have : n ≤ m := Nat.le_of_ble_eq_true h
    show ((m - n : Nat) : Int) = _
    omega
  · rename_i h
    have : ¬ n ≤ m := fun h' => h (Nat.ble_eq_true_of_le h')
    rw [yneg_eq]
    show -((n - m : Nat) : Int) = _
    omega
def yadd (a b : Int) : Int :=
  @Int.rec (fun _ => Int) (fun m => @Int.rec (fun _ => Int) (fun n => Int.ofNat (Nat.add m n)) (fun n => ysubNat m (Nat.succ n)) b) (fun m => @Int.rec (fun _ => Int) (fun n => ysubNat n (Nat.succ m)) (fun n => Int.negSucc (Nat.succ (Nat.add m n))) b) a
theorem yadd_eq (a b : Int) : yadd a b = a + b := by
  cases a with
  | ofNat m => cases b with
    | ofNat n => rfl
    | negSucc n =>
      show ysubNat m (n + 1) = _
      rw [ysubNat_eq, Int.negSucc_eq]
      show (m : Int) - ((n + 1 : Nat) : Int) = (m : Int) + _
      omega
  | negSucc m => cases b with
    | ofNat n =>
      show ysubNat n (m + 1) = _
      rw [ysubNat_eq, Int.negSucc_eq]
      show (n : Int) - ((m + 1 : Nat) : Int) = _ + (n : Int)
      omega
    | negSucc n => rfl
def ynegI (a : Int) : Int := @Int.rec (fun _ => Int) (fun m => yneg m) (fun m => Int.ofNat (Nat.succ m)) a
theorem ynegI_eq (a : Int) : ynegI a = -a := by cases a with
  | ofNat m => exact yneg_eq m
  | negSucc m => rfl
def ysub (a b : Int) : Int := yadd a (ynegI b)
theorem ysub_eq (a b : Int) : ysub a b = a - b := by unfold ysub; rw [yadd_eq, ynegI_eq]; omega
/-- a < b -/
def ylt (a b : Int) : Bool :=
  @Int.rec (fun _ => Bool) (fun m => @Int.rec (fun _ => Bool) (fun n => Nat.blt m n) (fun _ => false) b) (fun m => @Int.rec (fun _ => Bool) (fun _ => true) (fun n => Nat.blt n m) b) a
theorem ylt_eq (a b : Int) : ylt a b = decide (a < b) := by
  cases a with
  | ofNat m => cases b with
    | ofNat n =>
      show Nat.blt m n = _
      rw [Bool.eq_iff_iff]
      simp [Nat.blt_eq]
    | negSucc n =>
      show false = _
      symm
      rw [decide_eq_false_iff_not]
      have : (0 : Int) ≤ Int.ofNat m := Int.natCast_nonneg m
      omega
  | negSucc m => cases b with
    | ofNat n =>
      show true = _
      symm
      rw [decide_eq_true_iff]
      have : (0 : Int) ≤ Int.ofNat n := Int.natCast_nonneg n
      omega
    | negSucc n =>
      show Nat.blt n m = _
      rw [Bool.eq_iff_iff]
      simp [Nat.blt_eq]
      omega
def yieq (a b : Int) : Bool :=
  @Int.rec (fun _ => Bool) (fun m => @Int.rec (fun _ => Bool) (fun n => Nat.beq m n) (fun _ => false) b) (fun m => @Int.rec (fun _ => Bool) (fun _ => false) (fun n => Nat.beq m n) b) a
theorem yieq_eq (a b : Int) : yieq a b = (a == b) := by
  rw [Bool.eq_iff_iff, beq_iff_eq]
  cases a with
  | ofNat m => cases b with
    | ofNat n => show Nat.beq m n = true ↔ _; rw [Nat.beq_eq]; exact ⟨fun h => by rw [h], fun h => Int.ofNat.inj h⟩
    | negSucc n => show false = true ↔ _; simp
  | negSucc m => cases b with
    | ofNat n => show false = true ↔ _; simp
    | negSucc n => show Nat.beq m n = true ↔ _; simp

end
end Go.Xm
