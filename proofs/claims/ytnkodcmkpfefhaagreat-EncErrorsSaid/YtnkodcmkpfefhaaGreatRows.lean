/-
  No cell of these rows narrows 'for every input' (looked for: loops, veiled, ifaces, maps, wideKeys, modest, calm, conditions, laid).
  DERIVED. THE GIVEN ROWS OF THIS SEAT. 4 by the template 'for every input the law returns true; each argument reads behind the call as it read before'; 0 by the template 'total and deterministic' (their statements: YtnkodcmkpfefhaaGreatTotals.lean).
  GIVEN WITH THE SEED: the statements are not yours to turn. If you find one false, say at which input.
  Laid BY PROGRAM, IN A SANDBOX (cutbox-rows.mjs): the forced cells as the released guide's own fill.sh prints them over the translation 4a6bc33a56025e97… (all of the seat's roots in one cut). By AI agents, Wed Nov 11 2026. No macro, syntax, notation, axiom, sorry.
-/
import Derived.Test.YtnkodcmkpfefhaaGreatChecked
import GoSem.Claim
import GoSem.ClaimJoined
import GoSem.ClaimMapViews
import Derived.JoinedTies
import Derived.KernelRfl
namespace Go.Proofs.YtnkodcmkpfefhaaGreat
/- THE CELL 'sum', in the pinned program and in every row, IS THE sha256 OF THE DUMP (.gsa) THAT YtnkodcmkpfefhaaGreatProg.lean LOADS. Nothing in Lean hashes anything: it is a label: what it is worth is what the hold of that sum in a sandbox is worth. -/
noncomputable def Tryz.pinned : Pinned := { name := "ytnkodcmkpfefhaagreat", sum := "4a6bc33a56025e97ce923839264aa635505162f791536194a981aacaa9060c98", checked := Tryz.checked }
namespace Rows
def none {H : Type} : Left H := { results := [], args := [] }

/-- 'kinescopelaw29.EncErrors': WHATEVER THE INPUT: true; the input reads as it did. -/
def encErrorsSpec : ChangeSpec := { name := "encErrors", fn := fun _ => fun
  | [d1, d2, d3, d4, d5, d6] => { results := [.lit (.bool true)], args := [d1, d2, d3, d4, d5, d6] }
  | _ => none }
def encErrorsRow : OpenClaim := { program := "ytnkodcmkpfefhaagreat", sum := "4a6bc33a56025e97ce923839264aa635505162f791536194a981aacaa9060c98", func := "kinescope/kinescopelaw29.EncErrors", spec := "encErrors", unfollowed := true, recurses := true, apart := false }
def EncErrorsSaid : Prop := encErrorsRow.holds Tryz.pinned (OpenSpec.ofChange encErrorsSpec)

/-- ITS FALSE NEIGHBOUR: 'it returns false'. Refute it at one input. -/
def encErrorsWrong : ChangeSpec := { name := "encErrors", fn := fun _ => fun
  | [d1, d2, d3, d4, d5, d6] => { results := [.lit (.bool false)], args := [d1, d2, d3, d4, d5, d6] }
  | _ => none }
def EncErrorsWrongFalsely : Prop := encErrorsRow.holds Tryz.pinned (OpenSpec.ofChange encErrorsWrong)

/-- 'kinescopelaw29.EncWays': WHATEVER THE INPUT: true; the input reads as it did. -/
def encWaysSpec : ChangeSpec := { name := "encWays", fn := fun _ => fun
  | [d1, d2] => { results := [.lit (.bool true)], args := [d1, d2] }
  | _ => none }
def encWaysRow : OpenClaim := { program := "ytnkodcmkpfefhaagreat", sum := "4a6bc33a56025e97ce923839264aa635505162f791536194a981aacaa9060c98", func := "kinescope/kinescopelaw29.EncWays", spec := "encWays", unfollowed := true, recurses := true, apart := false }
def EncWaysSaid : Prop := encWaysRow.holds Tryz.pinned (OpenSpec.ofChange encWaysSpec)

/-- ITS FALSE NEIGHBOUR: 'it returns false'. Refute it at one input. -/
def encWaysWrong : ChangeSpec := { name := "encWays", fn := fun _ => fun
  | [d1, d2] => { results := [.lit (.bool false)], args := [d1, d2] }
  | _ => none }
def EncWaysWrongFalsely : Prop := encWaysRow.holds Tryz.pinned (OpenSpec.ofChange encWaysWrong)

/-- 'kinescopelaw29.EncWaves': WHATEVER THE INPUT: true; the input reads as it did. -/
def encWavesSpec : ChangeSpec := { name := "encWaves", fn := fun _ => fun
  | [d1, d2] => { results := [.lit (.bool true)], args := [d1, d2] }
  | _ => none }
def encWavesRow : OpenClaim := { program := "ytnkodcmkpfefhaagreat", sum := "4a6bc33a56025e97ce923839264aa635505162f791536194a981aacaa9060c98", func := "kinescope/kinescopelaw29.EncWaves", spec := "encWaves", unfollowed := true, recurses := true, apart := false }
def EncWavesSaid : Prop := encWavesRow.holds Tryz.pinned (OpenSpec.ofChange encWavesSpec)

/-- ITS FALSE NEIGHBOUR: 'it returns false'. Refute it at one input. -/
def encWavesWrong : ChangeSpec := { name := "encWaves", fn := fun _ => fun
  | [d1, d2] => { results := [.lit (.bool false)], args := [d1, d2] }
  | _ => none }
def EncWavesWrongFalsely : Prop := encWavesRow.holds Tryz.pinned (OpenSpec.ofChange encWavesWrong)

/-- 'kinescopelaw29.EncMakes': WHATEVER THE INPUT: true; the input reads as it did. -/
def encMakesSpec : ChangeSpec := { name := "encMakes", fn := fun _ => fun
  | [d1, d2] => { results := [.lit (.bool true)], args := [d1, d2] }
  | _ => none }
def encMakesRow : OpenClaim := { program := "ytnkodcmkpfefhaagreat", sum := "4a6bc33a56025e97ce923839264aa635505162f791536194a981aacaa9060c98", func := "kinescope/kinescopelaw29.EncMakes", spec := "encMakes", unfollowed := true, recurses := true, apart := false }
def EncMakesSaid : Prop := encMakesRow.holds Tryz.pinned (OpenSpec.ofChange encMakesSpec)

/-- ITS FALSE NEIGHBOUR: 'it returns false'. Refute it at one input. -/
def encMakesWrong : ChangeSpec := { name := "encMakes", fn := fun _ => fun
  | [d1, d2] => { results := [.lit (.bool false)], args := [d1, d2] }
  | _ => none }
def EncMakesWrongFalsely : Prop := encMakesRow.holds Tryz.pinned (OpenSpec.ofChange encMakesWrong)

/- THE SECOND FORM. 'bulk': how many values and letters a reading holds, each counted each time it is reached (what is shared counts as often as it is met; a slice's spare places count too). A statement '..UptoSaid' is the law's where the arguments, and the package variables that the reading takes, are together of bulk at most 1048576: NARROWER than '..Said'. Prove '..Said' where nothing that the law and all that it calls make is longer than what came in: it says more and counts as full. Else prove '..UptoSaid'. A law counts once. -/
mutual
def uptoBulk {H : Type} : DataW H → Nat
  | .lit (.string bytes) => bytes.length + 1
  | .lit _ => 1
  | .nil => 1
  | .ptr d => uptoBulk d + 1
  | .slice elems spare => uptoBulkAll elems + uptoBulkAll spare + 1
  | .agg parts => uptoBulkAll parts + 1
  | .iface _ d => uptoBulk d + 1
  | .map entries => uptoBulkEntries entries + 1
  | .held _ => 1
def uptoBulkAll {H : Type} : List (DataW H) → Nat
  | [] => 0
  | d :: r => uptoBulk d + uptoBulkAll r
def uptoBulkEntries {H : Type} : List (Lit × DataW H) → Nat
  | [] => 0
  | x :: r => uptoBulkEntry x + uptoBulkEntries r
def uptoBulkEntry {H : Type} : Lit × DataW H → Nat
  | (.string bytes, d) => bytes.length + uptoBulk d + 1
  | (_, d) => uptoBulk d + 1
 end
def uptoSmall : (H : Type) → List (DataW H) → Bool := fun _ ds => decide (uptoBulkAll ds ≤ 1048576)
def OpenSpec.upto (s : _root_.Go.ChangeSpec) : _root_.Go.OpenSpec := { _root_.Go.OpenSpec.ofChange s with cond := some uptoSmall }

/-- 'kinescopelaw29.EncErrors', WHERE WHAT IT READS IS OF BULK AT MOST 1048576: true; the input reads as it did. -/
def encErrorsUptoRow : OpenClaim := { program := "ytnkodcmkpfefhaagreat", sum := "4a6bc33a56025e97ce923839264aa635505162f791536194a981aacaa9060c98", func := "kinescope/kinescopelaw29.EncErrors", spec := "encErrors", unfollowed := true, recurses := true, apart := false, narrowed := true }
def EncErrorsUptoSaid : Prop := encErrorsUptoRow.holds Tryz.pinned (OpenSpec.upto encErrorsSpec)

/-- 'kinescopelaw29.EncWays', WHERE WHAT IT READS IS OF BULK AT MOST 1048576: true; the input reads as it did. -/
def encWaysUptoRow : OpenClaim := { program := "ytnkodcmkpfefhaagreat", sum := "4a6bc33a56025e97ce923839264aa635505162f791536194a981aacaa9060c98", func := "kinescope/kinescopelaw29.EncWays", spec := "encWays", unfollowed := true, recurses := true, apart := false, narrowed := true }
def EncWaysUptoSaid : Prop := encWaysUptoRow.holds Tryz.pinned (OpenSpec.upto encWaysSpec)

/-- 'kinescopelaw29.EncWaves', WHERE WHAT IT READS IS OF BULK AT MOST 1048576: true; the input reads as it did. -/
def encWavesUptoRow : OpenClaim := { program := "ytnkodcmkpfefhaagreat", sum := "4a6bc33a56025e97ce923839264aa635505162f791536194a981aacaa9060c98", func := "kinescope/kinescopelaw29.EncWaves", spec := "encWaves", unfollowed := true, recurses := true, apart := false, narrowed := true }
def EncWavesUptoSaid : Prop := encWavesUptoRow.holds Tryz.pinned (OpenSpec.upto encWavesSpec)

/-- 'kinescopelaw29.EncMakes', WHERE WHAT IT READS IS OF BULK AT MOST 1048576: true; the input reads as it did. -/
def encMakesUptoRow : OpenClaim := { program := "ytnkodcmkpfefhaagreat", sum := "4a6bc33a56025e97ce923839264aa635505162f791536194a981aacaa9060c98", func := "kinescope/kinescopelaw29.EncMakes", spec := "encMakes", unfollowed := true, recurses := true, apart := false, narrowed := true }
def EncMakesUptoSaid : Prop := encMakesUptoRow.holds Tryz.pinned (OpenSpec.upto encMakesSpec)

end Rows
end Go.Proofs.YtnkodcmkpfefhaaGreat
