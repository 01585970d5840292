/-
  No cell of these rows narrows 'for every input' (looked for: loops, veiled, ifaces, maps, wideKeys, modest, calm, conditions, laid).
  DERIVED. THE GIVEN ROWS OF THIS SEAT. 6 by the template 'for every input the law returns true; each argument reads behind the call as it read before'; 0 by the template 'total and deterministic' (their statements: YthdciapjllppjaaGreatTotals.lean).
  GIVEN WITH THE SEED: the statements are not yours to turn. If you find one false, say at which input.
  Laid BY PROGRAM, IN A SANDBOX (cutbox-rows.mjs): the forced cells as the released guide's own fill.sh prints them over the translation 4c6c8dae97637d2f… (all of the seat's roots in one cut). By AI agents, Wed Nov 11 2026. No macro, syntax, notation, axiom, sorry.
-/
import Derived.Test.YthdciapjllppjaaGreatChecked
import GoSem.Claim
import GoSem.ClaimJoined
import GoSem.ClaimMapViews
import Derived.JoinedTies
import Derived.KernelRfl
namespace Go.Proofs.YthdciapjllppjaaGreat
/- THE CELL 'sum', in the pinned program and in every row, IS THE sha256 OF THE DUMP (.gsa) THAT YthdciapjllppjaaGreatProg.lean LOADS. Nothing in Lean hashes anything: it is a label: what it is worth is what the hold of that sum in a sandbox is worth. -/
noncomputable def Tryz.pinned : Pinned := { name := "ythdciapjllppjaagreat", sum := "4c6c8dae97637d2f9b8aa36dd59ab8c4d7a83921a540719110609d03d66d5e83", checked := Tryz.checked }
namespace Rows
def none {H : Type} : Left H := { results := [], args := [] }

/-- 'kinescopelaw23.WalkStreams': WHATEVER THE INPUT: true; the input reads as it did. -/
def walkStreamsSpec : ChangeSpec := { name := "walkStreams", fn := fun _ => fun
  | [d1, d2, d3, d4] => { results := [.lit (.bool true)], args := [d1, d2, d3, d4] }
  | _ => none }
def walkStreamsRow : OpenClaim := { program := "ythdciapjllppjaagreat", sum := "4c6c8dae97637d2f9b8aa36dd59ab8c4d7a83921a540719110609d03d66d5e83", func := "kinescope/kinescopelaw23.WalkStreams", spec := "walkStreams", unfollowed := true, recurses := true, apart := false }
def WalkStreamsSaid : Prop := walkStreamsRow.holds Tryz.pinned (OpenSpec.ofChange walkStreamsSpec)

/-- ITS FALSE NEIGHBOUR: 'it returns false'. Refute it at one input. -/
def walkStreamsWrong : ChangeSpec := { name := "walkStreams", fn := fun _ => fun
  | [d1, d2, d3, d4] => { results := [.lit (.bool false)], args := [d1, d2, d3, d4] }
  | _ => none }
def WalkStreamsWrongFalsely : Prop := walkStreamsRow.holds Tryz.pinned (OpenSpec.ofChange walkStreamsWrong)

/-- 'kinescopelaw23.WalkAny': WHATEVER THE INPUT: true; the input reads as it did. -/
def walkAnySpec : ChangeSpec := { name := "walkAny", fn := fun _ => fun
  | [d1, d2, d3] => { results := [.lit (.bool true)], args := [d1, d2, d3] }
  | _ => none }
def walkAnyRow : OpenClaim := { program := "ythdciapjllppjaagreat", sum := "4c6c8dae97637d2f9b8aa36dd59ab8c4d7a83921a540719110609d03d66d5e83", func := "kinescope/kinescopelaw23.WalkAny", spec := "walkAny", unfollowed := true, recurses := true, apart := false }
def WalkAnySaid : Prop := walkAnyRow.holds Tryz.pinned (OpenSpec.ofChange walkAnySpec)

/-- ITS FALSE NEIGHBOUR: 'it returns false'. Refute it at one input. -/
def walkAnyWrong : ChangeSpec := { name := "walkAny", fn := fun _ => fun
  | [d1, d2, d3] => { results := [.lit (.bool false)], args := [d1, d2, d3] }
  | _ => none }
def WalkAnyWrongFalsely : Prop := walkAnyRow.holds Tryz.pinned (OpenSpec.ofChange walkAnyWrong)

/-- 'kinescopelaw23.WalkTwice': WHATEVER THE INPUT: true; the input reads as it did. -/
def walkTwiceSpec : ChangeSpec := { name := "walkTwice", fn := fun _ => fun
  | [d] => { results := [.lit (.bool true)], args := [d] }
  | _ => none }
def walkTwiceRow : OpenClaim := { program := "ythdciapjllppjaagreat", sum := "4c6c8dae97637d2f9b8aa36dd59ab8c4d7a83921a540719110609d03d66d5e83", func := "kinescope/kinescopelaw23.WalkTwice", spec := "walkTwice", unfollowed := true, recurses := true, apart := false }
def WalkTwiceSaid : Prop := walkTwiceRow.holds Tryz.pinned (OpenSpec.ofChange walkTwiceSpec)

/-- ITS FALSE NEIGHBOUR: 'it returns false'. Refute it at one input. -/
def walkTwiceWrong : ChangeSpec := { name := "walkTwice", fn := fun _ => fun
  | [d] => { results := [.lit (.bool false)], args := [d] }
  | _ => none }
def WalkTwiceWrongFalsely : Prop := walkTwiceRow.holds Tryz.pinned (OpenSpec.ofChange walkTwiceWrong)

/-- 'kinescopelaw30.FateCloses': WHATEVER THE INPUT: true; the input reads as it did. -/
def fateClosesSpec : ChangeSpec := { name := "fateCloses", fn := fun _ => fun
  | [d1, d2] => { results := [.lit (.bool true)], args := [d1, d2] }
  | _ => none }
def fateClosesRow : OpenClaim := { program := "ythdciapjllppjaagreat", sum := "4c6c8dae97637d2f9b8aa36dd59ab8c4d7a83921a540719110609d03d66d5e83", func := "kinescope/kinescopelaw30.FateCloses", spec := "fateCloses", unfollowed := true, recurses := true, apart := false }
def FateClosesSaid : Prop := fateClosesRow.holds Tryz.pinned (OpenSpec.ofChange fateClosesSpec)

/-- ITS FALSE NEIGHBOUR: 'it returns false'. Refute it at one input. -/
def fateClosesWrong : ChangeSpec := { name := "fateCloses", fn := fun _ => fun
  | [d1, d2] => { results := [.lit (.bool false)], args := [d1, d2] }
  | _ => none }
def FateClosesWrongFalsely : Prop := fateClosesRow.holds Tryz.pinned (OpenSpec.ofChange fateClosesWrong)

/-- 'kinescopelaw30.FateApplies': WHATEVER THE INPUT: true; the input reads as it did. -/
def fateAppliesSpec : ChangeSpec := { name := "fateApplies", fn := fun _ => fun
  | [d1, d2] => { results := [.lit (.bool true)], args := [d1, d2] }
  | _ => none }
def fateAppliesRow : OpenClaim := { program := "ythdciapjllppjaagreat", sum := "4c6c8dae97637d2f9b8aa36dd59ab8c4d7a83921a540719110609d03d66d5e83", func := "kinescope/kinescopelaw30.FateApplies", spec := "fateApplies", unfollowed := true, recurses := true, apart := false }
def FateAppliesSaid : Prop := fateAppliesRow.holds Tryz.pinned (OpenSpec.ofChange fateAppliesSpec)

/-- ITS FALSE NEIGHBOUR: 'it returns false'. Refute it at one input. -/
def fateAppliesWrong : ChangeSpec := { name := "fateApplies", fn := fun _ => fun
  | [d1, d2] => { results := [.lit (.bool false)], args := [d1, d2] }
  | _ => none }
def FateAppliesWrongFalsely : Prop := fateAppliesRow.holds Tryz.pinned (OpenSpec.ofChange fateAppliesWrong)

/-- 'kinescopelaw30.FateTurns': WHATEVER THE INPUT: true; the input reads as it did. -/
def fateTurnsSpec : ChangeSpec := { name := "fateTurns", fn := fun _ => fun
  | [d1, d2] => { results := [.lit (.bool true)], args := [d1, d2] }
  | _ => none }
def fateTurnsRow : OpenClaim := { program := "ythdciapjllppjaagreat", sum := "4c6c8dae97637d2f9b8aa36dd59ab8c4d7a83921a540719110609d03d66d5e83", func := "kinescope/kinescopelaw30.FateTurns", spec := "fateTurns", unfollowed := true, recurses := true, apart := false }
def FateTurnsSaid : Prop := fateTurnsRow.holds Tryz.pinned (OpenSpec.ofChange fateTurnsSpec)

/-- ITS FALSE NEIGHBOUR: 'it returns false'. Refute it at one input. -/
def fateTurnsWrong : ChangeSpec := { name := "fateTurns", fn := fun _ => fun
  | [d1, d2] => { results := [.lit (.bool false)], args := [d1, d2] }
  | _ => none }
def FateTurnsWrongFalsely : Prop := fateTurnsRow.holds Tryz.pinned (OpenSpec.ofChange fateTurnsWrong)

/- THE SECOND FORM. 'bulk': how many values and letters a reading holds, each counted each time it is reached (what is shared counts as often as it is met; a slice's spare places count too). A statement '..UptoSaid' is the law's where the arguments, and the package variables that the reading takes, are together of bulk at most 1048576: NARROWER than '..Said'. Prove '..Said' where nothing that the law and all that it calls make is longer than what came in: it says more and counts as full. Else prove '..UptoSaid'. A law counts once. -/
mutual
def uptoBulk {H : Type} : DataW H → Nat
  | .lit (.string bytes) => bytes.length + 1
  | .lit _ => 1
  | .nil => 1
  | .ptr d => uptoBulk d + 1
  | .slice elems spare => uptoBulkAll elems + uptoBulkAll spare + 1
  | .agg parts => uptoBulkAll parts + 1
  | .iface _ d => uptoBulk d + 1
  | .map entries => uptoBulkEntries entries + 1
  | .held _ => 1
def uptoBulkAll {H : Type} : List (DataW H) → Nat
  | [] => 0
  | d :: r => uptoBulk d + uptoBulkAll r
def uptoBulkEntries {H : Type} : List (Lit × DataW H) → Nat
  | [] => 0
  | x :: r => uptoBulkEntry x + uptoBulkEntries r
def uptoBulkEntry {H : Type} : Lit × DataW H → Nat
  | (.string bytes, d) => bytes.length + uptoBulk d + 1
  | (_, d) => uptoBulk d + 1
 end
def uptoSmall : (H : Type) → List (DataW H) → Bool := fun _ ds => decide (uptoBulkAll ds ≤ 1048576)
def OpenSpec.upto (s : _root_.Go.ChangeSpec) : _root_.Go.OpenSpec := { _root_.Go.OpenSpec.ofChange s with cond := some uptoSmall }

/-- 'kinescopelaw23.WalkStreams', WHERE WHAT IT READS IS OF BULK AT MOST 1048576: true; the input reads as it did. -/
def walkStreamsUptoRow : OpenClaim := { program := "ythdciapjllppjaagreat", sum := "4c6c8dae97637d2f9b8aa36dd59ab8c4d7a83921a540719110609d03d66d5e83", func := "kinescope/kinescopelaw23.WalkStreams", spec := "walkStreams", unfollowed := true, recurses := true, apart := false, narrowed := true }
def WalkStreamsUptoSaid : Prop := walkStreamsUptoRow.holds Tryz.pinned (OpenSpec.upto walkStreamsSpec)

/-- 'kinescopelaw23.WalkAny', WHERE WHAT IT READS IS OF BULK AT MOST 1048576: true; the input reads as it did. -/
def walkAnyUptoRow : OpenClaim := { program := "ythdciapjllppjaagreat", sum := "4c6c8dae97637d2f9b8aa36dd59ab8c4d7a83921a540719110609d03d66d5e83", func := "kinescope/kinescopelaw23.WalkAny", spec := "walkAny", unfollowed := true, recurses := true, apart := false, narrowed := true }
def WalkAnyUptoSaid : Prop := walkAnyUptoRow.holds Tryz.pinned (OpenSpec.upto walkAnySpec)

/-- 'kinescopelaw23.WalkTwice', WHERE WHAT IT READS IS OF BULK AT MOST 1048576: true; the input reads as it did. -/
def walkTwiceUptoRow : OpenClaim := { program := "ythdciapjllppjaagreat", sum := "4c6c8dae97637d2f9b8aa36dd59ab8c4d7a83921a540719110609d03d66d5e83", func := "kinescope/kinescopelaw23.WalkTwice", spec := "walkTwice", unfollowed := true, recurses := true, apart := false, narrowed := true }
def WalkTwiceUptoSaid : Prop := walkTwiceUptoRow.holds Tryz.pinned (OpenSpec.upto walkTwiceSpec)

/-- 'kinescopelaw30.FateCloses', WHERE WHAT IT READS IS OF BULK AT MOST 1048576: true; the input reads as it did. -/
def fateClosesUptoRow : OpenClaim := { program := "ythdciapjllppjaagreat", sum := "4c6c8dae97637d2f9b8aa36dd59ab8c4d7a83921a540719110609d03d66d5e83", func := "kinescope/kinescopelaw30.FateCloses", spec := "fateCloses", unfollowed := true, recurses := true, apart := false, narrowed := true }
def FateClosesUptoSaid : Prop := fateClosesUptoRow.holds Tryz.pinned (OpenSpec.upto fateClosesSpec)

/-- 'kinescopelaw30.FateApplies', WHERE WHAT IT READS IS OF BULK AT MOST 1048576: true; the input reads as it did. -/
def fateAppliesUptoRow : OpenClaim := { program := "ythdciapjllppjaagreat", sum := "4c6c8dae97637d2f9b8aa36dd59ab8c4d7a83921a540719110609d03d66d5e83", func := "kinescope/kinescopelaw30.FateApplies", spec := "fateApplies", unfollowed := true, recurses := true, apart := false, narrowed := true }
def FateAppliesUptoSaid : Prop := fateAppliesUptoRow.holds Tryz.pinned (OpenSpec.upto fateAppliesSpec)

/-- 'kinescopelaw30.FateTurns', WHERE WHAT IT READS IS OF BULK AT MOST 1048576: true; the input reads as it did. -/
def fateTurnsUptoRow : OpenClaim := { program := "ythdciapjllppjaagreat", sum := "4c6c8dae97637d2f9b8aa36dd59ab8c4d7a83921a540719110609d03d66d5e83", func := "kinescope/kinescopelaw30.FateTurns", spec := "fateTurns", unfollowed := true, recurses := true, apart := false, narrowed := true }
def FateTurnsUptoSaid : Prop := fateTurnsUptoRow.holds Tryz.pinned (OpenSpec.upto fateTurnsSpec)

end Rows
end Go.Proofs.YthdciapjllppjaaGreat
