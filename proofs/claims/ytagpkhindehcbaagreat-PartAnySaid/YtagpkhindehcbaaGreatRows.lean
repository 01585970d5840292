/-
  No cell of these rows narrows 'for every input' (looked for: loops, veiled, ifaces, maps, wideKeys, modest, calm, conditions, laid).
  DERIVED. THE GIVEN ROWS OF THIS SEAT. 5 by the template 'for every input the law returns true; each argument reads behind the call as it read before'; 0 by the template 'total and deterministic' (their statements: YtagpkhindehcbaaGreatTotals.lean).
  GIVEN WITH THE SEED: the statements are not yours to turn. If you find one false, say at which input.
  Laid BY PROGRAM, IN A SANDBOX (cutbox-rows.mjs): the forced cells as the released guide's own fill.sh prints them over the translation 6e2f3386018bbe38… (all of the seat's roots in one cut). By AI agents, Wed Nov 11 2026. No macro, syntax, notation, axiom, sorry.
-/
import Derived.Test.YtagpkhindehcbaaGreatChecked
import GoSem.Claim
import GoSem.ClaimJoined
import GoSem.ClaimMapViews
import Derived.JoinedTies
import Derived.KernelRfl
namespace Go.Proofs.YtagpkhindehcbaaGreat
/- THE CELL 'sum', in the pinned program and in every row, IS THE sha256 OF THE DUMP (.gsa) THAT YtagpkhindehcbaaGreatProg.lean LOADS. Nothing in Lean hashes anything: it is a label: what it is worth is what the hold of that sum in a sandbox is worth. -/
noncomputable def Tryz.pinned : Pinned := { name := "ytagpkhindehcbaagreat", sum := "6e2f3386018bbe38dfe881e897d7baf0cb0eb6a18e16e40db8bdf5ec75e3b97a", checked := Tryz.checked }
namespace Rows
def none {H : Type} : Left H := { results := [], args := [] }

/-- 'kinescopelaw20.PartAlone': WHATEVER THE INPUT: true; the input reads as it did. -/
def partAloneSpec : ChangeSpec := { name := "partAlone", fn := fun _ => fun
  | [d1, d2, d3] => { results := [.lit (.bool true)], args := [d1, d2, d3] }
  | _ => none }
def partAloneRow : OpenClaim := { program := "ytagpkhindehcbaagreat", sum := "6e2f3386018bbe38dfe881e897d7baf0cb0eb6a18e16e40db8bdf5ec75e3b97a", func := "kinescope/kinescopelaw20.PartAlone", spec := "partAlone", unfollowed := true, recurses := true, apart := false }
def PartAloneSaid : Prop := partAloneRow.holds Tryz.pinned (OpenSpec.ofChange partAloneSpec)

/-- ITS FALSE NEIGHBOUR: 'it returns false'. Refute it at one input. -/
def partAloneWrong : ChangeSpec := { name := "partAlone", fn := fun _ => fun
  | [d1, d2, d3] => { results := [.lit (.bool false)], args := [d1, d2, d3] }
  | _ => none }
def PartAloneWrongFalsely : Prop := partAloneRow.holds Tryz.pinned (OpenSpec.ofChange partAloneWrong)

/-- 'kinescopelaw20.PartOutlines': WHATEVER THE INPUT: true; the input reads as it did. -/
def partOutlinesSpec : ChangeSpec := { name := "partOutlines", fn := fun _ => fun
  | [d] => { results := [.lit (.bool true)], args := [d] }
  | _ => none }
def partOutlinesRow : OpenClaim := { program := "ytagpkhindehcbaagreat", sum := "6e2f3386018bbe38dfe881e897d7baf0cb0eb6a18e16e40db8bdf5ec75e3b97a", func := "kinescope/kinescopelaw20.PartOutlines", spec := "partOutlines", unfollowed := true, recurses := true, apart := false }
def PartOutlinesSaid : Prop := partOutlinesRow.holds Tryz.pinned (OpenSpec.ofChange partOutlinesSpec)

/-- ITS FALSE NEIGHBOUR: 'it returns false'. Refute it at one input. -/
def partOutlinesWrong : ChangeSpec := { name := "partOutlines", fn := fun _ => fun
  | [d] => { results := [.lit (.bool false)], args := [d] }
  | _ => none }
def PartOutlinesWrongFalsely : Prop := partOutlinesRow.holds Tryz.pinned (OpenSpec.ofChange partOutlinesWrong)

/-- 'kinescopelaw20.PartAny': WHATEVER THE INPUT: true; the input reads as it did. -/
def partAnySpec : ChangeSpec := { name := "partAny", fn := fun _ => fun
  | [d1, d2, d3, d4, d5, d6] => { results := [.lit (.bool true)], args := [d1, d2, d3, d4, d5, d6] }
  | _ => none }
def partAnyRow : OpenClaim := { program := "ytagpkhindehcbaagreat", sum := "6e2f3386018bbe38dfe881e897d7baf0cb0eb6a18e16e40db8bdf5ec75e3b97a", func := "kinescope/kinescopelaw20.PartAny", spec := "partAny", unfollowed := true, recurses := true, apart := false }
def PartAnySaid : Prop := partAnyRow.holds Tryz.pinned (OpenSpec.ofChange partAnySpec)

/-- ITS FALSE NEIGHBOUR: 'it returns false'. Refute it at one input. -/
def partAnyWrong : ChangeSpec := { name := "partAny", fn := fun _ => fun
  | [d1, d2, d3, d4, d5, d6] => { results := [.lit (.bool false)], args := [d1, d2, d3, d4, d5, d6] }
  | _ => none }
def PartAnyWrongFalsely : Prop := partAnyRow.holds Tryz.pinned (OpenSpec.ofChange partAnyWrong)

/-- 'kinescopelaw20.PartBack': WHATEVER THE INPUT: true; the input reads as it did. -/
def partBackSpec : ChangeSpec := { name := "partBack", fn := fun _ => fun
  | [d] => { results := [.lit (.bool true)], args := [d] }
  | _ => none }
def partBackRow : OpenClaim := { program := "ytagpkhindehcbaagreat", sum := "6e2f3386018bbe38dfe881e897d7baf0cb0eb6a18e16e40db8bdf5ec75e3b97a", func := "kinescope/kinescopelaw20.PartBack", spec := "partBack", unfollowed := true, recurses := true, apart := false }
def PartBackSaid : Prop := partBackRow.holds Tryz.pinned (OpenSpec.ofChange partBackSpec)

/-- ITS FALSE NEIGHBOUR: 'it returns false'. Refute it at one input. -/
def partBackWrong : ChangeSpec := { name := "partBack", fn := fun _ => fun
  | [d] => { results := [.lit (.bool false)], args := [d] }
  | _ => none }
def PartBackWrongFalsely : Prop := partBackRow.holds Tryz.pinned (OpenSpec.ofChange partBackWrong)

/-- 'kinescopelaw20.PartTurned': WHATEVER THE INPUT: true; the input reads as it did. -/
def partTurnedSpec : ChangeSpec := { name := "partTurned", fn := fun _ => fun
  | [d1, d2, d3] => { results := [.lit (.bool true)], args := [d1, d2, d3] }
  | _ => none }
def partTurnedRow : OpenClaim := { program := "ytagpkhindehcbaagreat", sum := "6e2f3386018bbe38dfe881e897d7baf0cb0eb6a18e16e40db8bdf5ec75e3b97a", func := "kinescope/kinescopelaw20.PartTurned", spec := "partTurned", unfollowed := true, recurses := true, apart := false }
def PartTurnedSaid : Prop := partTurnedRow.holds Tryz.pinned (OpenSpec.ofChange partTurnedSpec)

/-- ITS FALSE NEIGHBOUR: 'it returns false'. Refute it at one input. -/
def partTurnedWrong : ChangeSpec := { name := "partTurned", fn := fun _ => fun
  | [d1, d2, d3] => { results := [.lit (.bool false)], args := [d1, d2, d3] }
  | _ => none }
def PartTurnedWrongFalsely : Prop := partTurnedRow.holds Tryz.pinned (OpenSpec.ofChange partTurnedWrong)

/- THE SECOND FORM. 'bulk': how many values and letters a reading holds, each counted each time it is reached (what is shared counts as often as it is met; a slice's spare places count too). A statement '..UptoSaid' is the law's where the arguments, and the package variables that the reading takes, are together of bulk at most 1048576: NARROWER than '..Said'. Prove '..Said' where nothing that the law and all that it calls make is longer than what came in: it says more and counts as full. Else prove '..UptoSaid'. A law counts once. -/
mutual
def uptoBulk {H : Type} : DataW H → Nat
  | .lit (.string bytes) => bytes.length + 1
  | .lit _ => 1
  | .nil => 1
  | .ptr d => uptoBulk d + 1
  | .slice elems spare => uptoBulkAll elems + uptoBulkAll spare + 1
  | .agg parts => uptoBulkAll parts + 1
  | .iface _ d => uptoBulk d + 1
  | .map entries => uptoBulkEntries entries + 1
  | .held _ => 1
def uptoBulkAll {H : Type} : List (DataW H) → Nat
  | [] => 0
  | d :: r => uptoBulk d + uptoBulkAll r
def uptoBulkEntries {H : Type} : List (Lit × DataW H) → Nat
  | [] => 0
  | x :: r => uptoBulkEntry x + uptoBulkEntries r
def uptoBulkEntry {H : Type} : Lit × DataW H → Nat
  | (.string bytes, d) => bytes.length + uptoBulk d + 1
  | (_, d) => uptoBulk d + 1
 end
def uptoSmall : (H : Type) → List (DataW H) → Bool := fun _ ds => decide (uptoBulkAll ds ≤ 1048576)
def OpenSpec.upto (s : _root_.Go.ChangeSpec) : _root_.Go.OpenSpec := { _root_.Go.OpenSpec.ofChange s with cond := some uptoSmall }

/-- 'kinescopelaw20.PartAlone', WHERE WHAT IT READS IS OF BULK AT MOST 1048576: true; the input reads as it did. -/
def partAloneUptoRow : OpenClaim := { program := "ytagpkhindehcbaagreat", sum := "6e2f3386018bbe38dfe881e897d7baf0cb0eb6a18e16e40db8bdf5ec75e3b97a", func := "kinescope/kinescopelaw20.PartAlone", spec := "partAlone", unfollowed := true, recurses := true, apart := false, narrowed := true }
def PartAloneUptoSaid : Prop := partAloneUptoRow.holds Tryz.pinned (OpenSpec.upto partAloneSpec)

/-- 'kinescopelaw20.PartOutlines', WHERE WHAT IT READS IS OF BULK AT MOST 1048576: true; the input reads as it did. -/
def partOutlinesUptoRow : OpenClaim := { program := "ytagpkhindehcbaagreat", sum := "6e2f3386018bbe38dfe881e897d7baf0cb0eb6a18e16e40db8bdf5ec75e3b97a", func := "kinescope/kinescopelaw20.PartOutlines", spec := "partOutlines", unfollowed := true, recurses := true, apart := false, narrowed := true }
def PartOutlinesUptoSaid : Prop := partOutlinesUptoRow.holds Tryz.pinned (OpenSpec.upto partOutlinesSpec)

/-- 'kinescopelaw20.PartAny', WHERE WHAT IT READS IS OF BULK AT MOST 1048576: true; the input reads as it did. -/
def partAnyUptoRow : OpenClaim := { program := "ytagpkhindehcbaagreat", sum := "6e2f3386018bbe38dfe881e897d7baf0cb0eb6a18e16e40db8bdf5ec75e3b97a", func := "kinescope/kinescopelaw20.PartAny", spec := "partAny", unfollowed := true, recurses := true, apart := false, narrowed := true }
def PartAnyUptoSaid : Prop := partAnyUptoRow.holds Tryz.pinned (OpenSpec.upto partAnySpec)

/-- 'kinescopelaw20.PartBack', WHERE WHAT IT READS IS OF BULK AT MOST 1048576: true; the input reads as it did. -/
def partBackUptoRow : OpenClaim := { program := "ytagpkhindehcbaagreat", sum := "6e2f3386018bbe38dfe881e897d7baf0cb0eb6a18e16e40db8bdf5ec75e3b97a", func := "kinescope/kinescopelaw20.PartBack", spec := "partBack", unfollowed := true, recurses := true, apart := false, narrowed := true }
def PartBackUptoSaid : Prop := partBackUptoRow.holds Tryz.pinned (OpenSpec.upto partBackSpec)

/-- 'kinescopelaw20.PartTurned', WHERE WHAT IT READS IS OF BULK AT MOST 1048576: true; the input reads as it did. -/
def partTurnedUptoRow : OpenClaim := { program := "ytagpkhindehcbaagreat", sum := "6e2f3386018bbe38dfe881e897d7baf0cb0eb6a18e16e40db8bdf5ec75e3b97a", func := "kinescope/kinescopelaw20.PartTurned", spec := "partTurned", unfollowed := true, recurses := true, apart := false, narrowed := true }
def PartTurnedUptoSaid : Prop := partTurnedUptoRow.holds Tryz.pinned (OpenSpec.upto partTurnedSpec)

end Rows
end Go.Proofs.YtagpkhindehcbaaGreat
