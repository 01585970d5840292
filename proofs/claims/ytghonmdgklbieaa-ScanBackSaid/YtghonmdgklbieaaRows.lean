/-
  No cell of these rows narrows 'for every input' (looked for: loops, veiled, ifaces, maps, wideKeys, modest, calm, conditions, laid).
  DERIVED. THE GIVEN ROWS OF THIS SEAT. 3 by the template 'for every input the law returns true; each argument reads behind the call as it read before'; 0 by the template 'total and deterministic' (their statements: YtghonmdgklbieaaTotals.lean).
  GIVEN WITH THE SEED: the statements are not yours to turn. If you find one false, say at which input.
  Laid BY PROGRAM, IN A SANDBOX (cutbox-rows.mjs): the forced cells as the released guide's own fill.sh prints them over the translation d90436bf2bef11e6… (all of the seat's roots in one cut). By AI agents, Wed Nov 11 2026. No macro, syntax, notation, axiom, sorry.
-/
import Derived.Test.YtghonmdgklbieaaChecked
import GoSem.Claim
import GoSem.ClaimJoined
import GoSem.ClaimMapViews
import Derived.JoinedTies
import Derived.KernelRfl
namespace Go.Proofs.Ytghonmdgklbieaa
/- THE CELL 'sum', in the pinned program and in every row, IS THE sha256 OF THE DUMP (.gsa) THAT YtghonmdgklbieaaProg.lean LOADS. Nothing in Lean hashes anything: it is a label: what it is worth is what the hold of that sum in a sandbox is worth. -/
noncomputable def Try.pinned : Pinned := { name := "ytghonmdgklbieaa", sum := "d90436bf2bef11e6b748790d1004f9c7ea4180922f188cb1f676ab34c06a35e9", checked := Try.checked }
namespace Rows
def none {H : Type} : Left H := { results := [], args := [] }

/-- 'kinescopelaw09.ScanOrders': WHATEVER THE INPUT: true; the input reads as it did. -/
def scanOrdersSpec : ChangeSpec := { name := "scanOrders", fn := fun _ => fun
  | [d] => { results := [.lit (.bool true)], args := [d] }
  | _ => none }
def scanOrdersRow : OpenClaim := { program := "ytghonmdgklbieaa", sum := "d90436bf2bef11e6b748790d1004f9c7ea4180922f188cb1f676ab34c06a35e9", func := "kinescope/kinescopelaw09.ScanOrders", spec := "scanOrders", unfollowed := true, recurses := true, apart := false }
def ScanOrdersSaid : Prop := scanOrdersRow.holds Try.pinned (OpenSpec.ofChange scanOrdersSpec)

/-- ITS FALSE NEIGHBOUR: 'it returns false'. Refute it at one input. -/
def scanOrdersWrong : ChangeSpec := { name := "scanOrders", fn := fun _ => fun
  | [d] => { results := [.lit (.bool false)], args := [d] }
  | _ => none }
def ScanOrdersWrongFalsely : Prop := scanOrdersRow.holds Try.pinned (OpenSpec.ofChange scanOrdersWrong)

/-- 'kinescopelaw09.ScanNear': WHATEVER THE INPUT: true; the input reads as it did. -/
def scanNearSpec : ChangeSpec := { name := "scanNear", fn := fun _ => fun
  | [d] => { results := [.lit (.bool true)], args := [d] }
  | _ => none }
def scanNearRow : OpenClaim := { program := "ytghonmdgklbieaa", sum := "d90436bf2bef11e6b748790d1004f9c7ea4180922f188cb1f676ab34c06a35e9", func := "kinescope/kinescopelaw09.ScanNear", spec := "scanNear", unfollowed := true, recurses := true, apart := false }
def ScanNearSaid : Prop := scanNearRow.holds Try.pinned (OpenSpec.ofChange scanNearSpec)

/-- ITS FALSE NEIGHBOUR: 'it returns false'. Refute it at one input. -/
def scanNearWrong : ChangeSpec := { name := "scanNear", fn := fun _ => fun
  | [d] => { results := [.lit (.bool false)], args := [d] }
  | _ => none }
def ScanNearWrongFalsely : Prop := scanNearRow.holds Try.pinned (OpenSpec.ofChange scanNearWrong)

/-- 'kinescopelaw09.ScanBack': WHATEVER THE INPUT: true; the input reads as it did. -/
def scanBackSpec : ChangeSpec := { name := "scanBack", fn := fun _ => fun
  | [d1, d2] => { results := [.lit (.bool true)], args := [d1, d2] }
  | _ => none }
def scanBackRow : OpenClaim := { program := "ytghonmdgklbieaa", sum := "d90436bf2bef11e6b748790d1004f9c7ea4180922f188cb1f676ab34c06a35e9", func := "kinescope/kinescopelaw09.ScanBack", spec := "scanBack", unfollowed := true, recurses := true, apart := false }
def ScanBackSaid : Prop := scanBackRow.holds Try.pinned (OpenSpec.ofChange scanBackSpec)

/-- ITS FALSE NEIGHBOUR: 'it returns false'. Refute it at one input. -/
def scanBackWrong : ChangeSpec := { name := "scanBack", fn := fun _ => fun
  | [d1, d2] => { results := [.lit (.bool false)], args := [d1, d2] }
  | _ => none }
def ScanBackWrongFalsely : Prop := scanBackRow.holds Try.pinned (OpenSpec.ofChange scanBackWrong)

/- THE SECOND FORM. 'bulk': how many values and letters a reading holds, each counted each time it is reached (what is shared counts as often as it is met; a slice's spare places count too). A statement '..UptoSaid' is the law's where the arguments, and the package variables that the reading takes, are together of bulk at most 1048576: NARROWER than '..Said'. Prove '..Said' where nothing that the law and all that it calls make is longer than what came in: it says more and counts as full. Else prove '..UptoSaid'. A law counts once. -/
mutual
def uptoBulk {H : Type} : DataW H → Nat
  | .lit (.string bytes) => bytes.length + 1
  | .lit _ => 1
  | .nil => 1
  | .ptr d => uptoBulk d + 1
  | .slice elems spare => uptoBulkAll elems + uptoBulkAll spare + 1
  | .agg parts => uptoBulkAll parts + 1
  | .iface _ d => uptoBulk d + 1
  | .map entries => uptoBulkEntries entries + 1
  | .held _ => 1
def uptoBulkAll {H : Type} : List (DataW H) → Nat
  | [] => 0
  | d :: r => uptoBulk d + uptoBulkAll r
def uptoBulkEntries {H : Type} : List (Lit × DataW H) → Nat
  | [] => 0
  | x :: r => uptoBulkEntry x + uptoBulkEntries r
def uptoBulkEntry {H : Type} : Lit × DataW H → Nat
  | (.string bytes, d) => bytes.length + uptoBulk d + 1
  | (_, d) => uptoBulk d + 1
 end
def uptoSmall : (H : Type) → List (DataW H) → Bool := fun _ ds => decide (uptoBulkAll ds ≤ 1048576)
def OpenSpec.upto (s : _root_.Go.ChangeSpec) : _root_.Go.OpenSpec := { _root_.Go.OpenSpec.ofChange s with cond := some uptoSmall }

/-- 'kinescopelaw09.ScanOrders', WHERE WHAT IT READS IS OF BULK AT MOST 1048576: true; the input reads as it did. -/
def scanOrdersUptoRow : OpenClaim := { program := "ytghonmdgklbieaa", sum := "d90436bf2bef11e6b748790d1004f9c7ea4180922f188cb1f676ab34c06a35e9", func := "kinescope/kinescopelaw09.ScanOrders", spec := "scanOrders", unfollowed := true, recurses := true, apart := false, narrowed := true }
def ScanOrdersUptoSaid : Prop := scanOrdersUptoRow.holds Try.pinned (OpenSpec.upto scanOrdersSpec)

/-- 'kinescopelaw09.ScanNear', WHERE WHAT IT READS IS OF BULK AT MOST 1048576: true; the input reads as it did. -/
def scanNearUptoRow : OpenClaim := { program := "ytghonmdgklbieaa", sum := "d90436bf2bef11e6b748790d1004f9c7ea4180922f188cb1f676ab34c06a35e9", func := "kinescope/kinescopelaw09.ScanNear", spec := "scanNear", unfollowed := true, recurses := true, apart := false, narrowed := true }
def ScanNearUptoSaid : Prop := scanNearUptoRow.holds Try.pinned (OpenSpec.upto scanNearSpec)

/-- 'kinescopelaw09.ScanBack', WHERE WHAT IT READS IS OF BULK AT MOST 1048576: true; the input reads as it did. -/
def scanBackUptoRow : OpenClaim := { program := "ytghonmdgklbieaa", sum := "d90436bf2bef11e6b748790d1004f9c7ea4180922f188cb1f676ab34c06a35e9", func := "kinescope/kinescopelaw09.ScanBack", spec := "scanBack", unfollowed := true, recurses := true, apart := false, narrowed := true }
def ScanBackUptoSaid : Prop := scanBackUptoRow.holds Try.pinned (OpenSpec.upto scanBackSpec)

end Rows
end Go.Proofs.Ytghonmdgklbieaa
