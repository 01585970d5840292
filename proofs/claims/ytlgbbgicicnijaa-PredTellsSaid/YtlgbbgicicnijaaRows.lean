/-
  No cell of these rows narrows 'for every input' (looked for: loops, veiled, ifaces, maps, wideKeys, modest, calm, conditions, laid).
  DERIVED. THE GIVEN ROWS OF THIS SEAT. 3 by the template 'for every input the law returns true; each argument reads behind the call as it read before'; 0 by the template 'total and deterministic' (their statements: YtlgbbgicicnijaaTotals.lean).
  GIVEN WITH THE SEED: the statements are not yours to turn. If you find one false, say at which input.
  Laid BY PROGRAM, IN A SANDBOX (cutbox-rows.mjs): the forced cells as the released guide's own fill.sh prints them over the translation 3e4639eef70a52a0… (all of the seat's roots in one cut). By AI agents, Wed Nov 11 2026. No macro, syntax, notation, axiom, sorry.
-/
import Derived.Test.YtlgbbgicicnijaaChecked
import GoSem.Claim
import GoSem.ClaimJoined
import GoSem.ClaimMapViews
import Derived.JoinedTies
import Derived.KernelRfl
namespace Go.Proofs.Ytlgbbgicicnijaa
/- THE CELL 'sum', in the pinned program and in every row, IS THE sha256 OF THE DUMP (.gsa) THAT YtlgbbgicicnijaaProg.lean LOADS. Nothing in Lean hashes anything: it is a label: what it is worth is what the hold of that sum in a sandbox is worth. -/
noncomputable def Try.pinned : Pinned := { name := "ytlgbbgicicnijaa", sum := "3e4639eef70a52a07dc4b69a31fdb14386b45b055457086669a369ab2011cc70", checked := Try.checked }
namespace Rows
def none {H : Type} : Left H := { results := [], args := [] }

/-- 'kinescopelaw11.PredSums': WHATEVER THE INPUT: true; the input reads as it did. -/
def predSumsSpec : ChangeSpec := { name := "predSums", fn := fun _ => fun
  | [d1, d2] => { results := [.lit (.bool true)], args := [d1, d2] }
  | _ => none }
def predSumsRow : OpenClaim := { program := "ytlgbbgicicnijaa", sum := "3e4639eef70a52a07dc4b69a31fdb14386b45b055457086669a369ab2011cc70", func := "kinescope/kinescopelaw11.PredSums", spec := "predSums", plainKeys := false, apart := false }
def PredSumsSaid : Prop := predSumsRow.holds Try.pinned (OpenSpec.ofChange predSumsSpec)

/-- ITS FALSE NEIGHBOUR: 'it returns false'. Refute it at one input. -/
def predSumsWrong : ChangeSpec := { name := "predSums", fn := fun _ => fun
  | [d1, d2] => { results := [.lit (.bool false)], args := [d1, d2] }
  | _ => none }
def PredSumsWrongFalsely : Prop := predSumsRow.holds Try.pinned (OpenSpec.ofChange predSumsWrong)

/-- 'kinescopelaw11.PredTells': WHATEVER THE INPUT: true; the input reads as it did. -/
def predTellsSpec : ChangeSpec := { name := "predTells", fn := fun _ => fun
  | [d1, d2, d3, d4] => { results := [.lit (.bool true)], args := [d1, d2, d3, d4] }
  | _ => none }
def predTellsRow : OpenClaim := { program := "ytlgbbgicicnijaa", sum := "3e4639eef70a52a07dc4b69a31fdb14386b45b055457086669a369ab2011cc70", func := "kinescope/kinescopelaw11.PredTells", spec := "predTells", unfollowed := true, recurses := true, plainKeys := false, apart := false }
def PredTellsSaid : Prop := predTellsRow.holds Try.pinned (OpenSpec.ofChange predTellsSpec)

/-- ITS FALSE NEIGHBOUR: 'it returns false'. Refute it at one input. -/
def predTellsWrong : ChangeSpec := { name := "predTells", fn := fun _ => fun
  | [d1, d2, d3, d4] => { results := [.lit (.bool false)], args := [d1, d2, d3, d4] }
  | _ => none }
def PredTellsWrongFalsely : Prop := predTellsRow.holds Try.pinned (OpenSpec.ofChange predTellsWrong)

/-- 'kinescopelaw11.PredLocal': WHATEVER THE INPUT: true; the input reads as it did. -/
def predLocalSpec : ChangeSpec := { name := "predLocal", fn := fun _ => fun
  | [d1, d2, d3, d4, d5] => { results := [.lit (.bool true)], args := [d1, d2, d3, d4, d5] }
  | _ => none }
def predLocalRow : OpenClaim := { program := "ytlgbbgicicnijaa", sum := "3e4639eef70a52a07dc4b69a31fdb14386b45b055457086669a369ab2011cc70", func := "kinescope/kinescopelaw11.PredLocal", spec := "predLocal", plainKeys := false, apart := false }
def PredLocalSaid : Prop := predLocalRow.holds Try.pinned (OpenSpec.ofChange predLocalSpec)

/-- ITS FALSE NEIGHBOUR: 'it returns false'. Refute it at one input. -/
def predLocalWrong : ChangeSpec := { name := "predLocal", fn := fun _ => fun
  | [d1, d2, d3, d4, d5] => { results := [.lit (.bool false)], args := [d1, d2, d3, d4, d5] }
  | _ => none }
def PredLocalWrongFalsely : Prop := predLocalRow.holds Try.pinned (OpenSpec.ofChange predLocalWrong)

/- THE SECOND FORM. 'bulk': how many values and letters a reading holds, each counted each time it is reached (what is shared counts as often as it is met; a slice's spare places count too). A statement '..UptoSaid' is the law's where the arguments, and the package variables that the reading takes, are together of bulk at most 1048576: NARROWER than '..Said'. Prove '..Said' where nothing that the law and all that it calls make is longer than what came in: it says more and counts as full. Else prove '..UptoSaid'. A law counts once. -/
mutual
def uptoBulk {H : Type} : DataW H → Nat
  | .lit (.string bytes) => bytes.length + 1
  | .lit _ => 1
  | .nil => 1
  | .ptr d => uptoBulk d + 1
  | .slice elems spare => uptoBulkAll elems + uptoBulkAll spare + 1
  | .agg parts => uptoBulkAll parts + 1
  | .iface _ d => uptoBulk d + 1
  | .map entries => uptoBulkEntries entries + 1
  | .held _ => 1
def uptoBulkAll {H : Type} : List (DataW H) → Nat
  | [] => 0
  | d :: r => uptoBulk d + uptoBulkAll r
def uptoBulkEntries {H : Type} : List (Lit × DataW H) → Nat
  | [] => 0
  | x :: r => uptoBulkEntry x + uptoBulkEntries r
def uptoBulkEntry {H : Type} : Lit × DataW H → Nat
  | (.string bytes, d) => bytes.length + uptoBulk d + 1
  | (_, d) => uptoBulk d + 1
 end
def uptoSmall : (H : Type) → List (DataW H) → Bool := fun _ ds => decide (uptoBulkAll ds ≤ 1048576)
def OpenSpec.upto (s : _root_.Go.ChangeSpec) : _root_.Go.OpenSpec := { _root_.Go.OpenSpec.ofChange s with cond := some uptoSmall }

/-- 'kinescopelaw11.PredSums', WHERE WHAT IT READS IS OF BULK AT MOST 1048576: true; the input reads as it did. -/
def predSumsUptoRow : OpenClaim := { program := "ytlgbbgicicnijaa", sum := "3e4639eef70a52a07dc4b69a31fdb14386b45b055457086669a369ab2011cc70", func := "kinescope/kinescopelaw11.PredSums", spec := "predSums", plainKeys := false, apart := false, narrowed := true }
def PredSumsUptoSaid : Prop := predSumsUptoRow.holds Try.pinned (OpenSpec.upto predSumsSpec)

/-- 'kinescopelaw11.PredTells', WHERE WHAT IT READS IS OF BULK AT MOST 1048576: true; the input reads as it did. -/
def predTellsUptoRow : OpenClaim := { program := "ytlgbbgicicnijaa", sum := "3e4639eef70a52a07dc4b69a31fdb14386b45b055457086669a369ab2011cc70", func := "kinescope/kinescopelaw11.PredTells", spec := "predTells", unfollowed := true, recurses := true, plainKeys := false, apart := false, narrowed := true }
def PredTellsUptoSaid : Prop := predTellsUptoRow.holds Try.pinned (OpenSpec.upto predTellsSpec)

/-- 'kinescopelaw11.PredLocal', WHERE WHAT IT READS IS OF BULK AT MOST 1048576: true; the input reads as it did. -/
def predLocalUptoRow : OpenClaim := { program := "ytlgbbgicicnijaa", sum := "3e4639eef70a52a07dc4b69a31fdb14386b45b055457086669a369ab2011cc70", func := "kinescope/kinescopelaw11.PredLocal", spec := "predLocal", plainKeys := false, apart := false, narrowed := true }
def PredLocalUptoSaid : Prop := predLocalUptoRow.holds Try.pinned (OpenSpec.upto predLocalSpec)

end Rows
end Go.Proofs.Ytlgbbgicicnijaa
