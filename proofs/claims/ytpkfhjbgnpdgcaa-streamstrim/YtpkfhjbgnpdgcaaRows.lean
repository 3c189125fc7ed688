/-
  No cell of these rows narrows 'for every input' (looked for: loops, veiled, ifaces, maps, wideKeys, modest, calm, conditions, laid).
  DERIVED. THE GIVEN ROWS OF THIS SEAT. 3 by the template 'for every input the law returns true; each argument reads behind the call as it read before'; 0 by the template 'total and deterministic' (their statements: YtpkfhjbgnpdgcaaTotals.lean).
  GIVEN WITH THE SEED: the statements are not yours to turn. If you find one false, say at which input.
  Laid BY PROGRAM, IN A SANDBOX (cutbox-rows.mjs): the forced cells as the released guide's own fill.sh prints them over the translation 91a42f74aca6df94… (all of the seat's roots in one cut). By AI agents, Wed Nov 11 2026. No macro, syntax, notation, axiom, sorry.
-/
import Derived.Test.YtpkfhjbgnpdgcaaChecked
import GoSem.Claim
import GoSem.ClaimJoined
import GoSem.ClaimMapViews
import Derived.JoinedTies
import Derived.KernelRfl
namespace Go.Proofs.Ytpkfhjbgnpdgcaa
/- THE CELL 'sum', in the pinned program and in every row, IS THE sha256 OF THE DUMP (.gsa) THAT YtpkfhjbgnpdgcaaProg.lean LOADS. Nothing in Lean hashes anything: it is a label: what it is worth is what the hold of that sum in a sandbox is worth. -/
noncomputable def Try.pinned : Pinned := { name := "ytpkfhjbgnpdgcaa", sum := "91a42f74aca6df949901b698678805108f4667e3b9173edb4ebe7028a97d8dcb", checked := Try.checked }
namespace Rows
def none {H : Type} : Left H := { results := [], args := [] }

/-- 'actorgridlaw30.StreamsSequences': WHATEVER THE INPUT: true; the input reads as it did. -/
def streamsSequencesSpec : ChangeSpec := { name := "streamsSequences", fn := fun _ => fun
  | [d] => { results := [.lit (.bool true)], args := [d] }
  | _ => none }
def streamsSequencesRow : OpenClaim := { program := "ytpkfhjbgnpdgcaa", sum := "91a42f74aca6df949901b698678805108f4667e3b9173edb4ebe7028a97d8dcb", func := "actorgrid/actorgridlaw30.StreamsSequences", spec := "streamsSequences", inPlace := ["slices.overlaps[actorgrid/api.Sub]"], apart := false }
def StreamsSequencesSaid : Prop := streamsSequencesRow.holds Try.pinned (OpenSpec.ofChange streamsSequencesSpec)

/-- ITS FALSE NEIGHBOUR: 'it returns false'. Refute it at one input. -/
def streamsSequencesWrong : ChangeSpec := { name := "streamsSequences", fn := fun _ => fun
  | [d] => { results := [.lit (.bool false)], args := [d] }
  | _ => none }
def StreamsSequencesWrongFalsely : Prop := streamsSequencesRow.holds Try.pinned (OpenSpec.ofChange streamsSequencesWrong)

/-- 'actorgridlaw30.StreamsOnce': WHATEVER THE INPUT: true; the input reads as it did. -/
def streamsOnceSpec : ChangeSpec := { name := "streamsOnce", fn := fun _ => fun
  | [d1, d2] => { results := [.lit (.bool true)], args := [d1, d2] }
  | _ => none }
def streamsOnceRow : OpenClaim := { program := "ytpkfhjbgnpdgcaa", sum := "91a42f74aca6df949901b698678805108f4667e3b9173edb4ebe7028a97d8dcb", func := "actorgrid/actorgridlaw30.StreamsOnce", spec := "streamsOnce", inPlace := ["slices.overlaps[actorgrid/api.Sub]"], apart := false }
def StreamsOnceSaid : Prop := streamsOnceRow.holds Try.pinned (OpenSpec.ofChange streamsOnceSpec)

/-- ITS FALSE NEIGHBOUR: 'it returns false'. Refute it at one input. -/
def streamsOnceWrong : ChangeSpec := { name := "streamsOnce", fn := fun _ => fun
  | [d1, d2] => { results := [.lit (.bool false)], args := [d1, d2] }
  | _ => none }
def StreamsOnceWrongFalsely : Prop := streamsOnceRow.holds Try.pinned (OpenSpec.ofChange streamsOnceWrong)

/-- 'actorgridlaw30.StreamsTrim': WHATEVER THE INPUT: true; the input reads as it did. -/
def streamsTrimSpec : ChangeSpec := { name := "streamsTrim", fn := fun _ => fun
  | [d] => { results := [.lit (.bool true)], args := [d] }
  | _ => none }
def streamsTrimRow : OpenClaim := { program := "ytpkfhjbgnpdgcaa", sum := "91a42f74aca6df949901b698678805108f4667e3b9173edb4ebe7028a97d8dcb", func := "actorgrid/actorgridlaw30.StreamsTrim", spec := "streamsTrim", inPlace := ["slices.overlaps[actorgrid/api.Sub]"], apart := false }
def StreamsTrimSaid : Prop := streamsTrimRow.holds Try.pinned (OpenSpec.ofChange streamsTrimSpec)

/-- ITS FALSE NEIGHBOUR: 'it returns false'. Refute it at one input. -/
def streamsTrimWrong : ChangeSpec := { name := "streamsTrim", fn := fun _ => fun
  | [d] => { results := [.lit (.bool false)], args := [d] }
  | _ => none }
def StreamsTrimWrongFalsely : Prop := streamsTrimRow.holds Try.pinned (OpenSpec.ofChange streamsTrimWrong)

/- THE SECOND FORM. 'bulk': how many values and letters a reading holds, each counted each time it is reached (what is shared counts as often as it is met; a slice's spare places count too). A statement '..UptoSaid' is the law's where the arguments, and the package variables that the reading takes, are together of bulk at most 1048576: NARROWER than '..Said'. Prove '..Said' where nothing that the law and all that it calls make is longer than what came in: it says more and counts as full. Else prove '..UptoSaid'. A law counts once. -/
mutual
def uptoBulk {H : Type} : DataW H → Nat
  | .lit (.string bytes) => bytes.length + 1
  | .lit _ => 1
  | .nil => 1
  | .ptr d => uptoBulk d + 1
  | .slice elems spare => uptoBulkAll elems + uptoBulkAll spare + 1
  | .agg parts => uptoBulkAll parts + 1
  | .iface _ d => uptoBulk d + 1
  | .map entries => uptoBulkEntries entries + 1
  | .held _ => 1
def uptoBulkAll {H : Type} : List (DataW H) → Nat
  | [] => 0
  | d :: r => uptoBulk d + uptoBulkAll r
def uptoBulkEntries {H : Type} : List (Lit × DataW H) → Nat
  | [] => 0
  | x :: r => uptoBulkEntry x + uptoBulkEntries r
def uptoBulkEntry {H : Type} : Lit × DataW H → Nat
  | (.string bytes, d) => bytes.length + uptoBulk d + 1
  | (_, d) => uptoBulk d + 1
 end
def uptoSmall : (H : Type) → List (DataW H) → Bool := fun _ ds => decide (uptoBulkAll ds ≤ 1048576)
def OpenSpec.upto (s : _root_.Go.ChangeSpec) : _root_.Go.OpenSpec := { _root_.Go.OpenSpec.ofChange s with cond := some uptoSmall }

/-- 'actorgridlaw30.StreamsSequences', WHERE WHAT IT READS IS OF BULK AT MOST 1048576: true; the input reads as it did. -/
def streamsSequencesUptoRow : OpenClaim := { program := "ytpkfhjbgnpdgcaa", sum := "91a42f74aca6df949901b698678805108f4667e3b9173edb4ebe7028a97d8dcb", func := "actorgrid/actorgridlaw30.StreamsSequences", spec := "streamsSequences", inPlace := ["slices.overlaps[actorgrid/api.Sub]"], apart := false, narrowed := true }
def StreamsSequencesUptoSaid : Prop := streamsSequencesUptoRow.holds Try.pinned (OpenSpec.upto streamsSequencesSpec)

/-- 'actorgridlaw30.StreamsOnce', WHERE WHAT IT READS IS OF BULK AT MOST 1048576: true; the input reads as it did. -/
def streamsOnceUptoRow : OpenClaim := { program := "ytpkfhjbgnpdgcaa", sum := "91a42f74aca6df949901b698678805108f4667e3b9173edb4ebe7028a97d8dcb", func := "actorgrid/actorgridlaw30.StreamsOnce", spec := "streamsOnce", inPlace := ["slices.overlaps[actorgrid/api.Sub]"], apart := false, narrowed := true }
def StreamsOnceUptoSaid : Prop := streamsOnceUptoRow.holds Try.pinned (OpenSpec.upto streamsOnceSpec)

/-- 'actorgridlaw30.StreamsTrim', WHERE WHAT IT READS IS OF BULK AT MOST 1048576: true; the input reads as it did. -/
def streamsTrimUptoRow : OpenClaim := { program := "ytpkfhjbgnpdgcaa", sum := "91a42f74aca6df949901b698678805108f4667e3b9173edb4ebe7028a97d8dcb", func := "actorgrid/actorgridlaw30.StreamsTrim", spec := "streamsTrim", inPlace := ["slices.overlaps[actorgrid/api.Sub]"], apart := false, narrowed := true }
def StreamsTrimUptoSaid : Prop := streamsTrimUptoRow.holds Try.pinned (OpenSpec.upto streamsTrimSpec)

end Rows
end Go.Proofs.Ytpkfhjbgnpdgcaa
