/-
  No cell of these rows narrows 'for every input' (looked for: loops, veiled, ifaces, maps, wideKeys, modest, calm, conditions, laid).
  DERIVED. THE GIVEN ROWS OF THIS SEAT. 5 by the template 'for every input the law returns true; each argument reads behind the call as it read before'; 0 by the template 'total and deterministic' (their statements: YtekgpnhfhkhpaaaTotals.lean).
  GIVEN WITH THE SEED: the statements are not yours to turn. If you find one false, say at which input.
  Laid BY PROGRAM, IN A SANDBOX (cutbox-rows.mjs): the forced cells as the released guide's own fill.sh prints them over the translation dad81dc409e58efe… (all of the seat's roots in one cut). By AI agents, Wed Nov 11 2026. No macro, syntax, notation, axiom, sorry.
-/
import Derived.Test.YtekgpnhfhkhpaaaChecked
import GoSem.Claim
import GoSem.ClaimJoined
import GoSem.ClaimMapViews
import Derived.JoinedTies
import Derived.KernelRfl
namespace Go.Proofs.Ytekgpnhfhkhpaaa
/- THE CELL 'sum', in the pinned program and in every row, IS THE sha256 OF THE DUMP (.gsa) THAT YtekgpnhfhkhpaaaProg.lean LOADS. Nothing in Lean hashes anything: it is a label: what it is worth is what the hold of that sum in a sandbox is worth. -/
noncomputable def Try.pinned : Pinned := { name := "ytekgpnhfhkhpaaa", sum := "dad81dc409e58efed03f9c91799f5bb77c3ad81fcbf114fafdea702ea6c19155", checked := Try.checked }
namespace Rows
def none {H : Type} : Left H := { results := [], args := [] }

/-- 'actorgridlaw33.CascadeAcyclic': WHATEVER THE INPUT: true; the input reads as it did. -/
def cascadeAcyclicSpec : ChangeSpec := { name := "cascadeAcyclic", fn := fun _ => fun
  | [d] => { results := [.lit (.bool true)], args := [d] }
  | _ => none }
def cascadeAcyclicRow : OpenClaim := { program := "ytekgpnhfhkhpaaa", sum := "dad81dc409e58efed03f9c91799f5bb77c3ad81fcbf114fafdea702ea6c19155", func := "actorgrid/actorgridlaw33.CascadeAcyclic", spec := "cascadeAcyclic", unfollowed := true, recurses := true, apart := false }
def CascadeAcyclicSaid : Prop := cascadeAcyclicRow.holds Try.pinned (OpenSpec.ofChange cascadeAcyclicSpec)

/-- ITS FALSE NEIGHBOUR: 'it returns false'. Refute it at one input. -/
def cascadeAcyclicWrong : ChangeSpec := { name := "cascadeAcyclic", fn := fun _ => fun
  | [d] => { results := [.lit (.bool false)], args := [d] }
  | _ => none }
def CascadeAcyclicWrongFalsely : Prop := cascadeAcyclicRow.holds Try.pinned (OpenSpec.ofChange cascadeAcyclicWrong)

/-- 'actorgridlaw33.CascadeRecoverable': WHATEVER THE INPUT: true; the input reads as it did. -/
def cascadeRecoverableSpec : ChangeSpec := { name := "cascadeRecoverable", fn := fun _ => fun
  | [d] => { results := [.lit (.bool true)], args := [d] }
  | _ => none }
def cascadeRecoverableRow : OpenClaim := { program := "ytekgpnhfhkhpaaa", sum := "dad81dc409e58efed03f9c91799f5bb77c3ad81fcbf114fafdea702ea6c19155", func := "actorgrid/actorgridlaw33.CascadeRecoverable", spec := "cascadeRecoverable", unfollowed := true, recurses := true, apart := false }
def CascadeRecoverableSaid : Prop := cascadeRecoverableRow.holds Try.pinned (OpenSpec.ofChange cascadeRecoverableSpec)

/-- ITS FALSE NEIGHBOUR: 'it returns false'. Refute it at one input. -/
def cascadeRecoverableWrong : ChangeSpec := { name := "cascadeRecoverable", fn := fun _ => fun
  | [d] => { results := [.lit (.bool false)], args := [d] }
  | _ => none }
def CascadeRecoverableWrongFalsely : Prop := cascadeRecoverableRow.holds Try.pinned (OpenSpec.ofChange cascadeRecoverableWrong)

/-- 'actorgridlaw33.CascadeFinishes': WHATEVER THE INPUT: true; the input reads as it did. -/
def cascadeFinishesSpec : ChangeSpec := { name := "cascadeFinishes", fn := fun _ => fun
  | [d] => { results := [.lit (.bool true)], args := [d] }
  | _ => none }
def cascadeFinishesRow : OpenClaim := { program := "ytekgpnhfhkhpaaa", sum := "dad81dc409e58efed03f9c91799f5bb77c3ad81fcbf114fafdea702ea6c19155", func := "actorgrid/actorgridlaw33.CascadeFinishes", spec := "cascadeFinishes", unfollowed := true, recurses := true, apart := false }
def CascadeFinishesSaid : Prop := cascadeFinishesRow.holds Try.pinned (OpenSpec.ofChange cascadeFinishesSpec)

/-- ITS FALSE NEIGHBOUR: 'it returns false'. Refute it at one input. -/
def cascadeFinishesWrong : ChangeSpec := { name := "cascadeFinishes", fn := fun _ => fun
  | [d] => { results := [.lit (.bool false)], args := [d] }
  | _ => none }
def CascadeFinishesWrongFalsely : Prop := cascadeFinishesRow.holds Try.pinned (OpenSpec.ofChange cascadeFinishesWrong)

/-- 'actorgridlaw33.CascadeSerial': WHATEVER THE INPUT: true; the input reads as it did. -/
def cascadeSerialSpec : ChangeSpec := { name := "cascadeSerial", fn := fun _ => fun
  | [d] => { results := [.lit (.bool true)], args := [d] }
  | _ => none }
def cascadeSerialRow : OpenClaim := { program := "ytekgpnhfhkhpaaa", sum := "dad81dc409e58efed03f9c91799f5bb77c3ad81fcbf114fafdea702ea6c19155", func := "actorgrid/actorgridlaw33.CascadeSerial", spec := "cascadeSerial", unfollowed := true, recurses := true, apart := false }
def CascadeSerialSaid : Prop := cascadeSerialRow.holds Try.pinned (OpenSpec.ofChange cascadeSerialSpec)

/-- ITS FALSE NEIGHBOUR: 'it returns false'. Refute it at one input. -/
def cascadeSerialWrong : ChangeSpec := { name := "cascadeSerial", fn := fun _ => fun
  | [d] => { results := [.lit (.bool false)], args := [d] }
  | _ => none }
def CascadeSerialWrongFalsely : Prop := cascadeSerialRow.holds Try.pinned (OpenSpec.ofChange cascadeSerialWrong)

/-- 'actorgridlaw33.CascadePrefix': WHATEVER THE INPUT: true; the input reads as it did. -/
def cascadePrefixSpec : ChangeSpec := { name := "cascadePrefix", fn := fun _ => fun
  | [d1, d2] => { results := [.lit (.bool true)], args := [d1, d2] }
  | _ => none }
def cascadePrefixRow : OpenClaim := { program := "ytekgpnhfhkhpaaa", sum := "dad81dc409e58efed03f9c91799f5bb77c3ad81fcbf114fafdea702ea6c19155", func := "actorgrid/actorgridlaw33.CascadePrefix", spec := "cascadePrefix", unfollowed := true, recurses := true, apart := false }
def CascadePrefixSaid : Prop := cascadePrefixRow.holds Try.pinned (OpenSpec.ofChange cascadePrefixSpec)

/-- ITS FALSE NEIGHBOUR: 'it returns false'. Refute it at one input. -/
def cascadePrefixWrong : ChangeSpec := { name := "cascadePrefix", fn := fun _ => fun
  | [d1, d2] => { results := [.lit (.bool false)], args := [d1, d2] }
  | _ => none }
def CascadePrefixWrongFalsely : Prop := cascadePrefixRow.holds Try.pinned (OpenSpec.ofChange cascadePrefixWrong)

/- THE SECOND FORM. 'bulk': how many values and letters a reading holds, each counted each time it is reached (what is shared counts as often as it is met; a slice's spare places count too). A statement '..UptoSaid' is the law's where the arguments, and the package variables that the reading takes, are together of bulk at most 1048576: NARROWER than '..Said'. Prove '..Said' where nothing that the law and all that it calls make is longer than what came in: it says more and counts as full. Else prove '..UptoSaid'. A law counts once. -/
mutual
def uptoBulk {H : Type} : DataW H → Nat
  | .lit (.string bytes) => bytes.length + 1
  | .lit _ => 1
  | .nil => 1
  | .ptr d => uptoBulk d + 1
  | .slice elems spare => uptoBulkAll elems + uptoBulkAll spare + 1
  | .agg parts => uptoBulkAll parts + 1
  | .iface _ d => uptoBulk d + 1
  | .map entries => uptoBulkEntries entries + 1
  | .held _ => 1
def uptoBulkAll {H : Type} : List (DataW H) → Nat
  | [] => 0
  | d :: r => uptoBulk d + uptoBulkAll r
def uptoBulkEntries {H : Type} : List (Lit × DataW H) → Nat
  | [] => 0
  | x :: r => uptoBulkEntry x + uptoBulkEntries r
def uptoBulkEntry {H : Type} : Lit × DataW H → Nat
  | (.string bytes, d) => bytes.length + uptoBulk d + 1
  | (_, d) => uptoBulk d + 1
 end
def uptoSmall : (H : Type) → List (DataW H) → Bool := fun _ ds => decide (uptoBulkAll ds ≤ 1048576)
def OpenSpec.upto (s : _root_.Go.ChangeSpec) : _root_.Go.OpenSpec := { _root_.Go.OpenSpec.ofChange s with cond := some uptoSmall }

/-- 'actorgridlaw33.CascadeAcyclic', WHERE WHAT IT READS IS OF BULK AT MOST 1048576: true; the input reads as it did. -/
def cascadeAcyclicUptoRow : OpenClaim := { program := "ytekgpnhfhkhpaaa", sum := "dad81dc409e58efed03f9c91799f5bb77c3ad81fcbf114fafdea702ea6c19155", func := "actorgrid/actorgridlaw33.CascadeAcyclic", spec := "cascadeAcyclic", unfollowed := true, recurses := true, apart := false, narrowed := true }
def CascadeAcyclicUptoSaid : Prop := cascadeAcyclicUptoRow.holds Try.pinned (OpenSpec.upto cascadeAcyclicSpec)

/-- 'actorgridlaw33.CascadeRecoverable', WHERE WHAT IT READS IS OF BULK AT MOST 1048576: true; the input reads as it did. -/
def cascadeRecoverableUptoRow : OpenClaim := { program := "ytekgpnhfhkhpaaa", sum := "dad81dc409e58efed03f9c91799f5bb77c3ad81fcbf114fafdea702ea6c19155", func := "actorgrid/actorgridlaw33.CascadeRecoverable", spec := "cascadeRecoverable", unfollowed := true, recurses := true, apart := false, narrowed := true }
def CascadeRecoverableUptoSaid : Prop := cascadeRecoverableUptoRow.holds Try.pinned (OpenSpec.upto cascadeRecoverableSpec)

/-- 'actorgridlaw33.CascadeFinishes', WHERE WHAT IT READS IS OF BULK AT MOST 1048576: true; the input reads as it did. -/
def cascadeFinishesUptoRow : OpenClaim := { program := "ytekgpnhfhkhpaaa", sum := "dad81dc409e58efed03f9c91799f5bb77c3ad81fcbf114fafdea702ea6c19155", func := "actorgrid/actorgridlaw33.CascadeFinishes", spec := "cascadeFinishes", unfollowed := true, recurses := true, apart := false, narrowed := true }
def CascadeFinishesUptoSaid : Prop := cascadeFinishesUptoRow.holds Try.pinned (OpenSpec.upto cascadeFinishesSpec)

/-- 'actorgridlaw33.CascadeSerial', WHERE WHAT IT READS IS OF BULK AT MOST 1048576: true; the input reads as it did. -/
def cascadeSerialUptoRow : OpenClaim := { program := "ytekgpnhfhkhpaaa", sum := "dad81dc409e58efed03f9c91799f5bb77c3ad81fcbf114fafdea702ea6c19155", func := "actorgrid/actorgridlaw33.CascadeSerial", spec := "cascadeSerial", unfollowed := true, recurses := true, apart := false, narrowed := true }
def CascadeSerialUptoSaid : Prop := cascadeSerialUptoRow.holds Try.pinned (OpenSpec.upto cascadeSerialSpec)

/-- 'actorgridlaw33.CascadePrefix', WHERE WHAT IT READS IS OF BULK AT MOST 1048576: true; the input reads as it did. -/
def cascadePrefixUptoRow : OpenClaim := { program := "ytekgpnhfhkhpaaa", sum := "dad81dc409e58efed03f9c91799f5bb77c3ad81fcbf114fafdea702ea6c19155", func := "actorgrid/actorgridlaw33.CascadePrefix", spec := "cascadePrefix", unfollowed := true, recurses := true, apart := false, narrowed := true }
def CascadePrefixUptoSaid : Prop := cascadePrefixUptoRow.holds Try.pinned (OpenSpec.upto cascadePrefixSpec)

end Rows
end Go.Proofs.Ytekgpnhfhkhpaaa
