/-
  No cell of these rows narrows 'for every input' (looked for: loops, veiled, ifaces, maps, wideKeys, modest, calm, conditions, laid).
  DERIVED. THE GIVEN ROWS OF THIS SEAT. 4 by the template 'for every input the law returns true; each argument reads behind the call as it read before'; 0 by the template 'total and deterministic' (their statements: YthdbndgfjldhpaaTotals.lean).
  GIVEN WITH THE SEED: the statements are not yours to turn. If you find one false, say at which input.
  Laid BY PROGRAM, IN A SANDBOX (cutbox-rows.mjs): the forced cells as the released guide's own fill.sh prints them over the translation 5d9c849032dc6023… (all of the seat's roots in one cut). By AI agents, Wed Nov 11 2026. No macro, syntax, notation, axiom, sorry.
-/
import Derived.Test.YthdbndgfjldhpaaChecked
import GoSem.Claim
import GoSem.ClaimJoined
import GoSem.ClaimMapViews
import Derived.JoinedTies
import Derived.KernelRfl
namespace Go.Proofs.Ythdbndgfjldhpaa
/- THE CELL 'sum', in the pinned program and in every row, IS THE sha256 OF THE DUMP (.gsa) THAT YthdbndgfjldhpaaProg.lean LOADS. Nothing in Lean hashes anything: it is a label: what it is worth is what the hold of that sum in a sandbox is worth. -/
noncomputable def Try.pinned : Pinned := { name := "ythdbndgfjldhpaa", sum := "5d9c849032dc6023777c4d4555b3805b7639ba6705c4f8a587ff9713f16c20ec", checked := Try.checked }
namespace Rows
def none {H : Type} : Left H := { results := [], args := [] }

/-- 'actorgridlaw29.RemindersAll': WHATEVER THE INPUT: true; the input reads as it did. -/
def remindersAllSpec : ChangeSpec := { name := "remindersAll", fn := fun _ => fun
  | [d1, d2, d3, d4, d5, d6] => { results := [.lit (.bool true)], args := [d1, d2, d3, d4, d5, d6] }
  | _ => none }
def remindersAllRow : OpenClaim := { program := "ythdbndgfjldhpaa", sum := "5d9c849032dc6023777c4d4555b3805b7639ba6705c4f8a587ff9713f16c20ec", func := "actorgrid/actorgridlaw29.RemindersAll", spec := "remindersAll", inPlace := ["slices.overlaps[actorgrid/api.Reminder]"], unfollowed := true, recurses := true, apart := false }
def RemindersAllSaid : Prop := remindersAllRow.holds Try.pinned (OpenSpec.ofChange remindersAllSpec)

/-- ITS FALSE NEIGHBOUR: 'it returns false'. Refute it at one input. -/
def remindersAllWrong : ChangeSpec := { name := "remindersAll", fn := fun _ => fun
  | [d1, d2, d3, d4, d5, d6] => { results := [.lit (.bool false)], args := [d1, d2, d3, d4, d5, d6] }
  | _ => none }
def RemindersAllWrongFalsely : Prop := remindersAllRow.holds Try.pinned (OpenSpec.ofChange remindersAllWrong)

/-- 'actorgridlaw29.RemindersSequences': WHATEVER THE INPUT: true; the input reads as it did. -/
def remindersSequencesSpec : ChangeSpec := { name := "remindersSequences", fn := fun _ => fun
  | [d] => { results := [.lit (.bool true)], args := [d] }
  | _ => none }
def remindersSequencesRow : OpenClaim := { program := "ythdbndgfjldhpaa", sum := "5d9c849032dc6023777c4d4555b3805b7639ba6705c4f8a587ff9713f16c20ec", func := "actorgrid/actorgridlaw29.RemindersSequences", spec := "remindersSequences", inPlace := ["slices.overlaps[actorgrid/api.Reminder]"], unfollowed := true, recurses := true, apart := false }
def RemindersSequencesSaid : Prop := remindersSequencesRow.holds Try.pinned (OpenSpec.ofChange remindersSequencesSpec)

/-- ITS FALSE NEIGHBOUR: 'it returns false'. Refute it at one input. -/
def remindersSequencesWrong : ChangeSpec := { name := "remindersSequences", fn := fun _ => fun
  | [d] => { results := [.lit (.bool false)], args := [d] }
  | _ => none }
def RemindersSequencesWrongFalsely : Prop := remindersSequencesRow.holds Try.pinned (OpenSpec.ofChange remindersSequencesWrong)

/-- 'actorgridlaw29.RemindersOnce': WHATEVER THE INPUT: true; the input reads as it did. -/
def remindersOnceSpec : ChangeSpec := { name := "remindersOnce", fn := fun _ => fun
  | [d] => { results := [.lit (.bool true)], args := [d] }
  | _ => none }
def remindersOnceRow : OpenClaim := { program := "ythdbndgfjldhpaa", sum := "5d9c849032dc6023777c4d4555b3805b7639ba6705c4f8a587ff9713f16c20ec", func := "actorgrid/actorgridlaw29.RemindersOnce", spec := "remindersOnce", inPlace := ["slices.overlaps[actorgrid/api.Reminder]"], unfollowed := true, recurses := true, apart := false }
def RemindersOnceSaid : Prop := remindersOnceRow.holds Try.pinned (OpenSpec.ofChange remindersOnceSpec)

/-- ITS FALSE NEIGHBOUR: 'it returns false'. Refute it at one input. -/
def remindersOnceWrong : ChangeSpec := { name := "remindersOnce", fn := fun _ => fun
  | [d] => { results := [.lit (.bool false)], args := [d] }
  | _ => none }
def RemindersOnceWrongFalsely : Prop := remindersOnceRow.holds Try.pinned (OpenSpec.ofChange remindersOnceWrong)

/-- 'actorgridlaw29.RemindersSorted': WHATEVER THE INPUT: true; the input reads as it did. -/
def remindersSortedSpec : ChangeSpec := { name := "remindersSorted", fn := fun _ => fun
  | [d1, d2] => { results := [.lit (.bool true)], args := [d1, d2] }
  | _ => none }
def remindersSortedRow : OpenClaim := { program := "ythdbndgfjldhpaa", sum := "5d9c849032dc6023777c4d4555b3805b7639ba6705c4f8a587ff9713f16c20ec", func := "actorgrid/actorgridlaw29.RemindersSorted", spec := "remindersSorted", inPlace := ["slices.overlaps[actorgrid/api.Reminder]"], unfollowed := true, recurses := true, apart := false }
def RemindersSortedSaid : Prop := remindersSortedRow.holds Try.pinned (OpenSpec.ofChange remindersSortedSpec)

/-- ITS FALSE NEIGHBOUR: 'it returns false'. Refute it at one input. -/
def remindersSortedWrong : ChangeSpec := { name := "remindersSorted", fn := fun _ => fun
  | [d1, d2] => { results := [.lit (.bool false)], args := [d1, d2] }
  | _ => none }
def RemindersSortedWrongFalsely : Prop := remindersSortedRow.holds Try.pinned (OpenSpec.ofChange remindersSortedWrong)

/- THE SECOND FORM. 'bulk': how many values and letters a reading holds, each counted each time it is reached (what is shared counts as often as it is met; a slice's spare places count too). A statement '..UptoSaid' is the law's where the arguments, and the package variables that the reading takes, are together of bulk at most 1048576: NARROWER than '..Said'. Prove '..Said' where nothing that the law and all that it calls make is longer than what came in: it says more and counts as full. Else prove '..UptoSaid'. A law counts once. -/
mutual
def uptoBulk {H : Type} : DataW H → Nat
  | .lit (.string bytes) => bytes.length + 1
  | .lit _ => 1
  | .nil => 1
  | .ptr d => uptoBulk d + 1
  | .slice elems spare => uptoBulkAll elems + uptoBulkAll spare + 1
  | .agg parts => uptoBulkAll parts + 1
  | .iface _ d => uptoBulk d + 1
  | .map entries => uptoBulkEntries entries + 1
  | .held _ => 1
def uptoBulkAll {H : Type} : List (DataW H) → Nat
  | [] => 0
  | d :: r => uptoBulk d + uptoBulkAll r
def uptoBulkEntries {H : Type} : List (Lit × DataW H) → Nat
  | [] => 0
  | x :: r => uptoBulkEntry x + uptoBulkEntries r
def uptoBulkEntry {H : Type} : Lit × DataW H → Nat
  | (.string bytes, d) => bytes.length + uptoBulk d + 1
  | (_, d) => uptoBulk d + 1
 end
def uptoSmall : (H : Type) → List (DataW H) → Bool := fun _ ds => decide (uptoBulkAll ds ≤ 1048576)
def OpenSpec.upto (s : _root_.Go.ChangeSpec) : _root_.Go.OpenSpec := { _root_.Go.OpenSpec.ofChange s with cond := some uptoSmall }

/-- 'actorgridlaw29.RemindersAll', WHERE WHAT IT READS IS OF BULK AT MOST 1048576: true; the input reads as it did. -/
def remindersAllUptoRow : OpenClaim := { program := "ythdbndgfjldhpaa", sum := "5d9c849032dc6023777c4d4555b3805b7639ba6705c4f8a587ff9713f16c20ec", func := "actorgrid/actorgridlaw29.RemindersAll", spec := "remindersAll", inPlace := ["slices.overlaps[actorgrid/api.Reminder]"], unfollowed := true, recurses := true, apart := false, narrowed := true }
def RemindersAllUptoSaid : Prop := remindersAllUptoRow.holds Try.pinned (OpenSpec.upto remindersAllSpec)

/-- 'actorgridlaw29.RemindersSequences', WHERE WHAT IT READS IS OF BULK AT MOST 1048576: true; the input reads as it did. -/
def remindersSequencesUptoRow : OpenClaim := { program := "ythdbndgfjldhpaa", sum := "5d9c849032dc6023777c4d4555b3805b7639ba6705c4f8a587ff9713f16c20ec", func := "actorgrid/actorgridlaw29.RemindersSequences", spec := "remindersSequences", inPlace := ["slices.overlaps[actorgrid/api.Reminder]"], unfollowed := true, recurses := true, apart := false, narrowed := true }
def RemindersSequencesUptoSaid : Prop := remindersSequencesUptoRow.holds Try.pinned (OpenSpec.upto remindersSequencesSpec)

/-- 'actorgridlaw29.RemindersOnce', WHERE WHAT IT READS IS OF BULK AT MOST 1048576: true; the input reads as it did. -/
def remindersOnceUptoRow : OpenClaim := { program := "ythdbndgfjldhpaa", sum := "5d9c849032dc6023777c4d4555b3805b7639ba6705c4f8a587ff9713f16c20ec", func := "actorgrid/actorgridlaw29.RemindersOnce", spec := "remindersOnce", inPlace := ["slices.overlaps[actorgrid/api.Reminder]"], unfollowed := true, recurses := true, apart := false, narrowed := true }
def RemindersOnceUptoSaid : Prop := remindersOnceUptoRow.holds Try.pinned (OpenSpec.upto remindersOnceSpec)

/-- 'actorgridlaw29.RemindersSorted', WHERE WHAT IT READS IS OF BULK AT MOST 1048576: true; the input reads as it did. -/
def remindersSortedUptoRow : OpenClaim := { program := "ythdbndgfjldhpaa", sum := "5d9c849032dc6023777c4d4555b3805b7639ba6705c4f8a587ff9713f16c20ec", func := "actorgrid/actorgridlaw29.RemindersSorted", spec := "remindersSorted", inPlace := ["slices.overlaps[actorgrid/api.Reminder]"], unfollowed := true, recurses := true, apart := false, narrowed := true }
def RemindersSortedUptoSaid : Prop := remindersSortedUptoRow.holds Try.pinned (OpenSpec.upto remindersSortedSpec)

end Rows
end Go.Proofs.Ythdbndgfjldhpaa
