/-
  No cell of these rows narrows 'for every input' (looked for: loops, veiled, ifaces, maps, wideKeys, modest, calm, conditions, laid).
  DERIVED. THE GIVEN ROWS OF THIS SEAT. 4 by the template 'for every input the law returns true; each argument reads behind the call as it read before'; 0 by the template 'total and deterministic' (their statements: YthafflhaoplpjaaTotals.lean).
  GIVEN WITH THE SEED: the statements are not yours to turn. If you find one false, say at which input.
  Laid BY PROGRAM, IN A SANDBOX (cutbox-rows.mjs): the forced cells as the released guide's own fill.sh prints them over the translation 21dcfc2561c6bfda… (all of the seat's roots in one cut). By AI agents, Wed Nov 11 2026. No macro, syntax, notation, axiom, sorry.
-/
import Derived.Test.YthafflhaoplpjaaChecked
import GoSem.Claim
import GoSem.ClaimJoined
import GoSem.ClaimMapViews
import Derived.JoinedTies
import Derived.KernelRfl
namespace Go.Proofs.Ythafflhaoplpjaa
/- THE CELL 'sum', in the pinned program and in every row, IS THE sha256 OF THE DUMP (.gsa) THAT YthafflhaoplpjaaProg.lean LOADS. Nothing in Lean hashes anything: it is a label: what it is worth is what the hold of that sum in a sandbox is worth. -/
noncomputable def Try.pinned : Pinned := { name := "ythafflhaoplpjaa", sum := "21dcfc2561c6bfda8e29564416238525d117a7eb93f7a205debddadb55f51a0f", checked := Try.checked }
namespace Rows
def none {H : Type} : Left H := { results := [], args := [] }

/-- 'actorgridlaw31.LocksSequences': WHATEVER THE INPUT: true; the input reads as it did. -/
def locksSequencesSpec : ChangeSpec := { name := "locksSequences", fn := fun _ => fun
  | [d] => { results := [.lit (.bool true)], args := [d] }
  | _ => none }
def locksSequencesRow : OpenClaim := { program := "ythafflhaoplpjaa", sum := "21dcfc2561c6bfda8e29564416238525d117a7eb93f7a205debddadb55f51a0f", func := "actorgrid/actorgridlaw31.LocksSequences", spec := "locksSequences", inPlace := ["slices.overlaps[actorgrid/api.Lock]", "slices.overlaps[int]"], unfollowed := true, recurses := true, apart := false }
def LocksSequencesSaid : Prop := locksSequencesRow.holds Try.pinned (OpenSpec.ofChange locksSequencesSpec)

/-- ITS FALSE NEIGHBOUR: 'it returns false'. Refute it at one input. -/
def locksSequencesWrong : ChangeSpec := { name := "locksSequences", fn := fun _ => fun
  | [d] => { results := [.lit (.bool false)], args := [d] }
  | _ => none }
def LocksSequencesWrongFalsely : Prop := locksSequencesRow.holds Try.pinned (OpenSpec.ofChange locksSequencesWrong)

/-- 'actorgridlaw31.LocksNoDeadlock': WHATEVER THE INPUT: true; the input reads as it did. -/
def locksNoDeadlockSpec : ChangeSpec := { name := "locksNoDeadlock", fn := fun _ => fun
  | [d] => { results := [.lit (.bool true)], args := [d] }
  | _ => none }
def locksNoDeadlockRow : OpenClaim := { program := "ythafflhaoplpjaa", sum := "21dcfc2561c6bfda8e29564416238525d117a7eb93f7a205debddadb55f51a0f", func := "actorgrid/actorgridlaw31.LocksNoDeadlock", spec := "locksNoDeadlock", inPlace := ["slices.overlaps[actorgrid/api.Lock]", "slices.overlaps[int]"], unfollowed := true, recurses := true, apart := false }
def LocksNoDeadlockSaid : Prop := locksNoDeadlockRow.holds Try.pinned (OpenSpec.ofChange locksNoDeadlockSpec)

/-- ITS FALSE NEIGHBOUR: 'it returns false'. Refute it at one input. -/
def locksNoDeadlockWrong : ChangeSpec := { name := "locksNoDeadlock", fn := fun _ => fun
  | [d] => { results := [.lit (.bool false)], args := [d] }
  | _ => none }
def LocksNoDeadlockWrongFalsely : Prop := locksNoDeadlockRow.holds Try.pinned (OpenSpec.ofChange locksNoDeadlockWrong)

/-- 'actorgridlaw31.LocksOldest': WHATEVER THE INPUT: true; the input reads as it did. -/
def locksOldestSpec : ChangeSpec := { name := "locksOldest", fn := fun _ => fun
  | [d1, d2] => { results := [.lit (.bool true)], args := [d1, d2] }
  | _ => none }
def locksOldestRow : OpenClaim := { program := "ythafflhaoplpjaa", sum := "21dcfc2561c6bfda8e29564416238525d117a7eb93f7a205debddadb55f51a0f", func := "actorgrid/actorgridlaw31.LocksOldest", spec := "locksOldest", inPlace := ["slices.overlaps[actorgrid/api.Lock]", "slices.overlaps[int]"], unfollowed := true, recurses := true, apart := false }
def LocksOldestSaid : Prop := locksOldestRow.holds Try.pinned (OpenSpec.ofChange locksOldestSpec)

/-- ITS FALSE NEIGHBOUR: 'it returns false'. Refute it at one input. -/
def locksOldestWrong : ChangeSpec := { name := "locksOldest", fn := fun _ => fun
  | [d1, d2] => { results := [.lit (.bool false)], args := [d1, d2] }
  | _ => none }
def LocksOldestWrongFalsely : Prop := locksOldestRow.holds Try.pinned (OpenSpec.ofChange locksOldestWrong)

/-- 'actorgridlaw31.LocksHandOver': WHATEVER THE INPUT: true; the input reads as it did. -/
def locksHandOverSpec : ChangeSpec := { name := "locksHandOver", fn := fun _ => fun
  | [d1, d2] => { results := [.lit (.bool true)], args := [d1, d2] }
  | _ => none }
def locksHandOverRow : OpenClaim := { program := "ythafflhaoplpjaa", sum := "21dcfc2561c6bfda8e29564416238525d117a7eb93f7a205debddadb55f51a0f", func := "actorgrid/actorgridlaw31.LocksHandOver", spec := "locksHandOver", inPlace := ["slices.overlaps[actorgrid/api.Lock]", "slices.overlaps[int]"], unfollowed := true, recurses := true, apart := false }
def LocksHandOverSaid : Prop := locksHandOverRow.holds Try.pinned (OpenSpec.ofChange locksHandOverSpec)

/-- ITS FALSE NEIGHBOUR: 'it returns false'. Refute it at one input. -/
def locksHandOverWrong : ChangeSpec := { name := "locksHandOver", fn := fun _ => fun
  | [d1, d2] => { results := [.lit (.bool false)], args := [d1, d2] }
  | _ => none }
def LocksHandOverWrongFalsely : Prop := locksHandOverRow.holds Try.pinned (OpenSpec.ofChange locksHandOverWrong)

/- THE SECOND FORM. 'bulk': how many values and letters a reading holds, each counted each time it is reached (what is shared counts as often as it is met; a slice's spare places count too). A statement '..UptoSaid' is the law's where the arguments, and the package variables that the reading takes, are together of bulk at most 1048576: NARROWER than '..Said'. Prove '..Said' where nothing that the law and all that it calls make is longer than what came in: it says more and counts as full. Else prove '..UptoSaid'. A law counts once. -/
mutual
def uptoBulk {H : Type} : DataW H → Nat
  | .lit (.string bytes) => bytes.length + 1
  | .lit _ => 1
  | .nil => 1
  | .ptr d => uptoBulk d + 1
  | .slice elems spare => uptoBulkAll elems + uptoBulkAll spare + 1
  | .agg parts => uptoBulkAll parts + 1
  | .iface _ d => uptoBulk d + 1
  | .map entries => uptoBulkEntries entries + 1
  | .held _ => 1
def uptoBulkAll {H : Type} : List (DataW H) → Nat
  | [] => 0
  | d :: r => uptoBulk d + uptoBulkAll r
def uptoBulkEntries {H : Type} : List (Lit × DataW H) → Nat
  | [] => 0
  | x :: r => uptoBulkEntry x + uptoBulkEntries r
def uptoBulkEntry {H : Type} : Lit × DataW H → Nat
  | (.string bytes, d) => bytes.length + uptoBulk d + 1
  | (_, d) => uptoBulk d + 1
 end
def uptoSmall : (H : Type) → List (DataW H) → Bool := fun _ ds => decide (uptoBulkAll ds ≤ 1048576)
def OpenSpec.upto (s : _root_.Go.ChangeSpec) : _root_.Go.OpenSpec := { _root_.Go.OpenSpec.ofChange s with cond := some uptoSmall }

/-- 'actorgridlaw31.LocksSequences', WHERE WHAT IT READS IS OF BULK AT MOST 1048576: true; the input reads as it did. -/
def locksSequencesUptoRow : OpenClaim := { program := "ythafflhaoplpjaa", sum := "21dcfc2561c6bfda8e29564416238525d117a7eb93f7a205debddadb55f51a0f", func := "actorgrid/actorgridlaw31.LocksSequences", spec := "locksSequences", inPlace := ["slices.overlaps[actorgrid/api.Lock]", "slices.overlaps[int]"], unfollowed := true, recurses := true, apart := false, narrowed := true }
def LocksSequencesUptoSaid : Prop := locksSequencesUptoRow.holds Try.pinned (OpenSpec.upto locksSequencesSpec)

/-- 'actorgridlaw31.LocksNoDeadlock', WHERE WHAT IT READS IS OF BULK AT MOST 1048576: true; the input reads as it did. -/
def locksNoDeadlockUptoRow : OpenClaim := { program := "ythafflhaoplpjaa", sum := "21dcfc2561c6bfda8e29564416238525d117a7eb93f7a205debddadb55f51a0f", func := "actorgrid/actorgridlaw31.LocksNoDeadlock", spec := "locksNoDeadlock", inPlace := ["slices.overlaps[actorgrid/api.Lock]", "slices.overlaps[int]"], unfollowed := true, recurses := true, apart := false, narrowed := true }
def LocksNoDeadlockUptoSaid : Prop := locksNoDeadlockUptoRow.holds Try.pinned (OpenSpec.upto locksNoDeadlockSpec)

/-- 'actorgridlaw31.LocksOldest', WHERE WHAT IT READS IS OF BULK AT MOST 1048576: true; the input reads as it did. -/
def locksOldestUptoRow : OpenClaim := { program := "ythafflhaoplpjaa", sum := "21dcfc2561c6bfda8e29564416238525d117a7eb93f7a205debddadb55f51a0f", func := "actorgrid/actorgridlaw31.LocksOldest", spec := "locksOldest", inPlace := ["slices.overlaps[actorgrid/api.Lock]", "slices.overlaps[int]"], unfollowed := true, recurses := true, apart := false, narrowed := true }
def LocksOldestUptoSaid : Prop := locksOldestUptoRow.holds Try.pinned (OpenSpec.upto locksOldestSpec)

/-- 'actorgridlaw31.LocksHandOver', WHERE WHAT IT READS IS OF BULK AT MOST 1048576: true; the input reads as it did. -/
def locksHandOverUptoRow : OpenClaim := { program := "ythafflhaoplpjaa", sum := "21dcfc2561c6bfda8e29564416238525d117a7eb93f7a205debddadb55f51a0f", func := "actorgrid/actorgridlaw31.LocksHandOver", spec := "locksHandOver", inPlace := ["slices.overlaps[actorgrid/api.Lock]", "slices.overlaps[int]"], unfollowed := true, recurses := true, apart := false, narrowed := true }
def LocksHandOverUptoSaid : Prop := locksHandOverUptoRow.holds Try.pinned (OpenSpec.upto locksHandOverSpec)

end Rows
end Go.Proofs.Ythafflhaoplpjaa
