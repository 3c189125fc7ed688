/-
  No cell of these rows narrows 'for every input' (looked for: loops, veiled, ifaces, maps, wideKeys, modest, calm, conditions, laid).
  DERIVED. THE GIVEN ROWS OF THIS SEAT. 7 by the template 'for every input the law returns true; each argument reads behind the call as it read before'; 0 by the template 'total and deterministic' (their statements: YtmacaidmhchpgaaGreatTotals.lean).
  GIVEN WITH THE SEED: the statements are not yours to turn. If you find one false, say at which input.
  Laid BY PROGRAM, IN A SANDBOX (cutbox-rows.mjs): the forced cells as the released guide's own fill.sh prints them over the translation cd532212826f7936… (all of the seat's roots in one cut). By AI agents, Wed Nov 11 2026. No macro, syntax, notation, axiom, sorry.
-/
import Derived.Test.YtmacaidmhchpgaaGreatChecked
import GoSem.Claim
import GoSem.ClaimJoined
import GoSem.ClaimMapViews
import Derived.JoinedTies
import Derived.KernelRfl
namespace Go.Proofs.YtmacaidmhchpgaaGreat
/- THE CELL 'sum', in the pinned program and in every row, IS THE sha256 OF THE DUMP (.gsa) THAT YtmacaidmhchpgaaGreatProg.lean LOADS. Nothing in Lean hashes anything: it is a label: what it is worth is what the hold of that sum in a sandbox is worth. -/
noncomputable def Tryz.pinned : Pinned := { name := "ytmacaidmhchpgaagreat", sum := "cd532212826f79367064852dd70cc861a3e288839bdd7d4f5f4808eca070f17f", checked := Tryz.checked }
namespace Rows
def none {H : Type} : Left H := { results := [], args := [] }

/-- 'actorgridlaw32.TxnAtomic': WHATEVER THE INPUT: true; the input reads as it did. -/
def txnAtomicSpec : ChangeSpec := { name := "txnAtomic", fn := fun _ => fun
  | [d] => { results := [.lit (.bool true)], args := [d] }
  | _ => none }
def txnAtomicRow : OpenClaim := { program := "ytmacaidmhchpgaagreat", sum := "cd532212826f79367064852dd70cc861a3e288839bdd7d4f5f4808eca070f17f", func := "actorgrid/actorgridlaw32.TxnAtomic", spec := "txnAtomic", inPlace := ["slices.overlaps[actorgrid/api.Lock]", "slices.overlaps[int]", "slices.overlaps[actorgrid/api.LayerStack]"], unfollowed := true, recurses := true, apart := false }
def TxnAtomicSaid : Prop := txnAtomicRow.holds Tryz.pinned (OpenSpec.ofChange txnAtomicSpec)

/-- ITS FALSE NEIGHBOUR: 'it returns false'. Refute it at one input. -/
def txnAtomicWrong : ChangeSpec := { name := "txnAtomic", fn := fun _ => fun
  | [d] => { results := [.lit (.bool false)], args := [d] }
  | _ => none }
def TxnAtomicWrongFalsely : Prop := txnAtomicRow.holds Tryz.pinned (OpenSpec.ofChange txnAtomicWrong)

/-- 'actorgridlaw32.TxnCascades': WHATEVER THE INPUT: true; the input reads as it did. -/
def txnCascadesSpec : ChangeSpec := { name := "txnCascades", fn := fun _ => fun
  | [d1, d2] => { results := [.lit (.bool true)], args := [d1, d2] }
  | _ => none }
def txnCascadesRow : OpenClaim := { program := "ytmacaidmhchpgaagreat", sum := "cd532212826f79367064852dd70cc861a3e288839bdd7d4f5f4808eca070f17f", func := "actorgrid/actorgridlaw32.TxnCascades", spec := "txnCascades", inPlace := ["slices.overlaps[actorgrid/api.Lock]", "slices.overlaps[int]", "slices.overlaps[actorgrid/api.LayerStack]"], unfollowed := true, recurses := true, apart := false }
def TxnCascadesSaid : Prop := txnCascadesRow.holds Tryz.pinned (OpenSpec.ofChange txnCascadesSpec)

/-- ITS FALSE NEIGHBOUR: 'it returns false'. Refute it at one input. -/
def txnCascadesWrong : ChangeSpec := { name := "txnCascades", fn := fun _ => fun
  | [d1, d2] => { results := [.lit (.bool false)], args := [d1, d2] }
  | _ => none }
def TxnCascadesWrongFalsely : Prop := txnCascadesRow.holds Tryz.pinned (OpenSpec.ofChange txnCascadesWrong)

/-- 'actorgridlaw32.TxnDrains': WHATEVER THE INPUT: true; the input reads as it did. -/
def txnDrainsSpec : ChangeSpec := { name := "txnDrains", fn := fun _ => fun
  | [d] => { results := [.lit (.bool true)], args := [d] }
  | _ => none }
def txnDrainsRow : OpenClaim := { program := "ytmacaidmhchpgaagreat", sum := "cd532212826f79367064852dd70cc861a3e288839bdd7d4f5f4808eca070f17f", func := "actorgrid/actorgridlaw32.TxnDrains", spec := "txnDrains", inPlace := ["slices.overlaps[actorgrid/api.Lock]", "slices.overlaps[int]", "slices.overlaps[actorgrid/api.LayerStack]"], unfollowed := true, recurses := true, apart := false }
def TxnDrainsSaid : Prop := txnDrainsRow.holds Tryz.pinned (OpenSpec.ofChange txnDrainsSpec)

/-- ITS FALSE NEIGHBOUR: 'it returns false'. Refute it at one input. -/
def txnDrainsWrong : ChangeSpec := { name := "txnDrains", fn := fun _ => fun
  | [d] => { results := [.lit (.bool false)], args := [d] }
  | _ => none }
def TxnDrainsWrongFalsely : Prop := txnDrainsRow.holds Tryz.pinned (OpenSpec.ofChange txnDrainsWrong)

/-- 'actorgridlaw32.TxnOldest': WHATEVER THE INPUT: true; the input reads as it did. -/
def txnOldestSpec : ChangeSpec := { name := "txnOldest", fn := fun _ => fun
  | [d] => { results := [.lit (.bool true)], args := [d] }
  | _ => none }
def txnOldestRow : OpenClaim := { program := "ytmacaidmhchpgaagreat", sum := "cd532212826f79367064852dd70cc861a3e288839bdd7d4f5f4808eca070f17f", func := "actorgrid/actorgridlaw32.TxnOldest", spec := "txnOldest", inPlace := ["slices.overlaps[actorgrid/api.Lock]", "slices.overlaps[int]", "slices.overlaps[actorgrid/api.LayerStack]"], unfollowed := true, recurses := true, apart := false }
def TxnOldestSaid : Prop := txnOldestRow.holds Tryz.pinned (OpenSpec.ofChange txnOldestSpec)

/-- ITS FALSE NEIGHBOUR: 'it returns false'. Refute it at one input. -/
def txnOldestWrong : ChangeSpec := { name := "txnOldest", fn := fun _ => fun
  | [d] => { results := [.lit (.bool false)], args := [d] }
  | _ => none }
def TxnOldestWrongFalsely : Prop := txnOldestRow.holds Tryz.pinned (OpenSpec.ofChange txnOldestWrong)

/-- 'actorgridlaw32.TxnOrder': WHATEVER THE INPUT: true; the input reads as it did. -/
def txnOrderSpec : ChangeSpec := { name := "txnOrder", fn := fun _ => fun
  | [d] => { results := [.lit (.bool true)], args := [d] }
  | _ => none }
def txnOrderRow : OpenClaim := { program := "ytmacaidmhchpgaagreat", sum := "cd532212826f79367064852dd70cc861a3e288839bdd7d4f5f4808eca070f17f", func := "actorgrid/actorgridlaw32.TxnOrder", spec := "txnOrder", inPlace := ["slices.overlaps[actorgrid/api.Lock]", "slices.overlaps[int]", "slices.overlaps[actorgrid/api.LayerStack]"], unfollowed := true, recurses := true, apart := false }
def TxnOrderSaid : Prop := txnOrderRow.holds Tryz.pinned (OpenSpec.ofChange txnOrderSpec)

/-- ITS FALSE NEIGHBOUR: 'it returns false'. Refute it at one input. -/
def txnOrderWrong : ChangeSpec := { name := "txnOrder", fn := fun _ => fun
  | [d] => { results := [.lit (.bool false)], args := [d] }
  | _ => none }
def TxnOrderWrongFalsely : Prop := txnOrderRow.holds Tryz.pinned (OpenSpec.ofChange txnOrderWrong)

/-- 'actorgridlaw32.TxnSequences': WHATEVER THE INPUT: true; the input reads as it did. -/
def txnSequencesSpec : ChangeSpec := { name := "txnSequences", fn := fun _ => fun
  | [d] => { results := [.lit (.bool true)], args := [d] }
  | _ => none }
def txnSequencesRow : OpenClaim := { program := "ytmacaidmhchpgaagreat", sum := "cd532212826f79367064852dd70cc861a3e288839bdd7d4f5f4808eca070f17f", func := "actorgrid/actorgridlaw32.TxnSequences", spec := "txnSequences", inPlace := ["slices.overlaps[actorgrid/api.Lock]", "slices.overlaps[int]", "slices.overlaps[actorgrid/api.LayerStack]"], unfollowed := true, recurses := true, apart := false }
def TxnSequencesSaid : Prop := txnSequencesRow.holds Tryz.pinned (OpenSpec.ofChange txnSequencesSpec)

/-- ITS FALSE NEIGHBOUR: 'it returns false'. Refute it at one input. -/
def txnSequencesWrong : ChangeSpec := { name := "txnSequences", fn := fun _ => fun
  | [d] => { results := [.lit (.bool false)], args := [d] }
  | _ => none }
def TxnSequencesWrongFalsely : Prop := txnSequencesRow.holds Tryz.pinned (OpenSpec.ofChange txnSequencesWrong)

/-- 'actorgridlaw32.TxnExpires': WHATEVER THE INPUT: true; the input reads as it did. -/
def txnExpiresSpec : ChangeSpec := { name := "txnExpires", fn := fun _ => fun
  | [d1, d2] => { results := [.lit (.bool true)], args := [d1, d2] }
  | _ => none }
def txnExpiresRow : OpenClaim := { program := "ytmacaidmhchpgaagreat", sum := "cd532212826f79367064852dd70cc861a3e288839bdd7d4f5f4808eca070f17f", func := "actorgrid/actorgridlaw32.TxnExpires", spec := "txnExpires", inPlace := ["slices.overlaps[actorgrid/api.Lock]", "slices.overlaps[int]", "slices.overlaps[actorgrid/api.LayerStack]"], unfollowed := true, recurses := true, apart := false }
def TxnExpiresSaid : Prop := txnExpiresRow.holds Tryz.pinned (OpenSpec.ofChange txnExpiresSpec)

/-- ITS FALSE NEIGHBOUR: 'it returns false'. Refute it at one input. -/
def txnExpiresWrong : ChangeSpec := { name := "txnExpires", fn := fun _ => fun
  | [d1, d2] => { results := [.lit (.bool false)], args := [d1, d2] }
  | _ => none }
def TxnExpiresWrongFalsely : Prop := txnExpiresRow.holds Tryz.pinned (OpenSpec.ofChange txnExpiresWrong)

/- THE SECOND FORM. 'bulk': how many values and letters a reading holds, each counted each time it is reached (what is shared counts as often as it is met; a slice's spare places count too). A statement '..UptoSaid' is the law's where the arguments, and the package variables that the reading takes, are together of bulk at most 1048576: NARROWER than '..Said'. Prove '..Said' where nothing that the law and all that it calls make is longer than what came in: it says more and counts as full. Else prove '..UptoSaid'. A law counts once. -/
mutual
def uptoBulk {H : Type} : DataW H → Nat
  | .lit (.string bytes) => bytes.length + 1
  | .lit _ => 1
  | .nil => 1
  | .ptr d => uptoBulk d + 1
  | .slice elems spare => uptoBulkAll elems + uptoBulkAll spare + 1
  | .agg parts => uptoBulkAll parts + 1
  | .iface _ d => uptoBulk d + 1
  | .map entries => uptoBulkEntries entries + 1
  | .held _ => 1
def uptoBulkAll {H : Type} : List (DataW H) → Nat
  | [] => 0
  | d :: r => uptoBulk d + uptoBulkAll r
def uptoBulkEntries {H : Type} : List (Lit × DataW H) → Nat
  | [] => 0
  | x :: r => uptoBulkEntry x + uptoBulkEntries r
def uptoBulkEntry {H : Type} : Lit × DataW H → Nat
  | (.string bytes, d) => bytes.length + uptoBulk d + 1
  | (_, d) => uptoBulk d + 1
 end
def uptoSmall : (H : Type) → List (DataW H) → Bool := fun _ ds => decide (uptoBulkAll ds ≤ 1048576)
def OpenSpec.upto (s : _root_.Go.ChangeSpec) : _root_.Go.OpenSpec := { _root_.Go.OpenSpec.ofChange s with cond := some uptoSmall }

/-- 'actorgridlaw32.TxnAtomic', WHERE WHAT IT READS IS OF BULK AT MOST 1048576: true; the input reads as it did. -/
def txnAtomicUptoRow : OpenClaim := { program := "ytmacaidmhchpgaagreat", sum := "cd532212826f79367064852dd70cc861a3e288839bdd7d4f5f4808eca070f17f", func := "actorgrid/actorgridlaw32.TxnAtomic", spec := "txnAtomic", inPlace := ["slices.overlaps[actorgrid/api.Lock]", "slices.overlaps[int]", "slices.overlaps[actorgrid/api.LayerStack]"], unfollowed := true, recurses := true, apart := false, narrowed := true }
def TxnAtomicUptoSaid : Prop := txnAtomicUptoRow.holds Tryz.pinned (OpenSpec.upto txnAtomicSpec)

/-- 'actorgridlaw32.TxnCascades', WHERE WHAT IT READS IS OF BULK AT MOST 1048576: true; the input reads as it did. -/
def txnCascadesUptoRow : OpenClaim := { program := "ytmacaidmhchpgaagreat", sum := "cd532212826f79367064852dd70cc861a3e288839bdd7d4f5f4808eca070f17f", func := "actorgrid/actorgridlaw32.TxnCascades", spec := "txnCascades", inPlace := ["slices.overlaps[actorgrid/api.Lock]", "slices.overlaps[int]", "slices.overlaps[actorgrid/api.LayerStack]"], unfollowed := true, recurses := true, apart := false, narrowed := true }
def TxnCascadesUptoSaid : Prop := txnCascadesUptoRow.holds Tryz.pinned (OpenSpec.upto txnCascadesSpec)

/-- 'actorgridlaw32.TxnDrains', WHERE WHAT IT READS IS OF BULK AT MOST 1048576: true; the input reads as it did. -/
def txnDrainsUptoRow : OpenClaim := { program := "ytmacaidmhchpgaagreat", sum := "cd532212826f79367064852dd70cc861a3e288839bdd7d4f5f4808eca070f17f", func := "actorgrid/actorgridlaw32.TxnDrains", spec := "txnDrains", inPlace := ["slices.overlaps[actorgrid/api.Lock]", "slices.overlaps[int]", "slices.overlaps[actorgrid/api.LayerStack]"], unfollowed := true, recurses := true, apart := false, narrowed := true }
def TxnDrainsUptoSaid : Prop := txnDrainsUptoRow.holds Tryz.pinned (OpenSpec.upto txnDrainsSpec)

/-- 'actorgridlaw32.TxnOldest', WHERE WHAT IT READS IS OF BULK AT MOST 1048576: true; the input reads as it did. -/
def txnOldestUptoRow : OpenClaim := { program := "ytmacaidmhchpgaagreat", sum := "cd532212826f79367064852dd70cc861a3e288839bdd7d4f5f4808eca070f17f", func := "actorgrid/actorgridlaw32.TxnOldest", spec := "txnOldest", inPlace := ["slices.overlaps[actorgrid/api.Lock]", "slices.overlaps[int]", "slices.overlaps[actorgrid/api.LayerStack]"], unfollowed := true, recurses := true, apart := false, narrowed := true }
def TxnOldestUptoSaid : Prop := txnOldestUptoRow.holds Tryz.pinned (OpenSpec.upto txnOldestSpec)

/-- 'actorgridlaw32.TxnOrder', WHERE WHAT IT READS IS OF BULK AT MOST 1048576: true; the input reads as it did. -/
def txnOrderUptoRow : OpenClaim := { program := "ytmacaidmhchpgaagreat", sum := "cd532212826f79367064852dd70cc861a3e288839bdd7d4f5f4808eca070f17f", func := "actorgrid/actorgridlaw32.TxnOrder", spec := "txnOrder", inPlace := ["slices.overlaps[actorgrid/api.Lock]", "slices.overlaps[int]", "slices.overlaps[actorgrid/api.LayerStack]"], unfollowed := true, recurses := true, apart := false, narrowed := true }
def TxnOrderUptoSaid : Prop := txnOrderUptoRow.holds Tryz.pinned (OpenSpec.upto txnOrderSpec)

/-- 'actorgridlaw32.TxnSequences', WHERE WHAT IT READS IS OF BULK AT MOST 1048576: true; the input reads as it did. -/
def txnSequencesUptoRow : OpenClaim := { program := "ytmacaidmhchpgaagreat", sum := "cd532212826f79367064852dd70cc861a3e288839bdd7d4f5f4808eca070f17f", func := "actorgrid/actorgridlaw32.TxnSequences", spec := "txnSequences", inPlace := ["slices.overlaps[actorgrid/api.Lock]", "slices.overlaps[int]", "slices.overlaps[actorgrid/api.LayerStack]"], unfollowed := true, recurses := true, apart := false, narrowed := true }
def TxnSequencesUptoSaid : Prop := txnSequencesUptoRow.holds Tryz.pinned (OpenSpec.upto txnSequencesSpec)

/-- 'actorgridlaw32.TxnExpires', WHERE WHAT IT READS IS OF BULK AT MOST 1048576: true; the input reads as it did. -/
def txnExpiresUptoRow : OpenClaim := { program := "ytmacaidmhchpgaagreat", sum := "cd532212826f79367064852dd70cc861a3e288839bdd7d4f5f4808eca070f17f", func := "actorgrid/actorgridlaw32.TxnExpires", spec := "txnExpires", inPlace := ["slices.overlaps[actorgrid/api.Lock]", "slices.overlaps[int]", "slices.overlaps[actorgrid/api.LayerStack]"], unfollowed := true, recurses := true, apart := false, narrowed := true }
def TxnExpiresUptoSaid : Prop := txnExpiresUptoRow.holds Tryz.pinned (OpenSpec.upto txnExpiresSpec)

end Rows
end Go.Proofs.YtmacaidmhchpgaaGreat
