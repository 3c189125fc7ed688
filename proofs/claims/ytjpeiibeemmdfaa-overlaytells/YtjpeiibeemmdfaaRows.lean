/-
  No cell of these rows narrows 'for every input' (looked for: loops, veiled, ifaces, maps, wideKeys, modest, calm, conditions, laid).
  DERIVED. THE GIVEN ROWS OF THIS SEAT. 6 by the template 'for every input the law returns true; each argument reads behind the call as it read before'; 0 by the template 'total and deterministic' (their statements: YtjpeiibeemmdfaaTotals.lean).
  GIVEN WITH THE SEED: the statements are not yours to turn. If you find one false, say at which input.
  Laid BY PROGRAM, IN A SANDBOX (cutbox-rows.mjs): the forced cells as the released guide's own fill.sh prints them over the translation 567cd049197a8a06… (all of the seat's roots in one cut). By AI agents, Wed Nov 11 2026. No macro, syntax, notation, axiom, sorry.
-/
import Derived.Test.YtjpeiibeemmdfaaChecked
import GoSem.Claim
import GoSem.ClaimJoined
import GoSem.ClaimMapViews
import Derived.JoinedTies
import Derived.KernelRfl
namespace Go.Proofs.Ytjpeiibeemmdfaa
/- THE CELL 'sum', in the pinned program and in every row, IS THE sha256 OF THE DUMP (.gsa) THAT YtjpeiibeemmdfaaProg.lean LOADS. Nothing in Lean hashes anything: it is a label: what it is worth is what the hold of that sum in a sandbox is worth. -/
noncomputable def Try.pinned : Pinned := { name := "ytjpeiibeemmdfaa", sum := "567cd049197a8a061589aa0007ed200fdc72a6068425e8508684e523f3a5d509", checked := Try.checked }
namespace Rows
def none {H : Type} : Left H := { results := [], args := [] }

/-- 'actorgridlaw4.OverlayCircle': WHATEVER THE INPUT: true; the input reads as it did. -/
def overlayCircleSpec : ChangeSpec := { name := "overlayCircle", fn := fun _ => fun
  | [d1, d2] => { results := [.lit (.bool true)], args := [d1, d2] }
  | _ => none }
def overlayCircleRow : OpenClaim := { program := "ytjpeiibeemmdfaa", sum := "567cd049197a8a061589aa0007ed200fdc72a6068425e8508684e523f3a5d509", func := "actorgrid/actorgridlaw4.OverlayCircle", spec := "overlayCircle", unfollowed := true, recurses := true, apart := false }
def OverlayCircleSaid : Prop := overlayCircleRow.holds Try.pinned (OpenSpec.ofChange overlayCircleSpec)

/-- ITS FALSE NEIGHBOUR: 'it returns false'. Refute it at one input. -/
def overlayCircleWrong : ChangeSpec := { name := "overlayCircle", fn := fun _ => fun
  | [d1, d2] => { results := [.lit (.bool false)], args := [d1, d2] }
  | _ => none }
def OverlayCircleWrongFalsely : Prop := overlayCircleRow.holds Try.pinned (OpenSpec.ofChange overlayCircleWrong)

/-- 'actorgridlaw4.OverlayDegree': WHATEVER THE INPUT: true; the input reads as it did. -/
def overlayDegreeSpec : ChangeSpec := { name := "overlayDegree", fn := fun _ => fun
  | [d] => { results := [.lit (.bool true)], args := [d] }
  | _ => none }
def overlayDegreeRow : OpenClaim := { program := "ytjpeiibeemmdfaa", sum := "567cd049197a8a061589aa0007ed200fdc72a6068425e8508684e523f3a5d509", func := "actorgrid/actorgridlaw4.OverlayDegree", spec := "overlayDegree", unfollowed := true, recurses := true, apart := false }
def OverlayDegreeSaid : Prop := overlayDegreeRow.holds Try.pinned (OpenSpec.ofChange overlayDegreeSpec)

/-- ITS FALSE NEIGHBOUR: 'it returns false'. Refute it at one input. -/
def overlayDegreeWrong : ChangeSpec := { name := "overlayDegree", fn := fun _ => fun
  | [d] => { results := [.lit (.bool false)], args := [d] }
  | _ => none }
def OverlayDegreeWrongFalsely : Prop := overlayDegreeRow.holds Try.pinned (OpenSpec.ofChange overlayDegreeWrong)

/-- 'actorgridlaw4.OverlayRemoval': WHATEVER THE INPUT: true; the input reads as it did. -/
def overlayRemovalSpec : ChangeSpec := { name := "overlayRemoval", fn := fun _ => fun
  | [d1, d2] => { results := [.lit (.bool true)], args := [d1, d2] }
  | _ => none }
def overlayRemovalRow : OpenClaim := { program := "ytjpeiibeemmdfaa", sum := "567cd049197a8a061589aa0007ed200fdc72a6068425e8508684e523f3a5d509", func := "actorgrid/actorgridlaw4.OverlayRemoval", spec := "overlayRemoval", unfollowed := true, recurses := true, apart := false }
def OverlayRemovalSaid : Prop := overlayRemovalRow.holds Try.pinned (OpenSpec.ofChange overlayRemovalSpec)

/-- ITS FALSE NEIGHBOUR: 'it returns false'. Refute it at one input. -/
def overlayRemovalWrong : ChangeSpec := { name := "overlayRemoval", fn := fun _ => fun
  | [d1, d2] => { results := [.lit (.bool false)], args := [d1, d2] }
  | _ => none }
def OverlayRemovalWrongFalsely : Prop := overlayRemovalRow.holds Try.pinned (OpenSpec.ofChange overlayRemovalWrong)

/-- 'actorgridlaw4.OverlayJoin': WHATEVER THE INPUT: true; the input reads as it did. -/
def overlayJoinSpec : ChangeSpec := { name := "overlayJoin", fn := fun _ => fun
  | [d1, d2] => { results := [.lit (.bool true)], args := [d1, d2] }
  | _ => none }
def overlayJoinRow : OpenClaim := { program := "ytjpeiibeemmdfaa", sum := "567cd049197a8a061589aa0007ed200fdc72a6068425e8508684e523f3a5d509", func := "actorgrid/actorgridlaw4.OverlayJoin", spec := "overlayJoin", unfollowed := true, recurses := true, apart := false }
def OverlayJoinSaid : Prop := overlayJoinRow.holds Try.pinned (OpenSpec.ofChange overlayJoinSpec)

/-- ITS FALSE NEIGHBOUR: 'it returns false'. Refute it at one input. -/
def overlayJoinWrong : ChangeSpec := { name := "overlayJoin", fn := fun _ => fun
  | [d1, d2] => { results := [.lit (.bool false)], args := [d1, d2] }
  | _ => none }
def OverlayJoinWrongFalsely : Prop := overlayJoinRow.holds Try.pinned (OpenSpec.ofChange overlayJoinWrong)

/-- 'actorgridlaw4.OverlayTells': WHATEVER THE INPUT: true; the input reads as it did. -/
def overlayTellsSpec : ChangeSpec := { name := "overlayTells", fn := fun _ => fun
  | [d1, d2, d3, d4] => { results := [.lit (.bool true)], args := [d1, d2, d3, d4] }
  | _ => none }
def overlayTellsRow : OpenClaim := { program := "ytjpeiibeemmdfaa", sum := "567cd049197a8a061589aa0007ed200fdc72a6068425e8508684e523f3a5d509", func := "actorgrid/actorgridlaw4.OverlayTells", spec := "overlayTells", unfollowed := true, recurses := true, apart := false }
def OverlayTellsSaid : Prop := overlayTellsRow.holds Try.pinned (OpenSpec.ofChange overlayTellsSpec)

/-- ITS FALSE NEIGHBOUR: 'it returns false'. Refute it at one input. -/
def overlayTellsWrong : ChangeSpec := { name := "overlayTells", fn := fun _ => fun
  | [d1, d2, d3, d4] => { results := [.lit (.bool false)], args := [d1, d2, d3, d4] }
  | _ => none }
def OverlayTellsWrongFalsely : Prop := overlayTellsRow.holds Try.pinned (OpenSpec.ofChange overlayTellsWrong)

/-- 'actorgridlaw4.OverlayNeighbours': WHATEVER THE INPUT: true; the input reads as it did. -/
def overlayNeighboursSpec : ChangeSpec := { name := "overlayNeighbours", fn := fun _ => fun
  | [d1, d2, d3] => { results := [.lit (.bool true)], args := [d1, d2, d3] }
  | _ => none }
def overlayNeighboursRow : OpenClaim := { program := "ytjpeiibeemmdfaa", sum := "567cd049197a8a061589aa0007ed200fdc72a6068425e8508684e523f3a5d509", func := "actorgrid/actorgridlaw4.OverlayNeighbours", spec := "overlayNeighbours", unfollowed := true, recurses := true, apart := false }
def OverlayNeighboursSaid : Prop := overlayNeighboursRow.holds Try.pinned (OpenSpec.ofChange overlayNeighboursSpec)

/-- ITS FALSE NEIGHBOUR: 'it returns false'. Refute it at one input. -/
def overlayNeighboursWrong : ChangeSpec := { name := "overlayNeighbours", fn := fun _ => fun
  | [d1, d2, d3] => { results := [.lit (.bool false)], args := [d1, d2, d3] }
  | _ => none }
def OverlayNeighboursWrongFalsely : Prop := overlayNeighboursRow.holds Try.pinned (OpenSpec.ofChange overlayNeighboursWrong)

/- THE SECOND FORM. 'bulk': how many values and letters a reading holds, each counted each time it is reached (what is shared counts as often as it is met; a slice's spare places count too). A statement '..UptoSaid' is the law's where the arguments, and the package variables that the reading takes, are together of bulk at most 1048576: NARROWER than '..Said'. Prove '..Said' where nothing that the law and all that it calls make is longer than what came in: it says more and counts as full. Else prove '..UptoSaid'. A law counts once. -/
mutual
def uptoBulk {H : Type} : DataW H → Nat
  | .lit (.string bytes) => bytes.length + 1
  | .lit _ => 1
  | .nil => 1
  | .ptr d => uptoBulk d + 1
  | .slice elems spare => uptoBulkAll elems + uptoBulkAll spare + 1
  | .agg parts => uptoBulkAll parts + 1
  | .iface _ d => uptoBulk d + 1
  | .map entries => uptoBulkEntries entries + 1
  | .held _ => 1
def uptoBulkAll {H : Type} : List (DataW H) → Nat
  | [] => 0
  | d :: r => uptoBulk d + uptoBulkAll r
def uptoBulkEntries {H : Type} : List (Lit × DataW H) → Nat
  | [] => 0
  | x :: r => uptoBulkEntry x + uptoBulkEntries r
def uptoBulkEntry {H : Type} : Lit × DataW H → Nat
  | (.string bytes, d) => bytes.length + uptoBulk d + 1
  | (_, d) => uptoBulk d + 1
 end
def uptoSmall : (H : Type) → List (DataW H) → Bool := fun _ ds => decide (uptoBulkAll ds ≤ 1048576)
def OpenSpec.upto (s : _root_.Go.ChangeSpec) : _root_.Go.OpenSpec := { _root_.Go.OpenSpec.ofChange s with cond := some uptoSmall }

/-- 'actorgridlaw4.OverlayCircle', WHERE WHAT IT READS IS OF BULK AT MOST 1048576: true; the input reads as it did. -/
def overlayCircleUptoRow : OpenClaim := { program := "ytjpeiibeemmdfaa", sum := "567cd049197a8a061589aa0007ed200fdc72a6068425e8508684e523f3a5d509", func := "actorgrid/actorgridlaw4.OverlayCircle", spec := "overlayCircle", unfollowed := true, recurses := true, apart := false, narrowed := true }
def OverlayCircleUptoSaid : Prop := overlayCircleUptoRow.holds Try.pinned (OpenSpec.upto overlayCircleSpec)

/-- 'actorgridlaw4.OverlayDegree', WHERE WHAT IT READS IS OF BULK AT MOST 1048576: true; the input reads as it did. -/
def overlayDegreeUptoRow : OpenClaim := { program := "ytjpeiibeemmdfaa", sum := "567cd049197a8a061589aa0007ed200fdc72a6068425e8508684e523f3a5d509", func := "actorgrid/actorgridlaw4.OverlayDegree", spec := "overlayDegree", unfollowed := true, recurses := true, apart := false, narrowed := true }
def OverlayDegreeUptoSaid : Prop := overlayDegreeUptoRow.holds Try.pinned (OpenSpec.upto overlayDegreeSpec)

/-- 'actorgridlaw4.OverlayRemoval', WHERE WHAT IT READS IS OF BULK AT MOST 1048576: true; the input reads as it did. -/
def overlayRemovalUptoRow : OpenClaim := { program := "ytjpeiibeemmdfaa", sum := "567cd049197a8a061589aa0007ed200fdc72a6068425e8508684e523f3a5d509", func := "actorgrid/actorgridlaw4.OverlayRemoval", spec := "overlayRemoval", unfollowed := true, recurses := true, apart := false, narrowed := true }
def OverlayRemovalUptoSaid : Prop := overlayRemovalUptoRow.holds Try.pinned (OpenSpec.upto overlayRemovalSpec)

/-- 'actorgridlaw4.OverlayJoin', WHERE WHAT IT READS IS OF BULK AT MOST 1048576: true; the input reads as it did. -/
def overlayJoinUptoRow : OpenClaim := { program := "ytjpeiibeemmdfaa", sum := "567cd049197a8a061589aa0007ed200fdc72a6068425e8508684e523f3a5d509", func := "actorgrid/actorgridlaw4.OverlayJoin", spec := "overlayJoin", unfollowed := true, recurses := true, apart := false, narrowed := true }
def OverlayJoinUptoSaid : Prop := overlayJoinUptoRow.holds Try.pinned (OpenSpec.upto overlayJoinSpec)

/-- 'actorgridlaw4.OverlayTells', WHERE WHAT IT READS IS OF BULK AT MOST 1048576: true; the input reads as it did. -/
def overlayTellsUptoRow : OpenClaim := { program := "ytjpeiibeemmdfaa", sum := "567cd049197a8a061589aa0007ed200fdc72a6068425e8508684e523f3a5d509", func := "actorgrid/actorgridlaw4.OverlayTells", spec := "overlayTells", unfollowed := true, recurses := true, apart := false, narrowed := true }
def OverlayTellsUptoSaid : Prop := overlayTellsUptoRow.holds Try.pinned (OpenSpec.upto overlayTellsSpec)

/-- 'actorgridlaw4.OverlayNeighbours', WHERE WHAT IT READS IS OF BULK AT MOST 1048576: true; the input reads as it did. -/
def overlayNeighboursUptoRow : OpenClaim := { program := "ytjpeiibeemmdfaa", sum := "567cd049197a8a061589aa0007ed200fdc72a6068425e8508684e523f3a5d509", func := "actorgrid/actorgridlaw4.OverlayNeighbours", spec := "overlayNeighbours", unfollowed := true, recurses := true, apart := false, narrowed := true }
def OverlayNeighboursUptoSaid : Prop := overlayNeighboursUptoRow.holds Try.pinned (OpenSpec.upto overlayNeighboursSpec)

end Rows
end Go.Proofs.Ytjpeiibeemmdfaa
