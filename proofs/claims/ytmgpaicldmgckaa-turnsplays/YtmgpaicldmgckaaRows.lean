/-
  No cell of these rows narrows 'for every input' (looked for: loops, veiled, ifaces, maps, wideKeys, modest, calm, conditions, laid).
  DERIVED. THE GIVEN ROWS OF THIS SEAT. 6 by the template 'for every input the law returns true; each argument reads behind the call as it read before'; 0 by the template 'total and deterministic' (their statements: YtmgpaicldmgckaaTotals.lean).
  GIVEN WITH THE SEED: the statements are not yours to turn. If you find one false, say at which input.
  Laid BY PROGRAM, IN A SANDBOX (cutbox-rows.mjs): the forced cells as the released guide's own fill.sh prints them over the translation 589b655a14e9234e… (all of the seat's roots in one cut). By AI agents, Wed Nov 11 2026. No macro, syntax, notation, axiom, sorry.
-/
import Derived.Test.YtmgpaicldmgckaaChecked
import GoSem.Claim
import GoSem.ClaimJoined
import GoSem.ClaimMapViews
import Derived.JoinedTies
import Derived.KernelRfl
namespace Go.Proofs.Ytmgpaicldmgckaa
/- THE CELL 'sum', in the pinned program and in every row, IS THE sha256 OF THE DUMP (.gsa) THAT YtmgpaicldmgckaaProg.lean LOADS. Nothing in Lean hashes anything: it is a label: what it is worth is what the hold of that sum in a sandbox is worth. -/
noncomputable def Try.pinned : Pinned := { name := "ytmgpaicldmgckaa", sum := "589b655a14e9234e7221a32b3ac5a0a27687d0f38748421ad43a44d9d2b4908c", checked := Try.checked }
namespace Rows
def none {H : Type} : Left H := { results := [], args := [] }

/-- 'actorgridlaw24.TurnsValid': WHATEVER THE INPUT: true; the input reads as it did. -/
def turnsValidSpec : ChangeSpec := { name := "turnsValid", fn := fun _ => fun
  | [d1, d2, d3, d4, d5, d6, d7] => { results := [.lit (.bool true)], args := [d1, d2, d3, d4, d5, d6, d7] }
  | _ => none }
def turnsValidRow : OpenClaim := { program := "ytmgpaicldmgckaa", sum := "589b655a14e9234e7221a32b3ac5a0a27687d0f38748421ad43a44d9d2b4908c", func := "actorgrid/actorgridlaw24.TurnsValid", spec := "turnsValid", unfollowed := true, recurses := true, apart := false }
def TurnsValidSaid : Prop := turnsValidRow.holds Try.pinned (OpenSpec.ofChange turnsValidSpec)

/-- ITS FALSE NEIGHBOUR: 'it returns false'. Refute it at one input. -/
def turnsValidWrong : ChangeSpec := { name := "turnsValid", fn := fun _ => fun
  | [d1, d2, d3, d4, d5, d6, d7] => { results := [.lit (.bool false)], args := [d1, d2, d3, d4, d5, d6, d7] }
  | _ => none }
def TurnsValidWrongFalsely : Prop := turnsValidRow.holds Try.pinned (OpenSpec.ofChange turnsValidWrong)

/-- 'actorgridlaw24.TurnsBegin': WHATEVER THE INPUT: true; the input reads as it did. -/
def turnsBeginSpec : ChangeSpec := { name := "turnsBegin", fn := fun _ => fun
  | [d1, d2] => { results := [.lit (.bool true)], args := [d1, d2] }
  | _ => none }
def turnsBeginRow : OpenClaim := { program := "ytmgpaicldmgckaa", sum := "589b655a14e9234e7221a32b3ac5a0a27687d0f38748421ad43a44d9d2b4908c", func := "actorgrid/actorgridlaw24.TurnsBegin", spec := "turnsBegin", unfollowed := true, recurses := true, apart := false }
def TurnsBeginSaid : Prop := turnsBeginRow.holds Try.pinned (OpenSpec.ofChange turnsBeginSpec)

/-- ITS FALSE NEIGHBOUR: 'it returns false'. Refute it at one input. -/
def turnsBeginWrong : ChangeSpec := { name := "turnsBegin", fn := fun _ => fun
  | [d1, d2] => { results := [.lit (.bool false)], args := [d1, d2] }
  | _ => none }
def TurnsBeginWrongFalsely : Prop := turnsBeginRow.holds Try.pinned (OpenSpec.ofChange turnsBeginWrong)

/-- 'actorgridlaw24.TurnsCalls': WHATEVER THE INPUT: true; the input reads as it did. -/
def turnsCallsSpec : ChangeSpec := { name := "turnsCalls", fn := fun _ => fun
  | [d1, d2, d3, d4, d5, d6, d7, d8, d9] => { results := [.lit (.bool true)], args := [d1, d2, d3, d4, d5, d6, d7, d8, d9] }
  | _ => none }
def turnsCallsRow : OpenClaim := { program := "ytmgpaicldmgckaa", sum := "589b655a14e9234e7221a32b3ac5a0a27687d0f38748421ad43a44d9d2b4908c", func := "actorgrid/actorgridlaw24.TurnsCalls", spec := "turnsCalls", unfollowed := true, recurses := true, apart := false }
def TurnsCallsSaid : Prop := turnsCallsRow.holds Try.pinned (OpenSpec.ofChange turnsCallsSpec)

/-- ITS FALSE NEIGHBOUR: 'it returns false'. Refute it at one input. -/
def turnsCallsWrong : ChangeSpec := { name := "turnsCalls", fn := fun _ => fun
  | [d1, d2, d3, d4, d5, d6, d7, d8, d9] => { results := [.lit (.bool false)], args := [d1, d2, d3, d4, d5, d6, d7, d8, d9] }
  | _ => none }
def TurnsCallsWrongFalsely : Prop := turnsCallsRow.holds Try.pinned (OpenSpec.ofChange turnsCallsWrong)

/-- 'actorgridlaw24.TurnsPlays': WHATEVER THE INPUT: true; the input reads as it did. -/
def turnsPlaysSpec : ChangeSpec := { name := "turnsPlays", fn := fun _ => fun
  | [d1, d2] => { results := [.lit (.bool true)], args := [d1, d2] }
  | _ => none }
def turnsPlaysRow : OpenClaim := { program := "ytmgpaicldmgckaa", sum := "589b655a14e9234e7221a32b3ac5a0a27687d0f38748421ad43a44d9d2b4908c", func := "actorgrid/actorgridlaw24.TurnsPlays", spec := "turnsPlays", unfollowed := true, recurses := true, apart := false }
def TurnsPlaysSaid : Prop := turnsPlaysRow.holds Try.pinned (OpenSpec.ofChange turnsPlaysSpec)

/-- ITS FALSE NEIGHBOUR: 'it returns false'. Refute it at one input. -/
def turnsPlaysWrong : ChangeSpec := { name := "turnsPlays", fn := fun _ => fun
  | [d1, d2] => { results := [.lit (.bool false)], args := [d1, d2] }
  | _ => none }
def TurnsPlaysWrongFalsely : Prop := turnsPlaysRow.holds Try.pinned (OpenSpec.ofChange turnsPlaysWrong)

/-- 'actorgridlaw24.TurnsClosed': WHATEVER THE INPUT: true; the input reads as it did. -/
def turnsClosedSpec : ChangeSpec := { name := "turnsClosed", fn := fun _ => fun
  | [d1, d2, d3, d4, d5, d6] => { results := [.lit (.bool true)], args := [d1, d2, d3, d4, d5, d6] }
  | _ => none }
def turnsClosedRow : OpenClaim := { program := "ytmgpaicldmgckaa", sum := "589b655a14e9234e7221a32b3ac5a0a27687d0f38748421ad43a44d9d2b4908c", func := "actorgrid/actorgridlaw24.TurnsClosed", spec := "turnsClosed", unfollowed := true, recurses := true, apart := false }
def TurnsClosedSaid : Prop := turnsClosedRow.holds Try.pinned (OpenSpec.ofChange turnsClosedSpec)

/-- ITS FALSE NEIGHBOUR: 'it returns false'. Refute it at one input. -/
def turnsClosedWrong : ChangeSpec := { name := "turnsClosed", fn := fun _ => fun
  | [d1, d2, d3, d4, d5, d6] => { results := [.lit (.bool false)], args := [d1, d2, d3, d4, d5, d6] }
  | _ => none }
def TurnsClosedWrongFalsely : Prop := turnsClosedRow.holds Try.pinned (OpenSpec.ofChange turnsClosedWrong)

/-- 'actorgridlaw24.TurnsNested': WHATEVER THE INPUT: true; the input reads as it did. -/
def turnsNestedSpec : ChangeSpec := { name := "turnsNested", fn := fun _ => fun
  | [d1, d2, d3, d4, d5, d6] => { results := [.lit (.bool true)], args := [d1, d2, d3, d4, d5, d6] }
  | _ => none }
def turnsNestedRow : OpenClaim := { program := "ytmgpaicldmgckaa", sum := "589b655a14e9234e7221a32b3ac5a0a27687d0f38748421ad43a44d9d2b4908c", func := "actorgrid/actorgridlaw24.TurnsNested", spec := "turnsNested", unfollowed := true, recurses := true, apart := false }
def TurnsNestedSaid : Prop := turnsNestedRow.holds Try.pinned (OpenSpec.ofChange turnsNestedSpec)

/-- ITS FALSE NEIGHBOUR: 'it returns false'. Refute it at one input. -/
def turnsNestedWrong : ChangeSpec := { name := "turnsNested", fn := fun _ => fun
  | [d1, d2, d3, d4, d5, d6] => { results := [.lit (.bool false)], args := [d1, d2, d3, d4, d5, d6] }
  | _ => none }
def TurnsNestedWrongFalsely : Prop := turnsNestedRow.holds Try.pinned (OpenSpec.ofChange turnsNestedWrong)

/- THE SECOND FORM. 'bulk': how many values and letters a reading holds, each counted each time it is reached (what is shared counts as often as it is met; a slice's spare places count too). A statement '..UptoSaid' is the law's where the arguments, and the package variables that the reading takes, are together of bulk at most 1048576: NARROWER than '..Said'. Prove '..Said' where nothing that the law and all that it calls make is longer than what came in: it says more and counts as full. Else prove '..UptoSaid'. A law counts once. -/
mutual
def uptoBulk {H : Type} : DataW H → Nat
  | .lit (.string bytes) => bytes.length + 1
  | .lit _ => 1
  | .nil => 1
  | .ptr d => uptoBulk d + 1
  | .slice elems spare => uptoBulkAll elems + uptoBulkAll spare + 1
  | .agg parts => uptoBulkAll parts + 1
  | .iface _ d => uptoBulk d + 1
  | .map entries => uptoBulkEntries entries + 1
  | .held _ => 1
def uptoBulkAll {H : Type} : List (DataW H) → Nat
  | [] => 0
  | d :: r => uptoBulk d + uptoBulkAll r
def uptoBulkEntries {H : Type} : List (Lit × DataW H) → Nat
  | [] => 0
  | x :: r => uptoBulkEntry x + uptoBulkEntries r
def uptoBulkEntry {H : Type} : Lit × DataW H → Nat
  | (.string bytes, d) => bytes.length + uptoBulk d + 1
  | (_, d) => uptoBulk d + 1
 end
def uptoSmall : (H : Type) → List (DataW H) → Bool := fun _ ds => decide (uptoBulkAll ds ≤ 1048576)
def OpenSpec.upto (s : _root_.Go.ChangeSpec) : _root_.Go.OpenSpec := { _root_.Go.OpenSpec.ofChange s with cond := some uptoSmall }

/-- 'actorgridlaw24.TurnsValid', WHERE WHAT IT READS IS OF BULK AT MOST 1048576: true; the input reads as it did. -/
def turnsValidUptoRow : OpenClaim := { program := "ytmgpaicldmgckaa", sum := "589b655a14e9234e7221a32b3ac5a0a27687d0f38748421ad43a44d9d2b4908c", func := "actorgrid/actorgridlaw24.TurnsValid", spec := "turnsValid", unfollowed := true, recurses := true, apart := false, narrowed := true }
def TurnsValidUptoSaid : Prop := turnsValidUptoRow.holds Try.pinned (OpenSpec.upto turnsValidSpec)

/-- 'actorgridlaw24.TurnsBegin', WHERE WHAT IT READS IS OF BULK AT MOST 1048576: true; the input reads as it did. -/
def turnsBeginUptoRow : OpenClaim := { program := "ytmgpaicldmgckaa", sum := "589b655a14e9234e7221a32b3ac5a0a27687d0f38748421ad43a44d9d2b4908c", func := "actorgrid/actorgridlaw24.TurnsBegin", spec := "turnsBegin", unfollowed := true, recurses := true, apart := false, narrowed := true }
def TurnsBeginUptoSaid : Prop := turnsBeginUptoRow.holds Try.pinned (OpenSpec.upto turnsBeginSpec)

/-- 'actorgridlaw24.TurnsCalls', WHERE WHAT IT READS IS OF BULK AT MOST 1048576: true; the input reads as it did. -/
def turnsCallsUptoRow : OpenClaim := { program := "ytmgpaicldmgckaa", sum := "589b655a14e9234e7221a32b3ac5a0a27687d0f38748421ad43a44d9d2b4908c", func := "actorgrid/actorgridlaw24.TurnsCalls", spec := "turnsCalls", unfollowed := true, recurses := true, apart := false, narrowed := true }
def TurnsCallsUptoSaid : Prop := turnsCallsUptoRow.holds Try.pinned (OpenSpec.upto turnsCallsSpec)

/-- 'actorgridlaw24.TurnsPlays', WHERE WHAT IT READS IS OF BULK AT MOST 1048576: true; the input reads as it did. -/
def turnsPlaysUptoRow : OpenClaim := { program := "ytmgpaicldmgckaa", sum := "589b655a14e9234e7221a32b3ac5a0a27687d0f38748421ad43a44d9d2b4908c", func := "actorgrid/actorgridlaw24.TurnsPlays", spec := "turnsPlays", unfollowed := true, recurses := true, apart := false, narrowed := true }
def TurnsPlaysUptoSaid : Prop := turnsPlaysUptoRow.holds Try.pinned (OpenSpec.upto turnsPlaysSpec)

/-- 'actorgridlaw24.TurnsClosed', WHERE WHAT IT READS IS OF BULK AT MOST 1048576: true; the input reads as it did. -/
def turnsClosedUptoRow : OpenClaim := { program := "ytmgpaicldmgckaa", sum := "589b655a14e9234e7221a32b3ac5a0a27687d0f38748421ad43a44d9d2b4908c", func := "actorgrid/actorgridlaw24.TurnsClosed", spec := "turnsClosed", unfollowed := true, recurses := true, apart := false, narrowed := true }
def TurnsClosedUptoSaid : Prop := turnsClosedUptoRow.holds Try.pinned (OpenSpec.upto turnsClosedSpec)

/-- 'actorgridlaw24.TurnsNested', WHERE WHAT IT READS IS OF BULK AT MOST 1048576: true; the input reads as it did. -/
def turnsNestedUptoRow : OpenClaim := { program := "ytmgpaicldmgckaa", sum := "589b655a14e9234e7221a32b3ac5a0a27687d0f38748421ad43a44d9d2b4908c", func := "actorgrid/actorgridlaw24.TurnsNested", spec := "turnsNested", unfollowed := true, recurses := true, apart := false, narrowed := true }
def TurnsNestedUptoSaid : Prop := turnsNestedUptoRow.holds Try.pinned (OpenSpec.upto turnsNestedSpec)

end Rows
end Go.Proofs.Ytmgpaicldmgckaa
