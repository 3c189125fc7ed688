/-
  No cell of these rows narrows 'for every input' (looked for: loops, veiled, ifaces, maps, wideKeys, modest, calm, conditions, laid).
  DERIVED. THE GIVEN ROWS OF THIS SEAT. 4 by the template 'for every input the law returns true; each argument reads behind the call as it read before'; 0 by the template 'total and deterministic' (their statements: YteldkhmcgloafaaTotals.lean).
  GIVEN WITH THE SEED: the statements are not yours to turn. If you find one false, say at which input.
  Laid BY PROGRAM, IN A SANDBOX (cutbox-rows.mjs): the forced cells as the released guide's own fill.sh prints them over the translation 14eaf77803d8247b… (all of the seat's roots in one cut). By AI agents, Wed Nov 11 2026. No macro, syntax, notation, axiom, sorry.
-/
import Derived.Test.YteldkhmcgloafaaChecked
import GoSem.Claim
import GoSem.ClaimJoined
import GoSem.ClaimMapViews
import Derived.JoinedTies
import Derived.KernelRfl
namespace Go.Proofs.Yteldkhmcgloafaa
/- THE CELL 'sum', in the pinned program and in every row, IS THE sha256 OF THE DUMP (.gsa) THAT YteldkhmcgloafaaProg.lean LOADS. Nothing in Lean hashes anything: it is a label: what it is worth is what the hold of that sum in a sandbox is worth. -/
noncomputable def Try.pinned : Pinned := { name := "yteldkhmcgloafaa", sum := "14eaf77803d8247b75c08db85a573bc7c86389088349020e6d6a9cc50c29d07b", checked := Try.checked }
namespace Rows
def none {H : Type} : Left H := { results := [], args := [] }

/-- 'actorgridlaw16.OnceTells': WHATEVER THE INPUT: true; the input reads as it did. -/
def onceTellsSpec : ChangeSpec := { name := "onceTells", fn := fun _ => fun
  | [d1, d2, d3, d4] => { results := [.lit (.bool true)], args := [d1, d2, d3, d4] }
  | _ => none }
def onceTellsRow : OpenClaim := { program := "yteldkhmcgloafaa", sum := "14eaf77803d8247b75c08db85a573bc7c86389088349020e6d6a9cc50c29d07b", func := "actorgrid/actorgridlaw16.OnceTells", spec := "onceTells", inPlace := ["slices.overlaps[actorgrid/api.Client]", "slices.overlaps[int]", "slices.overlaps[actorgrid/api.Answer]"], unfollowed := true, recurses := true, apart := false }
def OnceTellsSaid : Prop := onceTellsRow.holds Try.pinned (OpenSpec.ofChange onceTellsSpec)

/-- ITS FALSE NEIGHBOUR: 'it returns false'. Refute it at one input. -/
def onceTellsWrong : ChangeSpec := { name := "onceTells", fn := fun _ => fun
  | [d1, d2, d3, d4] => { results := [.lit (.bool false)], args := [d1, d2, d3, d4] }
  | _ => none }
def OnceTellsWrongFalsely : Prop := onceTellsRow.holds Try.pinned (OpenSpec.ofChange onceTellsWrong)

/-- 'actorgridlaw16.OncePlays': WHATEVER THE INPUT: true; the input reads as it did. -/
def oncePlaysSpec : ChangeSpec := { name := "oncePlays", fn := fun _ => fun
  | [d] => { results := [.lit (.bool true)], args := [d] }
  | _ => none }
def oncePlaysRow : OpenClaim := { program := "yteldkhmcgloafaa", sum := "14eaf77803d8247b75c08db85a573bc7c86389088349020e6d6a9cc50c29d07b", func := "actorgrid/actorgridlaw16.OncePlays", spec := "oncePlays", inPlace := ["slices.overlaps[actorgrid/api.Client]", "slices.overlaps[int]", "slices.overlaps[actorgrid/api.Answer]"], unfollowed := true, recurses := true, apart := false }
def OncePlaysSaid : Prop := oncePlaysRow.holds Try.pinned (OpenSpec.ofChange oncePlaysSpec)

/-- ITS FALSE NEIGHBOUR: 'it returns false'. Refute it at one input. -/
def oncePlaysWrong : ChangeSpec := { name := "oncePlays", fn := fun _ => fun
  | [d] => { results := [.lit (.bool false)], args := [d] }
  | _ => none }
def OncePlaysWrongFalsely : Prop := oncePlaysRow.holds Try.pinned (OpenSpec.ofChange oncePlaysWrong)

/-- 'actorgridlaw16.OnceBound': WHATEVER THE INPUT: true; the input reads as it did. -/
def onceBoundSpec : ChangeSpec := { name := "onceBound", fn := fun _ => fun
  | [d1, d2] => { results := [.lit (.bool true)], args := [d1, d2] }
  | _ => none }
def onceBoundRow : OpenClaim := { program := "yteldkhmcgloafaa", sum := "14eaf77803d8247b75c08db85a573bc7c86389088349020e6d6a9cc50c29d07b", func := "actorgrid/actorgridlaw16.OnceBound", spec := "onceBound", inPlace := ["slices.overlaps[actorgrid/api.Client]", "slices.overlaps[int]", "slices.overlaps[actorgrid/api.Answer]"], unfollowed := true, recurses := true, apart := false }
def OnceBoundSaid : Prop := onceBoundRow.holds Try.pinned (OpenSpec.ofChange onceBoundSpec)

/-- ITS FALSE NEIGHBOUR: 'it returns false'. Refute it at one input. -/
def onceBoundWrong : ChangeSpec := { name := "onceBound", fn := fun _ => fun
  | [d1, d2] => { results := [.lit (.bool false)], args := [d1, d2] }
  | _ => none }
def OnceBoundWrongFalsely : Prop := onceBoundRow.holds Try.pinned (OpenSpec.ofChange onceBoundWrong)

/-- 'actorgridlaw16.OnceApart': WHATEVER THE INPUT: true; the input reads as it did. -/
def onceApartSpec : ChangeSpec := { name := "onceApart", fn := fun _ => fun
  | [d1, d2, d3, d4, d5] => { results := [.lit (.bool true)], args := [d1, d2, d3, d4, d5] }
  | _ => none }
def onceApartRow : OpenClaim := { program := "yteldkhmcgloafaa", sum := "14eaf77803d8247b75c08db85a573bc7c86389088349020e6d6a9cc50c29d07b", func := "actorgrid/actorgridlaw16.OnceApart", spec := "onceApart", inPlace := ["slices.overlaps[actorgrid/api.Client]", "slices.overlaps[int]", "slices.overlaps[actorgrid/api.Answer]"], unfollowed := true, recurses := true, apart := false }
def OnceApartSaid : Prop := onceApartRow.holds Try.pinned (OpenSpec.ofChange onceApartSpec)

/-- ITS FALSE NEIGHBOUR: 'it returns false'. Refute it at one input. -/
def onceApartWrong : ChangeSpec := { name := "onceApart", fn := fun _ => fun
  | [d1, d2, d3, d4, d5] => { results := [.lit (.bool false)], args := [d1, d2, d3, d4, d5] }
  | _ => none }
def OnceApartWrongFalsely : Prop := onceApartRow.holds Try.pinned (OpenSpec.ofChange onceApartWrong)

/- THE SECOND FORM. 'bulk': how many values and letters a reading holds, each counted each time it is reached (what is shared counts as often as it is met; a slice's spare places count too). A statement '..UptoSaid' is the law's where the arguments, and the package variables that the reading takes, are together of bulk at most 1048576: NARROWER than '..Said'. Prove '..Said' where nothing that the law and all that it calls make is longer than what came in: it says more and counts as full. Else prove '..UptoSaid'. A law counts once. -/
mutual
def uptoBulk {H : Type} : DataW H → Nat
  | .lit (.string bytes) => bytes.length + 1
  | .lit _ => 1
  | .nil => 1
  | .ptr d => uptoBulk d + 1
  | .slice elems spare => uptoBulkAll elems + uptoBulkAll spare + 1
  | .agg parts => uptoBulkAll parts + 1
  | .iface _ d => uptoBulk d + 1
  | .map entries => uptoBulkEntries entries + 1
  | .held _ => 1
def uptoBulkAll {H : Type} : List (DataW H) → Nat
  | [] => 0
  | d :: r => uptoBulk d + uptoBulkAll r
def uptoBulkEntries {H : Type} : List (Lit × DataW H) → Nat
  | [] => 0
  | x :: r => uptoBulkEntry x + uptoBulkEntries r
def uptoBulkEntry {H : Type} : Lit × DataW H → Nat
  | (.string bytes, d) => bytes.length + uptoBulk d + 1
  | (_, d) => uptoBulk d + 1
 end
def uptoSmall : (H : Type) → List (DataW H) → Bool := fun _ ds => decide (uptoBulkAll ds ≤ 1048576)
def OpenSpec.upto (s : _root_.Go.ChangeSpec) : _root_.Go.OpenSpec := { _root_.Go.OpenSpec.ofChange s with cond := some uptoSmall }

/-- 'actorgridlaw16.OnceTells', WHERE WHAT IT READS IS OF BULK AT MOST 1048576: true; the input reads as it did. -/
def onceTellsUptoRow : OpenClaim := { program := "yteldkhmcgloafaa", sum := "14eaf77803d8247b75c08db85a573bc7c86389088349020e6d6a9cc50c29d07b", func := "actorgrid/actorgridlaw16.OnceTells", spec := "onceTells", inPlace := ["slices.overlaps[actorgrid/api.Client]", "slices.overlaps[int]", "slices.overlaps[actorgrid/api.Answer]"], unfollowed := true, recurses := true, apart := false, narrowed := true }
def OnceTellsUptoSaid : Prop := onceTellsUptoRow.holds Try.pinned (OpenSpec.upto onceTellsSpec)

/-- 'actorgridlaw16.OncePlays', WHERE WHAT IT READS IS OF BULK AT MOST 1048576: true; the input reads as it did. -/
def oncePlaysUptoRow : OpenClaim := { program := "yteldkhmcgloafaa", sum := "14eaf77803d8247b75c08db85a573bc7c86389088349020e6d6a9cc50c29d07b", func := "actorgrid/actorgridlaw16.OncePlays", spec := "oncePlays", inPlace := ["slices.overlaps[actorgrid/api.Client]", "slices.overlaps[int]", "slices.overlaps[actorgrid/api.Answer]"], unfollowed := true, recurses := true, apart := false, narrowed := true }
def OncePlaysUptoSaid : Prop := oncePlaysUptoRow.holds Try.pinned (OpenSpec.upto oncePlaysSpec)

/-- 'actorgridlaw16.OnceBound', WHERE WHAT IT READS IS OF BULK AT MOST 1048576: true; the input reads as it did. -/
def onceBoundUptoRow : OpenClaim := { program := "yteldkhmcgloafaa", sum := "14eaf77803d8247b75c08db85a573bc7c86389088349020e6d6a9cc50c29d07b", func := "actorgrid/actorgridlaw16.OnceBound", spec := "onceBound", inPlace := ["slices.overlaps[actorgrid/api.Client]", "slices.overlaps[int]", "slices.overlaps[actorgrid/api.Answer]"], unfollowed := true, recurses := true, apart := false, narrowed := true }
def OnceBoundUptoSaid : Prop := onceBoundUptoRow.holds Try.pinned (OpenSpec.upto onceBoundSpec)

/-- 'actorgridlaw16.OnceApart', WHERE WHAT IT READS IS OF BULK AT MOST 1048576: true; the input reads as it did. -/
def onceApartUptoRow : OpenClaim := { program := "yteldkhmcgloafaa", sum := "14eaf77803d8247b75c08db85a573bc7c86389088349020e6d6a9cc50c29d07b", func := "actorgrid/actorgridlaw16.OnceApart", spec := "onceApart", inPlace := ["slices.overlaps[actorgrid/api.Client]", "slices.overlaps[int]", "slices.overlaps[actorgrid/api.Answer]"], unfollowed := true, recurses := true, apart := false, narrowed := true }
def OnceApartUptoSaid : Prop := onceApartUptoRow.holds Try.pinned (OpenSpec.upto onceApartSpec)

end Rows
end Go.Proofs.Yteldkhmcgloafaa
