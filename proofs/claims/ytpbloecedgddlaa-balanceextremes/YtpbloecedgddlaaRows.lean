/-
  No cell of these rows narrows 'for every input' (looked for: loops, veiled, ifaces, maps, wideKeys, modest, calm, conditions, laid).
  DERIVED. THE GIVEN ROWS OF THIS SEAT. 5 by the template 'for every input the law returns true; each argument reads behind the call as it read before'; 0 by the template 'total and deterministic' (their statements: YtpbloecedgddlaaTotals.lean).
  GIVEN WITH THE SEED: the statements are not yours to turn. If you find one false, say at which input.
  Laid BY PROGRAM, IN A SANDBOX (cutbox-rows.mjs): the forced cells as the released guide's own fill.sh prints them over the translation 8a2124feda1957dd… (all of the seat's roots in one cut). By AI agents, Wed Nov 11 2026. No macro, syntax, notation, axiom, sorry.
-/
import Derived.Test.YtpbloecedgddlaaChecked
import GoSem.Claim
import GoSem.ClaimJoined
import GoSem.ClaimMapViews
import Derived.JoinedTies
import Derived.KernelRfl
namespace Go.Proofs.Ytpbloecedgddlaa
/- THE CELL 'sum', in the pinned program and in every row, IS THE sha256 OF THE DUMP (.gsa) THAT YtpbloecedgddlaaProg.lean LOADS. Nothing in Lean hashes anything: it is a label: what it is worth is what the hold of that sum in a sandbox is worth. -/
noncomputable def Try.pinned : Pinned := { name := "ytpbloecedgddlaa", sum := "8a2124feda1957ddabc9f389e62ff092ba9a10693fe7595d2ccd9d09a6cbc6c4", checked := Try.checked }
namespace Rows
def none {H : Type} : Left H := { results := [], args := [] }

/-- 'actorgridlaw35.BalanceAny': WHATEVER THE INPUT: true; the input reads as it did. -/
def balanceAnySpec : ChangeSpec := { name := "balanceAny", fn := fun _ => fun
  | [d1, d2] => { results := [.lit (.bool true)], args := [d1, d2] }
  | _ => none }
def balanceAnyRow : OpenClaim := { program := "ytpbloecedgddlaa", sum := "8a2124feda1957ddabc9f389e62ff092ba9a10693fe7595d2ccd9d09a6cbc6c4", func := "actorgrid/actorgridlaw35.BalanceAny", spec := "balanceAny", inPlace := ["slices.overlaps[actorgrid/api.Load]"], unfollowed := true, recurses := true, apart := false }
def BalanceAnySaid : Prop := balanceAnyRow.holds Try.pinned (OpenSpec.ofChange balanceAnySpec)

/-- ITS FALSE NEIGHBOUR: 'it returns false'. Refute it at one input. -/
def balanceAnyWrong : ChangeSpec := { name := "balanceAny", fn := fun _ => fun
  | [d1, d2] => { results := [.lit (.bool false)], args := [d1, d2] }
  | _ => none }
def BalanceAnyWrongFalsely : Prop := balanceAnyRow.holds Try.pinned (OpenSpec.ofChange balanceAnyWrong)

/-- 'actorgridlaw35.BalancePlans': WHATEVER THE INPUT: true; the input reads as it did. -/
def balancePlansSpec : ChangeSpec := { name := "balancePlans", fn := fun _ => fun
  | [d] => { results := [.lit (.bool true)], args := [d] }
  | _ => none }
def balancePlansRow : OpenClaim := { program := "ytpbloecedgddlaa", sum := "8a2124feda1957ddabc9f389e62ff092ba9a10693fe7595d2ccd9d09a6cbc6c4", func := "actorgrid/actorgridlaw35.BalancePlans", spec := "balancePlans", inPlace := ["slices.overlaps[actorgrid/api.Load]"], unfollowed := true, recurses := true, apart := false }
def BalancePlansSaid : Prop := balancePlansRow.holds Try.pinned (OpenSpec.ofChange balancePlansSpec)

/-- ITS FALSE NEIGHBOUR: 'it returns false'. Refute it at one input. -/
def balancePlansWrong : ChangeSpec := { name := "balancePlans", fn := fun _ => fun
  | [d] => { results := [.lit (.bool false)], args := [d] }
  | _ => none }
def BalancePlansWrongFalsely : Prop := balancePlansRow.holds Try.pinned (OpenSpec.ofChange balancePlansWrong)

/-- 'actorgridlaw35.BalanceLeast': WHATEVER THE INPUT: true; the input reads as it did. -/
def balanceLeastSpec : ChangeSpec := { name := "balanceLeast", fn := fun _ => fun
  | [d1, d2] => { results := [.lit (.bool true)], args := [d1, d2] }
  | _ => none }
def balanceLeastRow : OpenClaim := { program := "ytpbloecedgddlaa", sum := "8a2124feda1957ddabc9f389e62ff092ba9a10693fe7595d2ccd9d09a6cbc6c4", func := "actorgrid/actorgridlaw35.BalanceLeast", spec := "balanceLeast", inPlace := ["slices.overlaps[actorgrid/api.Load]"], unfollowed := true, recurses := true, apart := false }
def BalanceLeastSaid : Prop := balanceLeastRow.holds Try.pinned (OpenSpec.ofChange balanceLeastSpec)

/-- ITS FALSE NEIGHBOUR: 'it returns false'. Refute it at one input. -/
def balanceLeastWrong : ChangeSpec := { name := "balanceLeast", fn := fun _ => fun
  | [d1, d2] => { results := [.lit (.bool false)], args := [d1, d2] }
  | _ => none }
def BalanceLeastWrongFalsely : Prop := balanceLeastRow.holds Try.pinned (OpenSpec.ofChange balanceLeastWrong)

/-- 'actorgridlaw35.BalancePlaces': WHATEVER THE INPUT: true; the input reads as it did. -/
def balancePlacesSpec : ChangeSpec := { name := "balancePlaces", fn := fun _ => fun
  | [d1, d2] => { results := [.lit (.bool true)], args := [d1, d2] }
  | _ => none }
def balancePlacesRow : OpenClaim := { program := "ytpbloecedgddlaa", sum := "8a2124feda1957ddabc9f389e62ff092ba9a10693fe7595d2ccd9d09a6cbc6c4", func := "actorgrid/actorgridlaw35.BalancePlaces", spec := "balancePlaces", inPlace := ["slices.overlaps[actorgrid/api.Load]"], unfollowed := true, recurses := true, apart := false }
def BalancePlacesSaid : Prop := balancePlacesRow.holds Try.pinned (OpenSpec.ofChange balancePlacesSpec)

/-- ITS FALSE NEIGHBOUR: 'it returns false'. Refute it at one input. -/
def balancePlacesWrong : ChangeSpec := { name := "balancePlaces", fn := fun _ => fun
  | [d1, d2] => { results := [.lit (.bool false)], args := [d1, d2] }
  | _ => none }
def BalancePlacesWrongFalsely : Prop := balancePlacesRow.holds Try.pinned (OpenSpec.ofChange balancePlacesWrong)

/-- 'actorgridlaw35.BalanceExtremes': WHATEVER THE INPUT: true; the input reads as it did. -/
def balanceExtremesSpec : ChangeSpec := { name := "balanceExtremes", fn := fun _ => fun
  | [d] => { results := [.lit (.bool true)], args := [d] }
  | _ => none }
def balanceExtremesRow : OpenClaim := { program := "ytpbloecedgddlaa", sum := "8a2124feda1957ddabc9f389e62ff092ba9a10693fe7595d2ccd9d09a6cbc6c4", func := "actorgrid/actorgridlaw35.BalanceExtremes", spec := "balanceExtremes", inPlace := ["slices.overlaps[actorgrid/api.Load]"], unfollowed := true, recurses := true, apart := false }
def BalanceExtremesSaid : Prop := balanceExtremesRow.holds Try.pinned (OpenSpec.ofChange balanceExtremesSpec)

/-- ITS FALSE NEIGHBOUR: 'it returns false'. Refute it at one input. -/
def balanceExtremesWrong : ChangeSpec := { name := "balanceExtremes", fn := fun _ => fun
  | [d] => { results := [.lit (.bool false)], args := [d] }
  | _ => none }
def BalanceExtremesWrongFalsely : Prop := balanceExtremesRow.holds Try.pinned (OpenSpec.ofChange balanceExtremesWrong)

/- THE SECOND FORM. 'bulk': how many values and letters a reading holds, each counted each time it is reached (what is shared counts as often as it is met; a slice's spare places count too). A statement '..UptoSaid' is the law's where the arguments, and the package variables that the reading takes, are together of bulk at most 1048576: NARROWER than '..Said'. Prove '..Said' where nothing that the law and all that it calls make is longer than what came in: it says more and counts as full. Else prove '..UptoSaid'. A law counts once. -/
mutual
def uptoBulk {H : Type} : DataW H → Nat
  | .lit (.string bytes) => bytes.length + 1
  | .lit _ => 1
  | .nil => 1
  | .ptr d => uptoBulk d + 1
  | .slice elems spare => uptoBulkAll elems + uptoBulkAll spare + 1
  | .agg parts => uptoBulkAll parts + 1
  | .iface _ d => uptoBulk d + 1
  | .map entries => uptoBulkEntries entries + 1
  | .held _ => 1
def uptoBulkAll {H : Type} : List (DataW H) → Nat
  | [] => 0
  | d :: r => uptoBulk d + uptoBulkAll r
def uptoBulkEntries {H : Type} : List (Lit × DataW H) → Nat
  | [] => 0
  | x :: r => uptoBulkEntry x + uptoBulkEntries r
def uptoBulkEntry {H : Type} : Lit × DataW H → Nat
  | (.string bytes, d) => bytes.length + uptoBulk d + 1
  | (_, d) => uptoBulk d + 1
 end
def uptoSmall : (H : Type) → List (DataW H) → Bool := fun _ ds => decide (uptoBulkAll ds ≤ 1048576)
def OpenSpec.upto (s : _root_.Go.ChangeSpec) : _root_.Go.OpenSpec := { _root_.Go.OpenSpec.ofChange s with cond := some uptoSmall }

/-- 'actorgridlaw35.BalanceAny', WHERE WHAT IT READS IS OF BULK AT MOST 1048576: true; the input reads as it did. -/
def balanceAnyUptoRow : OpenClaim := { program := "ytpbloecedgddlaa", sum := "8a2124feda1957ddabc9f389e62ff092ba9a10693fe7595d2ccd9d09a6cbc6c4", func := "actorgrid/actorgridlaw35.BalanceAny", spec := "balanceAny", inPlace := ["slices.overlaps[actorgrid/api.Load]"], unfollowed := true, recurses := true, apart := false, narrowed := true }
def BalanceAnyUptoSaid : Prop := balanceAnyUptoRow.holds Try.pinned (OpenSpec.upto balanceAnySpec)

/-- 'actorgridlaw35.BalancePlans', WHERE WHAT IT READS IS OF BULK AT MOST 1048576: true; the input reads as it did. -/
def balancePlansUptoRow : OpenClaim := { program := "ytpbloecedgddlaa", sum := "8a2124feda1957ddabc9f389e62ff092ba9a10693fe7595d2ccd9d09a6cbc6c4", func := "actorgrid/actorgridlaw35.BalancePlans", spec := "balancePlans", inPlace := ["slices.overlaps[actorgrid/api.Load]"], unfollowed := true, recurses := true, apart := false, narrowed := true }
def BalancePlansUptoSaid : Prop := balancePlansUptoRow.holds Try.pinned (OpenSpec.upto balancePlansSpec)

/-- 'actorgridlaw35.BalanceLeast', WHERE WHAT IT READS IS OF BULK AT MOST 1048576: true; the input reads as it did. -/
def balanceLeastUptoRow : OpenClaim := { program := "ytpbloecedgddlaa", sum := "8a2124feda1957ddabc9f389e62ff092ba9a10693fe7595d2ccd9d09a6cbc6c4", func := "actorgrid/actorgridlaw35.BalanceLeast", spec := "balanceLeast", inPlace := ["slices.overlaps[actorgrid/api.Load]"], unfollowed := true, recurses := true, apart := false, narrowed := true }
def BalanceLeastUptoSaid : Prop := balanceLeastUptoRow.holds Try.pinned (OpenSpec.upto balanceLeastSpec)

/-- 'actorgridlaw35.BalancePlaces', WHERE WHAT IT READS IS OF BULK AT MOST 1048576: true; the input reads as it did. -/
def balancePlacesUptoRow : OpenClaim := { program := "ytpbloecedgddlaa", sum := "8a2124feda1957ddabc9f389e62ff092ba9a10693fe7595d2ccd9d09a6cbc6c4", func := "actorgrid/actorgridlaw35.BalancePlaces", spec := "balancePlaces", inPlace := ["slices.overlaps[actorgrid/api.Load]"], unfollowed := true, recurses := true, apart := false, narrowed := true }
def BalancePlacesUptoSaid : Prop := balancePlacesUptoRow.holds Try.pinned (OpenSpec.upto balancePlacesSpec)

/-- 'actorgridlaw35.BalanceExtremes', WHERE WHAT IT READS IS OF BULK AT MOST 1048576: true; the input reads as it did. -/
def balanceExtremesUptoRow : OpenClaim := { program := "ytpbloecedgddlaa", sum := "8a2124feda1957ddabc9f389e62ff092ba9a10693fe7595d2ccd9d09a6cbc6c4", func := "actorgrid/actorgridlaw35.BalanceExtremes", spec := "balanceExtremes", inPlace := ["slices.overlaps[actorgrid/api.Load]"], unfollowed := true, recurses := true, apart := false, narrowed := true }
def BalanceExtremesUptoSaid : Prop := balanceExtremesUptoRow.holds Try.pinned (OpenSpec.upto balanceExtremesSpec)

end Rows
end Go.Proofs.Ytpbloecedgddlaa
