/-
  No cell of these rows narrows 'for every input' (looked for: loops, veiled, ifaces, maps, wideKeys, modest, calm, conditions, laid).
  DERIVED. THE GIVEN ROWS OF THIS SEAT. 4 by the template 'for every input the law returns true; each argument reads behind the call as it read before'; 0 by the template 'total and deterministic' (their statements: YthgcdhclommkcaaTotals.lean).
  GIVEN WITH THE SEED: the statements are not yours to turn. If you find one false, say at which input.
  Laid BY PROGRAM, IN A SANDBOX (cutbox-rows.mjs): the forced cells as the released guide's own fill.sh prints them over the translation 6b875f165fecd14d… (all of the seat's roots in one cut). By AI agents, Wed Nov 11 2026. No macro, syntax, notation, axiom, sorry.
-/
import Derived.Test.YthgcdhclommkcaaChecked
import GoSem.Claim
import GoSem.ClaimJoined
import GoSem.ClaimMapViews
import Derived.JoinedTies
import Derived.KernelRfl
namespace Go.Proofs.Ythgcdhclommkcaa
/- THE CELL 'sum', in the pinned program and in every row, IS THE sha256 OF THE DUMP (.gsa) THAT YthgcdhclommkcaaProg.lean LOADS. Nothing in Lean hashes anything: it is a label: what it is worth is what the hold of that sum in a sandbox is worth. -/
noncomputable def Try.pinned : Pinned := { name := "ythgcdhclommkcaa", sum := "6b875f165fecd14de44046b1983a4b975194efcb9aa3b026599399faf5323832", checked := Try.checked }
namespace Rows
def none {H : Type} : Left H := { results := [], args := [] }

/-- 'actorgridlaw34.SessionAny': WHATEVER THE INPUT: true; the input reads as it did. -/
def sessionAnySpec : ChangeSpec := { name := "sessionAny", fn := fun _ => fun
  | [d1, d2, d3, d4, d5, d6, d7] => { results := [.lit (.bool true)], args := [d1, d2, d3, d4, d5, d6, d7] }
  | _ => none }
def sessionAnyRow : OpenClaim := { program := "ythgcdhclommkcaa", sum := "6b875f165fecd14de44046b1983a4b975194efcb9aa3b026599399faf5323832", func := "actorgrid/actorgridlaw34.SessionAny", spec := "sessionAny", unfollowed := true, recurses := true, apart := false }
def SessionAnySaid : Prop := sessionAnyRow.holds Try.pinned (OpenSpec.ofChange sessionAnySpec)

/-- ITS FALSE NEIGHBOUR: 'it returns false'. Refute it at one input. -/
def sessionAnyWrong : ChangeSpec := { name := "sessionAny", fn := fun _ => fun
  | [d1, d2, d3, d4, d5, d6, d7] => { results := [.lit (.bool false)], args := [d1, d2, d3, d4, d5, d6, d7] }
  | _ => none }
def SessionAnyWrongFalsely : Prop := sessionAnyRow.holds Try.pinned (OpenSpec.ofChange sessionAnyWrong)

/-- 'actorgridlaw34.SessionSequences': WHATEVER THE INPUT: true; the input reads as it did. -/
def sessionSequencesSpec : ChangeSpec := { name := "sessionSequences", fn := fun _ => fun
  | [d] => { results := [.lit (.bool true)], args := [d] }
  | _ => none }
def sessionSequencesRow : OpenClaim := { program := "ythgcdhclommkcaa", sum := "6b875f165fecd14de44046b1983a4b975194efcb9aa3b026599399faf5323832", func := "actorgrid/actorgridlaw34.SessionSequences", spec := "sessionSequences", unfollowed := true, recurses := true, apart := false }
def SessionSequencesSaid : Prop := sessionSequencesRow.holds Try.pinned (OpenSpec.ofChange sessionSequencesSpec)

/-- ITS FALSE NEIGHBOUR: 'it returns false'. Refute it at one input. -/
def sessionSequencesWrong : ChangeSpec := { name := "sessionSequences", fn := fun _ => fun
  | [d] => { results := [.lit (.bool false)], args := [d] }
  | _ => none }
def SessionSequencesWrongFalsely : Prop := sessionSequencesRow.holds Try.pinned (OpenSpec.ofChange sessionSequencesWrong)

/-- 'actorgridlaw34.SessionOnce': WHATEVER THE INPUT: true; the input reads as it did. -/
def sessionOnceSpec : ChangeSpec := { name := "sessionOnce", fn := fun _ => fun
  | [d] => { results := [.lit (.bool true)], args := [d] }
  | _ => none }
def sessionOnceRow : OpenClaim := { program := "ythgcdhclommkcaa", sum := "6b875f165fecd14de44046b1983a4b975194efcb9aa3b026599399faf5323832", func := "actorgrid/actorgridlaw34.SessionOnce", spec := "sessionOnce", unfollowed := true, recurses := true, apart := false }
def SessionOnceSaid : Prop := sessionOnceRow.holds Try.pinned (OpenSpec.ofChange sessionOnceSpec)

/-- ITS FALSE NEIGHBOUR: 'it returns false'. Refute it at one input. -/
def sessionOnceWrong : ChangeSpec := { name := "sessionOnce", fn := fun _ => fun
  | [d] => { results := [.lit (.bool false)], args := [d] }
  | _ => none }
def SessionOnceWrongFalsely : Prop := sessionOnceRow.holds Try.pinned (OpenSpec.ofChange sessionOnceWrong)

/-- 'actorgridlaw34.SessionResends': WHATEVER THE INPUT: true; the input reads as it did. -/
def sessionResendsSpec : ChangeSpec := { name := "sessionResends", fn := fun _ => fun
  | [d1, d2] => { results := [.lit (.bool true)], args := [d1, d2] }
  | _ => none }
def sessionResendsRow : OpenClaim := { program := "ythgcdhclommkcaa", sum := "6b875f165fecd14de44046b1983a4b975194efcb9aa3b026599399faf5323832", func := "actorgrid/actorgridlaw34.SessionResends", spec := "sessionResends", unfollowed := true, recurses := true, apart := false }
def SessionResendsSaid : Prop := sessionResendsRow.holds Try.pinned (OpenSpec.ofChange sessionResendsSpec)

/-- ITS FALSE NEIGHBOUR: 'it returns false'. Refute it at one input. -/
def sessionResendsWrong : ChangeSpec := { name := "sessionResends", fn := fun _ => fun
  | [d1, d2] => { results := [.lit (.bool false)], args := [d1, d2] }
  | _ => none }
def SessionResendsWrongFalsely : Prop := sessionResendsRow.holds Try.pinned (OpenSpec.ofChange sessionResendsWrong)

/- THE SECOND FORM. 'bulk': how many values and letters a reading holds, each counted each time it is reached (what is shared counts as often as it is met; a slice's spare places count too). A statement '..UptoSaid' is the law's where the arguments, and the package variables that the reading takes, are together of bulk at most 1048576: NARROWER than '..Said'. Prove '..Said' where nothing that the law and all that it calls make is longer than what came in: it says more and counts as full. Else prove '..UptoSaid'. A law counts once. -/
mutual
def uptoBulk {H : Type} : DataW H → Nat
  | .lit (.string bytes) => bytes.length + 1
  | .lit _ => 1
  | .nil => 1
  | .ptr d => uptoBulk d + 1
  | .slice elems spare => uptoBulkAll elems + uptoBulkAll spare + 1
  | .agg parts => uptoBulkAll parts + 1
  | .iface _ d => uptoBulk d + 1
  | .map entries => uptoBulkEntries entries + 1
  | .held _ => 1
def uptoBulkAll {H : Type} : List (DataW H) → Nat
  | [] => 0
  | d :: r => uptoBulk d + uptoBulkAll r
def uptoBulkEntries {H : Type} : List (Lit × DataW H) → Nat
  | [] => 0
  | x :: r => uptoBulkEntry x + uptoBulkEntries r
def uptoBulkEntry {H : Type} : Lit × DataW H → Nat
  | (.string bytes, d) => bytes.length + uptoBulk d + 1
  | (_, d) => uptoBulk d + 1
 end
def uptoSmall : (H : Type) → List (DataW H) → Bool := fun _ ds => decide (uptoBulkAll ds ≤ 1048576)
def OpenSpec.upto (s : _root_.Go.ChangeSpec) : _root_.Go.OpenSpec := { _root_.Go.OpenSpec.ofChange s with cond := some uptoSmall }

/-- 'actorgridlaw34.SessionAny', WHERE WHAT IT READS IS OF BULK AT MOST 1048576: true; the input reads as it did. -/
def sessionAnyUptoRow : OpenClaim := { program := "ythgcdhclommkcaa", sum := "6b875f165fecd14de44046b1983a4b975194efcb9aa3b026599399faf5323832", func := "actorgrid/actorgridlaw34.SessionAny", spec := "sessionAny", unfollowed := true, recurses := true, apart := false, narrowed := true }
def SessionAnyUptoSaid : Prop := sessionAnyUptoRow.holds Try.pinned (OpenSpec.upto sessionAnySpec)

/-- 'actorgridlaw34.SessionSequences', WHERE WHAT IT READS IS OF BULK AT MOST 1048576: true; the input reads as it did. -/
def sessionSequencesUptoRow : OpenClaim := { program := "ythgcdhclommkcaa", sum := "6b875f165fecd14de44046b1983a4b975194efcb9aa3b026599399faf5323832", func := "actorgrid/actorgridlaw34.SessionSequences", spec := "sessionSequences", unfollowed := true, recurses := true, apart := false, narrowed := true }
def SessionSequencesUptoSaid : Prop := sessionSequencesUptoRow.holds Try.pinned (OpenSpec.upto sessionSequencesSpec)

/-- 'actorgridlaw34.SessionOnce', WHERE WHAT IT READS IS OF BULK AT MOST 1048576: true; the input reads as it did. -/
def sessionOnceUptoRow : OpenClaim := { program := "ythgcdhclommkcaa", sum := "6b875f165fecd14de44046b1983a4b975194efcb9aa3b026599399faf5323832", func := "actorgrid/actorgridlaw34.SessionOnce", spec := "sessionOnce", unfollowed := true, recurses := true, apart := false, narrowed := true }
def SessionOnceUptoSaid : Prop := sessionOnceUptoRow.holds Try.pinned (OpenSpec.upto sessionOnceSpec)

/-- 'actorgridlaw34.SessionResends', WHERE WHAT IT READS IS OF BULK AT MOST 1048576: true; the input reads as it did. -/
def sessionResendsUptoRow : OpenClaim := { program := "ythgcdhclommkcaa", sum := "6b875f165fecd14de44046b1983a4b975194efcb9aa3b026599399faf5323832", func := "actorgrid/actorgridlaw34.SessionResends", spec := "sessionResends", unfollowed := true, recurses := true, apart := false, narrowed := true }
def SessionResendsUptoSaid : Prop := sessionResendsUptoRow.holds Try.pinned (OpenSpec.upto sessionResendsSpec)

end Rows
end Go.Proofs.Ythgcdhclommkcaa
