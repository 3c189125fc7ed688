/- Streams: where a key belongs. -/
import Derived.Test.YtpkfhjbgnpdgcaaL30d
set_option linter.unusedSimpArgs false
set_option linter.unusedVariables false
namespace Go.Proofs.Ytpkfhjbgnpdgcaa
open Go Go.Proofs Go.Abs

def ltK (k : K3) (s : Sub) : Bool := decide (cmpK (keyS s) k < 0)
def plc (l : List Sub) (k : K3) : Nat := (l.takeWhile (ltK k)).length

theorem find_L1 (kx : Int → Option (Int × Bool)) (N : Nat) (a1 : Ref) (a2 : ByteArray) : ∀ (xs : List Sub) (v : Nat), streams_find_L1 kx N a1 a2 xs v () = kx ((v + plc xs (keyR a1 a2) : Nat) : Int)
  | [], v => by simp [streams_find_L1, plc]
  | x :: xs, v => by
    rw [streams_find_L1, compare_eq]
    simp only [Option.bind_some]
    by_cases h : cmpK (keyS x) (keyR a1 a2) < 0
    · have : ltK (keyR a1 a2) x = true := by simp [ltK, h]
      simp only [h, if_true, find_L1 kx N a1 a2 xs (v + 1), plc, List.takeWhile_cons, this, List.length_cons]
      congr 2
      omega
    · have : ltK (keyR a1 a2) x = false := by simp [ltK, h]
      simp [h, plc, List.takeWhile_cons, this]

theorem plc_le (l : List Sub) (k : K3) : plc l k ≤ l.length := (List.takeWhile_sublist (ltK k)).length_le

/-- Is the key there? -/
def hasK (l : List Sub) (k : K3) : Bool := match l[plc l k]? with
  | some s => decide (keyS s = k)
  | none => false

theorem find_eq (N : Nat) (t : Topic) (a1 : Ref) (a2 : ByteArray) : streams_find N t a1 a2 = some (((plc t.Subs (keyR a1 a2) : Nat) : Int), hasK t.Subs (keyR a1 a2)) := by
  rw [streams_find, find_L1, Nat.zero_add, streams_find_J1]
  unfold hasK
  cases h : t.Subs[plc t.Subs (keyR a1 a2)]? with
  | none =>
    have := List.getElem?_eq_none_iff.1 h
    rw [if_neg (by omega)]
  | some s =>
    have := (List.getElem?_eq_some_iff.1 h).1
    rw [if_pos (by omega), gx_nat h, compare_eq]
    simp [cmpK_zero]

end Go.Proofs.Ytpkfhjbgnpdgcaa
