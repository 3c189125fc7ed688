/- Streams: what is valid. -/
import Derived.Test.YtpkfhjbgnpdgcaaL30b
set_option linter.unusedSimpArgs false
set_option linter.unusedVariables false
namespace Go.Proofs.Ytpkfhjbgnpdgcaa
open Go Go.Proofs Go.Abs

def nameB (s : ByteArray) : Bool := decide (1 ≤ s.size) && decide (s.size ≤ 32)
theorem validName_eq (N : Nat) (s : ByteArray) : streams_validName N s = some (nameB s) := by
  unfold streams_validName nameB
  by_cases h : (1 : Int) ≤ (s.size : Int)
  · have h' : 1 ≤ s.size := by omega
    simp [h, h']
    by_cases h2 : s.size ≤ 32
    · have : (s.size : Int) ≤ 32 := by omega
      simp [h2, this]
    · have : ¬ (s.size : Int) ≤ 32 := by omega
      simp [h2, this]
  · have h' : ¬ 1 ≤ s.size := by omega
    simp [h, h']

def keyB (t : Ref) (m : ByteArray) : Bool := nameB t.Type_ && nameB m && decide (t.Key.size ≤ 32)
theorem validKey_eq (N : Nat) (t : Ref) (m : ByteArray) : streams_validKey N t m = some (keyB t m) := by
  have e : decide ((t.Key.size : Int) ≤ 32) = decide (t.Key.size ≤ 32) := by
    by_cases h : t.Key.size ≤ 32
    · have : (t.Key.size : Int) ≤ 32 := by omega
      simp [h, this]
    · have : ¬ (t.Key.size : Int) ≤ 32 := by omega
      simp [h, this]
  simp only [streams_validKey, validName_eq, Option.bind_some, keyB, e]
  cases nameB t.Type_ <;> cases nameB m <;> simp

def aftB (p : Option K3) (s : Sub) : Bool :=
  match p with
  | none => true
  | some k => decide (cmpK k (keyS s) < 0)

/-- The subscriptions from some place on, the key ahead of them given. -/
def subsB (f e : Int) : Option K3 → List Sub → Bool
  | _, [] => true
  | p, s :: l => keyB s.Target s.Method && decide (f ≤ s.Cursor) && decide (s.Cursor ≤ e) && aftB p s && subsB f e (some (keyS s)) l

theorem valid_L1 (N : Nat) (t : Topic) (hl : t.Subs.length ≤ 8) (hw : IntKind.i64.wrap (t.First + (t.Events.length : Int)) = t.First + (t.Events.length : Int)) : ∀ (xs : List Sub) (v : Nat) (p : Option K3), t.Subs.drop v = xs → v ≤ t.Subs.length → (∀ k, p = some k → 0 < v ∧ ∃ s, t.Subs[v - 1]? = some s ∧ keyS s = k) → (p = none → v = 0) →
    streams_Valid_L1 N t xs v () = some (subsB t.First (t.First + t.Events.length) p xs)
  | [], v, p, hd, hv, hp, hn => by simp [streams_Valid_L1, subsB]
  | x :: xs, v, p, hd, hv, hp, hn => by
    have hvl : v < t.Subs.length := by
      rcases Nat.lt_or_ge v t.Subs.length with h | h
      · exact h
      · rw [List.drop_eq_nil_of_le h] at hd; simp at hd
    have hd' : t.Subs.drop (v + 1) = xs ∧ t.Subs[v]? = some x := by
      rw [List.drop_eq_getElem_cons hvl] at hd
      simp only [List.cons.injEq] at hd
      exact ⟨hd.2, by rw [List.getElem?_eq_getElem hvl, hd.1]⟩
    have ih := valid_L1 N t hl hw xs (v + 1) (some (keyS x)) hd'.1 (by omega) (by rintro k hk; cases hk; exact ⟨by omega, x, by simpa using hd'.2, rfl⟩) (by simp)
    have hJ4 : streams_Valid_J4 v t N x (streams_Valid_L1 N t xs (v + 1)) = some (aftB p x && subsB t.First (t.First + t.Events.length) (some (keyS x)) xs) := by
      unfold streams_Valid_J4
      cases p with
      | none =>
        have := hn rfl
        subst this
        simp [streams_Valid_J3, ih, aftB]
      | some k =>
        obtain ⟨h0, s, hs, rfl⟩ := hp k rfl
        rw [if_pos (by omega), w64 (by omega) (by omega), show ((v : Int) - 1) = ((v - 1 : Nat) : Int) by omega, gx_nat hs, compare_eq]
        simp only [Option.bind_some, streams_Valid_J3]
        by_cases hc : cmpK (keyS s) (keyS x) < 0
        · have : ¬ 0 ≤ cmpK (keyS s) (keyR x.Target x.Method) := by have e : keyR x.Target x.Method = keyS x := rfl; rw [e]; omega
          simp [hc, this, ih, aftB]
        · have : 0 ≤ cmpK (keyS s) (keyR x.Target x.Method) := by have e : keyR x.Target x.Method = keyS x := rfl; rw [e]; omega
          simp [hc, this, aftB]
    simp only [streams_Valid_L1, validKey_eq, Option.bind_some, hw, subsB]
    cases keyB x.Target x.Method
    · simp [streams_Valid_J2]
    · by_cases h1 : x.Cursor < t.First
      · have : ¬ t.First ≤ x.Cursor := by omega
        simp [h1, this, streams_Valid_J2]
      · have h1' : t.First ≤ x.Cursor := by omega
        by_cases h2 : t.First + t.Events.length < x.Cursor
        · have : ¬ x.Cursor ≤ t.First + t.Events.length := by omega
          simp [h1, h1', h2, this, streams_Valid_J2]
        · have h2' : x.Cursor ≤ t.First + t.Events.length := by omega
          simp [h1, h1', h2, h2', streams_Valid_J2, hJ4]

def VB (t : Topic) : Bool := nameB t.Name && decide (0 ≤ t.First) && decide (t.Events.length ≤ 64) && decide (t.First ≤ 1099511627776 - t.Events.length) && decide (t.Subs.length ≤ 8) && subsB t.First (t.First + t.Events.length) none t.Subs

theorem valid_eq (N : Nat) (t : Topic) : streams_Valid N t = some (VB t) := by
  unfold streams_Valid VB
  simp only [validName_eq, Option.bind_some]
  cases nameB t.Name
  · simp [streams_Valid_J1]
  · by_cases h1 : t.First < 0
    · have : ¬ 0 ≤ t.First := by omega
      simp [h1, this, streams_Valid_J1]
    · have h1' : 0 ≤ t.First := by omega
      by_cases h2 : (64 : Int) < (t.Events.length : Int)
      · have : ¬ t.Events.length ≤ 64 := by omega
        simp [h1, h1', h2, this, streams_Valid_J1]
      · have h2' : t.Events.length ≤ 64 := by omega
        rw [w64 (by omega) (by omega)]
        by_cases h3 : 1099511627776 - (t.Events.length : Int) < t.First
        · have : ¬ t.First ≤ 1099511627776 - (t.Events.length : Int) := by omega
          simp [h1, h1', h2, h2', h3, this, streams_Valid_J1]
        · have h3' : t.First ≤ 1099511627776 - (t.Events.length : Int) := by omega
          by_cases h4 : (8 : Int) < (t.Subs.length : Int)
          · have : ¬ t.Subs.length ≤ 8 := by omega
            simp [h1, h1', h2, h2', h3, h3', h4, this, streams_Valid_J1]
          · have h4' : t.Subs.length ≤ 8 := by omega
            have := valid_L1 N t h4' (w64 (by omega) (by omega)) t.Subs 0 none rfl (by omega) (by simp) (by simp)
            simp [h1, h1', h2, h2', h3, h3', h4, h4', streams_Valid_J1, streams_Valid_J5, this]

end Go.Proofs.Ytpkfhjbgnpdgcaa
