/- Streams: the order of keys; what is valid; where a key belongs. -/
import Derived.Test.YtpkfhjbgnpdgcaaL30a
set_option linter.unusedSimpArgs false
set_option linter.unusedVariables false
namespace Go.Proofs.Ytpkfhjbgnpdgcaa
open Go Go.Proofs Go.Abs

abbrev K3 := ByteArray × ByteArray × ByteArray
def keyS (s : Sub) : K3 := (s.Target.Type_, s.Target.Key, s.Method)
def keyR (t : Ref) (m : ByteArray) : K3 := (t.Type_, t.Key, m)
def cmpK (x y : K3) : Int := if cmpS x.1 y.1 = 0 then (if cmpS x.2.1 y.2.1 = 0 then cmpS x.2.2 y.2.2 else cmpS x.2.1 y.2.1) else cmpS x.1 y.1

theorem compare_eq (N : Nat) (s : Sub) (t : Ref) (m : ByteArray) : streams_compare N s t m = some (cmpK (keyS s) (keyR t m)) := by
  simp only [streams_compare, cmp_eq, Option.bind_some, cmp_Or_int, cmp_Or_int_L1, cmpK, keyS, keyR]
  by_cases h1 : cmpS s.Target.Type_ t.Type_ = 0
  · by_cases h2 : cmpS s.Target.Key t.Key = 0
    · by_cases h3 : cmpS s.Method m = 0 <;> simp [h1, h2, h3]
    · simp [h1, h2]
  · simp [h1]

theorem cmpK_zero {x y : K3} : cmpK x y = 0 ↔ x = y := by
  obtain ⟨a, b, c⟩ := x
  obtain ⟨a', b', c'⟩ := y
  simp only [cmpK, Prod.mk.injEq]
  by_cases h1 : cmpS a a' = 0
  · by_cases h2 : cmpS b b' = 0
    · simp only [h1, h2, if_true, cmpS_zero]; simp [cmpS_zero.1 h1, cmpS_zero.1 h2]
    · simp only [h1, h2, if_true, if_false, false_iff]; intro h; exact h2 (cmpS_zero.2 h.2.1)
  · simp only [h1, if_false, false_iff]; intro h; exact h1 (cmpS_zero.2 h.1)

theorem cmpK_neg {x y : K3} : cmpK x y < 0 ↔ sLt x.1 y.1 = true ∨ (x.1 = y.1 ∧ (sLt x.2.1 y.2.1 = true ∨ (x.2.1 = y.2.1 ∧ sLt x.2.2 y.2.2 = true))) := by
  obtain ⟨a, b, c⟩ := x
  obtain ⟨a', b', c'⟩ := y
  simp only [cmpK]
  by_cases h1 : cmpS a a' = 0
  · obtain rfl := cmpS_zero.1 h1
    by_cases h2 : cmpS b b' = 0
    · obtain rfl := cmpS_zero.1 h2
      simp [h1, h2, cmpS_neg, sLt_irrefl]
    · have : b ≠ b' := fun e => h2 (cmpS_zero.2 e)
      simp [h1, h2, cmpS_neg, sLt_irrefl, this]
  · have : a ≠ a' := fun e => h1 (cmpS_zero.2 e)
    simp [h1, cmpS_neg, this]

theorem cmpK_trans {x y z : K3} (h1 : cmpK x y < 0) (h2 : cmpK y z < 0) : cmpK x z < 0 := by
  obtain ⟨a, b, c⟩ := x
  obtain ⟨a', b', c'⟩ := y
  obtain ⟨a2, b2, c2⟩ := z
  rw [cmpK_neg] at *
  simp only at *
  rcases h1 with h1 | ⟨rfl, h1⟩
  · rcases h2 with h2 | ⟨rfl, h2⟩
    · exact .inl (sLt_trans h1 h2)
    · exact .inl h1
  · rcases h2 with h2 | ⟨rfl, h2⟩
    · exact .inl h2
    · refine .inr ⟨rfl, ?_⟩
      rcases h1 with h1 | ⟨rfl, h1⟩
      · rcases h2 with h2 | ⟨rfl, h2⟩
        · exact .inl (sLt_trans h1 h2)
        · exact .inl h1
      · rcases h2 with h2 | ⟨rfl, h2⟩
        · exact .inl h2
        · exact .inr ⟨rfl, sLt_trans h1 h2⟩

theorem cmpK_irrefl (x : K3) : ¬ cmpK x x < 0 := by have := cmpK_zero (x := x) (y := x); simp at this; omega
theorem cmpK_tri (x y : K3) : cmpK x y < 0 ∨ x = y ∨ cmpK y x < 0 := by
  obtain ⟨a, b, c⟩ := x
  obtain ⟨a', b', c'⟩ := y
  rw [cmpK_neg, cmpK_neg]
  simp only
  rcases sLt_tri a a' with h | rfl | h
  · exact .inl (.inl h)
  · rcases sLt_tri b b' with h | rfl | h
    · exact .inl (.inr ⟨rfl, .inl h⟩)
    · rcases sLt_tri c c' with h | rfl | h
      · exact .inl (.inr ⟨rfl, .inr ⟨rfl, h⟩⟩)
      · exact .inr (.inl rfl)
      · exact .inr (.inr (.inr ⟨rfl, .inr ⟨rfl, h⟩⟩))
    · exact .inr (.inr (.inr ⟨rfl, .inl h⟩))
  · exact .inr (.inr (.inl h))

end Go.Proofs.Ytpkfhjbgnpdgcaa
