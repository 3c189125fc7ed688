/- Streams: subscribing. -/
import Derived.Test.YtpkfhjbgnpdgcaaL30f
set_option linter.unusedSimpArgs false
set_option linter.unusedVariables false
namespace Go.Proofs.Ytpkfhjbgnpdgcaa
open Go Go.Proofs Go.Abs

theorem plc_split : ∀ (l : List Sub) (k : K3), (l.Pairwise fun a b => cmpK (keyS a) (keyS b) < 0) → hasK l k = false →
    (∀ s ∈ l.take (plc l k), cmpK (keyS s) k < 0) ∧ ∀ s ∈ l.drop (plc l k), cmpK k (keyS s) < 0
  | [], k, hp, hk => by simp [plc]
  | x :: xs, k, hp, hk => by
    rw [List.pairwise_cons] at hp
    by_cases h : cmpK (keyS x) k < 0
    · have hl : ltK k x = true := by simp [ltK, h]
      have e : plc (x :: xs) k = plc xs k + 1 := by simp [plc, List.takeWhile_cons, hl]
      have hk' : hasK xs k = false := by unfold hasK at hk ⊢; rw [e] at hk; simpa using hk
      obtain ⟨i1, i2⟩ := plc_split xs k hp.2 hk'
      rw [e]
      refine ⟨?_, by simpa using i2⟩
      intro s hs
      rw [List.take_succ_cons, List.mem_cons] at hs
      rcases hs with rfl | hs
      · exact h
      · exact i1 s hs
    · have hl : ltK k x = false := by simp [ltK, h]
      have e : plc (x :: xs) k = 0 := by simp [plc, List.takeWhile_cons, hl]
      have hne : keyS x ≠ k := by
        intro hh
        unfold hasK at hk
        rw [e] at hk
        simp [hh] at hk
      have hx : cmpK k (keyS x) < 0 := by
        rcases cmpK_tri (keyS x) k with a | a | a
        · exact absurd a h
        · exact absurd a hne
        · exact a
      rw [e]
      refine ⟨by simp, ?_⟩
      intro s hs
      rw [List.drop_zero, List.mem_cons] at hs
      rcases hs with rfl | hs
      · exact hx
      · exact cmpK_trans hx (hp.1 s hs)

def insS (l : List Sub) (s : Sub) : List Sub := l.take (plc l (keyS s)) ++ [s] ++ l.drop (plc l (keyS s))

theorem insS_mem {l : List Sub} {s x : Sub} : x ∈ insS l s ↔ x = s ∨ x ∈ l := by
  unfold insS
  have : x ∈ l ↔ x ∈ l.take (plc l (keyS s)) ∨ x ∈ l.drop (plc l (keyS s)) := by
    rw [← List.mem_append, List.take_append_drop]
  rw [this]
  simp only [List.mem_append, List.mem_singleton]
  constructor
  · rintro ((h | h) | h)
    · exact .inr (.inl h)
    · exact .inl h
    · exact .inr (.inr h)
  · rintro (h | h | h)
    · exact .inl (.inr h)
    · exact .inl (.inl h)
    · exact .inr h

theorem insS_sorted {l : List Sub} {s : Sub} (hp : l.Pairwise fun a b => cmpK (keyS a) (keyS b) < 0) (hk : hasK l (keyS s) = false) : (insS l s).Pairwise fun a b => cmpK (keyS a) (keyS b) < 0 := by
  obtain ⟨h1, h2⟩ := plc_split l (keyS s) hp hk
  unfold insS
  rw [List.append_assoc, List.pairwise_append]
  have hp' := hp
  rw [← List.take_append_drop (plc l (keyS s)) l, List.pairwise_append] at hp'
  refine ⟨hp'.1, ?_, ?_⟩
  · rw [List.singleton_append, List.pairwise_cons]
    exact ⟨h2, hp'.2.1⟩
  · intro a ha b hb
    rw [List.singleton_append, List.mem_cons] at hb
    rcases hb with rfl | hb
    · exact h1 a ha
    · exact hp'.2.2 a ha b hb

end Go.Proofs.Ytpkfhjbgnpdgcaa
