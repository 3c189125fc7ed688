/- Streams: valid topics, as a proposition. -/
import Derived.Test.YtpkfhjbgnpdgcaaL30c
set_option linter.unusedSimpArgs false
set_option linter.unusedVariables false
namespace Go.Proofs.Ytpkfhjbgnpdgcaa
open Go Go.Proofs Go.Abs

theorem subsB_iff (f e : Int) : ∀ (l : List Sub) (p : Option K3), subsB f e p l = true ↔ (∀ s ∈ l, keyB s.Target s.Method = true ∧ f ≤ s.Cursor ∧ s.Cursor ≤ e) ∧ (l.Pairwise fun a b => cmpK (keyS a) (keyS b) < 0) ∧ ∀ k, p = some k → ∀ s ∈ l, cmpK k (keyS s) < 0
  | [], p => by simp [subsB]
  | x :: xs, p => by
    have ih := subsB_iff f e xs (some (keyS x))
    simp only [subsB, Bool.and_eq_true, decide_eq_true_eq, ih, List.pairwise_cons, List.mem_cons, forall_eq_or_imp]
    constructor
    · rintro ⟨⟨⟨⟨a1, a2⟩, a3⟩, a4⟩, b1, b2, b3⟩
      refine ⟨⟨⟨a1, a2, a3⟩, b1⟩, ⟨b3 _ rfl, b2⟩, ?_⟩
      rintro k rfl
      simp only [aftB, decide_eq_true_eq] at a4
      exact ⟨a4, fun s hs => cmpK_trans a4 (b3 _ rfl s hs)⟩
    · rintro ⟨⟨⟨a1, a2, a3⟩, b1⟩, ⟨c1, c2⟩, d⟩
      refine ⟨⟨⟨⟨a1, a2⟩, a3⟩, ?_⟩, b1, c2, ?_⟩
      · cases p with
        | none => rfl
        | some k => simp only [aftB, decide_eq_true_eq]; exact (d k rfl).1
      · rintro k hk; cases hk; exact c1

structure VT (t : Topic) : Prop where
  name : nameB t.Name = true
  f0 : 0 ≤ t.First
  ev : t.Events.length ≤ 64
  f1 : t.First ≤ 1099511627776 - t.Events.length
  sl : t.Subs.length ≤ 8
  sk : ∀ s ∈ t.Subs, keyB s.Target s.Method = true ∧ t.First ≤ s.Cursor ∧ s.Cursor ≤ t.First + t.Events.length
  so : t.Subs.Pairwise fun a b => cmpK (keyS a) (keyS b) < 0

theorem VB_iff (t : Topic) : VB t = true ↔ VT t := by
  simp only [VB, Bool.and_eq_true, decide_eq_true_eq, subsB_iff]
  constructor
  · rintro ⟨⟨⟨⟨⟨a, b⟩, c⟩, d⟩, e⟩, f, g, _⟩; exact ⟨a, b, c, d, e, f, g⟩
  · rintro ⟨a, b, c, d, e, f, g⟩; exact ⟨⟨⟨⟨⟨a, b⟩, c⟩, d⟩, e⟩, f, g, by simp⟩

theorem end_eq (N : Nat) {t : Topic} (h : VT t) : streams_End N t = some (t.First + t.Events.length) := by
  have := h.f1; have := h.f0; have := h.ev
  simp only [streams_End, valid_eq, (VB_iff t).2 h, Option.bind_some, if_true]
  rw [w64 (by omega) (by omega)]

theorem clone_eq (N : Nat) {t : Topic} (h : VT t) : streams_clone N t = some t := by
  have := h.ev; have := h.sl
  simp only [streams_clone, slices_Clone_int, slices_Clone_Sub]
  rw [apn_ok (by omega), apn_ok (by omega)]
  rfl

end Go.Proofs.Ytpkfhjbgnpdgcaa
