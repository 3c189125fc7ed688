/- Streams: the operations on valid topics. -/
import Derived.Test.YtpkfhjbgnpdgcaaL30e
set_option linter.unusedSimpArgs false
set_option linter.unusedVariables false
namespace Go.Proofs.Ytpkfhjbgnpdgcaa
open Go Go.Proofs Go.Abs

theorem publish_eq (N : Nat) {t : Topic} (h : VT t) (x : Int) : streams_Publish N t x =
    some (if t.Events.length = 64 ∨ t.First + t.Events.length = 1099511627776 then (⟨⟨#[]⟩, 0, [], []⟩, 0, 5) else (⟨t.Name, t.First, t.Events ++ [x], t.Subs⟩, t.First + t.Events.length, 0)) := by
  have := h.ev
  simp only [streams_Publish, valid_eq, (VB_iff t).2 h, Option.bind_some, if_true, end_eq N h, streams_Publish_J1, streams_Publish_J2, clone_eq N h]
  by_cases h1 : t.Events.length = 64
  · have : (t.Events.length : Int) = 64 := by omega
    simp [h1, this]
  · have h1' : ¬ (t.Events.length : Int) = 64 := by omega
    by_cases h2 : t.First + t.Events.length = 1099511627776
    · simp [h1, h1', h2]
    · simp only [h1, h1', h2, if_false, or_self, decide_false, Bool.false_eq_true]
      rw [apx_ok (by simp; omega)]

theorem publish_VT {t : Topic} (h : VT t) (h1 : ¬ t.Events.length = 64) (h2 : ¬ t.First + t.Events.length = 1099511627776) (x : Int) : VT ⟨t.Name, t.First, t.Events ++ [x], t.Subs⟩ := by
  have a := h.ev; have b := h.f1
  refine ⟨h.name, h.f0, by simp; omega, by simp; omega, h.sl, fun s hs => ?_, h.so⟩
  have := h.sk s hs
  simp only [List.length_append, List.length_cons, List.length_nil]
  exact ⟨this.1, this.2.1, by omega⟩

end Go.Proofs.Ytpkfhjbgnpdgcaa
