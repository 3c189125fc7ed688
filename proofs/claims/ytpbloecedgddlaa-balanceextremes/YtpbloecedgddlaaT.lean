/- The types. No statement. -/
import Derived.Test.YtpbloecedgddlaaAbsD
/- The types of the program as Lean structures. -/
set_option linter.unusedSimpArgs false
set_option linter.unusedVariables false
set_option maxRecDepth 100000
namespace Go.Proofs.Ytpbloecedgddlaa
open Go Go.Proofs Go.Abs
structure Load where
  Member : Int
  Actors : Int
  deriving Inhabited
theorem Load.eta (x : Load) : Load.mk x.Member x.Actors = x := rfl
def Load.row (x : Load) : List C := [.val (.int .i64 x.Member), .val (.int .i64 x.Actors)]
def Load.dec : List C → Option Load
  | [c0, c1] => ((decI .i64) c0).bind fun a0 => ((decI .i64) c1).bind fun a1 => some (Load.mk a0 a1)
  | _ => none
theorem Load.dec_row (x : Load) : Load.dec (Load.row x) = some x := by
  simp only [Load.row, Load.dec, decI_val, decB_val, decS_val, decL_sl, Option.bind_some]
theorem Load.dec_le : ∀ (r : List C) (x : Load), Load.dec r = some x → LeL r (Load.row x) := by
  intro r x h
  unfold Load.dec at h
  split at h
  · simp only [Option.bind_eq_some_iff, Option.some.injEq] at h
    obtain ⟨a0, h0, a1, h1, rfl⟩ := h
    exact LeL.cons (decI_le h0) (LeL.cons (decI_le h1) (LeL.nil))
  · cases h
theorem Load.row_ok : RowOk Load.row := ⟨fun _ => rfl, fun _ => rfl, fun _ => rfl⟩
theorem Load.row_pure : ∀ x, ∀ c ∈ Load.row x, PureC c := fun x => pure_cons (PureC.val _) (pure_cons (PureC.val _) (pure_nil))
def Load.decA : C → Option Load
  | .agg cs => Load.dec cs
  | _ => none
theorem Load.decA_le {c : C} {x : Load} (h : Load.decA c = some x) : Le c (.agg (Load.row x)) := by
  unfold Load.decA at h
  split at h
  · exact Le.agg (Load.dec_le _ _ h)
  · cases h
structure LoadMove where
  From : Int
  To : Int
  deriving Inhabited
theorem LoadMove.eta (x : LoadMove) : LoadMove.mk x.From x.To = x := rfl
def LoadMove.row (x : LoadMove) : List C := [.val (.int .i64 x.From), .val (.int .i64 x.To)]
def LoadMove.dec : List C → Option LoadMove
  | [c0, c1] => ((decI .i64) c0).bind fun a0 => ((decI .i64) c1).bind fun a1 => some (LoadMove.mk a0 a1)
  | _ => none
theorem LoadMove.dec_row (x : LoadMove) : LoadMove.dec (LoadMove.row x) = some x := by
  simp only [LoadMove.row, LoadMove.dec, decI_val, decB_val, decS_val, decL_sl, Option.bind_some]
theorem LoadMove.dec_le : ∀ (r : List C) (x : LoadMove), LoadMove.dec r = some x → LeL r (LoadMove.row x) := by
  intro r x h
  unfold LoadMove.dec at h
  split at h
  · simp only [Option.bind_eq_some_iff, Option.some.injEq] at h
    obtain ⟨a0, h0, a1, h1, rfl⟩ := h
    exact LeL.cons (decI_le h0) (LeL.cons (decI_le h1) (LeL.nil))
  · cases h
theorem LoadMove.row_ok : RowOk LoadMove.row := ⟨fun _ => rfl, fun _ => rfl, fun _ => rfl⟩
theorem LoadMove.row_pure : ∀ x, ∀ c ∈ LoadMove.row x, PureC c := fun x => pure_cons (PureC.val _) (pure_cons (PureC.val _) (pure_nil))
def LoadMove.decA : C → Option LoadMove
  | .agg cs => LoadMove.dec cs
  | _ => none
theorem LoadMove.decA_le {c : C} {x : LoadMove} (h : LoadMove.decA c = some x) : Le c (.agg (LoadMove.row x)) := by
  unfold LoadMove.decA at h
  split at h
  · exact Le.agg (LoadMove.dec_le _ _ h)
  · cases h
end Go.Proofs.Ytpbloecedgddlaa
