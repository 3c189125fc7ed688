/- The types. No statement. -/
import Derived.Test.YtjpeiibeemmdfaaAbsE
/- The types of the program as Lean structures. -/
set_option maxHeartbeats 40000000
set_option synthInstance.maxHeartbeats 2000000
set_option synthInstance.maxSize 4000
set_option linter.unusedSimpArgs false
set_option linter.unusedVariables false
set_option maxRecDepth 100000
namespace Go.Proofs.Ytjpeiibeemmdfaa
open Go Go.Proofs Go.Abs
structure Arr3_u64 where
  e0 : Int
  e1 : Int
  e2 : Int
  deriving Inhabited
theorem Arr3_u64.eta (x : Arr3_u64) : Arr3_u64.mk x.e0 x.e1 x.e2 = x := rfl
def Arr3_u64.row (x : Arr3_u64) : List C := [.val (.int .u64 x.e0), .val (.int .u64 x.e1), .val (.int .u64 x.e2)]
def Arr3_u64.dec : List C → Option Arr3_u64
  | [c0, c1, c2] => ((decI .u64) c0).bind fun a0 => ((decI .u64) c1).bind fun a1 => ((decI .u64) c2).bind fun a2 => some (Arr3_u64.mk a0 a1 a2)
  | _ => none
theorem Arr3_u64.dec_row (x : Arr3_u64) : Arr3_u64.dec (Arr3_u64.row x) = some x := by
  simp only [Arr3_u64.row, Arr3_u64.dec, decI_val, decB_val, decS_val, decL_sl, Option.bind_some]
theorem Arr3_u64.dec_le : ∀ (r : List C) (x : Arr3_u64), Arr3_u64.dec r = some x → LeL r (Arr3_u64.row x) := by
  intro r x h
  unfold Arr3_u64.dec at h
  split at h
  · simp only [Option.bind_eq_some_iff, Option.some.injEq] at h
    obtain ⟨a0, h0, a1, h1, a2, h2, rfl⟩ := h
    exact LeL.cons (decI_le h0) (LeL.cons (decI_le h1) (LeL.cons (decI_le h2) (LeL.nil)))
  · cases h
theorem Arr3_u64.row_ok : RowOk Arr3_u64.row := ⟨fun _ => rfl, fun _ => rfl, fun _ => rfl⟩
instance : RowI Arr3_u64.row := ⟨Arr3_u64.row_ok⟩
theorem Arr3_u64.row_pure : ∀ x, ∀ c ∈ Arr3_u64.row x, PureC c := fun x => pure_cons (PureC.val _) (pure_cons (PureC.val _) (pure_cons (PureC.val _) (pure_nil)))
instance : PureRI Arr3_u64.row := ⟨Arr3_u64.row_pure⟩
def Arr3_u64.decA : C → Option Arr3_u64
  | .agg cs => Arr3_u64.dec cs
  | _ => none
theorem Arr3_u64.decA_le {c : C} {x : Arr3_u64} (h : Arr3_u64.decA c = some x) : Le c (.agg (Arr3_u64.row x)) := by
  unfold Arr3_u64.decA at h
  split at h
  · exact Le.agg (Arr3_u64.dec_le _ _ h)
  · cases h
structure Arr2_u64 where
  e0 : Int
  e1 : Int
  deriving Inhabited
theorem Arr2_u64.eta (x : Arr2_u64) : Arr2_u64.mk x.e0 x.e1 = x := rfl
def Arr2_u64.row (x : Arr2_u64) : List C := [.val (.int .u64 x.e0), .val (.int .u64 x.e1)]
def Arr2_u64.dec : List C → Option Arr2_u64
  | [c0, c1] => ((decI .u64) c0).bind fun a0 => ((decI .u64) c1).bind fun a1 => some (Arr2_u64.mk a0 a1)
  | _ => none
theorem Arr2_u64.dec_row (x : Arr2_u64) : Arr2_u64.dec (Arr2_u64.row x) = some x := by
  simp only [Arr2_u64.row, Arr2_u64.dec, decI_val, decB_val, decS_val, decL_sl, Option.bind_some]
theorem Arr2_u64.dec_le : ∀ (r : List C) (x : Arr2_u64), Arr2_u64.dec r = some x → LeL r (Arr2_u64.row x) := by
  intro r x h
  unfold Arr2_u64.dec at h
  split at h
  · simp only [Option.bind_eq_some_iff, Option.some.injEq] at h
    obtain ⟨a0, h0, a1, h1, rfl⟩ := h
    exact LeL.cons (decI_le h0) (LeL.cons (decI_le h1) (LeL.nil))
  · cases h
theorem Arr2_u64.row_ok : RowOk Arr2_u64.row := ⟨fun _ => rfl, fun _ => rfl, fun _ => rfl⟩
instance : RowI Arr2_u64.row := ⟨Arr2_u64.row_ok⟩
theorem Arr2_u64.row_pure : ∀ x, ∀ c ∈ Arr2_u64.row x, PureC c := fun x => pure_cons (PureC.val _) (pure_cons (PureC.val _) (pure_nil))
instance : PureRI Arr2_u64.row := ⟨Arr2_u64.row_pure⟩
def Arr2_u64.decA : C → Option Arr2_u64
  | .agg cs => Arr2_u64.dec cs
  | _ => none
theorem Arr2_u64.decA_le {c : C} {x : Arr2_u64} (h : Arr2_u64.decA c = some x) : Le c (.agg (Arr2_u64.row x)) := by
  unfold Arr2_u64.decA at h
  split at h
  · exact Le.agg (Arr2_u64.dec_le _ _ h)
  · cases h
end Go.Proofs.Ytjpeiibeemmdfaa
