/- The types. No statement. -/
import Derived.Test.YthdbndgfjldhpaaAbsD
/- The types of the program as Lean structures. -/
set_option maxHeartbeats 40000000
set_option synthInstance.maxHeartbeats 2000000
set_option synthInstance.maxSize 4000
set_option linter.unusedSimpArgs false
set_option linter.unusedVariables false
set_option maxRecDepth 100000
namespace Go.Proofs.Ythdbndgfjldhpaa
open Go Go.Proofs Go.Abs
structure actorgridlaw29_Act where
  Kind : Int
  Name : Int
  Period : Int
  N : Int
  After : Int
  deriving Inhabited
theorem actorgridlaw29_Act.eta (x : actorgridlaw29_Act) : actorgridlaw29_Act.mk x.Kind x.Name x.Period x.N x.After = x := rfl
def actorgridlaw29_Act.row (x : actorgridlaw29_Act) : List C := [.val (.int .u8 x.Kind), .val (.int .u8 x.Name), .val (.int .u8 x.Period), .val (.int .u8 x.N), .val (.int .u8 x.After)]
def actorgridlaw29_Act.dec : List C → Option actorgridlaw29_Act
  | [c0, c1, c2, c3, c4] => ((decI .u8) c0).bind fun a0 => ((decI .u8) c1).bind fun a1 => ((decI .u8) c2).bind fun a2 => ((decI .u8) c3).bind fun a3 => ((decI .u8) c4).bind fun a4 => some (actorgridlaw29_Act.mk a0 a1 a2 a3 a4)
  | _ => none
theorem actorgridlaw29_Act.dec_row (x : actorgridlaw29_Act) : actorgridlaw29_Act.dec (actorgridlaw29_Act.row x) = some x := by
  simp only [actorgridlaw29_Act.row, actorgridlaw29_Act.dec, decI_val, decB_val, decS_val, decL_sl, Option.bind_some]
theorem actorgridlaw29_Act.dec_le : ∀ (r : List C) (x : actorgridlaw29_Act), actorgridlaw29_Act.dec r = some x → LeL r (actorgridlaw29_Act.row x) := by
  intro r x h
  unfold actorgridlaw29_Act.dec at h
  split at h
  · simp only [Option.bind_eq_some_iff, Option.some.injEq] at h
    obtain ⟨a0, h0, a1, h1, a2, h2, a3, h3, a4, h4, rfl⟩ := h
    exact LeL.cons (decI_le h0) (LeL.cons (decI_le h1) (LeL.cons (decI_le h2) (LeL.cons (decI_le h3) (LeL.cons (decI_le h4) (LeL.nil)))))
  · cases h
theorem actorgridlaw29_Act.row_ok : RowOk actorgridlaw29_Act.row := ⟨fun _ => rfl, fun _ => rfl, fun _ => rfl⟩
instance : RowI actorgridlaw29_Act.row := ⟨actorgridlaw29_Act.row_ok⟩
theorem actorgridlaw29_Act.row_pure : ∀ x, ∀ c ∈ actorgridlaw29_Act.row x, PureC c := fun x => pure_cons (PureC.val _) (pure_cons (PureC.val _) (pure_cons (PureC.val _) (pure_cons (PureC.val _) (pure_cons (PureC.val _) (pure_nil)))))
instance : PureRI actorgridlaw29_Act.row := ⟨actorgridlaw29_Act.row_pure⟩
def actorgridlaw29_Act.decA : C → Option actorgridlaw29_Act
  | .agg cs => actorgridlaw29_Act.dec cs
  | _ => none
theorem actorgridlaw29_Act.decA_le {c : C} {x : actorgridlaw29_Act} (h : actorgridlaw29_Act.decA c = some x) : Le c (.agg (actorgridlaw29_Act.row x)) := by
  unfold actorgridlaw29_Act.decA at h
  split at h
  · exact Le.agg (actorgridlaw29_Act.dec_le _ _ h)
  · cases h
structure Reminder where
  Name : ByteArray
  Due : Int
  Period : Int
  Left : Int
  deriving Inhabited
theorem Reminder.eta (x : Reminder) : Reminder.mk x.Name x.Due x.Period x.Left = x := rfl
def Reminder.row (x : Reminder) : List C := [.val (.string x.Name), .val (.int .i64 x.Due), .val (.int .i64 x.Period), .val (.int .i64 x.Left)]
def Reminder.dec : List C → Option Reminder
  | [c0, c1, c2, c3] => (decS c0).bind fun a0 => ((decI .i64) c1).bind fun a1 => ((decI .i64) c2).bind fun a2 => ((decI .i64) c3).bind fun a3 => some (Reminder.mk a0 a1 a2 a3)
  | _ => none
theorem Reminder.dec_row (x : Reminder) : Reminder.dec (Reminder.row x) = some x := by
  simp only [Reminder.row, Reminder.dec, decI_val, decB_val, decS_val, decL_sl, Option.bind_some]
theorem Reminder.dec_le : ∀ (r : List C) (x : Reminder), Reminder.dec r = some x → LeL r (Reminder.row x) := by
  intro r x h
  unfold Reminder.dec at h
  split at h
  · simp only [Option.bind_eq_some_iff, Option.some.injEq] at h
    obtain ⟨a0, h0, a1, h1, a2, h2, a3, h3, rfl⟩ := h
    exact LeL.cons (decS_le h0) (LeL.cons (decI_le h1) (LeL.cons (decI_le h2) (LeL.cons (decI_le h3) (LeL.nil))))
  · cases h
theorem Reminder.row_ok : RowOk Reminder.row := ⟨fun _ => rfl, fun _ => rfl, fun _ => rfl⟩
instance : RowI Reminder.row := ⟨Reminder.row_ok⟩
theorem Reminder.row_pure : ∀ x, ∀ c ∈ Reminder.row x, PureC c := fun x => pure_cons (PureC.val _) (pure_cons (PureC.val _) (pure_cons (PureC.val _) (pure_cons (PureC.val _) (pure_nil))))
instance : PureRI Reminder.row := ⟨Reminder.row_pure⟩
def Reminder.decA : C → Option Reminder
  | .agg cs => Reminder.dec cs
  | _ => none
theorem Reminder.decA_le {c : C} {x : Reminder} (h : Reminder.decA c = some x) : Le c (.agg (Reminder.row x)) := by
  unfold Reminder.decA at h
  split at h
  · exact Le.agg (Reminder.dec_le _ _ h)
  · cases h
end Go.Proofs.Ythdbndgfjldhpaa
