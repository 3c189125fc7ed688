/- The types. No statement. -/
import Derived.Test.YtpkfhjbgnpdgcaaAbsD
/- The types of the program as Lean structures. -/
set_option maxHeartbeats 40000000
set_option synthInstance.maxHeartbeats 2000000
set_option synthInstance.maxSize 4000
set_option linter.unusedSimpArgs false
set_option linter.unusedVariables false
set_option maxRecDepth 100000
namespace Go.Proofs.Ytpkfhjbgnpdgcaa
open Go Go.Proofs Go.Abs
structure actorgridlaw30_Act where
  Kind : Int
  Who : Int
  Value : Int
  deriving Inhabited
theorem actorgridlaw30_Act.eta (x : actorgridlaw30_Act) : actorgridlaw30_Act.mk x.Kind x.Who x.Value = x := rfl
def actorgridlaw30_Act.row (x : actorgridlaw30_Act) : List C := [.val (.int .u8 x.Kind), .val (.int .u8 x.Who), .val (.int .i64 x.Value)]
def actorgridlaw30_Act.dec : List C → Option actorgridlaw30_Act
  | [c0, c1, c2] => ((decI .u8) c0).bind fun a0 => ((decI .u8) c1).bind fun a1 => ((decI .i64) c2).bind fun a2 => some (actorgridlaw30_Act.mk a0 a1 a2)
  | _ => none
theorem actorgridlaw30_Act.dec_row (x : actorgridlaw30_Act) : actorgridlaw30_Act.dec (actorgridlaw30_Act.row x) = some x := by
  simp only [actorgridlaw30_Act.row, actorgridlaw30_Act.dec, decI_val, decB_val, decS_val, decL_sl, Option.bind_some]
theorem actorgridlaw30_Act.dec_le : ∀ (r : List C) (x : actorgridlaw30_Act), actorgridlaw30_Act.dec r = some x → LeL r (actorgridlaw30_Act.row x) := by
  intro r x h
  unfold actorgridlaw30_Act.dec at h
  split at h
  · simp only [Option.bind_eq_some_iff, Option.some.injEq] at h
    obtain ⟨a0, h0, a1, h1, a2, h2, rfl⟩ := h
    exact LeL.cons (decI_le h0) (LeL.cons (decI_le h1) (LeL.cons (decI_le h2) (LeL.nil)))
  · cases h
theorem actorgridlaw30_Act.row_ok : RowOk actorgridlaw30_Act.row := ⟨fun _ => rfl, fun _ => rfl, fun _ => rfl⟩
instance : RowI actorgridlaw30_Act.row := ⟨actorgridlaw30_Act.row_ok⟩
theorem actorgridlaw30_Act.row_pure : ∀ x, ∀ c ∈ actorgridlaw30_Act.row x, PureC c := fun x => pure_cons (PureC.val _) (pure_cons (PureC.val _) (pure_cons (PureC.val _) (pure_nil)))
instance : PureRI actorgridlaw30_Act.row := ⟨actorgridlaw30_Act.row_pure⟩
def actorgridlaw30_Act.decA : C → Option actorgridlaw30_Act
  | .agg cs => actorgridlaw30_Act.dec cs
  | _ => none
theorem actorgridlaw30_Act.decA_le {c : C} {x : actorgridlaw30_Act} (h : actorgridlaw30_Act.decA c = some x) : Le c (.agg (actorgridlaw30_Act.row x)) := by
  unfold actorgridlaw30_Act.decA at h
  split at h
  · exact Le.agg (actorgridlaw30_Act.dec_le _ _ h)
  · cases h
structure Ref where
  Type_ : ByteArray
  Key : ByteArray
  deriving Inhabited
theorem Ref.eta (x : Ref) : Ref.mk x.Type_ x.Key = x := rfl
def Ref.row (x : Ref) : List C := [.val (.string x.Type_), .val (.string x.Key)]
def Ref.dec : List C → Option Ref
  | [c0, c1] => (decS c0).bind fun a0 => (decS c1).bind fun a1 => some (Ref.mk a0 a1)
  | _ => none
theorem Ref.dec_row (x : Ref) : Ref.dec (Ref.row x) = some x := by
  simp only [Ref.row, Ref.dec, decI_val, decB_val, decS_val, decL_sl, Option.bind_some]
theorem Ref.dec_le : ∀ (r : List C) (x : Ref), Ref.dec r = some x → LeL r (Ref.row x) := by
  intro r x h
  unfold Ref.dec at h
  split at h
  · simp only [Option.bind_eq_some_iff, Option.some.injEq] at h
    obtain ⟨a0, h0, a1, h1, rfl⟩ := h
    exact LeL.cons (decS_le h0) (LeL.cons (decS_le h1) (LeL.nil))
  · cases h
theorem Ref.row_ok : RowOk Ref.row := ⟨fun _ => rfl, fun _ => rfl, fun _ => rfl⟩
instance : RowI Ref.row := ⟨Ref.row_ok⟩
theorem Ref.row_pure : ∀ x, ∀ c ∈ Ref.row x, PureC c := fun x => pure_cons (PureC.val _) (pure_cons (PureC.val _) (pure_nil))
instance : PureRI Ref.row := ⟨Ref.row_pure⟩
def Ref.decA : C → Option Ref
  | .agg cs => Ref.dec cs
  | _ => none
theorem Ref.decA_le {c : C} {x : Ref} (h : Ref.decA c = some x) : Le c (.agg (Ref.row x)) := by
  unfold Ref.decA at h
  split at h
  · exact Le.agg (Ref.dec_le _ _ h)
  · cases h
structure Sub where
  Target : Ref
  Method : ByteArray
  Cursor : Int
  deriving Inhabited
theorem Sub.eta (x : Sub) : Sub.mk x.Target x.Method x.Cursor = x := rfl
def Sub.row (x : Sub) : List C := [.val (.string x.Target.Type_), .val (.string x.Target.Key), .val (.string x.Method), .val (.int .i64 x.Cursor)]
def Sub.dec : List C → Option Sub
  | [c0, c1, c2, c3] => (decS c0).bind fun a0 => (decS c1).bind fun a1 => (decS c2).bind fun a2 => ((decI .i64) c3).bind fun a3 => some (Sub.mk (Ref.mk a0 a1) a2 a3)
  | _ => none
theorem Sub.dec_row (x : Sub) : Sub.dec (Sub.row x) = some x := by
  simp only [Sub.row, Sub.dec, decI_val, decB_val, decS_val, decL_sl, Option.bind_some]
theorem Sub.dec_le : ∀ (r : List C) (x : Sub), Sub.dec r = some x → LeL r (Sub.row x) := by
  intro r x h
  unfold Sub.dec at h
  split at h
  · simp only [Option.bind_eq_some_iff, Option.some.injEq] at h
    obtain ⟨a0, h0, a1, h1, a2, h2, a3, h3, rfl⟩ := h
    exact LeL.cons (decS_le h0) (LeL.cons (decS_le h1) (LeL.cons (decS_le h2) (LeL.cons (decI_le h3) (LeL.nil))))
  · cases h
theorem Sub.row_ok : RowOk Sub.row := ⟨fun _ => rfl, fun _ => rfl, fun _ => rfl⟩
instance : RowI Sub.row := ⟨Sub.row_ok⟩
theorem Sub.row_pure : ∀ x, ∀ c ∈ Sub.row x, PureC c := fun x => pure_cons (PureC.val _) (pure_cons (PureC.val _) (pure_cons (PureC.val _) (pure_cons (PureC.val _) (pure_nil))))
instance : PureRI Sub.row := ⟨Sub.row_pure⟩
def Sub.decA : C → Option Sub
  | .agg cs => Sub.dec cs
  | _ => none
theorem Sub.decA_le {c : C} {x : Sub} (h : Sub.decA c = some x) : Le c (.agg (Sub.row x)) := by
  unfold Sub.decA at h
  split at h
  · exact Le.agg (Sub.dec_le _ _ h)
  · cases h
structure Topic where
  Name : ByteArray
  First : Int
  Events : (List Int)
  Subs : (List Sub)
  deriving Inhabited
theorem Topic.eta (x : Topic) : Topic.mk x.Name x.First x.Events x.Subs = x := rfl
def Topic.row (x : Topic) : List C := [.val (.string x.Name), .val (.int .i64 x.First), .sl false none 1 none (x.Events.map (rowI .i64)), .sl false none 4 none (x.Subs.map Sub.row)]
def Topic.dec : List C → Option Topic
  | [c0, c1, c2, c3] => (decS c0).bind fun a0 => ((decI .i64) c1).bind fun a1 => ((decL 1 (dec1 (decI .i64))) c2).bind fun a2 => ((decL 4 Sub.dec) c3).bind fun a3 => some (Topic.mk a0 a1 a2 a3)
  | _ => none
theorem Topic.dec_row (x : Topic) : Topic.dec (Topic.row x) = some x := by
  simp only [Topic.row, Topic.dec, decI_val, decB_val, decS_val, decL_sl, Option.bind_some, decRows_map (dec1_rowI .i64), decRows_map Sub.dec_row]
theorem Topic.dec_le : ∀ (r : List C) (x : Topic), Topic.dec r = some x → LeL r (Topic.row x) := by
  intro r x h
  unfold Topic.dec at h
  split at h
  · simp only [Option.bind_eq_some_iff, Option.some.injEq] at h
    obtain ⟨a0, h0, a1, h1, a2, h2, a3, h3, rfl⟩ := h
    exact LeL.cons (decS_le h0) (LeL.cons (decI_le h1) (LeL.cons (decL_le (decI1_le .i64) h2) (LeL.cons (decL_le Sub.dec_le h3) (LeL.nil))))
  · cases h
theorem Topic.row_ok : RowOk Topic.row := ⟨fun _ => rfl, fun _ => rfl, fun _ => rfl⟩
instance : RowI Topic.row := ⟨Topic.row_ok⟩
def Topic.decA : C → Option Topic
  | .agg cs => Topic.dec cs
  | _ => none
theorem Topic.decA_le {c : C} {x : Topic} (h : Topic.decA c = some x) : Le c (.agg (Topic.row x)) := by
  unfold Topic.decA at h
  split at h
  · exact Le.agg (Topic.dec_le _ _ h)
  · cases h
structure Delivery where
  Target : Ref
  Method : ByteArray
  Seq : Int
  Value : Int
  deriving Inhabited
theorem Delivery.eta (x : Delivery) : Delivery.mk x.Target x.Method x.Seq x.Value = x := rfl
def Delivery.row (x : Delivery) : List C := [.val (.string x.Target.Type_), .val (.string x.Target.Key), .val (.string x.Method), .val (.int .i64 x.Seq), .val (.int .i64 x.Value)]
def Delivery.dec : List C → Option Delivery
  | [c0, c1, c2, c3, c4] => (decS c0).bind fun a0 => (decS c1).bind fun a1 => (decS c2).bind fun a2 => ((decI .i64) c3).bind fun a3 => ((decI .i64) c4).bind fun a4 => some (Delivery.mk (Ref.mk a0 a1) a2 a3 a4)
  | _ => none
theorem Delivery.dec_row (x : Delivery) : Delivery.dec (Delivery.row x) = some x := by
  simp only [Delivery.row, Delivery.dec, decI_val, decB_val, decS_val, decL_sl, Option.bind_some]
theorem Delivery.dec_le : ∀ (r : List C) (x : Delivery), Delivery.dec r = some x → LeL r (Delivery.row x) := by
  intro r x h
  unfold Delivery.dec at h
  split at h
  · simp only [Option.bind_eq_some_iff, Option.some.injEq] at h
    obtain ⟨a0, h0, a1, h1, a2, h2, a3, h3, a4, h4, rfl⟩ := h
    exact LeL.cons (decS_le h0) (LeL.cons (decS_le h1) (LeL.cons (decS_le h2) (LeL.cons (decI_le h3) (LeL.cons (decI_le h4) (LeL.nil)))))
  · cases h
theorem Delivery.row_ok : RowOk Delivery.row := ⟨fun _ => rfl, fun _ => rfl, fun _ => rfl⟩
instance : RowI Delivery.row := ⟨Delivery.row_ok⟩
theorem Delivery.row_pure : ∀ x, ∀ c ∈ Delivery.row x, PureC c := fun x => pure_cons (PureC.val _) (pure_cons (PureC.val _) (pure_cons (PureC.val _) (pure_cons (PureC.val _) (pure_cons (PureC.val _) (pure_nil)))))
instance : PureRI Delivery.row := ⟨Delivery.row_pure⟩
def Delivery.decA : C → Option Delivery
  | .agg cs => Delivery.dec cs
  | _ => none
theorem Delivery.decA_le {c : C} {x : Delivery} (h : Delivery.decA c = some x) : Le c (.agg (Delivery.row x)) := by
  unfold Delivery.decA at h
  split at h
  · exact Le.agg (Delivery.dec_le _ _ h)
  · cases h
end Go.Proofs.Ytpkfhjbgnpdgcaa
