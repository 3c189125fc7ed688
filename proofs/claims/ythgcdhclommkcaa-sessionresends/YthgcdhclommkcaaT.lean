/- The types. No statement. -/
import Derived.Test.YthgcdhclommkcaaAbsD
/- The types of the program as Lean structures. -/
set_option maxHeartbeats 40000000
set_option synthInstance.maxHeartbeats 2000000
set_option synthInstance.maxSize 4000
set_option linter.unusedSimpArgs false
set_option linter.unusedVariables false
set_option maxRecDepth 100000
namespace Go.Proofs.Ythgcdhclommkcaa
open Go Go.Proofs Go.Abs
structure Ref where
  Type_ : ByteArray
  Key : ByteArray
  deriving Inhabited
theorem Ref.eta (x : Ref) : Ref.mk x.Type_ x.Key = x := rfl
def Ref.row (x : Ref) : List C := [.val (.string x.Type_), .val (.string x.Key)]
def Ref.dec : List C → Option Ref
  | [c0, c1] => (decS c0).bind fun a0 => (decS c1).bind fun a1 => some (Ref.mk a0 a1)
  | _ => none
theorem Ref.dec_row (x : Ref) : Ref.dec (Ref.row x) = some x := by
  simp only [Ref.row, Ref.dec, decI_val, decB_val, decS_val, decL_sl, Option.bind_some]
theorem Ref.dec_le : ∀ (r : List C) (x : Ref), Ref.dec r = some x → LeL r (Ref.row x) := by
  intro r x h
  unfold Ref.dec at h
  split at h
  · simp only [Option.bind_eq_some_iff, Option.some.injEq] at h
    obtain ⟨a0, h0, a1, h1, rfl⟩ := h
    exact LeL.cons (decS_le h0) (LeL.cons (decS_le h1) (LeL.nil))
  · cases h
theorem Ref.row_ok : RowOk Ref.row := ⟨fun _ => rfl, fun _ => rfl, fun _ => rfl⟩
instance : RowI Ref.row := ⟨Ref.row_ok⟩
theorem Ref.row_pure : ∀ x, ∀ c ∈ Ref.row x, PureC c := fun x => pure_cons (PureC.val _) (pure_cons (PureC.val _) (pure_nil))
instance : PureRI Ref.row := ⟨Ref.row_pure⟩
def Ref.decA : C → Option Ref
  | .agg cs => Ref.dec cs
  | _ => none
theorem Ref.decA_le {c : C} {x : Ref} (h : Ref.decA c = some x) : Le c (.agg (Ref.row x)) := by
  unfold Ref.decA at h
  split at h
  · exact Le.agg (Ref.dec_le _ _ h)
  · cases h
structure Value where
  Kind : Int
  N : Int
  S : ByteArray
  I : (List Int)
  L : (List ByteArray)
  deriving Inhabited
theorem Value.eta (x : Value) : Value.mk x.Kind x.N x.S x.I x.L = x := rfl
def Value.row (x : Value) : List C := [.val (.int .i64 x.Kind), .val (.int .i64 x.N), .val (.string x.S), .sl false none 1 none (x.I.map (rowI .i64)), .sl false none 1 none (x.L.map rowS)]
def Value.dec : List C → Option Value
  | [c0, c1, c2, c3, c4] => ((decI .i64) c0).bind fun a0 => ((decI .i64) c1).bind fun a1 => (decS c2).bind fun a2 => ((decL 1 (dec1 (decI .i64))) c3).bind fun a3 => ((decL 1 (dec1 decS)) c4).bind fun a4 => some (Value.mk a0 a1 a2 a3 a4)
  | _ => none
theorem Value.dec_row (x : Value) : Value.dec (Value.row x) = some x := by
  simp only [Value.row, Value.dec, decI_val, decB_val, decS_val, decL_sl, Option.bind_some, decRows_map (dec1_rowI .i64), decRows_map dec1_rowS]
theorem Value.dec_le : ∀ (r : List C) (x : Value), Value.dec r = some x → LeL r (Value.row x) := by
  intro r x h
  unfold Value.dec at h
  split at h
  · simp only [Option.bind_eq_some_iff, Option.some.injEq] at h
    obtain ⟨a0, h0, a1, h1, a2, h2, a3, h3, a4, h4, rfl⟩ := h
    exact LeL.cons (decI_le h0) (LeL.cons (decI_le h1) (LeL.cons (decS_le h2) (LeL.cons (decL_le (decI1_le .i64) h3) (LeL.cons (decL_le decS1_le h4) (LeL.nil)))))
  · cases h
theorem Value.row_ok : RowOk Value.row := ⟨fun _ => rfl, fun _ => rfl, fun _ => rfl⟩
instance : RowI Value.row := ⟨Value.row_ok⟩
def Value.decA : C → Option Value
  | .agg cs => Value.dec cs
  | _ => none
theorem Value.decA_le {c : C} {x : Value} (h : Value.decA c = some x) : Le c (.agg (Value.row x)) := by
  unfold Value.decA at h
  split at h
  · exact Le.agg (Value.dec_le _ _ h)
  · cases h
structure ActorCall where
  Target : Ref
  Method : ByteArray
  Args : (List Value)
  deriving Inhabited
theorem ActorCall.eta (x : ActorCall) : ActorCall.mk x.Target x.Method x.Args = x := rfl
def ActorCall.row (x : ActorCall) : List C := [.val (.string x.Target.Type_), .val (.string x.Target.Key), .val (.string x.Method), .sl false none 5 none (x.Args.map Value.row)]
def ActorCall.dec : List C → Option ActorCall
  | [c0, c1, c2, c3] => (decS c0).bind fun a0 => (decS c1).bind fun a1 => (decS c2).bind fun a2 => ((decL 5 Value.dec) c3).bind fun a3 => some (ActorCall.mk (Ref.mk a0 a1) a2 a3)
  | _ => none
theorem ActorCall.dec_row (x : ActorCall) : ActorCall.dec (ActorCall.row x) = some x := by
  simp only [ActorCall.row, ActorCall.dec, decI_val, decB_val, decS_val, decL_sl, Option.bind_some, decRows_map Value.dec_row]
theorem ActorCall.dec_le : ∀ (r : List C) (x : ActorCall), ActorCall.dec r = some x → LeL r (ActorCall.row x) := by
  intro r x h
  unfold ActorCall.dec at h
  split at h
  · simp only [Option.bind_eq_some_iff, Option.some.injEq] at h
    obtain ⟨a0, h0, a1, h1, a2, h2, a3, h3, rfl⟩ := h
    exact LeL.cons (decS_le h0) (LeL.cons (decS_le h1) (LeL.cons (decS_le h2) (LeL.cons (decL_le Value.dec_le h3) (LeL.nil))))
  · cases h
theorem ActorCall.row_ok : RowOk ActorCall.row := ⟨fun _ => rfl, fun _ => rfl, fun _ => rfl⟩
instance : RowI ActorCall.row := ⟨ActorCall.row_ok⟩
def ActorCall.decA : C → Option ActorCall
  | .agg cs => ActorCall.dec cs
  | _ => none
theorem ActorCall.decA_le {c : C} {x : ActorCall} (h : ActorCall.decA c = some x) : Le c (.agg (ActorCall.row x)) := by
  unfold ActorCall.decA at h
  split at h
  · exact Le.agg (ActorCall.dec_le _ _ h)
  · cases h
structure Submission where
  Client : ByteArray
  Seq : Int
  Acked : Int
  Atomic : Bool
  Calls : (List ActorCall)
  deriving Inhabited
theorem Submission.eta (x : Submission) : Submission.mk x.Client x.Seq x.Acked x.Atomic x.Calls = x := rfl
def Submission.row (x : Submission) : List C := [.val (.string x.Client), .val (.int .i64 x.Seq), .val (.int .i64 x.Acked), .val (.bool x.Atomic), .sl false none 4 none (x.Calls.map ActorCall.row)]
def Submission.dec : List C → Option Submission
  | [c0, c1, c2, c3, c4] => (decS c0).bind fun a0 => ((decI .i64) c1).bind fun a1 => ((decI .i64) c2).bind fun a2 => (decB c3).bind fun a3 => ((decL 4 ActorCall.dec) c4).bind fun a4 => some (Submission.mk a0 a1 a2 a3 a4)
  | _ => none
theorem Submission.dec_row (x : Submission) : Submission.dec (Submission.row x) = some x := by
  simp only [Submission.row, Submission.dec, decI_val, decB_val, decS_val, decL_sl, Option.bind_some, decRows_map ActorCall.dec_row]
theorem Submission.dec_le : ∀ (r : List C) (x : Submission), Submission.dec r = some x → LeL r (Submission.row x) := by
  intro r x h
  unfold Submission.dec at h
  split at h
  · simp only [Option.bind_eq_some_iff, Option.some.injEq] at h
    obtain ⟨a0, h0, a1, h1, a2, h2, a3, h3, a4, h4, rfl⟩ := h
    exact LeL.cons (decS_le h0) (LeL.cons (decI_le h1) (LeL.cons (decI_le h2) (LeL.cons (decB_le h3) (LeL.cons (decL_le ActorCall.dec_le h4) (LeL.nil)))))
  · cases h
theorem Submission.row_ok : RowOk Submission.row := ⟨fun _ => rfl, fun _ => rfl, fun _ => rfl⟩
instance : RowI Submission.row := ⟨Submission.row_ok⟩
def Submission.decA : C → Option Submission
  | .agg cs => Submission.dec cs
  | _ => none
theorem Submission.decA_le {c : C} {x : Submission} (h : Submission.decA c = some x) : Le c (.agg (Submission.row x)) := by
  unfold Submission.decA at h
  split at h
  · exact Le.agg (Submission.dec_le _ _ h)
  · cases h
structure PendingSubmission where
  Submission_ : Submission
  Sent : Int
  deriving Inhabited
theorem PendingSubmission.eta (x : PendingSubmission) : PendingSubmission.mk x.Submission_ x.Sent = x := rfl
def PendingSubmission.row (x : PendingSubmission) : List C := [.val (.string x.Submission_.Client), .val (.int .i64 x.Submission_.Seq), .val (.int .i64 x.Submission_.Acked), .val (.bool x.Submission_.Atomic), .sl false none 4 none (x.Submission_.Calls.map ActorCall.row), .val (.int .i64 x.Sent)]
def PendingSubmission.dec : List C → Option PendingSubmission
  | [c0, c1, c2, c3, c4, c5] => (decS c0).bind fun a0 => ((decI .i64) c1).bind fun a1 => ((decI .i64) c2).bind fun a2 => (decB c3).bind fun a3 => ((decL 4 ActorCall.dec) c4).bind fun a4 => ((decI .i64) c5).bind fun a5 => some (PendingSubmission.mk (Submission.mk a0 a1 a2 a3 a4) a5)
  | _ => none
theorem PendingSubmission.dec_row (x : PendingSubmission) : PendingSubmission.dec (PendingSubmission.row x) = some x := by
  simp only [PendingSubmission.row, PendingSubmission.dec, decI_val, decB_val, decS_val, decL_sl, Option.bind_some, decRows_map ActorCall.dec_row]
theorem PendingSubmission.dec_le : ∀ (r : List C) (x : PendingSubmission), PendingSubmission.dec r = some x → LeL r (PendingSubmission.row x) := by
  intro r x h
  unfold PendingSubmission.dec at h
  split at h
  · simp only [Option.bind_eq_some_iff, Option.some.injEq] at h
    obtain ⟨a0, h0, a1, h1, a2, h2, a3, h3, a4, h4, a5, h5, rfl⟩ := h
    exact LeL.cons (decS_le h0) (LeL.cons (decI_le h1) (LeL.cons (decI_le h2) (LeL.cons (decB_le h3) (LeL.cons (decL_le ActorCall.dec_le h4) (LeL.cons (decI_le h5) (LeL.nil))))))
  · cases h
theorem PendingSubmission.row_ok : RowOk PendingSubmission.row := ⟨fun _ => rfl, fun _ => rfl, fun _ => rfl⟩
instance : RowI PendingSubmission.row := ⟨PendingSubmission.row_ok⟩
def PendingSubmission.decA : C → Option PendingSubmission
  | .agg cs => PendingSubmission.dec cs
  | _ => none
theorem PendingSubmission.decA_le {c : C} {x : PendingSubmission} (h : PendingSubmission.decA c = some x) : Le c (.agg (PendingSubmission.row x)) := by
  unfold PendingSubmission.decA at h
  split at h
  · exact Le.agg (PendingSubmission.dec_le _ _ h)
  · cases h
structure Session where
  Name : ByteArray
  Next : Int
  Open : (List PendingSubmission)
  deriving Inhabited
theorem Session.eta (x : Session) : Session.mk x.Name x.Next x.Open = x := rfl
def Session.row (x : Session) : List C := [.val (.string x.Name), .val (.int .i64 x.Next), .sl false none 6 none (x.Open.map PendingSubmission.row)]
def Session.dec : List C → Option Session
  | [c0, c1, c2] => (decS c0).bind fun a0 => ((decI .i64) c1).bind fun a1 => ((decL 6 PendingSubmission.dec) c2).bind fun a2 => some (Session.mk a0 a1 a2)
  | _ => none
theorem Session.dec_row (x : Session) : Session.dec (Session.row x) = some x := by
  simp only [Session.row, Session.dec, decI_val, decB_val, decS_val, decL_sl, Option.bind_some, decRows_map PendingSubmission.dec_row]
theorem Session.dec_le : ∀ (r : List C) (x : Session), Session.dec r = some x → LeL r (Session.row x) := by
  intro r x h
  unfold Session.dec at h
  split at h
  · simp only [Option.bind_eq_some_iff, Option.some.injEq] at h
    obtain ⟨a0, h0, a1, h1, a2, h2, rfl⟩ := h
    exact LeL.cons (decS_le h0) (LeL.cons (decI_le h1) (LeL.cons (decL_le PendingSubmission.dec_le h2) (LeL.nil)))
  · cases h
theorem Session.row_ok : RowOk Session.row := ⟨fun _ => rfl, fun _ => rfl, fun _ => rfl⟩
instance : RowI Session.row := ⟨Session.row_ok⟩
def Session.decA : C → Option Session
  | .agg cs => Session.dec cs
  | _ => none
theorem Session.decA_le {c : C} {x : Session} (h : Session.decA c = some x) : Le c (.agg (Session.row x)) := by
  unfold Session.decA at h
  split at h
  · exact Le.agg (Session.dec_le _ _ h)
  · cases h
structure Reply where
  Client : ByteArray
  Seq : Int
  Path : (List Int)
  Err : Int
  Value_ : Value
  deriving Inhabited
theorem Reply.eta (x : Reply) : Reply.mk x.Client x.Seq x.Path x.Err x.Value_ = x := rfl
def Reply.row (x : Reply) : List C := [.val (.string x.Client), .val (.int .i64 x.Seq), .sl false none 1 none (x.Path.map (rowI .i64)), .val (.int .i64 x.Err), .val (.int .i64 x.Value_.Kind), .val (.int .i64 x.Value_.N), .val (.string x.Value_.S), .sl false none 1 none (x.Value_.I.map (rowI .i64)), .sl false none 1 none (x.Value_.L.map rowS)]
def Reply.dec : List C → Option Reply
  | [c0, c1, c2, c3, c4, c5, c6, c7, c8] => (decS c0).bind fun a0 => ((decI .i64) c1).bind fun a1 => ((decL 1 (dec1 (decI .i64))) c2).bind fun a2 => ((decI .i64) c3).bind fun a3 => ((decI .i64) c4).bind fun a4 => ((decI .i64) c5).bind fun a5 => (decS c6).bind fun a6 => ((decL 1 (dec1 (decI .i64))) c7).bind fun a7 => ((decL 1 (dec1 decS)) c8).bind fun a8 => some (Reply.mk a0 a1 a2 a3 (Value.mk a4 a5 a6 a7 a8))
  | _ => none
theorem Reply.dec_row (x : Reply) : Reply.dec (Reply.row x) = some x := by
  simp only [Reply.row, Reply.dec, decI_val, decB_val, decS_val, decL_sl, Option.bind_some, decRows_map (dec1_rowI .i64), decRows_map dec1_rowS]
theorem Reply.dec_le : ∀ (r : List C) (x : Reply), Reply.dec r = some x → LeL r (Reply.row x) := by
  intro r x h
  unfold Reply.dec at h
  split at h
  · simp only [Option.bind_eq_some_iff, Option.some.injEq] at h
    obtain ⟨a0, h0, a1, h1, a2, h2, a3, h3, a4, h4, a5, h5, a6, h6, a7, h7, a8, h8, rfl⟩ := h
    exact LeL.cons (decS_le h0) (LeL.cons (decI_le h1) (LeL.cons (decL_le (decI1_le .i64) h2) (LeL.cons (decI_le h3) (LeL.cons (decI_le h4) (LeL.cons (decI_le h5) (LeL.cons (decS_le h6) (LeL.cons (decL_le (decI1_le .i64) h7) (LeL.cons (decL_le decS1_le h8) (LeL.nil)))))))))
  · cases h
theorem Reply.row_ok : RowOk Reply.row := ⟨fun _ => rfl, fun _ => rfl, fun _ => rfl⟩
instance : RowI Reply.row := ⟨Reply.row_ok⟩
def Reply.decA : C → Option Reply
  | .agg cs => Reply.dec cs
  | _ => none
theorem Reply.decA_le {c : C} {x : Reply} (h : Reply.decA c = some x) : Le c (.agg (Reply.row x)) := by
  unfold Reply.decA at h
  split at h
  · exact Le.agg (Reply.dec_le _ _ h)
  · cases h
structure actorgridlaw34_Act where
  Kind : Int
  Seq : Int
  After : Int
  deriving Inhabited
theorem actorgridlaw34_Act.eta (x : actorgridlaw34_Act) : actorgridlaw34_Act.mk x.Kind x.Seq x.After = x := rfl
def actorgridlaw34_Act.row (x : actorgridlaw34_Act) : List C := [.val (.int .u8 x.Kind), .val (.int .u8 x.Seq), .val (.int .u8 x.After)]
def actorgridlaw34_Act.dec : List C → Option actorgridlaw34_Act
  | [c0, c1, c2] => ((decI .u8) c0).bind fun a0 => ((decI .u8) c1).bind fun a1 => ((decI .u8) c2).bind fun a2 => some (actorgridlaw34_Act.mk a0 a1 a2)
  | _ => none
theorem actorgridlaw34_Act.dec_row (x : actorgridlaw34_Act) : actorgridlaw34_Act.dec (actorgridlaw34_Act.row x) = some x := by
  simp only [actorgridlaw34_Act.row, actorgridlaw34_Act.dec, decI_val, decB_val, decS_val, decL_sl, Option.bind_some]
theorem actorgridlaw34_Act.dec_le : ∀ (r : List C) (x : actorgridlaw34_Act), actorgridlaw34_Act.dec r = some x → LeL r (actorgridlaw34_Act.row x) := by
  intro r x h
  unfold actorgridlaw34_Act.dec at h
  split at h
  · simp only [Option.bind_eq_some_iff, Option.some.injEq] at h
    obtain ⟨a0, h0, a1, h1, a2, h2, rfl⟩ := h
    exact LeL.cons (decI_le h0) (LeL.cons (decI_le h1) (LeL.cons (decI_le h2) (LeL.nil)))
  · cases h
theorem actorgridlaw34_Act.row_ok : RowOk actorgridlaw34_Act.row := ⟨fun _ => rfl, fun _ => rfl, fun _ => rfl⟩
instance : RowI actorgridlaw34_Act.row := ⟨actorgridlaw34_Act.row_ok⟩
theorem actorgridlaw34_Act.row_pure : ∀ x, ∀ c ∈ actorgridlaw34_Act.row x, PureC c := fun x => pure_cons (PureC.val _) (pure_cons (PureC.val _) (pure_cons (PureC.val _) (pure_nil)))
instance : PureRI actorgridlaw34_Act.row := ⟨actorgridlaw34_Act.row_pure⟩
def actorgridlaw34_Act.decA : C → Option actorgridlaw34_Act
  | .agg cs => actorgridlaw34_Act.dec cs
  | _ => none
theorem actorgridlaw34_Act.decA_le {c : C} {x : actorgridlaw34_Act} (h : actorgridlaw34_Act.decA c = some x) : Le c (.agg (actorgridlaw34_Act.row x)) := by
  unfold actorgridlaw34_Act.decA at h
  split at h
  · exact Le.agg (actorgridlaw34_Act.dec_le _ _ h)
  · cases h
end Go.Proofs.Ythgcdhclommkcaa
