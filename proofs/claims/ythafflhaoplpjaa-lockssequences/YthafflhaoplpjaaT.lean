/- The types. No statement. -/
import Derived.Test.YthafflhaoplpjaaAbsE
/- The types of the program as Lean structures. -/
set_option maxHeartbeats 40000000
set_option synthInstance.maxHeartbeats 2000000
set_option synthInstance.maxSize 4000
set_option linter.unusedSimpArgs false
set_option linter.unusedVariables false
set_option maxRecDepth 100000
namespace Go.Proofs.Ythafflhaoplpjaa
open Go Go.Proofs Go.Abs
structure actorgridlaw31_Act where
  Kind : Int
  Txn : Int
  Actor : Int
  deriving Inhabited
theorem actorgridlaw31_Act.eta (x : actorgridlaw31_Act) : actorgridlaw31_Act.mk x.Kind x.Txn x.Actor = x := rfl
def actorgridlaw31_Act.row (x : actorgridlaw31_Act) : List C := [.val (.int .u8 x.Kind), .val (.int .u8 x.Txn), .val (.int .u8 x.Actor)]
def actorgridlaw31_Act.dec : List C → Option actorgridlaw31_Act
  | [c0, c1, c2] => ((decI .u8) c0).bind fun a0 => ((decI .u8) c1).bind fun a1 => ((decI .u8) c2).bind fun a2 => some (actorgridlaw31_Act.mk a0 a1 a2)
  | _ => none
theorem actorgridlaw31_Act.dec_row (x : actorgridlaw31_Act) : actorgridlaw31_Act.dec (actorgridlaw31_Act.row x) = some x := by
  simp only [actorgridlaw31_Act.row, actorgridlaw31_Act.dec, decI_val, decB_val, decS_val, decL_sl, Option.bind_some]
theorem actorgridlaw31_Act.dec_le : ∀ (r : List C) (x : actorgridlaw31_Act), actorgridlaw31_Act.dec r = some x → LeL r (actorgridlaw31_Act.row x) := by
  intro r x h
  unfold actorgridlaw31_Act.dec at h
  split at h
  · simp only [Option.bind_eq_some_iff, Option.some.injEq] at h
    obtain ⟨a0, h0, a1, h1, a2, h2, rfl⟩ := h
    exact LeL.cons (decI_le h0) (LeL.cons (decI_le h1) (LeL.cons (decI_le h2) (LeL.nil)))
  · cases h
theorem actorgridlaw31_Act.row_ok : RowOk actorgridlaw31_Act.row := ⟨fun _ => rfl, fun _ => rfl, fun _ => rfl⟩
instance : RowI actorgridlaw31_Act.row := ⟨actorgridlaw31_Act.row_ok⟩
instance (cs : List C) (x : actorgridlaw31_Act) [h : LeIL cs [.val (.int .u8 x.Kind), .val (.int .u8 x.Txn), .val (.int .u8 x.Actor)]] : LeIL cs (actorgridlaw31_Act.row x) := ⟨h.h⟩
theorem actorgridlaw31_Act.row_pure : ∀ x, ∀ c ∈ actorgridlaw31_Act.row x, PureC c := fun x => pure_cons (PureC.val _) (pure_cons (PureC.val _) (pure_cons (PureC.val _) (pure_nil)))
instance : PureRI actorgridlaw31_Act.row := ⟨actorgridlaw31_Act.row_pure⟩
def actorgridlaw31_Act.decA : C → Option actorgridlaw31_Act
  | .agg cs => actorgridlaw31_Act.dec cs
  | _ => none
theorem actorgridlaw31_Act.decA_le {c : C} {x : actorgridlaw31_Act} (h : actorgridlaw31_Act.decA c = some x) : Le c (.agg (actorgridlaw31_Act.row x)) := by
  unfold actorgridlaw31_Act.decA at h
  split at h
  · exact Le.agg (actorgridlaw31_Act.dec_le _ _ h)
  · cases h
structure Ref where
  Type_ : ByteArray
  Key : ByteArray
  deriving Inhabited
theorem Ref.eta (x : Ref) : Ref.mk x.Type_ x.Key = x := rfl
def Ref.row (x : Ref) : List C := [.val (.string x.Type_), .val (.string x.Key)]
def Ref.dec : List C → Option Ref
  | [c0, c1] => (decS c0).bind fun a0 => (decS c1).bind fun a1 => some (Ref.mk a0 a1)
  | _ => none
theorem Ref.dec_row (x : Ref) : Ref.dec (Ref.row x) = some x := by
  simp only [Ref.row, Ref.dec, decI_val, decB_val, decS_val, decL_sl, Option.bind_some]
theorem Ref.dec_le : ∀ (r : List C) (x : Ref), Ref.dec r = some x → LeL r (Ref.row x) := by
  intro r x h
  unfold Ref.dec at h
  split at h
  · simp only [Option.bind_eq_some_iff, Option.some.injEq] at h
    obtain ⟨a0, h0, a1, h1, rfl⟩ := h
    exact LeL.cons (decS_le h0) (LeL.cons (decS_le h1) (LeL.nil))
  · cases h
theorem Ref.row_ok : RowOk Ref.row := ⟨fun _ => rfl, fun _ => rfl, fun _ => rfl⟩
instance : RowI Ref.row := ⟨Ref.row_ok⟩
instance (cs : List C) (x : Ref) [h : LeIL cs [.val (.string x.Type_), .val (.string x.Key)]] : LeIL cs (Ref.row x) := ⟨h.h⟩
theorem Ref.row_pure : ∀ x, ∀ c ∈ Ref.row x, PureC c := fun x => pure_cons (PureC.val _) (pure_cons (PureC.val _) (pure_nil))
instance : PureRI Ref.row := ⟨Ref.row_pure⟩
def Ref.decA : C → Option Ref
  | .agg cs => Ref.dec cs
  | _ => none
theorem Ref.decA_le {c : C} {x : Ref} (h : Ref.decA c = some x) : Le c (.agg (Ref.row x)) := by
  unfold Ref.decA at h
  split at h
  · exact Le.agg (Ref.dec_le _ _ h)
  · cases h
structure Lock where
  Actor : Ref
  Owner : Int
  Waiters : (List Int)
  deriving Inhabited
theorem Lock.eta (x : Lock) : Lock.mk x.Actor x.Owner x.Waiters = x := rfl
def Lock.row (x : Lock) : List C := [.val (.string x.Actor.Type_), .val (.string x.Actor.Key), .val (.int .i64 x.Owner), .sl false none 1 none (x.Waiters.map (rowI .i64))]
def Lock.dec : List C → Option Lock
  | [c0, c1, c2, c3] => (decS c0).bind fun a0 => (decS c1).bind fun a1 => ((decI .i64) c2).bind fun a2 => ((decL 1 (dec1 (decI .i64))) c3).bind fun a3 => some (Lock.mk (Ref.mk a0 a1) a2 a3)
  | _ => none
theorem Lock.dec_row (x : Lock) : Lock.dec (Lock.row x) = some x := by
  simp only [Lock.row, Lock.dec, decI_val, decB_val, decS_val, decL_sl, Option.bind_some, decRows_map (dec1_rowI .i64)]
theorem Lock.dec_le : ∀ (r : List C) (x : Lock), Lock.dec r = some x → LeL r (Lock.row x) := by
  intro r x h
  unfold Lock.dec at h
  split at h
  · simp only [Option.bind_eq_some_iff, Option.some.injEq] at h
    obtain ⟨a0, h0, a1, h1, a2, h2, a3, h3, rfl⟩ := h
    exact LeL.cons (decS_le h0) (LeL.cons (decS_le h1) (LeL.cons (decI_le h2) (LeL.cons (decL_le (decI1_le .i64) h3) (LeL.nil))))
  · cases h
theorem Lock.row_ok : RowOk Lock.row := ⟨fun _ => rfl, fun _ => rfl, fun _ => rfl⟩
instance : RowI Lock.row := ⟨Lock.row_ok⟩
instance (cs : List C) (x : Lock) [h : LeIL cs [.val (.string x.Actor.Type_), .val (.string x.Actor.Key), .val (.int .i64 x.Owner), .sl false none 1 none (x.Waiters.map (rowI .i64))]] : LeIL cs (Lock.row x) := ⟨h.h⟩
def Lock.rowD (x : Lock) : List C := [.val (.string x.Actor.Type_), .val (.string x.Actor.Key), .val (.int .i64 x.Owner), .sl true none 1 none (x.Waiters.map (rowI .i64))]
instance : LeRF Lock.rowD Lock.row := ⟨fun x => LeL.cons (Le.refl _) (LeL.cons (Le.refl _) (LeL.cons (Le.refl _) (LeL.cons (Le.sl (LeLL.refl _)) (LeL.nil))))⟩
def Lock.decA : C → Option Lock
  | .agg cs => Lock.dec cs
  | _ => none
theorem Lock.decA_le {c : C} {x : Lock} (h : Lock.decA c = some x) : Le c (.agg (Lock.row x)) := by
  unfold Lock.decA at h
  split at h
  · exact Le.agg (Lock.dec_le _ _ h)
  · cases h
structure LockGrant where
  Actor : Ref
  Txn : Int
  deriving Inhabited
theorem LockGrant.eta (x : LockGrant) : LockGrant.mk x.Actor x.Txn = x := rfl
def LockGrant.row (x : LockGrant) : List C := [.val (.string x.Actor.Type_), .val (.string x.Actor.Key), .val (.int .i64 x.Txn)]
def LockGrant.dec : List C → Option LockGrant
  | [c0, c1, c2] => (decS c0).bind fun a0 => (decS c1).bind fun a1 => ((decI .i64) c2).bind fun a2 => some (LockGrant.mk (Ref.mk a0 a1) a2)
  | _ => none
theorem LockGrant.dec_row (x : LockGrant) : LockGrant.dec (LockGrant.row x) = some x := by
  simp only [LockGrant.row, LockGrant.dec, decI_val, decB_val, decS_val, decL_sl, Option.bind_some]
theorem LockGrant.dec_le : ∀ (r : List C) (x : LockGrant), LockGrant.dec r = some x → LeL r (LockGrant.row x) := by
  intro r x h
  unfold LockGrant.dec at h
  split at h
  · simp only [Option.bind_eq_some_iff, Option.some.injEq] at h
    obtain ⟨a0, h0, a1, h1, a2, h2, rfl⟩ := h
    exact LeL.cons (decS_le h0) (LeL.cons (decS_le h1) (LeL.cons (decI_le h2) (LeL.nil)))
  · cases h
theorem LockGrant.row_ok : RowOk LockGrant.row := ⟨fun _ => rfl, fun _ => rfl, fun _ => rfl⟩
instance : RowI LockGrant.row := ⟨LockGrant.row_ok⟩
instance (cs : List C) (x : LockGrant) [h : LeIL cs [.val (.string x.Actor.Type_), .val (.string x.Actor.Key), .val (.int .i64 x.Txn)]] : LeIL cs (LockGrant.row x) := ⟨h.h⟩
theorem LockGrant.row_pure : ∀ x, ∀ c ∈ LockGrant.row x, PureC c := fun x => pure_cons (PureC.val _) (pure_cons (PureC.val _) (pure_cons (PureC.val _) (pure_nil)))
instance : PureRI LockGrant.row := ⟨LockGrant.row_pure⟩
def LockGrant.decA : C → Option LockGrant
  | .agg cs => LockGrant.dec cs
  | _ => none
theorem LockGrant.decA_le {c : C} {x : LockGrant} (h : LockGrant.decA c = some x) : Le c (.agg (LockGrant.row x)) := by
  unfold LockGrant.decA at h
  split at h
  · exact Le.agg (LockGrant.dec_le _ _ h)
  · cases h
structure Arr2_i64 where
  e0 : Int
  e1 : Int
  deriving Inhabited
theorem Arr2_i64.eta (x : Arr2_i64) : Arr2_i64.mk x.e0 x.e1 = x := rfl
def Arr2_i64.row (x : Arr2_i64) : List C := [.val (.int .i64 x.e0), .val (.int .i64 x.e1)]
def Arr2_i64.dec : List C → Option Arr2_i64
  | [c0, c1] => ((decI .i64) c0).bind fun a0 => ((decI .i64) c1).bind fun a1 => some (Arr2_i64.mk a0 a1)
  | _ => none
theorem Arr2_i64.dec_row (x : Arr2_i64) : Arr2_i64.dec (Arr2_i64.row x) = some x := by
  simp only [Arr2_i64.row, Arr2_i64.dec, decI_val, decB_val, decS_val, decL_sl, Option.bind_some]
theorem Arr2_i64.dec_le : ∀ (r : List C) (x : Arr2_i64), Arr2_i64.dec r = some x → LeL r (Arr2_i64.row x) := by
  intro r x h
  unfold Arr2_i64.dec at h
  split at h
  · simp only [Option.bind_eq_some_iff, Option.some.injEq] at h
    obtain ⟨a0, h0, a1, h1, rfl⟩ := h
    exact LeL.cons (decI_le h0) (LeL.cons (decI_le h1) (LeL.nil))
  · cases h
theorem Arr2_i64.row_ok : RowOk Arr2_i64.row := ⟨fun _ => rfl, fun _ => rfl, fun _ => rfl⟩
instance : RowI Arr2_i64.row := ⟨Arr2_i64.row_ok⟩
instance (cs : List C) (x : Arr2_i64) [h : LeIL cs [.val (.int .i64 x.e0), .val (.int .i64 x.e1)]] : LeIL cs (Arr2_i64.row x) := ⟨h.h⟩
theorem Arr2_i64.row_pure : ∀ x, ∀ c ∈ Arr2_i64.row x, PureC c := fun x => pure_cons (PureC.val _) (pure_cons (PureC.val _) (pure_nil))
instance : PureRI Arr2_i64.row := ⟨Arr2_i64.row_pure⟩
def Arr2_i64.decA : C → Option Arr2_i64
  | .agg cs => Arr2_i64.dec cs
  | _ => none
theorem Arr2_i64.decA_le {c : C} {x : Arr2_i64} (h : Arr2_i64.decA c = some x) : Le c (.agg (Arr2_i64.row x)) := by
  unfold Arr2_i64.decA at h
  split at h
  · exact Le.agg (Arr2_i64.dec_le _ _ h)
  · cases h
end Go.Proofs.Ythafflhaoplpjaa
