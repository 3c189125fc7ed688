/- The types. No statement. -/
import Derived.Test.YtekgpnhfhkhpaaaAbsG
/- The types of the program as Lean structures. -/
set_option maxHeartbeats 40000000
set_option synthInstance.maxHeartbeats 2000000
set_option synthInstance.maxSize 4000
set_option linter.unusedSimpArgs false
set_option linter.unusedVariables false
set_option maxRecDepth 100000
namespace Go.Proofs.Ytekgpnhfhkhpaaa
open Go Go.Proofs Go.Abs
structure actorgridlaw33_Act where
 Kind : Int
 Txn : Int
 Actor : Int
 deriving Inhabited
theorem actorgridlaw33_Act.eta (x : actorgridlaw33_Act) : actorgridlaw33_Act.mk x.Kind x.Txn x.Actor = x := rfl
def actorgridlaw33_Act.row (x : actorgridlaw33_Act) : List C := [.val (.int .u8 x.Kind), .val (.int .u8 x.Txn), .val (.int .u8 x.Actor)]
def actorgridlaw33_Act.dec : List C → Option actorgridlaw33_Act
 | [c0, c1, c2] => ((decI .u8) c0).bind fun a0 => ((decI .u8) c1).bind fun a1 => ((decI .u8) c2).bind fun a2 => some (actorgridlaw33_Act.mk a0 a1 a2)
 | _ => none
theorem actorgridlaw33_Act.dec_row (x : actorgridlaw33_Act) : actorgridlaw33_Act.dec (actorgridlaw33_Act.row x) = some x := by
 simp only [actorgridlaw33_Act.row, actorgridlaw33_Act.dec, decI_val, decB_val, decS_val, decL_sl, Option.bind_some]
theorem actorgridlaw33_Act.dec_le : ∀ (r : List C) (x : actorgridlaw33_Act), actorgridlaw33_Act.dec r = some x → LeL r (actorgridlaw33_Act.row x) := by
 intro r x h
 unfold actorgridlaw33_Act.dec at h
 split at h
 ·simp only [Option.bind_eq_some_iff, Option.some.injEq] at h
  obtain ⟨a0, h0, a1, h1, a2, h2, rfl⟩ := h
  exact LeL.cons (decI_le h0) (LeL.cons (decI_le h1) (LeL.cons (decI_le h2) (LeL.nil)))
 ·cases h
theorem actorgridlaw33_Act.row_ok : RowOk actorgridlaw33_Act.row := ⟨fun _ => rfl, fun _ => rfl, fun _ => rfl⟩
instance : RowI actorgridlaw33_Act.row := ⟨actorgridlaw33_Act.row_ok⟩
instance (cs : List C) (x : actorgridlaw33_Act) [h : LeIL cs [.val (.int .u8 x.Kind), .val (.int .u8 x.Txn), .val (.int .u8 x.Actor)]] : LeIL cs (actorgridlaw33_Act.row x) := ⟨h.h⟩
theorem actorgridlaw33_Act.row_pure : ∀ x, ∀ c ∈ actorgridlaw33_Act.row x, PureC c := fun x => pure_cons (PureC.val _) (pure_cons (PureC.val _) (pure_cons (PureC.val _) (pure_nil)))
theorem actorgridlaw33_Act.dec_eq : ∀ (r : List C) (x : actorgridlaw33_Act), actorgridlaw33_Act.dec r = some x → r = actorgridlaw33_Act.row x := by
 intro r x h
 unfold actorgridlaw33_Act.dec at h
 split at h
 ·simp only [Option.bind_eq_some_iff, Option.some.injEq] at h
  obtain ⟨a0, h0, a1, h1, a2, h2, rfl⟩ := h
  rw [decI_eq h0, decI_eq h1, decI_eq h2]; rfl
 ·cases h
instance : PureRI actorgridlaw33_Act.row := ⟨actorgridlaw33_Act.row_pure⟩
def actorgridlaw33_Act.decA : C → Option actorgridlaw33_Act
 | .agg cs => actorgridlaw33_Act.dec cs
 | _ => none
theorem actorgridlaw33_Act.decA_le {c : C} {x : actorgridlaw33_Act} (h : actorgridlaw33_Act.decA c = some x) : Le c (.agg (actorgridlaw33_Act.row x)) := by
 unfold actorgridlaw33_Act.decA at h
 split at h
 ·exact Le.agg (actorgridlaw33_Act.dec_le _ _ h)
 ·cases h
structure Arr2_i64 where
 e0 : Int
 e1 : Int
 deriving Inhabited
theorem Arr2_i64.eta (x : Arr2_i64) : Arr2_i64.mk x.e0 x.e1 = x := rfl
def Arr2_i64.row (x : Arr2_i64) : List C := [.val (.int .i64 x.e0), .val (.int .i64 x.e1)]
def Arr2_i64.dec : List C → Option Arr2_i64
 | [c0, c1] => ((decI .i64) c0).bind fun a0 => ((decI .i64) c1).bind fun a1 => some (Arr2_i64.mk a0 a1)
 | _ => none
theorem Arr2_i64.dec_row (x : Arr2_i64) : Arr2_i64.dec (Arr2_i64.row x) = some x := by
 simp only [Arr2_i64.row, Arr2_i64.dec, decI_val, decB_val, decS_val, decL_sl, Option.bind_some]
theorem Arr2_i64.dec_le : ∀ (r : List C) (x : Arr2_i64), Arr2_i64.dec r = some x → LeL r (Arr2_i64.row x) := by
 intro r x h
 unfold Arr2_i64.dec at h
 split at h
 ·simp only [Option.bind_eq_some_iff, Option.some.injEq] at h
  obtain ⟨a0, h0, a1, h1, rfl⟩ := h
  exact LeL.cons (decI_le h0) (LeL.cons (decI_le h1) (LeL.nil))
 ·cases h
theorem Arr2_i64.row_ok : RowOk Arr2_i64.row := ⟨fun _ => rfl, fun _ => rfl, fun _ => rfl⟩
instance : RowI Arr2_i64.row := ⟨Arr2_i64.row_ok⟩
instance (cs : List C) (x : Arr2_i64) [h : LeIL cs [.val (.int .i64 x.e0), .val (.int .i64 x.e1)]] : LeIL cs (Arr2_i64.row x) := ⟨h.h⟩
theorem Arr2_i64.row_pure : ∀ x, ∀ c ∈ Arr2_i64.row x, PureC c := fun x => pure_cons (PureC.val _) (pure_cons (PureC.val _) (pure_nil))
theorem Arr2_i64.dec_eq : ∀ (r : List C) (x : Arr2_i64), Arr2_i64.dec r = some x → r = Arr2_i64.row x := by
 intro r x h
 unfold Arr2_i64.dec at h
 split at h
 ·simp only [Option.bind_eq_some_iff, Option.some.injEq] at h
  obtain ⟨a0, h0, a1, h1, rfl⟩ := h
  rw [decI_eq h0, decI_eq h1]; rfl
 ·cases h
instance : PureRI Arr2_i64.row := ⟨Arr2_i64.row_pure⟩
def Arr2_i64.decA : C → Option Arr2_i64
 | .agg cs => Arr2_i64.dec cs
 | _ => none
theorem Arr2_i64.decA_le {c : C} {x : Arr2_i64} (h : Arr2_i64.decA c = some x) : Le c (.agg (Arr2_i64.row x)) := by
 unfold Arr2_i64.decA at h
 split at h
 ·exact Le.agg (Arr2_i64.dec_le _ _ h)
 ·cases h
structure TxnEvent where
 Kind : Int
 Txn : Int
 Actor : Int
 deriving Inhabited
theorem TxnEvent.eta (x : TxnEvent) : TxnEvent.mk x.Kind x.Txn x.Actor = x := rfl
def TxnEvent.row (x : TxnEvent) : List C := [.val (.int .i64 x.Kind), .val (.int .i64 x.Txn), .val (.int .i64 x.Actor)]
def TxnEvent.dec : List C → Option TxnEvent
 | [c0, c1, c2] => ((decI .i64) c0).bind fun a0 => ((decI .i64) c1).bind fun a1 => ((decI .i64) c2).bind fun a2 => some (TxnEvent.mk a0 a1 a2)
 | _ => none
theorem TxnEvent.dec_row (x : TxnEvent) : TxnEvent.dec (TxnEvent.row x) = some x := by
 simp only [TxnEvent.row, TxnEvent.dec, decI_val, decB_val, decS_val, decL_sl, Option.bind_some]
theorem TxnEvent.dec_le : ∀ (r : List C) (x : TxnEvent), TxnEvent.dec r = some x → LeL r (TxnEvent.row x) := by
 intro r x h
 unfold TxnEvent.dec at h
 split at h
 ·simp only [Option.bind_eq_some_iff, Option.some.injEq] at h
  obtain ⟨a0, h0, a1, h1, a2, h2, rfl⟩ := h
  exact LeL.cons (decI_le h0) (LeL.cons (decI_le h1) (LeL.cons (decI_le h2) (LeL.nil)))
 ·cases h
theorem TxnEvent.row_ok : RowOk TxnEvent.row := ⟨fun _ => rfl, fun _ => rfl, fun _ => rfl⟩
instance : RowI TxnEvent.row := ⟨TxnEvent.row_ok⟩
instance (cs : List C) (x : TxnEvent) [h : LeIL cs [.val (.int .i64 x.Kind), .val (.int .i64 x.Txn), .val (.int .i64 x.Actor)]] : LeIL cs (TxnEvent.row x) := ⟨h.h⟩
theorem TxnEvent.row_pure : ∀ x, ∀ c ∈ TxnEvent.row x, PureC c := fun x => pure_cons (PureC.val _) (pure_cons (PureC.val _) (pure_cons (PureC.val _) (pure_nil)))
theorem TxnEvent.dec_eq : ∀ (r : List C) (x : TxnEvent), TxnEvent.dec r = some x → r = TxnEvent.row x := by
 intro r x h
 unfold TxnEvent.dec at h
 split at h
 ·simp only [Option.bind_eq_some_iff, Option.some.injEq] at h
  obtain ⟨a0, h0, a1, h1, a2, h2, rfl⟩ := h
  rw [decI_eq h0, decI_eq h1, decI_eq h2]; rfl
 ·cases h
instance : PureRI TxnEvent.row := ⟨TxnEvent.row_pure⟩
def TxnEvent.decA : C → Option TxnEvent
 | .agg cs => TxnEvent.dec cs
 | _ => none
theorem TxnEvent.decA_le {c : C} {x : TxnEvent} (h : TxnEvent.decA c = some x) : Le c (.agg (TxnEvent.row x)) := by
 unfold TxnEvent.decA at h
 split at h
 ·exact Le.agg (TxnEvent.dec_le _ _ h)
 ·cases h
structure cascade_stack where
 actor : Int
 txns : (List Int)
 deriving Inhabited
theorem cascade_stack.eta (x : cascade_stack) : cascade_stack.mk x.actor x.txns = x := rfl
def cascade_stack.row (x : cascade_stack) : List C := [.val (.int .i64 x.actor), .sl false none 1 none (x.txns.map (rowI .i64))]
def cascade_stack.dec : List C → Option cascade_stack
 | [c0, c1] => ((decI .i64) c0).bind fun a0 => ((decL 1 (dec1 (decI .i64))) c1).bind fun a1 => some (cascade_stack.mk a0 a1)
 | _ => none
theorem cascade_stack.dec_row (x : cascade_stack) : cascade_stack.dec (cascade_stack.row x) = some x := by
 simp only [cascade_stack.row, cascade_stack.dec, decI_val, decB_val, decS_val, decL_sl, Option.bind_some, decRows_map (dec1_rowI .i64)]
theorem cascade_stack.dec_le : ∀ (r : List C) (x : cascade_stack), cascade_stack.dec r = some x → LeL r (cascade_stack.row x) := by
 intro r x h
 unfold cascade_stack.dec at h
 split at h
 ·simp only [Option.bind_eq_some_iff, Option.some.injEq] at h
  obtain ⟨a0, h0, a1, h1, rfl⟩ := h
  exact LeL.cons (decI_le h0) (LeL.cons (decL_le (decI1_le .i64) h1) (LeL.nil))
 ·cases h
theorem cascade_stack.row_ok : RowOk cascade_stack.row := ⟨fun _ => rfl, fun _ => rfl, fun _ => rfl⟩
instance : RowI cascade_stack.row := ⟨cascade_stack.row_ok⟩
instance (cs : List C) (x : cascade_stack) [h : LeIL cs [.val (.int .i64 x.actor), .sl false none 1 none (x.txns.map (rowI .i64))]] : LeIL cs (cascade_stack.row x) := ⟨h.h⟩
def cascade_stack.rowD (x : cascade_stack) : List C := [.val (.int .i64 x.actor), .sl true none 1 none (x.txns.map (rowI .i64))]
instance : LeRF cascade_stack.rowD cascade_stack.row := ⟨fun x => LeL.cons (Le.refl _) (LeL.cons (Le.sl (LeLL.refl _)) (LeL.nil))⟩
theorem cascade_stack.dec_rowD (x : cascade_stack) : cascade_stack.dec (cascade_stack.rowD x) = some x := by
 simp only [cascade_stack.rowD, cascade_stack.dec, decI_val, decB_val, decS_val, decL_sl, Option.bind_some, decRows_map (dec1_rowI .i64)]
def cascade_stack.decE : List C → Option cascade_stack
 | [c0, c1] => ((decI .i64) c0).bind fun a0 => ((exL 1 (dec1 (decI .i64))) c1).bind fun a1 => some (cascade_stack.mk a0 a1)
 | _ => none
theorem cascade_stack.decE_rowD (x : cascade_stack) : cascade_stack.decE (cascade_stack.rowD x) = some x := by
 simp only [cascade_stack.rowD, cascade_stack.decE, decI_val, decB_val, decS_val, exL_sl, Option.bind_some, decRows_map (dec1_rowI .i64)]
theorem cascade_stack.decE_eq : ∀ (r : List C) (x : cascade_stack), cascade_stack.decE r = some x → r = cascade_stack.rowD x := by
 intro r x h
 unfold cascade_stack.decE at h
 split at h
 ·simp only [Option.bind_eq_some_iff, Option.some.injEq] at h
  obtain ⟨a0, h0, a1, h1, rfl⟩ := h
  rw [decI_eq h0, exL_eq (dec1_eq (fun _ _ h => decI_eq h)) h1]; rfl
 ·cases h
instance : PureRI cascade_stack.rowD := ⟨fun x => pure_cons (PureC.val _) (pure_cons (PureC.sl (pure_rows PureRI.h _)) (pure_nil))⟩
instance (x : cascade_stack) : PureIL (cascade_stack.rowD x) := ⟨PureRI.h x⟩
def cascade_stack.decA : C → Option cascade_stack
 | .agg cs => cascade_stack.dec cs
 | _ => none
theorem cascade_stack.decA_le {c : C} {x : cascade_stack} (h : cascade_stack.decA c = some x) : Le c (.agg (cascade_stack.row x)) := by
 unfold cascade_stack.decA at h
 split at h
 ·exact Le.agg (cascade_stack.dec_le _ _ h)
 ·cases h
structure cascade_state where
 stacks : (List cascade_stack)
 prepared : (List Arr2_i64)
 known : (List Int)
 committed : (List Int)
 aborted : (List Int)
 deps : (List Arr2_i64)
 deriving Inhabited
theorem cascade_state.eta (x : cascade_state) : cascade_state.mk x.stacks x.prepared x.known x.committed x.aborted x.deps = x := rfl
def cascade_state.row (x : cascade_state) : List C := [.sl false none 2 none (x.stacks.map cascade_stack.row), .sl false none 2 none (x.prepared.map Arr2_i64.row), .sl false none 1 none (x.known.map (rowI .i64)), .sl false none 1 none (x.committed.map (rowI .i64)), .sl false none 1 none (x.aborted.map (rowI .i64)), .sl false none 2 none (x.deps.map Arr2_i64.row)]
def cascade_state.dec : List C → Option cascade_state
 | [c0, c1, c2, c3, c4, c5] => ((decL 2 cascade_stack.dec) c0).bind fun a0 => ((decL 2 Arr2_i64.dec) c1).bind fun a1 => ((decL 1 (dec1 (decI .i64))) c2).bind fun a2 => ((decL 1 (dec1 (decI .i64))) c3).bind fun a3 => ((decL 1 (dec1 (decI .i64))) c4).bind fun a4 => ((decL 2 Arr2_i64.dec) c5).bind fun a5 => some (cascade_state.mk a0 a1 a2 a3 a4 a5)
 | _ => none
theorem cascade_state.dec_row (x : cascade_state) : cascade_state.dec (cascade_state.row x) = some x := by
 simp only [cascade_state.row, cascade_state.dec, decI_val, decB_val, decS_val, decL_sl, Option.bind_some, decRows_map (dec1_rowI .i64), decRows_map Arr2_i64.dec_row, decRows_map cascade_stack.dec_row]
theorem cascade_state.dec_le : ∀ (r : List C) (x : cascade_state), cascade_state.dec r = some x → LeL r (cascade_state.row x) := by
 intro r x h
 unfold cascade_state.dec at h
 split at h
 ·simp only [Option.bind_eq_some_iff, Option.some.injEq] at h
  obtain ⟨a0, h0, a1, h1, a2, h2, a3, h3, a4, h4, a5, h5, rfl⟩ := h
  exact LeL.cons (decL_le cascade_stack.dec_le h0) (LeL.cons (decL_le Arr2_i64.dec_le h1) (LeL.cons (decL_le (decI1_le .i64) h2) (LeL.cons (decL_le (decI1_le .i64) h3) (LeL.cons (decL_le (decI1_le .i64) h4) (LeL.cons (decL_le Arr2_i64.dec_le h5) (LeL.nil))))))
 ·cases h
theorem cascade_state.row_ok : RowOk cascade_state.row := ⟨fun _ => rfl, fun _ => rfl, fun _ => rfl⟩
instance : RowI cascade_state.row := ⟨cascade_state.row_ok⟩
instance (cs : List C) (x : cascade_state) [h : LeIL cs [.sl false none 2 none (x.stacks.map cascade_stack.row), .sl false none 2 none (x.prepared.map Arr2_i64.row), .sl false none 1 none (x.known.map (rowI .i64)), .sl false none 1 none (x.committed.map (rowI .i64)), .sl false none 1 none (x.aborted.map (rowI .i64)), .sl false none 2 none (x.deps.map Arr2_i64.row)]] : LeIL cs (cascade_state.row x) := ⟨h.h⟩
def cascade_state.rowD (x : cascade_state) : List C := [.sl true none 2 none (x.stacks.map cascade_stack.rowD), .sl true none 2 none (x.prepared.map Arr2_i64.row), .sl true none 1 none (x.known.map (rowI .i64)), .sl true none 1 none (x.committed.map (rowI .i64)), .sl true none 1 none (x.aborted.map (rowI .i64)), .sl true none 2 none (x.deps.map Arr2_i64.row)]
instance : LeRF cascade_state.rowD cascade_state.row := ⟨fun x => LeL.cons (Le.sl (LeLL.map LeRF.h _)) (LeL.cons (Le.sl (LeLL.refl _)) (LeL.cons (Le.sl (LeLL.refl _)) (LeL.cons (Le.sl (LeLL.refl _)) (LeL.cons (Le.sl (LeLL.refl _)) (LeL.cons (Le.sl (LeLL.refl _)) (LeL.nil))))))⟩
theorem cascade_state.dec_rowD (x : cascade_state) : cascade_state.dec (cascade_state.rowD x) = some x := by
 simp only [cascade_state.rowD, cascade_state.dec, decI_val, decB_val, decS_val, decL_sl, Option.bind_some, decRows_map (dec1_rowI .i64), decRows_map Arr2_i64.dec_row, decRows_map cascade_stack.dec_rowD]
def cascade_state.decE : List C → Option cascade_state
 | [c0, c1, c2, c3, c4, c5] => ((exL 2 cascade_stack.decE) c0).bind fun a0 => ((exL 2 Arr2_i64.dec) c1).bind fun a1 => ((exL 1 (dec1 (decI .i64))) c2).bind fun a2 => ((exL 1 (dec1 (decI .i64))) c3).bind fun a3 => ((exL 1 (dec1 (decI .i64))) c4).bind fun a4 => ((exL 2 Arr2_i64.dec) c5).bind fun a5 => some (cascade_state.mk a0 a1 a2 a3 a4 a5)
 | _ => none
theorem cascade_state.decE_rowD (x : cascade_state) : cascade_state.decE (cascade_state.rowD x) = some x := by
 simp only [cascade_state.rowD, cascade_state.decE, decI_val, decB_val, decS_val, exL_sl, Option.bind_some, decRows_map (dec1_rowI .i64), decRows_map Arr2_i64.dec_row, decRows_map cascade_stack.decE_rowD]
theorem cascade_state.decE_eq : ∀ (r : List C) (x : cascade_state), cascade_state.decE r = some x → r = cascade_state.rowD x := by
 intro r x h
 unfold cascade_state.decE at h
 split at h
 ·simp only [Option.bind_eq_some_iff, Option.some.injEq] at h
  obtain ⟨a0, h0, a1, h1, a2, h2, a3, h3, a4, h4, a5, h5, rfl⟩ := h
  rw [exL_eq cascade_stack.decE_eq h0, exL_eq Arr2_i64.dec_eq h1, exL_eq (dec1_eq (fun _ _ h => decI_eq h)) h2, exL_eq (dec1_eq (fun _ _ h => decI_eq h)) h3, exL_eq (dec1_eq (fun _ _ h => decI_eq h)) h4, exL_eq Arr2_i64.dec_eq h5]; rfl
 ·cases h
instance : PureRI cascade_state.rowD := ⟨fun x => pure_cons (PureC.sl (pure_rows PureRI.h _)) (pure_cons (PureC.sl (pure_rows PureRI.h _)) (pure_cons (PureC.sl (pure_rows PureRI.h _)) (pure_cons (PureC.sl (pure_rows PureRI.h _)) (pure_cons (PureC.sl (pure_rows PureRI.h _)) (pure_cons (PureC.sl (pure_rows PureRI.h _)) (pure_nil))))))⟩
instance (x : cascade_state) : PureIL (cascade_state.rowD x) := ⟨PureRI.h x⟩
def cascade_state.decA : C → Option cascade_state
 | .agg cs => cascade_state.dec cs
 | _ => none
theorem cascade_state.decA_le {c : C} {x : cascade_state} (h : cascade_state.decA c = some x) : Le c (.agg (cascade_state.row x)) := by
 unfold cascade_state.decA at h
 split at h
 ·exact Le.agg (cascade_state.dec_le _ _ h)
 ·cases h
end Go.Proofs.Ytekgpnhfhkhpaaa
