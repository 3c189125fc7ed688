/- The types. No statement. -/
import Derived.Test.YtmgpaicldmgckaaAbsD
/- The types of the program as Lean structures. -/
set_option maxHeartbeats 40000000
set_option synthInstance.maxHeartbeats 2000000
set_option synthInstance.maxSize 4000
set_option linter.unusedSimpArgs false
set_option linter.unusedVariables false
set_option maxRecDepth 100000
namespace Go.Proofs.Ytmgpaicldmgckaa
open Go Go.Proofs Go.Abs
structure Ref where
  Type_ : ByteArray
  Key : ByteArray
  deriving Inhabited
theorem Ref.eta (x : Ref) : Ref.mk x.Type_ x.Key = x := rfl
def Ref.row (x : Ref) : List C := [.val (.string x.Type_), .val (.string x.Key)]
def Ref.dec : List C → Option Ref
  | [c0, c1] => (decS c0).bind fun a0 => (decS c1).bind fun a1 => some (Ref.mk a0 a1)
  | _ => none
theorem Ref.dec_row (x : Ref) : Ref.dec (Ref.row x) = some x := by
  simp only [Ref.row, Ref.dec, decI_val, decB_val, decS_val, decL_sl, Option.bind_some]
theorem Ref.dec_le : ∀ (r : List C) (x : Ref), Ref.dec r = some x → LeL r (Ref.row x) := by
  intro r x h
  unfold Ref.dec at h
  split at h
  · simp only [Option.bind_eq_some_iff, Option.some.injEq] at h
    obtain ⟨a0, h0, a1, h1, rfl⟩ := h
    exact LeL.cons (decS_le h0) (LeL.cons (decS_le h1) (LeL.nil))
  · cases h
theorem Ref.row_ok : RowOk Ref.row := ⟨fun _ => rfl, fun _ => rfl, fun _ => rfl⟩
instance : RowI Ref.row := ⟨Ref.row_ok⟩
theorem Ref.row_pure : ∀ x, ∀ c ∈ Ref.row x, PureC c := fun x => pure_cons (PureC.val _) (pure_cons (PureC.val _) (pure_nil))
instance : PureRI Ref.row := ⟨Ref.row_pure⟩
def Ref.decA : C → Option Ref
  | .agg cs => Ref.dec cs
  | _ => none
theorem Ref.decA_le {c : C} {x : Ref} (h : Ref.decA c = some x) : Le c (.agg (Ref.row x)) := by
  unfold Ref.decA at h
  split at h
  · exact Le.agg (Ref.dec_le _ _ h)
  · cases h
structure Value where
  Kind : Int
  N : Int
  S : ByteArray
  I : (List Int)
  L : (List ByteArray)
  deriving Inhabited
theorem Value.eta (x : Value) : Value.mk x.Kind x.N x.S x.I x.L = x := rfl
def Value.row (x : Value) : List C := [.val (.int .i64 x.Kind), .val (.int .i64 x.N), .val (.string x.S), .sl false none 1 none (x.I.map (rowI .i64)), .sl false none 1 none (x.L.map rowS)]
def Value.dec : List C → Option Value
  | [c0, c1, c2, c3, c4] => ((decI .i64) c0).bind fun a0 => ((decI .i64) c1).bind fun a1 => (decS c2).bind fun a2 => ((decL 1 (dec1 (decI .i64))) c3).bind fun a3 => ((decL 1 (dec1 decS)) c4).bind fun a4 => some (Value.mk a0 a1 a2 a3 a4)
  | _ => none
theorem Value.dec_row (x : Value) : Value.dec (Value.row x) = some x := by
  simp only [Value.row, Value.dec, decI_val, decB_val, decS_val, decL_sl, Option.bind_some, decRows_map (dec1_rowI .i64), decRows_map dec1_rowS]
theorem Value.dec_le : ∀ (r : List C) (x : Value), Value.dec r = some x → LeL r (Value.row x) := by
  intro r x h
  unfold Value.dec at h
  split at h
  · simp only [Option.bind_eq_some_iff, Option.some.injEq] at h
    obtain ⟨a0, h0, a1, h1, a2, h2, a3, h3, a4, h4, rfl⟩ := h
    exact LeL.cons (decI_le h0) (LeL.cons (decI_le h1) (LeL.cons (decS_le h2) (LeL.cons (decL_le (decI1_le .i64) h3) (LeL.cons (decL_le decS1_le h4) (LeL.nil)))))
  · cases h
theorem Value.row_ok : RowOk Value.row := ⟨fun _ => rfl, fun _ => rfl, fun _ => rfl⟩
instance : RowI Value.row := ⟨Value.row_ok⟩
def Value.decA : C → Option Value
  | .agg cs => Value.dec cs
  | _ => none
theorem Value.decA_le {c : C} {x : Value} (h : Value.decA c = some x) : Le c (.agg (Value.row x)) := by
  unfold Value.decA at h
  split at h
  · exact Le.agg (Value.dec_le _ _ h)
  · cases h
structure Request where
  Client : ByteArray
  Seq : Int
  Path : (List Int)
  Target : Ref
  Method : ByteArray
  Args : (List Value)
  Chain : (List Ref)
  Txn : Int
  deriving Inhabited
theorem Request.eta (x : Request) : Request.mk x.Client x.Seq x.Path x.Target x.Method x.Args x.Chain x.Txn = x := rfl
def Request.row (x : Request) : List C := [.val (.string x.Client), .val (.int .i64 x.Seq), .sl false none 1 none (x.Path.map (rowI .i64)), .val (.string x.Target.Type_), .val (.string x.Target.Key), .val (.string x.Method), .sl false none 5 none (x.Args.map Value.row), .sl false none 2 none (x.Chain.map Ref.row), .val (.int .i64 x.Txn)]
def Request.dec : List C → Option Request
  | [c0, c1, c2, c3, c4, c5, c6, c7, c8] => (decS c0).bind fun a0 => ((decI .i64) c1).bind fun a1 => ((decL 1 (dec1 (decI .i64))) c2).bind fun a2 => (decS c3).bind fun a3 => (decS c4).bind fun a4 => (decS c5).bind fun a5 => ((decL 5 Value.dec) c6).bind fun a6 => ((decL 2 Ref.dec) c7).bind fun a7 => ((decI .i64) c8).bind fun a8 => some (Request.mk a0 a1 a2 (Ref.mk a3 a4) a5 a6 a7 a8)
  | _ => none
theorem Request.dec_row (x : Request) : Request.dec (Request.row x) = some x := by
  simp only [Request.row, Request.dec, decI_val, decB_val, decS_val, decL_sl, Option.bind_some, decRows_map (dec1_rowI .i64), decRows_map Ref.dec_row, decRows_map Value.dec_row]
theorem Request.dec_le : ∀ (r : List C) (x : Request), Request.dec r = some x → LeL r (Request.row x) := by
  intro r x h
  unfold Request.dec at h
  split at h
  · simp only [Option.bind_eq_some_iff, Option.some.injEq] at h
    obtain ⟨a0, h0, a1, h1, a2, h2, a3, h3, a4, h4, a5, h5, a6, h6, a7, h7, a8, h8, rfl⟩ := h
    exact LeL.cons (decS_le h0) (LeL.cons (decI_le h1) (LeL.cons (decL_le (decI1_le .i64) h2) (LeL.cons (decS_le h3) (LeL.cons (decS_le h4) (LeL.cons (decS_le h5) (LeL.cons (decL_le Value.dec_le h6) (LeL.cons (decL_le Ref.dec_le h7) (LeL.cons (decI_le h8) (LeL.nil)))))))))
  · cases h
theorem Request.row_ok : RowOk Request.row := ⟨fun _ => rfl, fun _ => rfl, fun _ => rfl⟩
instance : RowI Request.row := ⟨Request.row_ok⟩
def Request.decA : C → Option Request
  | .agg cs => Request.dec cs
  | _ => none
theorem Request.decA_le {c : C} {x : Request} (h : Request.decA c = some x) : Le c (.agg (Request.row x)) := by
  unfold Request.decA at h
  split at h
  · exact Le.agg (Request.dec_le _ _ h)
  · cases h
structure Reply where
  Client : ByteArray
  Seq : Int
  Path : (List Int)
  Err : Int
  Value_ : Value
  deriving Inhabited
theorem Reply.eta (x : Reply) : Reply.mk x.Client x.Seq x.Path x.Err x.Value_ = x := rfl
def Reply.row (x : Reply) : List C := [.val (.string x.Client), .val (.int .i64 x.Seq), .sl false none 1 none (x.Path.map (rowI .i64)), .val (.int .i64 x.Err), .val (.int .i64 x.Value_.Kind), .val (.int .i64 x.Value_.N), .val (.string x.Value_.S), .sl false none 1 none (x.Value_.I.map (rowI .i64)), .sl false none 1 none (x.Value_.L.map rowS)]
def Reply.dec : List C → Option Reply
  | [c0, c1, c2, c3, c4, c5, c6, c7, c8] => (decS c0).bind fun a0 => ((decI .i64) c1).bind fun a1 => ((decL 1 (dec1 (decI .i64))) c2).bind fun a2 => ((decI .i64) c3).bind fun a3 => ((decI .i64) c4).bind fun a4 => ((decI .i64) c5).bind fun a5 => (decS c6).bind fun a6 => ((decL 1 (dec1 (decI .i64))) c7).bind fun a7 => ((decL 1 (dec1 decS)) c8).bind fun a8 => some (Reply.mk a0 a1 a2 a3 (Value.mk a4 a5 a6 a7 a8))
  | _ => none
theorem Reply.dec_row (x : Reply) : Reply.dec (Reply.row x) = some x := by
  simp only [Reply.row, Reply.dec, decI_val, decB_val, decS_val, decL_sl, Option.bind_some, decRows_map (dec1_rowI .i64), decRows_map dec1_rowS]
theorem Reply.dec_le : ∀ (r : List C) (x : Reply), Reply.dec r = some x → LeL r (Reply.row x) := by
  intro r x h
  unfold Reply.dec at h
  split at h
  · simp only [Option.bind_eq_some_iff, Option.some.injEq] at h
    obtain ⟨a0, h0, a1, h1, a2, h2, a3, h3, a4, h4, a5, h5, a6, h6, a7, h7, a8, h8, rfl⟩ := h
    exact LeL.cons (decS_le h0) (LeL.cons (decI_le h1) (LeL.cons (decL_le (decI1_le .i64) h2) (LeL.cons (decI_le h3) (LeL.cons (decI_le h4) (LeL.cons (decI_le h5) (LeL.cons (decS_le h6) (LeL.cons (decL_le (decI1_le .i64) h7) (LeL.cons (decL_le decS1_le h8) (LeL.nil)))))))))
  · cases h
theorem Reply.row_ok : RowOk Reply.row := ⟨fun _ => rfl, fun _ => rfl, fun _ => rfl⟩
instance : RowI Reply.row := ⟨Reply.row_ok⟩
def Reply.decA : C → Option Reply
  | .agg cs => Reply.dec cs
  | _ => none
theorem Reply.decA_le {c : C} {x : Reply} (h : Reply.decA c = some x) : Le c (.agg (Reply.row x)) := by
  unfold Reply.decA at h
  split at h
  · exact Le.agg (Reply.dec_le _ _ h)
  · cases h
structure Turn where
  Request_ : Request
  Calls : Int
  Call : Request
  Started : Bool
  Done : Bool
  Reply_ : Reply
  deriving Inhabited
theorem Turn.eta (x : Turn) : Turn.mk x.Request_ x.Calls x.Call x.Started x.Done x.Reply_ = x := rfl
def Turn.row (x : Turn) : List C := [.val (.string x.Request_.Client), .val (.int .i64 x.Request_.Seq), .sl false none 1 none (x.Request_.Path.map (rowI .i64)), .val (.string x.Request_.Target.Type_), .val (.string x.Request_.Target.Key), .val (.string x.Request_.Method), .sl false none 5 none (x.Request_.Args.map Value.row), .sl false none 2 none (x.Request_.Chain.map Ref.row), .val (.int .i64 x.Request_.Txn), .val (.int .i64 x.Calls), .val (.string x.Call.Client), .val (.int .i64 x.Call.Seq), .sl false none 1 none (x.Call.Path.map (rowI .i64)), .val (.string x.Call.Target.Type_), .val (.string x.Call.Target.Key), .val (.string x.Call.Method), .sl false none 5 none (x.Call.Args.map Value.row), .sl false none 2 none (x.Call.Chain.map Ref.row), .val (.int .i64 x.Call.Txn), .val (.bool x.Started), .val (.bool x.Done), .val (.string x.Reply_.Client), .val (.int .i64 x.Reply_.Seq), .sl false none 1 none (x.Reply_.Path.map (rowI .i64)), .val (.int .i64 x.Reply_.Err), .val (.int .i64 x.Reply_.Value_.Kind), .val (.int .i64 x.Reply_.Value_.N), .val (.string x.Reply_.Value_.S), .sl false none 1 none (x.Reply_.Value_.I.map (rowI .i64)), .sl false none 1 none (x.Reply_.Value_.L.map rowS)]
def Turn.dec : List C → Option Turn
  | [c0, c1, c2, c3, c4, c5, c6, c7, c8, c9, c10, c11, c12, c13, c14, c15, c16, c17, c18, c19, c20, c21, c22, c23, c24, c25, c26, c27, c28, c29] => (decS c0).bind fun a0 => ((decI .i64) c1).bind fun a1 => ((decL 1 (dec1 (decI .i64))) c2).bind fun a2 => (decS c3).bind fun a3 => (decS c4).bind fun a4 => (decS c5).bind fun a5 => ((decL 5 Value.dec) c6).bind fun a6 => ((decL 2 Ref.dec) c7).bind fun a7 => ((decI .i64) c8).bind fun a8 => ((decI .i64) c9).bind fun a9 => (decS c10).bind fun a10 => ((decI .i64) c11).bind fun a11 => ((decL 1 (dec1 (decI .i64))) c12).bind fun a12 => (decS c13).bind fun a13 => (decS c14).bind fun a14 => (decS c15).bind fun a15 => ((decL 5 Value.dec) c16).bind fun a16 => ((decL 2 Ref.dec) c17).bind fun a17 => ((decI .i64) c18).bind fun a18 => (decB c19).bind fun a19 => (decB c20).bind fun a20 => (decS c21).bind fun a21 => ((decI .i64) c22).bind fun a22 => ((decL 1 (dec1 (decI .i64))) c23).bind fun a23 => ((decI .i64) c24).bind fun a24 => ((decI .i64) c25).bind fun a25 => ((decI .i64) c26).bind fun a26 => (decS c27).bind fun a27 => ((decL 1 (dec1 (decI .i64))) c28).bind fun a28 => ((decL 1 (dec1 decS)) c29).bind fun a29 => some (Turn.mk (Request.mk a0 a1 a2 (Ref.mk a3 a4) a5 a6 a7 a8) a9 (Request.mk a10 a11 a12 (Ref.mk a13 a14) a15 a16 a17 a18) a19 a20 (Reply.mk a21 a22 a23 a24 (Value.mk a25 a26 a27 a28 a29)))
  | _ => none
theorem Turn.dec_row (x : Turn) : Turn.dec (Turn.row x) = some x := by
  simp only [Turn.row, Turn.dec, decI_val, decB_val, decS_val, decL_sl, Option.bind_some, decRows_map (dec1_rowI .i64), decRows_map Ref.dec_row, decRows_map Value.dec_row, decRows_map dec1_rowS]
theorem Turn.dec_le : ∀ (r : List C) (x : Turn), Turn.dec r = some x → LeL r (Turn.row x) := by
  intro r x h
  unfold Turn.dec at h
  split at h
  · simp only [Option.bind_eq_some_iff, Option.some.injEq] at h
    obtain ⟨a0, h0, a1, h1, a2, h2, a3, h3, a4, h4, a5, h5, a6, h6, a7, h7, a8, h8, a9, h9, a10, h10, a11, h11, a12, h12, a13, h13, a14, h14, a15, h15, a16, h16, a17, h17, a18, h18, a19, h19, a20, h20, a21, h21, a22, h22, a23, h23, a24, h24, a25, h25, a26, h26, a27, h27, a28, h28, a29, h29, rfl⟩ := h
    exact LeL.cons (decS_le h0) (LeL.cons (decI_le h1) (LeL.cons (decL_le (decI1_le .i64) h2) (LeL.cons (decS_le h3) (LeL.cons (decS_le h4) (LeL.cons (decS_le h5) (LeL.cons (decL_le Value.dec_le h6) (LeL.cons (decL_le Ref.dec_le h7) (LeL.cons (decI_le h8) (LeL.cons (decI_le h9) (LeL.cons (decS_le h10) (LeL.cons (decI_le h11) (LeL.cons (decL_le (decI1_le .i64) h12) (LeL.cons (decS_le h13) (LeL.cons (decS_le h14) (LeL.cons (decS_le h15) (LeL.cons (decL_le Value.dec_le h16) (LeL.cons (decL_le Ref.dec_le h17) (LeL.cons (decI_le h18) (LeL.cons (decB_le h19) (LeL.cons (decB_le h20) (LeL.cons (decS_le h21) (LeL.cons (decI_le h22) (LeL.cons (decL_le (decI1_le .i64) h23) (LeL.cons (decI_le h24) (LeL.cons (decI_le h25) (LeL.cons (decI_le h26) (LeL.cons (decS_le h27) (LeL.cons (decL_le (decI1_le .i64) h28) (LeL.cons (decL_le decS1_le h29) (LeL.nil))))))))))))))))))))))))))))))
  · cases h
theorem Turn.row_ok : RowOk Turn.row := ⟨fun _ => rfl, fun _ => rfl, fun _ => rfl⟩
instance : RowI Turn.row := ⟨Turn.row_ok⟩
def Turn.decA : C → Option Turn
  | .agg cs => Turn.dec cs
  | _ => none
theorem Turn.decA_le {c : C} {x : Turn} (h : Turn.decA c = some x) : Le c (.agg (Turn.row x)) := by
  unfold Turn.decA at h
  split at h
  · exact Le.agg (Turn.dec_le _ _ h)
  · cases h
structure Actor where
  Self : Ref
  Index : Int
  Stack : (List Turn)
  deriving Inhabited
theorem Actor.eta (x : Actor) : Actor.mk x.Self x.Index x.Stack = x := rfl
def Actor.row (x : Actor) : List C := [.val (.string x.Self.Type_), .val (.string x.Self.Key), .val (.int .i64 x.Index), .sl false none 30 none (x.Stack.map Turn.row)]
def Actor.dec : List C → Option Actor
  | [c0, c1, c2, c3] => (decS c0).bind fun a0 => (decS c1).bind fun a1 => ((decI .i64) c2).bind fun a2 => ((decL 30 Turn.dec) c3).bind fun a3 => some (Actor.mk (Ref.mk a0 a1) a2 a3)
  | _ => none
theorem Actor.dec_row (x : Actor) : Actor.dec (Actor.row x) = some x := by
  simp only [Actor.row, Actor.dec, decI_val, decB_val, decS_val, decL_sl, Option.bind_some, decRows_map Turn.dec_row]
theorem Actor.dec_le : ∀ (r : List C) (x : Actor), Actor.dec r = some x → LeL r (Actor.row x) := by
  intro r x h
  unfold Actor.dec at h
  split at h
  · simp only [Option.bind_eq_some_iff, Option.some.injEq] at h
    obtain ⟨a0, h0, a1, h1, a2, h2, a3, h3, rfl⟩ := h
    exact LeL.cons (decS_le h0) (LeL.cons (decS_le h1) (LeL.cons (decI_le h2) (LeL.cons (decL_le Turn.dec_le h3) (LeL.nil))))
  · cases h
theorem Actor.row_ok : RowOk Actor.row := ⟨fun _ => rfl, fun _ => rfl, fun _ => rfl⟩
instance : RowI Actor.row := ⟨Actor.row_ok⟩
def Actor.decA : C → Option Actor
  | .agg cs => Actor.dec cs
  | _ => none
theorem Actor.decA_le {c : C} {x : Actor} (h : Actor.decA c = some x) : Le c (.agg (Actor.row x)) := by
  unfold Actor.decA at h
  split at h
  · exact Le.agg (Actor.dec_le _ _ h)
  · cases h
structure actorgridlaw24_Act where
  Kind : Int
  Who : Int
  What : Int
  deriving Inhabited
theorem actorgridlaw24_Act.eta (x : actorgridlaw24_Act) : actorgridlaw24_Act.mk x.Kind x.Who x.What = x := rfl
def actorgridlaw24_Act.row (x : actorgridlaw24_Act) : List C := [.val (.int .u8 x.Kind), .val (.int .u8 x.Who), .val (.int .u8 x.What)]
def actorgridlaw24_Act.dec : List C → Option actorgridlaw24_Act
  | [c0, c1, c2] => ((decI .u8) c0).bind fun a0 => ((decI .u8) c1).bind fun a1 => ((decI .u8) c2).bind fun a2 => some (actorgridlaw24_Act.mk a0 a1 a2)
  | _ => none
theorem actorgridlaw24_Act.dec_row (x : actorgridlaw24_Act) : actorgridlaw24_Act.dec (actorgridlaw24_Act.row x) = some x := by
  simp only [actorgridlaw24_Act.row, actorgridlaw24_Act.dec, decI_val, decB_val, decS_val, decL_sl, Option.bind_some]
theorem actorgridlaw24_Act.dec_le : ∀ (r : List C) (x : actorgridlaw24_Act), actorgridlaw24_Act.dec r = some x → LeL r (actorgridlaw24_Act.row x) := by
  intro r x h
  unfold actorgridlaw24_Act.dec at h
  split at h
  · simp only [Option.bind_eq_some_iff, Option.some.injEq] at h
    obtain ⟨a0, h0, a1, h1, a2, h2, rfl⟩ := h
    exact LeL.cons (decI_le h0) (LeL.cons (decI_le h1) (LeL.cons (decI_le h2) (LeL.nil)))
  · cases h
theorem actorgridlaw24_Act.row_ok : RowOk actorgridlaw24_Act.row := ⟨fun _ => rfl, fun _ => rfl, fun _ => rfl⟩
instance : RowI actorgridlaw24_Act.row := ⟨actorgridlaw24_Act.row_ok⟩
theorem actorgridlaw24_Act.row_pure : ∀ x, ∀ c ∈ actorgridlaw24_Act.row x, PureC c := fun x => pure_cons (PureC.val _) (pure_cons (PureC.val _) (pure_cons (PureC.val _) (pure_nil)))
instance : PureRI actorgridlaw24_Act.row := ⟨actorgridlaw24_Act.row_pure⟩
def actorgridlaw24_Act.decA : C → Option actorgridlaw24_Act
  | .agg cs => actorgridlaw24_Act.dec cs
  | _ => none
theorem actorgridlaw24_Act.decA_le {c : C} {x : actorgridlaw24_Act} (h : actorgridlaw24_Act.decA c = some x) : Le c (.agg (actorgridlaw24_Act.row x)) := by
  unfold actorgridlaw24_Act.decA at h
  split at h
  · exact Le.agg (actorgridlaw24_Act.dec_le _ _ h)
  · cases h
end Go.Proofs.Ytmgpaicldmgckaa
