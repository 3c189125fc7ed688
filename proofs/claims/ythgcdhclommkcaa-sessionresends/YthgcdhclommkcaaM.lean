/- The models of the functions. No statement. -/
import Derived.Test.YthgcdhclommkcaaT
/- The functions of the program as plain functions on plain data. -/
set_option maxHeartbeats 40000000
set_option synthInstance.maxHeartbeats 2000000
set_option synthInstance.maxSize 4000
set_option linter.unusedSimpArgs false
set_option linter.unusedVariables false
set_option maxRecDepth 100000
namespace Go.Proofs.Ythgcdhclommkcaa
open Go Go.Proofs Go.Abs
def session_validName (N : Nat) (a0 : ByteArray) : Option (Bool) :=
  if 1 ≤ ((a0.size : Nat) : Int) then
  ((some (decide (((a0.size : Nat) : Int) ≤ 32))))
  else
  ((some false))
def session_New (N : Nat) (a0 : ByteArray) : Option (Session × Int) :=
  (session_validName N a0).bind fun r2 =>
  if r2 = true then
  ((some ((Session.mk a0 1 []), 0)))
  else
  (some ((Session.mk (⟨#[]⟩) 0 []), 1))
def seat_Int (N : Nat) (a0 : Int) : Option (Value) :=
  some (Value.mk 1 a0 (⟨#[]⟩) [] [])
def law34_call (N : Nat)  : Option ((List ActorCall)) :=
  (seat_Int N 1).bind fun r1 =>
  some ([(ActorCall.mk (Ref.mk (⟨#[65]⟩) (⟨#[107]⟩)) (⟨#[109]⟩) [r1])].set 0 (ActorCall.mk (Ref.mk (⟨#[65]⟩) (⟨#[107]⟩)) (⟨#[109]⟩) [r1]))
def wire_ValidValue_J1 (kx1 : Option (Bool)) (c3 : Bool) : Option (Bool) :=
  if c3 = true then
  (some false)
  else
  (kx1)
def wire_ValidValue_J2 (kx7 : Bool → Option (Bool)) (a0 : Value) (c11 : Bool) : Option (Bool) :=
  if c11 = true then
  ((kx7 true))
  else
  (if 0 < ((a0.L.length : Nat) : Int) then
  ((kx7 (!decide (a0.Kind = 5))))
  else
  ((kx7 false)))
def wire_ValidValue_J3 (kx7 : Bool → Option (Bool)) (a0 : Value) (c9 : Bool) : Option (Bool) :=
  if c9 = true then
  ((kx7 true))
  else
  (if 0 < ((a0.I.length : Nat) : Int) then
  (((wire_ValidValue_J2 kx7 a0) (!decide (a0.Kind = 4))))
  else
  (((wire_ValidValue_J2 kx7 a0) false)))
def wire_ValidValue_J4 (kx4 : Option (Bool)) (c12 : Bool) : Option (Bool) :=
  if c12 = true then
  (some false)
  else
  (kx4)
def wire_ValidValue_J5 (a0 : Value) (kx4 : Option (Bool)) (c6 : Bool) : Option (Bool) :=
  if c6 = true then
  (some false)
  else
  (if (sEq a0.S (⟨#[]⟩)) = true then
  (((wire_ValidValue_J3 (wire_ValidValue_J4 kx4) a0) false))
  else
  (((wire_ValidValue_J3 (wire_ValidValue_J4 kx4) a0) (!decide (a0.Kind = 3)))))
def wire_ValidValue_J6 (kx13 : Option (Bool)) (c15 : Bool) : Option (Bool) :=
  if c15 = true then
  (some false)
  else
  (kx13)
def wire_ValidValue_L1  : List ByteArray → Nat → Unit → Option (Bool)
  | [], v17, () =>
    (some true)
  | x20 :: xs, v17, () =>
    (if 64 < ((x20.size : Nat) : Int) then
    (some false)
    else
    ((((wire_ValidValue_L1 xs (v17 + 1)) ()))))
def wire_ValidValue_J7 (a0 : Value) : Option (Bool) :=
  (wire_ValidValue_L1 a0.L 0 ())
def wire_ValidValue_J8 (a0 : Value) : Option (Bool) :=
  if 64 < ((a0.S.size : Nat) : Int) then
  (((wire_ValidValue_J6 (wire_ValidValue_J7 a0)) true))
  else
  (if 16 < ((a0.I.length : Nat) : Int) then
  (((wire_ValidValue_J6 (wire_ValidValue_J7 a0)) true))
  else
  (((wire_ValidValue_J6 (wire_ValidValue_J7 a0)) (decide (16 < ((a0.L.length : Nat) : Int))))))
def wire_ValidValue_J9 (a0 : Value) (N : Nat) : Option (Bool) :=
  if a0.N = 0 then
  (((wire_ValidValue_J5 a0 (wire_ValidValue_J8 a0)) false))
  else
  (if a0.Kind = 1 then
  (((wire_ValidValue_J5 a0 (wire_ValidValue_J8 a0)) false))
  else
  (if a0.Kind = 2 then
  (((wire_ValidValue_J5 a0 (wire_ValidValue_J8 a0)) (!decide (a0.N = 1))))
  else
  (((wire_ValidValue_J5 a0 (wire_ValidValue_J8 a0)) true))))
def wire_ValidValue (N : Nat) (a0 : Value) : Option (Bool) :=
  if a0.Kind < 0 then
  (((wire_ValidValue_J1 (wire_ValidValue_J9 a0 N)) true))
  else
  (((wire_ValidValue_J1 (wire_ValidValue_J9 a0 N)) (decide (5 < a0.Kind))))
def txn_ValidCall_1 (N : Nat) (a0 : Value) : Option (Bool) :=
  if a0.Kind = 0 then
  ((some true))
  else
  ((wire_ValidValue N a0).bind fun r2 =>
  (some (!r2)))
def slices_IndexFunc_Value_txn_ValidCall_1_L1 (N : Nat) : List Value → Nat → Unit → Option (Int)
  | [], v2, () =>
    (some (-1))
  | x5 :: xs, v2, () =>
    ((txn_ValidCall_1 N x5).bind fun r8 =>
    if r8 = true then
    (some ((v2 : Nat) : Int))
    else
    ((((slices_IndexFunc_Value_txn_ValidCall_1_L1 N xs (v2 + 1)) ()))))
def slices_IndexFunc_Value_txn_ValidCall_1 (N : Nat) (a0 : (List Value)) : Option (Int) :=
  (slices_IndexFunc_Value_txn_ValidCall_1_L1 N a0 0 ())
def slices_ContainsFunc_Value_txn_ValidCall_1 (N : Nat) (a0 : (List Value)) : Option (Bool) :=
  (slices_IndexFunc_Value_txn_ValidCall_1 N a0).bind fun r1 =>
  some (decide (0 ≤ r1))
def txn_ValidCall_J1 (kx1 : Option (Bool)) (c3 : Bool) : Option (Bool) :=
  if c3 = true then
  (some false)
  else
  (kx1)
def txn_ValidCall_J2 (N : Nat) (a0 : ActorCall) : Option (Bool) :=
  (slices_ContainsFunc_Value_txn_ValidCall_1 N a0.Args).bind fun r4 =>
  some (!r4)
def txn_ValidCall (N : Nat) (a0 : ActorCall) : Option (Bool) :=
  if ((a0.Target.Type_.size : Nat) : Int) < 1 then
  (((txn_ValidCall_J1 (txn_ValidCall_J2 N a0)) true))
  else
  (if 32 < ((a0.Target.Type_.size : Nat) : Int) then
  (((txn_ValidCall_J1 (txn_ValidCall_J2 N a0)) true))
  else
  (if 32 < ((a0.Target.Key.size : Nat) : Int) then
  (((txn_ValidCall_J1 (txn_ValidCall_J2 N a0)) true))
  else
  (if ((a0.Method.size : Nat) : Int) < 1 then
  (((txn_ValidCall_J1 (txn_ValidCall_J2 N a0)) true))
  else
  (if 32 < ((a0.Method.size : Nat) : Int) then
  (((txn_ValidCall_J1 (txn_ValidCall_J2 N a0)) true))
  else
  (((txn_ValidCall_J1 (txn_ValidCall_J2 N a0)) (decide (4 < ((a0.Args.length : Nat) : Int)))))))))
def session_ValidSubmission_1 (N : Nat) (a0 : ActorCall) : Option (Bool) :=
  (txn_ValidCall N a0).bind fun r1 =>
  some (!r1)
def slices_IndexFunc_ActorCall_session_ValidSubmission_1_L1 (N : Nat) : List ActorCall → Nat → Unit → Option (Int)
  | [], v2, () =>
    (some (-1))
  | x5 :: xs, v2, () =>
    ((session_ValidSubmission_1 N x5).bind fun r8 =>
    if r8 = true then
    (some ((v2 : Nat) : Int))
    else
    ((((slices_IndexFunc_ActorCall_session_ValidSubmission_1_L1 N xs (v2 + 1)) ()))))
def slices_IndexFunc_ActorCall_session_ValidSubmission_1 (N : Nat) (a0 : (List ActorCall)) : Option (Int) :=
  (slices_IndexFunc_ActorCall_session_ValidSubmission_1_L1 N a0 0 ())
def slices_ContainsFunc_ActorCall_session_ValidSubmission_1 (N : Nat) (a0 : (List ActorCall)) : Option (Bool) :=
  (slices_IndexFunc_ActorCall_session_ValidSubmission_1 N a0).bind fun r1 =>
  some (decide (0 ≤ r1))
def session_ValidSubmission_J1 (kx1 : Option (Bool)) (c4 : Bool) : Option (Bool) :=
  if c4 = true then
  (some false)
  else
  (kx1)
def session_ValidSubmission_J2 (kx5 : Option (Bool)) (c7 : Bool) : Option (Bool) :=
  if c7 = true then
  (some false)
  else
  (kx5)
def session_ValidSubmission_J3 (N : Nat) (a0 : Submission) : Option (Bool) :=
  (slices_ContainsFunc_ActorCall_session_ValidSubmission_1 N a0.Calls).bind fun r8 =>
  some (!r8)
def session_ValidSubmission_J4 (a0 : Submission) (N : Nat) : Option (Bool) :=
  if ((a0.Calls.length : Nat) : Int) < 1 then
  (((session_ValidSubmission_J2 (session_ValidSubmission_J3 N a0)) true))
  else
  (if 4 < ((a0.Calls.length : Nat) : Int) then
  (((session_ValidSubmission_J2 (session_ValidSubmission_J3 N a0)) true))
  else
  (if a0.Atomic = true then
  (((session_ValidSubmission_J2 (session_ValidSubmission_J3 N a0)) false))
  else
  (((session_ValidSubmission_J2 (session_ValidSubmission_J3 N a0)) (!decide (((a0.Calls.length : Nat) : Int) = 1))))))
def session_ValidSubmission (N : Nat) (a0 : Submission) : Option (Bool) :=
  (session_validName N a0.Client).bind fun r3 =>
  if r3 = true then
  (if a0.Seq < 1 then
  (((session_ValidSubmission_J1 (session_ValidSubmission_J4 a0 N)) true))
  else
  (if 1099511627776 < a0.Seq then
  (((session_ValidSubmission_J1 (session_ValidSubmission_J4 a0 N)) true))
  else
  (if a0.Acked < 0 then
  (((session_ValidSubmission_J1 (session_ValidSubmission_J4 a0 N)) true))
  else
  (((session_ValidSubmission_J1 (session_ValidSubmission_J4 a0 N)) (decide (a0.Seq ≤ a0.Acked)))))))
  else
  (((session_ValidSubmission_J1 (session_ValidSubmission_J4 a0 N)) true))
def session_validTime (N : Nat) (a0 : Int) : Option (Bool) :=
  if 0 ≤ a0 then
  ((some (decide (a0 ≤ 1099511627776))))
  else
  ((some false))
def session_acknowledged (N : Nat) (a0 : Session) : Option (Int) :=
  if 0 < ((a0.Open.length : Nat) : Int) then
  (gx a0.Open 0 fun x2 =>
  some (IntKind.i64.wrap (x2.Submission_.Seq - 1)))
  else
  ((some (IntKind.i64.wrap (a0.Next - 1))))
def session_Valid_J1 (kx1 : Option (Bool)) (c4 : Bool) : Option (Bool) :=
  if c4 = true then
  (some false)
  else
  (kx1)
def session_Valid_J2 (rec7 : Unit → Option (Bool)) (c16 : Bool) : Option (Bool) :=
  if c16 = true then
  (some false)
  else
  (((rec7 ())))
def session_Valid_L1 (kx5 : Option (Bool)) (N : Nat) (a0 : Session) : List PendingSubmission → Nat → Unit → Option (Bool)
  | [], v6, () =>
    kx5
  | x9 :: xs, v6, () =>
    ((session_ValidSubmission N x9.Submission_).bind fun r13 =>
    if r13 = true then
    (if (sEq x9.Submission_.Client a0.Name) = true then
    (if a0.Next ≤ x9.Submission_.Seq then
    (((session_Valid_J2 (session_Valid_L1 kx5 N a0 xs (v6 + 1))) true))
    else
    ((session_validTime N x9.Sent).bind fun r14 =>
    if r14 = true then
    (if 0 < ((v6 : Nat) : Int) then
    (gx a0.Open (IntKind.i64.wrap (((v6 : Nat) : Int) - 1)) fun x15 =>
    ((session_Valid_J2 (session_Valid_L1 kx5 N a0 xs (v6 + 1))) (decide (x9.Submission_.Seq ≤ x15.Submission_.Seq))))
    else
    (((session_Valid_J2 (session_Valid_L1 kx5 N a0 xs (v6 + 1))) false)))
    else
    (((session_Valid_J2 (session_Valid_L1 kx5 N a0 xs (v6 + 1))) true))))
    else
    (((session_Valid_J2 (session_Valid_L1 kx5 N a0 xs (v6 + 1))) true)))
    else
    (((session_Valid_J2 (session_Valid_L1 kx5 N a0 xs (v6 + 1))) true)))
def session_Valid_J3 (N : Nat) (a0 : Session) : Option (Bool) :=
  (session_acknowledged N a0).bind fun r17 =>
  some (decide ((IntKind.i64.wrap ((IntKind.i64.wrap (a0.Next - 1)) - r17)) ≤ 16))
def session_Valid_J4 (N : Nat) (a0 : Session) : Option (Bool) :=
  (session_Valid_L1 (session_Valid_J3 N a0) N a0 a0.Open 0 ())
def session_Valid (N : Nat) (a0 : Session) : Option (Bool) :=
  (session_validName N a0.Name).bind fun r3 =>
  if r3 = true then
  (if a0.Next < 1 then
  (((session_Valid_J1 (session_Valid_J4 N a0)) true))
  else
  (((session_Valid_J1 (session_Valid_J4 N a0)) (decide (1099511627776 < a0.Next)))))
  else
  (((session_Valid_J1 (session_Valid_J4 N a0)) true))
def slices_Clone_PendingSubmission (N : Nat) (a0 : (List PendingSubmission)) : Option ((List PendingSubmission)) :=
  (apn 72 a0 <|
  some a0)
def slices_Clone_ActorCall (N : Nat) (a0 : (List ActorCall)) : Option ((List ActorCall)) :=
  (apn 72 a0 <|
  some a0)
def slices_Clone_Value (N : Nat) (a0 : (List Value)) : Option ((List Value)) :=
  (apn 80 a0 <|
  some a0)
def slices_Clone_int (N : Nat) (a0 : (List Int)) : Option ((List Int)) :=
  (apn 8 a0 <|
  some a0)
def slices_Clone_string (N : Nat) (a0 : (List ByteArray)) : Option ((List ByteArray)) :=
  (apn 16 a0 <|
  some a0)
def session_cloneCalls_L2 (rec5 : List ActorCall → Option ((List ActorCall))) (l3 : List ActorCall) (v4 : Nat) (x9 : ActorCall) (N : Nat) : Nat → Nat → List Value → Option ((List ActorCall))
  | 0, v12, l11 =>
    ((rec5 (l3.set v4 (ActorCall.mk x9.Target x9.Method l11))))
  | m + 1, v12, l11 =>
    (gx l3 ((v4 : Nat) : Int) fun x17 =>
    gx l11 ((v12 : Nat) : Int) fun x18 =>
    (slices_Clone_int N x18.I).bind fun r19 =>
    (slices_Clone_string N x18.L).bind fun r20 =>
    (((session_cloneCalls_L2 rec5 l3 v4 x9 N m (v12 + 1)) (l11.set v12 (Value.mk x18.Kind x18.N x18.S r19 r20)))))
def session_cloneCalls_L1 (N : Nat) : Nat → Nat → List ActorCall → Option ((List ActorCall))
  | 0, v4, l3 =>
    (some l3)
  | m + 1, v4, l3 =>
    (gx l3 ((v4 : Nat) : Int) fun x9 =>
    (slices_Clone_Value N x9.Args).bind fun r10 =>
    (session_cloneCalls_L2 (session_cloneCalls_L1 N m (v4 + 1)) l3 v4 x9 N (r10.length - 0) 0 r10))
def session_cloneCalls (N : Nat) (a0 : (List ActorCall)) : Option ((List ActorCall)) :=
  (slices_Clone_ActorCall N a0).bind fun r1 =>
  (session_cloneCalls_L1 N (r1.length - 0) 0 r1)
def session_cloneSubmission (N : Nat) (a0 : Submission) : Option (Submission) :=
  (session_cloneCalls N a0.Calls).bind fun r1 =>
  some (Submission.mk a0.Client a0.Seq a0.Acked a0.Atomic r1)
def session_clone_L1 (a0 : Session) (N : Nat) : Nat → Nat → List PendingSubmission → Option (Session)
  | 0, v4, l3 =>
    (some (Session.mk a0.Name a0.Next l3))
  | m + 1, v4, l3 =>
    (gx l3 ((v4 : Nat) : Int) fun x9 =>
    (session_cloneSubmission N x9.Submission_).bind fun r10 =>
    (((session_clone_L1 a0 N m (v4 + 1)) (l3.set v4 (PendingSubmission.mk r10 x9.Sent)))))
def session_clone (N : Nat) (a0 : Session) : Option (Session) :=
  (slices_Clone_PendingSubmission N a0.Open).bind fun r1 =>
  (session_clone_L1 a0 N (r1.length - 0) 0 r1)
def session_Submit_J1 (kx1 : Option (Session × Submission × Int)) (c5 : Bool) : Option (Session × Submission × Int) :=
  if c5 = true then
  (some ((Session.mk (⟨#[]⟩) 0 []), (Submission.mk (⟨#[]⟩) 0 0 false []), 1))
  else
  (kx1)
def session_Submit_J2 (kx7 : Option (Session × Submission × Int)) (c10 : Bool) : Option (Session × Submission × Int) :=
  if c10 = true then
  (some ((Session.mk (⟨#[]⟩) 0 []), (Submission.mk (⟨#[]⟩) 0 0 false []), 5))
  else
  (kx7)
def session_Submit_J3 (N : Nat) (a0 : Session) (r6 : Int) (a2 : Bool) (a3 : (List ActorCall)) (a1 : Int) : Option (Session × Submission × Int) :=
  (session_clone N a0).bind fun r11 =>
  (session_cloneSubmission N (Submission.mk a0.Name a0.Next r6 a2 a3)).bind fun r12 =>
  apx 72 r11.Open [(PendingSubmission.mk r12 a1)] fun l13 =>
  (session_cloneSubmission N (Submission.mk a0.Name a0.Next r6 a2 a3)).bind fun r14 =>
  some ((Session.mk r11.Name (IntKind.i64.wrap (r11.Next + 1)) l13), r14, 0)
def session_Submit_J4 (N : Nat) (a0 : Session) (a2 : Bool) (a3 : (List ActorCall)) (a1 : Int) : Option (Session × Submission × Int) :=
  (session_acknowledged N a0).bind fun r6 =>
  (session_ValidSubmission N (Submission.mk a0.Name a0.Next r6 a2 a3)).bind fun r8 =>
  if r8 = true then
  (if a0.Next = 1099511627776 then
  (((session_Submit_J2 (session_Submit_J3 N a0 r6 a2 a3 a1)) true))
  else
  (((session_Submit_J2 (session_Submit_J3 N a0 r6 a2 a3 a1)) (decide ((IntKind.i64.wrap ((IntKind.i64.wrap (a0.Next - 1)) - r6)) = 16)))))
  else
  (some ((Session.mk (⟨#[]⟩) 0 []), (Submission.mk (⟨#[]⟩) 0 0 false []), 1))
def session_Submit (N : Nat) (a0 : Session) (a1 : Int) (a2 : Bool) (a3 : (List ActorCall)) : Option (Session × Submission × Int) :=
  (session_Valid N a0).bind fun r3 =>
  if r3 = true then
  ((session_validTime N a1).bind fun r4 =>
  ((session_Submit_J1 (session_Submit_J4 N a0 a2 a3 a1)) (!r4)))
  else
  (((session_Submit_J1 (session_Submit_J4 N a0 a2 a3 a1)) true))
def session_Acknowledged (N : Nat) (a0 : Session) : Option (Int) :=
  (session_Valid N a0).bind fun r2 =>
  if r2 = true then
  (((session_acknowledged N a0).bind fun r3 =>
  some r3))
  else
  (some 0)
def session_Accept_1 (N : Nat) (a0 : PendingSubmission) (c0_0 : ByteArray) (c0_1 : Int) (c0_2 : (List Int)) (c0_3 : Int) (c0_4 : Int) (c0_5 : Int) (c0_6 : ByteArray) (c0_7 : (List Int)) (c0_8 : (List ByteArray)) : Option (Bool) :=
  some (decide (a0.Submission_.Seq = c0_1))
def slices_IndexFunc_PendingSubmission_session_Accept_1_L1 (N : Nat) (k1_0_0 : ByteArray) (k1_0_1 : Int) (k1_0_2 : (List Int)) (k1_0_3 : Int) (k1_0_4 : Int) (k1_0_5 : Int) (k1_0_6 : ByteArray) (k1_0_7 : (List Int)) (k1_0_8 : (List ByteArray)) : List PendingSubmission → Nat → Unit → Option (Int)
  | [], v2, () =>
    (some (-1))
  | x5 :: xs, v2, () =>
    ((session_Accept_1 N x5 k1_0_0 k1_0_1 k1_0_2 k1_0_3 k1_0_4 k1_0_5 k1_0_6 k1_0_7 k1_0_8).bind fun r8 =>
    if r8 = true then
    (some ((v2 : Nat) : Int))
    else
    ((((slices_IndexFunc_PendingSubmission_session_Accept_1_L1 N k1_0_0 k1_0_1 k1_0_2 k1_0_3 k1_0_4 k1_0_5 k1_0_6 k1_0_7 k1_0_8 xs (v2 + 1)) ()))))
def slices_IndexFunc_PendingSubmission_session_Accept_1 (N : Nat) (a0 : (List PendingSubmission)) (k1_0_0 : ByteArray) (k1_0_1 : Int) (k1_0_2 : (List Int)) (k1_0_3 : Int) (k1_0_4 : Int) (k1_0_5 : Int) (k1_0_6 : ByteArray) (k1_0_7 : (List Int)) (k1_0_8 : (List ByteArray)) : Option (Int) :=
  (slices_IndexFunc_PendingSubmission_session_Accept_1_L1 N k1_0_0 k1_0_1 k1_0_2 k1_0_3 k1_0_4 k1_0_5 k1_0_6 k1_0_7 k1_0_8 a0 0 ())
def dedup_name (N : Nat) (a0 : ByteArray) : Option (Bool) :=
  if 1 ≤ ((a0.size : Nat) : Int) then
  ((some (decide (((a0.size : Nat) : Int) ≤ 32))))
  else
  ((some false))
def dedup_number (N : Nat) (a0 : Int) : Option (Bool) :=
  if 1 ≤ a0 then
  ((some (decide (a0 ≤ 1099511627776))))
  else
  ((some false))
def dedup_ValidReply (N : Nat) (a0 : Reply) : Option (Bool) :=
  (dedup_name N a0.Client).bind fun r2 =>
  if r2 = true then
  ((dedup_number N a0.Seq).bind fun r3 =>
  if r3 = true then
  (if ((a0.Path.length : Nat) : Int) = 0 then
  (if 0 ≤ a0.Err then
  (if a0.Err ≤ 27 then
  ((wire_ValidValue N a0.Value_).bind fun r4 =>
  if r4 = true then
  (if a0.Err = 0 then
  ((some true))
  else
  ((some (decide (a0.Value_.Kind = 0)))))
  else
  ((some false)))
  else
  ((some false)))
  else
  ((some false)))
  else
  ((some false)))
  else
  ((some false)))
  else
  ((some false))
def slices_Delete_PendingSubmission (N : Nat) (a0 : List PendingSubmission) (a1 : Int) (a2 : Int) : Option (List PendingSubmission) := delM a0 a1 a2 fun l => some l
def session_Accept_J1 (r3 : Session) (kx5 : Option (Session × Bool)) (c8 : Bool) : Option (Session × Bool) :=
  if c8 = true then
  (some (r3, false))
  else
  (kx5)
def session_Accept_J2 (N : Nat) (r3 : Session) (r4 : Int) : Option (Session × Bool) :=
  (slices_Delete_PendingSubmission N r3.Open r4 (IntKind.i64.wrap (r4 + 1))).bind fun r9 =>
  some ((Session.mk r3.Name r3.Next r9), true)
def session_Accept (N : Nat) (a0 : Session) (a1 : Reply) : Option (Session × Bool) :=
  (session_Valid N a0).bind fun r2 =>
  if r2 = true then
  (((session_clone N a0).bind fun r3 =>
  (slices_IndexFunc_PendingSubmission_session_Accept_1 N r3.Open a1.Client a1.Seq a1.Path a1.Err a1.Value_.Kind a1.Value_.N a1.Value_.S a1.Value_.I a1.Value_.L).bind fun r4 =>
  (dedup_ValidReply N a1).bind fun r7 =>
  if r7 = true then
  (if (sEq a1.Client a0.Name) = true then
  (((session_Accept_J1 r3 (session_Accept_J2 N r3 r4)) (decide (r4 < 0))))
  else
  (((session_Accept_J1 r3 (session_Accept_J2 N r3 r4)) true)))
  else
  (((session_Accept_J1 r3 (session_Accept_J2 N r3 r4)) true))))
  else
  (some ((Session.mk (⟨#[]⟩) 0 []), false))
def session_Resend_J1 (kx1 : Option (Session × (List Submission))) (c5 : Bool) : Option (Session × (List Submission)) :=
  if c5 = true then
  (some ((Session.mk (⟨#[]⟩) 0 []), []))
  else
  (kx1)
def session_Resend_L1 (r6 : Session) (a1 : Int) (N : Nat) (a0 : Session) : Nat → Nat → List PendingSubmission × List Submission → Option (Session × (List Submission))
  | 0, v10, (l8, l9) =>
    (some ((Session.mk r6.Name r6.Next l8), l9))
  | m + 1, v10, (l8, l9) =>
    (gx l8 ((v10 : Nat) : Int) fun x15 =>
    if a1 < (IntKind.i64.wrap (x15.Sent + 4)) then
    ((((session_Resend_L1 r6 a1 N a0 m (v10 + 1)) (l8, l9))))
    else
    (((session_acknowledged N a0).bind fun r17 =>
    (session_cloneSubmission N (Submission.mk x15.Submission_.Client x15.Submission_.Seq r17 x15.Submission_.Atomic x15.Submission_.Calls)).bind fun r18 =>
    apx 64 l9 [r18] fun l19 =>
    (((session_Resend_L1 r6 a1 N a0 m (v10 + 1)) ((l8.set v10 (PendingSubmission.mk (Submission.mk x15.Submission_.Client x15.Submission_.Seq r17 x15.Submission_.Atomic x15.Submission_.Calls) a1)), l19))))))
def session_Resend_J2 (N : Nat) (a0 : Session) (a1 : Int) : Option (Session × (List Submission)) :=
  (session_clone N a0).bind fun r6 =>
  (session_Resend_L1 r6 a1 N a0 (r6.Open.length - 0) 0 (r6.Open, []))
def session_Resend (N : Nat) (a0 : Session) (a1 : Int) : Option (Session × (List Submission)) :=
  (session_Valid N a0).bind fun r3 =>
  if r3 = true then
  ((session_validTime N a1).bind fun r4 =>
  ((session_Resend_J1 (session_Resend_J2 N a0 a1)) (!r4)))
  else
  (((session_Resend_J1 (session_Resend_J2 N a0 a1)) true))
def law34_awake_J1 (kx9 : Option (Bool)) (kx2 : ByteArray → Int → (List PendingSubmission) → Int → Option (Bool)) (s3 : ByteArray) (v4 : Int) (l5 : List PendingSubmission) (v6 : Int) (c11 : Bool) : Option (Bool) :=
  if c11 = true then
  (kx9)
  else
  ((kx2 s3 v4 l5 v6))
def law34_awake_J2 (N : Nat) (s3 : ByteArray) (v4 : Int) (l5 : List PendingSubmission) (rec8 : (ByteArray × Int × List PendingSubmission × Int × Int) → Option (Bool)) (v7 : Int) : Option (Bool) :=
  (law34_call N).bind fun r13 =>
  (session_Submit N (Session.mk s3 v4 l5) 0 false r13).bind fun r14 =>
  ((rec8 (r14.1.Name, r14.1.Next, r14.1.Open, r14.2.2, IntKind.i64.wrap (v7 + 1))))
def law34_awake_L1 (N : Nat) (kx2 : ByteArray → Int → (List PendingSubmission) → Int → Option (Bool)) : Nat → ByteArray × Int × List PendingSubmission × Int × Int → Option (Bool)
  | 0, _ => none
  | n + 1, (s3, v4, l5, v6, v7) =>
    if v7 < 3 then
    (((law34_awake_J1 (law34_awake_J2 N s3 v4 l5 (law34_awake_L1 N kx2 n) v7) kx2 s3 v4 l5 v6) (decide (v6 = 0))))
    else
    (((law34_awake_J1 (law34_awake_J2 N s3 v4 l5 (law34_awake_L1 N kx2 n) v7) kx2 s3 v4 l5 v6) false))
def law34_awake_J3 (kx19 : Option (Bool)) (c23 : Bool) : Option (Bool) :=
  if c23 = true then
  (some false)
  else
  (kx19)
def law34_awake_J4 (kx25 : Option (Bool)) (c28 : Bool) : Option (Bool) :=
  if c28 = true then
  (some false)
  else
  (kx25)
def law34_awake_J5 (kx30 : Option (Bool)) (c33 : Bool) : Option (Bool) :=
  if c33 = true then
  (some false)
  else
  (kx30)
def law34_awake_J6 (N : Nat) (r29 : Session × Bool) : Option (Bool) :=
  (session_Resend N r29.1 4).bind fun r34 =>
  if ((r34.2.length : Nat) : Int) = 1 then
  (gx r34.2 0 fun x36 =>
  if x36.Seq = 3 then
  (if x36.Acked = 2 then
  ((session_ValidSubmission N x36).bind fun r37 =>
  (some r37))
  else
  ((some false)))
  else
  ((some false)))
  else
  ((some false))
def law34_awake_J7 (N : Nat) (r24 : Session × Bool) : Option (Bool) :=
  (session_Accept N r24.1 (Reply.mk (⟨#[99]⟩) 1 [] 0 (Value.mk 0 0 (⟨#[]⟩) [] []))).bind fun r29 =>
  if r29.2 = true then
  ((session_Acknowledged N r29.1).bind fun r32 =>
  ((law34_awake_J5 (law34_awake_J6 N r29)) (!decide (r32 = 2))))
  else
  (((law34_awake_J5 (law34_awake_J6 N r29)) true))
def law34_awake_J8 (N : Nat) (s15 : ByteArray) (v16 : Int) (l17 : List PendingSubmission) : Option (Bool) :=
  (session_Accept N (Session.mk s15 v16 l17) (Reply.mk (⟨#[99]⟩) 2 [] 0 (Value.mk 0 0 (⟨#[]⟩) [] []))).bind fun r24 =>
  if r24.2 = true then
  ((session_Acknowledged N r24.1).bind fun r27 =>
  ((law34_awake_J4 (law34_awake_J7 N r24)) (!decide (r27 = 0))))
  else
  (((law34_awake_J4 (law34_awake_J7 N r24)) true))
def law34_awake_J9 (N : Nat) (s15 : ByteArray) (v16 : Int) (l17 : List PendingSubmission) (v18 : Int) : Option (Bool) :=
  if v18 = 0 then
  ((session_Acknowledged N (Session.mk s15 v16 l17)).bind fun r21 =>
  if r21 = 0 then
  ((session_Valid N (Session.mk s15 v16 l17)).bind fun r22 =>
  if r22 = true then
  (((law34_awake_J3 (law34_awake_J8 N s15 v16 l17)) (!decide (((l17.length : Nat) : Int) = 3))))
  else
  (((law34_awake_J3 (law34_awake_J8 N s15 v16 l17)) true)))
  else
  (((law34_awake_J3 (law34_awake_J8 N s15 v16 l17)) true)))
  else
  (((law34_awake_J3 (law34_awake_J8 N s15 v16 l17)) true))
def law34_awake (N : Nat)  : Option (Bool) :=
  (session_New N (⟨#[99]⟩)).bind fun r1 =>
  (law34_awake_L1 N (law34_awake_J9 N) N (r1.1.Name, r1.1.Next, r1.1.Open, r1.2, 0))
def ref1_SameInts_L1 (a1 : (List Int)) : List Int → Nat → Unit → Option (Bool)
  | [], v3, () =>
    (some true)
  | x6 :: xs, v3, () =>
    (gx a1 ((v3 : Nat) : Int) fun x9 =>
    if x6 = x9 then
    ((((ref1_SameInts_L1 a1 xs (v3 + 1)) ())))
    else
    (some false))
def ref1_SameInts (N : Nat) (a0 : (List Int)) (a1 : (List Int)) : Option (Bool) :=
  if ((a0.length : Nat) : Int) = ((a1.length : Nat) : Int) then
  (((ref1_SameInts_L1 a1 a0 0 ())))
  else
  (some false)
def ref1_SameStrings_L1 (a1 : (List ByteArray)) : List ByteArray → Nat → Unit → Option (Bool)
  | [], v3, () =>
    (some true)
  | x6 :: xs, v3, () =>
    (gx a1 ((v3 : Nat) : Int) fun x9 =>
    if (sEq x6 x9) = true then
    ((((ref1_SameStrings_L1 a1 xs (v3 + 1)) ())))
    else
    (some false))
def ref1_SameStrings (N : Nat) (a0 : (List ByteArray)) (a1 : (List ByteArray)) : Option (Bool) :=
  if ((a0.length : Nat) : Int) = ((a1.length : Nat) : Int) then
  (((ref1_SameStrings_L1 a1 a0 0 ())))
  else
  (some false)
def ref1_SameValue (N : Nat) (a0 : Value) (a1 : Value) : Option (Bool) :=
  if a0.Kind = a1.Kind then
  (if a0.N = a1.N then
  (if (sEq a0.S a1.S) = true then
  ((ref1_SameInts N a0.I a1.I).bind fun r2 =>
  if r2 = true then
  ((ref1_SameStrings N a0.L a1.L).bind fun r3 =>
  (some r3))
  else
  ((some false)))
  else
  ((some false)))
  else
  ((some false)))
  else
  ((some false))
def ref32_SameValues_L1 (a1 : (List Value)) (N : Nat) : List Value → Nat → Unit → Option (Bool)
  | [], v3, () =>
    (some true)
  | x6 :: xs, v3, () =>
    (gx a1 ((v3 : Nat) : Int) fun x9 =>
    (ref1_SameValue N x6 x9).bind fun r10 =>
    if r10 = true then
    ((((ref32_SameValues_L1 a1 N xs (v3 + 1)) ())))
    else
    (some false))
def ref32_SameValues (N : Nat) (a0 : (List Value)) (a1 : (List Value)) : Option (Bool) :=
  if ((a0.length : Nat) : Int) = ((a1.length : Nat) : Int) then
  (((ref32_SameValues_L1 a1 N a0 0 ())))
  else
  (some false)
def ref32_SameCall (N : Nat) (a0 : ActorCall) (a1 : ActorCall) : Option (Bool) :=
  if (sEq a0.Target.Type_ a1.Target.Type_ && sEq a0.Target.Key a1.Target.Key) = true then
  (if (sEq a0.Method a1.Method) = true then
  ((ref32_SameValues N a0.Args a1.Args).bind fun r2 =>
  (some r2))
  else
  ((some false)))
  else
  ((some false))
def ref32_SameCalls_L1 (a1 : (List ActorCall)) (N : Nat) : List ActorCall → Nat → Unit → Option (Bool)
  | [], v3, () =>
    (some true)
  | x6 :: xs, v3, () =>
    (gx a1 ((v3 : Nat) : Int) fun x9 =>
    (ref32_SameCall N x6 x9).bind fun r10 =>
    if r10 = true then
    ((((ref32_SameCalls_L1 a1 N xs (v3 + 1)) ())))
    else
    (some false))
def ref32_SameCalls (N : Nat) (a0 : (List ActorCall)) (a1 : (List ActorCall)) : Option (Bool) :=
  if ((a0.length : Nat) : Int) = ((a1.length : Nat) : Int) then
  (((ref32_SameCalls_L1 a1 N a0 0 ())))
  else
  (some false)
def law34_reply (N : Nat) (a0 : Session) (a1 : actorgridlaw34_Act) : Option (Int) :=
  some (if (IntKind.i64.wrap (a0.Next - (IntKind.i64.wrap (Int.tmod a1.Seq 24)))) > 1 then IntKind.i64.wrap (a0.Next - (IntKind.i64.wrap (Int.tmod a1.Seq 24))) else 1)
def law34_play_J1 (N : Nat) (a0 : Session) (a1 : Int) (a2 : actorgridlaw34_Act) (kx1 : Option (Session × Bool × Bool)) (c3 : Bool) : Option (Session × Bool × Bool) :=
  if c3 = true then
  ((law34_call N).bind fun r4 =>
  (session_Submit N a0 a1 (decide ((Int.tmod a2.Seq 2) = 0)) r4).bind fun r5 =>
  if r5.2.2 = 0 then
  ((some (r5.1, true, false)))
  else
  (some (a0, false, false)))
  else
  (if (Int.tmod a2.Kind 4) = 2 then
  ((session_Resend N a0 a1).bind fun r7 =>
  some (r7.1, false, false))
  else
  (kx1))
def law34_play_J2 (N : Nat) (a0 : Session) (a2 : actorgridlaw34_Act) : Option (Session × Bool × Bool) :=
  (law34_reply N a0 a2).bind fun r8 =>
  (session_Accept N a0 (Reply.mk (⟨#[99]⟩) r8 [] 0 (Value.mk 0 0 (⟨#[]⟩) [] []))).bind fun r9 =>
  some (r9.1, false, r9.2)
def law34_play (N : Nat) (a0 : Session) (a1 : Int) (a2 : actorgridlaw34_Act) : Option (Session × Bool × Bool) :=
  if (Int.tmod a2.Kind 4) = 0 then
  (((law34_play_J1 N a0 a1 a2 (law34_play_J2 N a0 a2)) true))
  else
  (((law34_play_J1 N a0 a1 a2 (law34_play_J2 N a0 a2)) (decide ((Int.tmod a2.Kind 4) = 1))))
def law34_SessionResends_L1 (kx6 : ByteArray → Int → (List PendingSubmission) → Int → Option (Bool)) (N : Nat) : List actorgridlaw34_Act → Nat → ByteArray × Int × List PendingSubmission × Int → Option (Bool)
  | [], v11, (s7, v8, l9, v10) =>
    (kx6 s7 v8 l9 v10)
  | x14 :: xs, v11, (s7, v8, l9, v10) =>
    ((law34_play N (Session.mk s7 v8 l9) (IntKind.i64.wrap (v10 + (IntKind.i64.wrap (Int.tmod x14.After 6)))) x14).bind fun r17 =>
    (((law34_SessionResends_L1 kx6 N xs (v11 + 1)) (r17.1.Name, r17.1.Next, r17.1.Open, IntKind.i64.wrap (v10 + (IntKind.i64.wrap (Int.tmod x14.After 6)))))))
def law34_SessionResends_J1 (kx32 : Option (Bool)) (c37 : Bool) : Option (Bool) :=
  if c37 = true then
  (some false)
  else
  (kx32)
def law34_SessionResends_J2 (rec26 : Int → Option (Bool)) (v24 : Int) : Option (Bool) :=
  ((rec26 (IntKind.i64.wrap (v24 + 1))))
def law34_SessionResends_L2 (kx23 : Int → Option (Bool)) (v21 : Int) (a1 : Int) (r22 : Session × (List Submission)) (N : Nat) (s18 : ByteArray) (v19 : Int) (l20 : List PendingSubmission) : List PendingSubmission → Nat → Int → Option (Bool)
  | [], v25, v24 =>
    (kx23 v24)
  | x28 :: xs, v25, v24 =>
    (if (IntKind.i64.wrap (v21 + (IntKind.i64.wrap (Int.tmod a1 9)))) < (IntKind.i64.wrap (x28.Sent + 4)) then
    ((((law34_SessionResends_L2 kx23 v21 a1 r22 N s18 v19 l20 xs (v25 + 1)) v24)))
    else
    ((if ((r22.2.length : Nat) : Int) ≤ v24 then
    (((law34_SessionResends_J1 (law34_SessionResends_J2 (law34_SessionResends_L2 kx23 v21 a1 r22 N s18 v19 l20 xs (v25 + 1)) v24)) true))
    else
    (gx r22.2 v24 fun x34 =>
    if x34.Seq = x28.Submission_.Seq then
    ((session_Acknowledged N (Session.mk s18 v19 l20)).bind fun r35 =>
    if x34.Acked = r35 then
    ((ref32_SameCalls N x34.Calls x28.Submission_.Calls).bind fun r36 =>
    ((law34_SessionResends_J1 (law34_SessionResends_J2 (law34_SessionResends_L2 kx23 v21 a1 r22 N s18 v19 l20 xs (v25 + 1)) v24)) (!r36)))
    else
    (((law34_SessionResends_J1 (law34_SessionResends_J2 (law34_SessionResends_L2 kx23 v21 a1 r22 N s18 v19 l20 xs (v25 + 1)) v24)) true)))
    else
    (((law34_SessionResends_J1 (law34_SessionResends_J2 (law34_SessionResends_L2 kx23 v21 a1 r22 N s18 v19 l20 xs (v25 + 1)) v24)) true))))))
def law34_SessionResends_J3 (N : Nat) (r22 : Session × (List Submission)) (v21 : Int) (a1 : Int) (l20 : List PendingSubmission) (v19 : Int) (v39 : Int) : Option (Bool) :=
  (session_Resend N r22.1 (IntKind.i64.wrap (v21 + (IntKind.i64.wrap (Int.tmod a1 9))))).bind fun r40 =>
  if v39 = ((r22.2.length : Nat) : Int) then
  (if ((r40.2.length : Nat) : Int) = 0 then
  (if ((r22.1.Open.length : Nat) : Int) = ((l20.length : Nat) : Int) then
  ((some (decide (r22.1.Next = v19))))
  else
  ((some false)))
  else
  ((some false)))
  else
  ((some false))
def law34_SessionResends_J4 (N : Nat) (a1 : Int) (s18 : ByteArray) (v19 : Int) (l20 : List PendingSubmission) (v21 : Int) : Option (Bool) :=
  (session_Resend N (Session.mk s18 v19 l20) (IntKind.i64.wrap (v21 + (IntKind.i64.wrap (Int.tmod a1 9))))).bind fun r22 =>
  (law34_SessionResends_L2 (law34_SessionResends_J3 N r22 v21 a1 l20 v19) v21 a1 r22 N s18 v19 l20 l20 0 0)
def law34_SessionResends (N : Nat) (a0 : (List actorgridlaw34_Act)) (a1 : Int) : Option (Bool) :=
  (law34_awake N).bind fun r2 =>
  if r2 = true then
  ((if 80 < ((a0.length : Nat) : Int) then
  (some true)
  else
  (((session_New N (⟨#[99]⟩)).bind fun r4 =>
  if r4.2 = 0 then
  (((law34_SessionResends_L1 (law34_SessionResends_J4 N a1) N a0 0 (r4.1.Name, r4.1.Next, r4.1.Open, 0))))
  else
  (some false)))))
  else
  (some false)
end Go.Proofs.Ythgcdhclommkcaa
