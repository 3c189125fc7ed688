/- The models of the functions. No statement. -/
import Derived.Test.YtmgpaicldmgckaaT
/- The functions of the program as plain functions on plain data. -/
set_option maxHeartbeats 40000000
set_option synthInstance.maxHeartbeats 2000000
set_option synthInstance.maxSize 4000
set_option linter.unusedSimpArgs false
set_option linter.unusedVariables false
set_option maxRecDepth 100000
namespace Go.Proofs.Ytmgpaicldmgckaa
open Go Go.Proofs Go.Abs
def directory_ValidRef (N : Nat) (a0 : Ref) : Option (Bool) :=
  if 1 ≤ ((a0.Type_.size : Nat) : Int) then
  (if ((a0.Type_.size : Nat) : Int) ≤ 32 then
  ((some (decide (((a0.Key.size : Nat) : Int) ≤ 32))))
  else
  ((some false)))
  else
  ((some false))
def turns_New (N : Nat) (a0 : Ref) : Option (Actor) :=
  (directory_ValidRef N a0).bind fun r2 =>
  if r2 = true then
  ((some (Actor.mk a0 0 [])))
  else
  (some (Actor.mk (Ref.mk (⟨#[]⟩) (⟨#[]⟩)) 0 []))
def turns_number (N : Nat) (a0 : Int) : Option (Bool) :=
  if 0 ≤ a0 then
  ((some (decide (a0 ≤ 1099511627776))))
  else
  ((some false))
def turns_name (N : Nat) (a0 : ByteArray) : Option (Bool) :=
  if 1 ≤ ((a0.size : Nat) : Int) then
  ((some (decide (((a0.size : Nat) : Int) ≤ 32))))
  else
  ((some false))
def turns_validID_1 (N : Nat) (a0 : Int) : Option (Bool) :=
  (turns_number N a0).bind fun r1 =>
  some (!r1)
def slices_IndexFunc_int_turns_validID_1_L1 (N : Nat) : List Int → Nat → Unit → Option (Int)
  | [], v2, () =>
    (some (-1))
  | x5 :: xs, v2, () =>
    ((turns_validID_1 N x5).bind fun r8 =>
    if r8 = true then
    (some ((v2 : Nat) : Int))
    else
    ((((slices_IndexFunc_int_turns_validID_1_L1 N xs (v2 + 1)) ()))))
def slices_IndexFunc_int_turns_validID_1 (N : Nat) (a0 : (List Int)) : Option (Int) :=
  (slices_IndexFunc_int_turns_validID_1_L1 N a0 0 ())
def slices_ContainsFunc_int_turns_validID_1 (N : Nat) (a0 : (List Int)) : Option (Bool) :=
  (slices_IndexFunc_int_turns_validID_1 N a0).bind fun r1 =>
  some (decide (0 ≤ r1))
def turns_validID (N : Nat) (a0 : ByteArray) (a1 : Int) (a2 : (List Int)) : Option (Bool) :=
  (turns_name N a0).bind fun r2 =>
  if r2 = true then
  ((turns_number N a1).bind fun r3 =>
  if r3 = true then
  (if 0 < a1 then
  (if ((a2.length : Nat) : Int) ≤ 8 then
  ((slices_ContainsFunc_int_turns_validID_1 N a2).bind fun r4 =>
  (some (!r4)))
  else
  ((some false)))
  else
  ((some false)))
  else
  ((some false)))
  else
  ((some false))
def wire_ValidValue_J1 (kx1 : Option (Bool)) (c3 : Bool) : Option (Bool) :=
  if c3 = true then
  (some false)
  else
  (kx1)
def wire_ValidValue_J2 (kx7 : Bool → Option (Bool)) (a0 : Value) (c11 : Bool) : Option (Bool) :=
  if c11 = true then
  ((kx7 true))
  else
  (if 0 < ((a0.L.length : Nat) : Int) then
  ((kx7 (!decide (a0.Kind = 5))))
  else
  ((kx7 false)))
def wire_ValidValue_J3 (kx7 : Bool → Option (Bool)) (a0 : Value) (c9 : Bool) : Option (Bool) :=
  if c9 = true then
  ((kx7 true))
  else
  (if 0 < ((a0.I.length : Nat) : Int) then
  (((wire_ValidValue_J2 kx7 a0) (!decide (a0.Kind = 4))))
  else
  (((wire_ValidValue_J2 kx7 a0) false)))
def wire_ValidValue_J4 (kx4 : Option (Bool)) (c12 : Bool) : Option (Bool) :=
  if c12 = true then
  (some false)
  else
  (kx4)
def wire_ValidValue_J5 (a0 : Value) (kx4 : Option (Bool)) (c6 : Bool) : Option (Bool) :=
  if c6 = true then
  (some false)
  else
  (if (sEq a0.S (⟨#[]⟩)) = true then
  (((wire_ValidValue_J3 (wire_ValidValue_J4 kx4) a0) false))
  else
  (((wire_ValidValue_J3 (wire_ValidValue_J4 kx4) a0) (!decide (a0.Kind = 3)))))
def wire_ValidValue_J6 (kx13 : Option (Bool)) (c15 : Bool) : Option (Bool) :=
  if c15 = true then
  (some false)
  else
  (kx13)
def wire_ValidValue_L1  : List ByteArray → Nat → Unit → Option (Bool)
  | [], v17, () =>
    (some true)
  | x20 :: xs, v17, () =>
    (if 64 < ((x20.size : Nat) : Int) then
    (some false)
    else
    ((((wire_ValidValue_L1 xs (v17 + 1)) ()))))
def wire_ValidValue_J7 (a0 : Value) : Option (Bool) :=
  (wire_ValidValue_L1 a0.L 0 ())
def wire_ValidValue_J8 (a0 : Value) : Option (Bool) :=
  if 64 < ((a0.S.size : Nat) : Int) then
  (((wire_ValidValue_J6 (wire_ValidValue_J7 a0)) true))
  else
  (if 16 < ((a0.I.length : Nat) : Int) then
  (((wire_ValidValue_J6 (wire_ValidValue_J7 a0)) true))
  else
  (((wire_ValidValue_J6 (wire_ValidValue_J7 a0)) (decide (16 < ((a0.L.length : Nat) : Int))))))
def wire_ValidValue_J9 (a0 : Value) (N : Nat) : Option (Bool) :=
  if a0.N = 0 then
  (((wire_ValidValue_J5 a0 (wire_ValidValue_J8 a0)) false))
  else
  (if a0.Kind = 1 then
  (((wire_ValidValue_J5 a0 (wire_ValidValue_J8 a0)) false))
  else
  (if a0.Kind = 2 then
  (((wire_ValidValue_J5 a0 (wire_ValidValue_J8 a0)) (!decide (a0.N = 1))))
  else
  (((wire_ValidValue_J5 a0 (wire_ValidValue_J8 a0)) true))))
def wire_ValidValue (N : Nat) (a0 : Value) : Option (Bool) :=
  if a0.Kind < 0 then
  (((wire_ValidValue_J1 (wire_ValidValue_J9 a0 N)) true))
  else
  (((wire_ValidValue_J1 (wire_ValidValue_J9 a0 N)) (decide (5 < a0.Kind))))
def turns_validArgs_1 (N : Nat) (a0 : Value) : Option (Bool) :=
  if a0.Kind = 0 then
  ((some true))
  else
  ((wire_ValidValue N a0).bind fun r2 =>
  (some (!r2)))
def slices_IndexFunc_Value_turns_validArgs_1_L1 (N : Nat) : List Value → Nat → Unit → Option (Int)
  | [], v2, () =>
    (some (-1))
  | x5 :: xs, v2, () =>
    ((turns_validArgs_1 N x5).bind fun r8 =>
    if r8 = true then
    (some ((v2 : Nat) : Int))
    else
    ((((slices_IndexFunc_Value_turns_validArgs_1_L1 N xs (v2 + 1)) ()))))
def slices_IndexFunc_Value_turns_validArgs_1 (N : Nat) (a0 : (List Value)) : Option (Int) :=
  (slices_IndexFunc_Value_turns_validArgs_1_L1 N a0 0 ())
def slices_ContainsFunc_Value_turns_validArgs_1 (N : Nat) (a0 : (List Value)) : Option (Bool) :=
  (slices_IndexFunc_Value_turns_validArgs_1 N a0).bind fun r1 =>
  some (decide (0 ≤ r1))
def turns_validArgs (N : Nat) (a0 : (List Value)) : Option (Bool) :=
  if ((a0.length : Nat) : Int) ≤ 4 then
  ((slices_ContainsFunc_Value_turns_validArgs_1 N a0).bind fun r2 =>
  (some (!r2)))
  else
  ((some false))
def turns_ValidRequest_1 (N : Nat) (a0 : Ref) : Option (Bool) :=
  (directory_ValidRef N a0).bind fun r1 =>
  some (!r1)
def slices_IndexFunc_Ref_turns_ValidRequest_1_L1 (N : Nat) : List Ref → Nat → Unit → Option (Int)
  | [], v2, () =>
    (some (-1))
  | x5 :: xs, v2, () =>
    ((turns_ValidRequest_1 N x5).bind fun r8 =>
    if r8 = true then
    (some ((v2 : Nat) : Int))
    else
    ((((slices_IndexFunc_Ref_turns_ValidRequest_1_L1 N xs (v2 + 1)) ()))))
def slices_IndexFunc_Ref_turns_ValidRequest_1 (N : Nat) (a0 : (List Ref)) : Option (Int) :=
  (slices_IndexFunc_Ref_turns_ValidRequest_1_L1 N a0 0 ())
def slices_ContainsFunc_Ref_turns_ValidRequest_1 (N : Nat) (a0 : (List Ref)) : Option (Bool) :=
  (slices_IndexFunc_Ref_turns_ValidRequest_1 N a0).bind fun r1 =>
  some (decide (0 ≤ r1))
def turns_ValidRequest (N : Nat) (a0 : Request) : Option (Bool) :=
  (turns_validID N a0.Client a0.Seq a0.Path).bind fun r2 =>
  if r2 = true then
  ((directory_ValidRef N a0.Target).bind fun r3 =>
  if r3 = true then
  ((turns_name N a0.Method).bind fun r4 =>
  if r4 = true then
  ((turns_validArgs N a0.Args).bind fun r5 =>
  if r5 = true then
  (if ((a0.Chain.length : Nat) : Int) = ((a0.Path.length : Nat) : Int) then
  ((slices_ContainsFunc_Ref_turns_ValidRequest_1 N a0.Chain).bind fun r6 =>
  if r6 = true then
  ((some false))
  else
  ((turns_number N a0.Txn).bind fun r7 =>
  (some r7)))
  else
  ((some false)))
  else
  ((some false)))
  else
  ((some false)))
  else
  ((some false)))
  else
  ((some false))
def turns_zeroRequest (N : Nat) (a0 : Request) : Option (Bool) :=
  if (sEq a0.Client (⟨#[]⟩)) = true then
  (if a0.Seq = 0 then
  (if ((a0.Path.length : Nat) : Int) = 0 then
  (if (sEq a0.Target.Type_ (⟨#[]⟩) && sEq a0.Target.Key (⟨#[]⟩)) = true then
  (if (sEq a0.Method (⟨#[]⟩)) = true then
  (if ((a0.Args.length : Nat) : Int) = 0 then
  (if ((a0.Chain.length : Nat) : Int) = 0 then
  ((some (decide (a0.Txn = 0))))
  else
  ((some false)))
  else
  ((some false)))
  else
  ((some false)))
  else
  ((some false)))
  else
  ((some false)))
  else
  ((some false)))
  else
  ((some false))
def wire_same_int_L1 (a1 : (List Int)) : List Int → Nat → Unit → Option (Bool)
  | [], v3, () =>
    (some true)
  | x6 :: xs, v3, () =>
    (gx a1 ((v3 : Nat) : Int) fun x9 =>
    if x6 = x9 then
    ((((wire_same_int_L1 a1 xs (v3 + 1)) ())))
    else
    (some false))
def wire_same_int (N : Nat) (a0 : (List Int)) (a1 : (List Int)) : Option (Bool) :=
  if ((a0.length : Nat) : Int) = ((a1.length : Nat) : Int) then
  (((wire_same_int_L1 a1 a0 0 ())))
  else
  (some false)
def wire_same_string_L1 (a1 : (List ByteArray)) : List ByteArray → Nat → Unit → Option (Bool)
  | [], v3, () =>
    (some true)
  | x6 :: xs, v3, () =>
    (gx a1 ((v3 : Nat) : Int) fun x9 =>
    if (sEq x6 x9) = true then
    ((((wire_same_string_L1 a1 xs (v3 + 1)) ())))
    else
    (some false))
def wire_same_string (N : Nat) (a0 : (List ByteArray)) (a1 : (List ByteArray)) : Option (Bool) :=
  if ((a0.length : Nat) : Int) = ((a1.length : Nat) : Int) then
  (((wire_same_string_L1 a1 a0 0 ())))
  else
  (some false)
def wire_SameValue (N : Nat) (a0 : Value) (a1 : Value) : Option (Bool) :=
  if a0.Kind = a1.Kind then
  (if a0.N = a1.N then
  (if (sEq a0.S a1.S) = true then
  ((wire_same_int N a0.I a1.I).bind fun r2 =>
  if r2 = true then
  ((wire_same_string N a0.L a1.L).bind fun r3 =>
  (some r3))
  else
  ((some false)))
  else
  ((some false)))
  else
  ((some false)))
  else
  ((some false))
def turns_zeroReply (N : Nat) (a0 : Reply) : Option (Bool) :=
  if (sEq a0.Client (⟨#[]⟩)) = true then
  (if a0.Seq = 0 then
  (if ((a0.Path.length : Nat) : Int) = 0 then
  (if a0.Err = 0 then
  ((wire_SameValue N a0.Value_ (Value.mk 0 0 (⟨#[]⟩) [] [])).bind fun r2 =>
  (some r2))
  else
  ((some false)))
  else
  ((some false)))
  else
  ((some false)))
  else
  ((some false))
def slices_Clone_int (N : Nat) (a0 : (List Int)) : Option ((List Int)) :=
  (apn 7 a0 <|
  some a0)
def slices_Equal_int_L1 (a1 : (List Int)) : List Int → Nat → Unit → Option (Bool)
  | [], v3, () =>
    (some true)
  | x6 :: xs, v3, () =>
    (gx a1 ((v3 : Nat) : Int) fun x9 =>
    if x6 = x9 then
    ((((slices_Equal_int_L1 a1 xs (v3 + 1)) ())))
    else
    (some false))
def slices_Equal_int (N : Nat) (a0 : (List Int)) (a1 : (List Int)) : Option (Bool) :=
  if ((a0.length : Nat) : Int) = ((a1.length : Nat) : Int) then
  (((slices_Equal_int_L1 a1 a0 0 ())))
  else
  (some false)
def slices_Clone_Ref (N : Nat) (a0 : (List Ref)) : Option ((List Ref)) :=
  (apn 31 a0 <|
  some a0)
def slices_Equal_Ref_L1 (a1 : (List Ref)) : List Ref → Nat → Unit → Option (Bool)
  | [], v3, () =>
    (some true)
  | x6 :: xs, v3, () =>
    (gx a1 ((v3 : Nat) : Int) fun x9 =>
    if (sEq x6.Type_ x9.Type_ && sEq x6.Key x9.Key) = true then
    ((((slices_Equal_Ref_L1 a1 xs (v3 + 1)) ())))
    else
    (some false))
def slices_Equal_Ref (N : Nat) (a0 : (List Ref)) (a1 : (List Ref)) : Option (Bool) :=
  if ((a0.length : Nat) : Int) = ((a1.length : Nat) : Int) then
  (((slices_Equal_Ref_L1 a1 a0 0 ())))
  else
  (some false)
def turns_validCall_J1 (kx1 : Option (Bool)) (c4 : Bool) : Option (Bool) :=
  if c4 = true then
  (some false)
  else
  (kx1)
def turns_validCall_J2 (N : Nat) (a1 : Turn) (a0 : Ref) : Option (Bool) :=
  (slices_Clone_int N a1.Request_.Path).bind fun r6 =>
  apx 7 r6 [IntKind.i64.wrap (a1.Calls - 1)] fun l7 =>
  (slices_Equal_int N a1.Call.Path l7).bind fun r8 =>
  if r8 = true then
  ((slices_Clone_Ref N a1.Request_.Chain).bind fun r9 =>
  apx 31 r9 [a0] fun l10 =>
  (slices_Equal_Ref N a1.Call.Chain l10).bind fun r11 =>
  (some r11))
  else
  ((some false))
def turns_validCall (N : Nat) (a0 : Ref) (a1 : Turn) : Option (Bool) :=
  (turns_ValidRequest N a1.Call).bind fun r3 =>
  if r3 = true then
  (if a1.Calls < 1 then
  (((turns_validCall_J1 (turns_validCall_J2 N a1 a0)) true))
  else
  (if (sEq a1.Call.Client a1.Request_.Client) = true then
  (if a1.Call.Seq = a1.Request_.Seq then
  (((turns_validCall_J1 (turns_validCall_J2 N a1 a0)) (!decide (a1.Call.Txn = a1.Request_.Txn))))
  else
  (((turns_validCall_J1 (turns_validCall_J2 N a1 a0)) true)))
  else
  (((turns_validCall_J1 (turns_validCall_J2 N a1 a0)) true))))
  else
  (((turns_validCall_J1 (turns_validCall_J2 N a1 a0)) true))
def turns_ValidReply (N : Nat) (a0 : Reply) : Option (Bool) :=
  (turns_validID N a0.Client a0.Seq a0.Path).bind fun r2 =>
  if r2 = true then
  (if 0 ≤ a0.Err then
  (if a0.Err ≤ 27 then
  ((wire_ValidValue N a0.Value_).bind fun r3 =>
  if r3 = true then
  (if a0.Err = 0 then
  ((some true))
  else
  ((some (decide (a0.Value_.Kind = 0)))))
  else
  ((some false)))
  else
  ((some false)))
  else
  ((some false)))
  else
  ((some false))
def turns_SameID (N : Nat) (a0 : Request) (a1 : ByteArray) (a2 : Int) (a3 : (List Int)) : Option (Bool) :=
  if (sEq a0.Client a1) = true then
  (if a0.Seq = a2 then
  ((slices_Equal_int N a0.Path a3).bind fun r2 =>
  (some r2))
  else
  ((some false)))
  else
  ((some false))
def turns_validTurn_J1 (kx1 : Option (Bool)) (c5 : Bool) : Option (Bool) :=
  if c5 = true then
  (some false)
  else
  (kx1)
def turns_validTurn_J2 (N : Nat) (a1 : Turn) (a0 : Ref) : Option (Bool) :=
  (turns_zeroRequest N a1.Call).bind fun r7 =>
  if r7 = true then
  (if a1.Started = true then
  ((some false))
  else
  (if a1.Done = true then
  ((some false))
  else
  ((turns_zeroReply N a1.Reply_).bind fun r9 =>
  (some r9))))
  else
  (((turns_validCall N a0 a1).bind fun r12 =>
  if r12 = true then
  ((if a1.Done = true then
  ((if a1.Started = true then
  ((turns_ValidReply N a1.Reply_).bind fun r16 =>
  if r16 = true then
  ((turns_SameID N a1.Call a1.Reply_.Client a1.Reply_.Seq a1.Reply_.Path).bind fun r17 =>
  (some r17))
  else
  ((some false)))
  else
  ((some false))))
  else
  ((turns_zeroReply N a1.Reply_).bind fun r14 =>
  some r14)))
  else
  (some false)))
def turns_validTurn (N : Nat) (a0 : Ref) (a1 : Turn) : Option (Bool) :=
  (turns_ValidRequest N a1.Request_).bind fun r3 =>
  if r3 = true then
  (if (sEq a1.Request_.Target.Type_ a0.Type_ && sEq a1.Request_.Target.Key a0.Key) = true then
  ((turns_number N a1.Calls).bind fun r4 =>
  ((turns_validTurn_J1 (turns_validTurn_J2 N a1 a0)) (!r4)))
  else
  (((turns_validTurn_J1 (turns_validTurn_J2 N a1 a0)) true)))
  else
  (((turns_validTurn_J1 (turns_validTurn_J2 N a1 a0)) true))
def turns_running (N : Nat) (a0 : Turn) : Option (Bool) :=
  (turns_zeroRequest N a0.Call).bind fun r1 =>
  some r1
def turns_waits (N : Nat) (a0 : Turn) : Option (Bool) :=
  (turns_running N a0).bind fun r2 =>
  if r2 = true then
  ((some false))
  else
  (if a0.Started = true then
  ((some (!a0.Done)))
  else
  ((some false)))
def turns_Descends (N : Nat) (a0 : Request) (a1 : Request) : Option (Bool) :=
  if (sEq a0.Client a1.Client) = true then
  (if a0.Seq = a1.Seq then
  (if ((a1.Path.length : Nat) : Int) ≤ ((a0.Path.length : Nat) : Int) then
  (slx a0.Path 0 ((a1.Path.length : Nat) : Int) fun l2 =>
  (slices_Equal_int N l2 a1.Path).bind fun r3 =>
  (some r3))
  else
  ((some false)))
  else
  ((some false)))
  else
  ((some false))
def turns_Valid_J1 (kx1 : Option (Bool)) (c5 : Bool) : Option (Bool) :=
  if c5 = true then
  (some false)
  else
  (kx1)
def turns_Valid_J2 (rec8 : Unit → Option (Bool)) (c20 : Bool) : Option (Bool) :=
  if c20 = true then
  (some false)
  else
  (((rec8 ())))
def turns_Valid_L1 (N : Nat) (a0 : Actor) : List Turn → Nat → Unit → Option (Bool)
  | [], v7, () =>
    (some true)
  | x10 :: xs, v7, () =>
    ((turns_validTurn N a0.Self x10).bind fun r14 =>
    if r14 = true then
    ((if ((v7 : Nat) : Int) = 0 then
    ((((turns_Valid_L1 N a0 xs (v7 + 1)) ())))
    else
    ((gx a0.Stack (IntKind.i64.wrap (((v7 : Nat) : Int) - 1)) fun x16 =>
    (turns_waits N x16).bind fun r18 =>
    if r18 = true then
    ((turns_Descends N x10.Request_ x16.Call).bind fun r19 =>
    ((turns_Valid_J2 (turns_Valid_L1 N a0 xs (v7 + 1))) (!r19)))
    else
    (((turns_Valid_J2 (turns_Valid_L1 N a0 xs (v7 + 1))) true))))))
    else
    (some false))
def turns_Valid_J3 (N : Nat) (a0 : Actor) : Option (Bool) :=
  (turns_Valid_L1 N a0 a0.Stack 0 ())
def turns_Valid (N : Nat) (a0 : Actor) : Option (Bool) :=
  (directory_ValidRef N a0.Self).bind fun r3 =>
  if r3 = true then
  ((turns_number N a0.Index).bind fun r4 =>
  if r4 = true then
  (((turns_Valid_J1 (turns_Valid_J3 N a0)) (decide (9 < ((a0.Stack.length : Nat) : Int)))))
  else
  (((turns_Valid_J1 (turns_Valid_J3 N a0)) true)))
  else
  (((turns_Valid_J1 (turns_Valid_J3 N a0)) true))
def turns_Admits_1 (N : Nat) (a0 : Turn) (c0_0 : ByteArray) (c0_1 : Int) (c0_2 : (List Int)) (c0_3 : ByteArray) (c0_4 : ByteArray) (c0_5 : ByteArray) (c0_6 : (List Value)) (c0_7 : (List Ref)) (c0_8 : Int) : Option (Bool) :=
  (turns_SameID N a0.Request_ c0_0 c0_1 c0_2).bind fun r1 =>
  some r1
def slices_IndexFunc_Turn_turns_Admits_1_L1 (N : Nat) (k1_0_0 : ByteArray) (k1_0_1 : Int) (k1_0_2 : (List Int)) (k1_0_3 : ByteArray) (k1_0_4 : ByteArray) (k1_0_5 : ByteArray) (k1_0_6 : (List Value)) (k1_0_7 : (List Ref)) (k1_0_8 : Int) : List Turn → Nat → Unit → Option (Int)
  | [], v2, () =>
    (some (-1))
  | x5 :: xs, v2, () =>
    ((turns_Admits_1 N x5 k1_0_0 k1_0_1 k1_0_2 k1_0_3 k1_0_4 k1_0_5 k1_0_6 k1_0_7 k1_0_8).bind fun r8 =>
    if r8 = true then
    (some ((v2 : Nat) : Int))
    else
    ((((slices_IndexFunc_Turn_turns_Admits_1_L1 N k1_0_0 k1_0_1 k1_0_2 k1_0_3 k1_0_4 k1_0_5 k1_0_6 k1_0_7 k1_0_8 xs (v2 + 1)) ()))))
def slices_IndexFunc_Turn_turns_Admits_1 (N : Nat) (a0 : (List Turn)) (k1_0_0 : ByteArray) (k1_0_1 : Int) (k1_0_2 : (List Int)) (k1_0_3 : ByteArray) (k1_0_4 : ByteArray) (k1_0_5 : ByteArray) (k1_0_6 : (List Value)) (k1_0_7 : (List Ref)) (k1_0_8 : Int) : Option (Int) :=
  (slices_IndexFunc_Turn_turns_Admits_1_L1 N k1_0_0 k1_0_1 k1_0_2 k1_0_3 k1_0_4 k1_0_5 k1_0_6 k1_0_7 k1_0_8 a0 0 ())
def slices_ContainsFunc_Turn_turns_Admits_1 (N : Nat) (a0 : (List Turn)) (k1_0_0 : ByteArray) (k1_0_1 : Int) (k1_0_2 : (List Int)) (k1_0_3 : ByteArray) (k1_0_4 : ByteArray) (k1_0_5 : ByteArray) (k1_0_6 : (List Value)) (k1_0_7 : (List Ref)) (k1_0_8 : Int) : Option (Bool) :=
  (slices_IndexFunc_Turn_turns_Admits_1 N a0 k1_0_0 k1_0_1 k1_0_2 k1_0_3 k1_0_4 k1_0_5 k1_0_6 k1_0_7 k1_0_8).bind fun r1 =>
  some (decide (0 ≤ r1))
def turns_top (N : Nat) (a0 : Actor) : Option (Turn × Bool) :=
  if ((a0.Stack.length : Nat) : Int) = 0 then
  (some ((Turn.mk (Request.mk (⟨#[]⟩) 0 [] (Ref.mk (⟨#[]⟩) (⟨#[]⟩)) (⟨#[]⟩) [] [] 0) 0 (Request.mk (⟨#[]⟩) 0 [] (Ref.mk (⟨#[]⟩) (⟨#[]⟩)) (⟨#[]⟩) [] [] 0) false false (Reply.mk (⟨#[]⟩) 0 [] 0 (Value.mk 0 0 (⟨#[]⟩) [] []))), false))
  else
  ((gx a0.Stack (IntKind.i64.wrap (((a0.Stack.length : Nat) : Int) - 1)) fun x2 =>
  some (x2, true)))
def turns_Admits_J1 (kx1 : Option (Int)) (c5 : Bool) : Option (Int) :=
  if c5 = true then
  (some 1)
  else
  (kx1)
def turns_Admits_J2 (kx8 : Option (Int)) (c13 : Bool) : Option (Int) :=
  if c13 = true then
  (some 12)
  else
  (kx8)
def turns_Admits_J3 (a0 : Actor) : Option (Int) :=
  if ((a0.Stack.length : Nat) : Int) = 9 then
  (some 5)
  else
  ((some 0))
def turns_Admits_J4 (N : Nat) (a0 : Actor) (a1 : Request) : Option (Int) :=
  (slices_ContainsFunc_Turn_turns_Admits_1 N a0.Stack a1.Client a1.Seq a1.Path a1.Target.Type_ a1.Target.Key a1.Method a1.Args a1.Chain a1.Txn).bind fun r7 =>
  if r7 = true then
  (some 7)
  else
  (((turns_top N a0).bind fun r9 =>
  if r9.2 = true then
  ((turns_waits N r9.1).bind fun r11 =>
  if r11 = true then
  ((turns_Descends N a1 r9.1.Call).bind fun r12 =>
  ((turns_Admits_J2 (turns_Admits_J3 a0)) (!r12)))
  else
  (((turns_Admits_J2 (turns_Admits_J3 a0)) true)))
  else
  (((turns_Admits_J2 (turns_Admits_J3 a0)) false))))
def turns_Admits (N : Nat) (a0 : Actor) (a1 : Request) : Option (Int) :=
  (turns_Valid N a0).bind fun r3 =>
  if r3 = true then
  ((turns_ValidRequest N a1).bind fun r4 =>
  if r4 = true then
  (((turns_Admits_J1 (turns_Admits_J4 N a0 a1)) (!(sEq a1.Target.Type_ a0.Self.Type_ && sEq a1.Target.Key a0.Self.Key))))
  else
  (((turns_Admits_J1 (turns_Admits_J4 N a0 a1)) true)))
  else
  (((turns_Admits_J1 (turns_Admits_J4 N a0 a1)) true))
def slices_Clone_Turn (N : Nat) (a0 : (List Turn)) : Option ((List Turn)) :=
  (apn 455 a0 <|
  some a0)
def slices_Clone_Value (N : Nat) (a0 : (List Value)) : Option ((List Value)) :=
  (apn 79 a0 <|
  some a0)
def slices_Clone_string (N : Nat) (a0 : (List ByteArray)) : Option ((List ByteArray)) :=
  (apn 15 a0 <|
  some a0)
def turns_cloneValues_L1 (N : Nat) : Nat → Nat → List Value → Option ((List Value))
  | 0, v4, l3 =>
    (some l3)
  | m + 1, v4, l3 =>
    (gx l3 ((v4 : Nat) : Int) fun x9 =>
    (slices_Clone_int N x9.I).bind fun r10 =>
    (slices_Clone_string N x9.L).bind fun r11 =>
    (((turns_cloneValues_L1 N m (v4 + 1)) (l3.set v4 (Value.mk x9.Kind x9.N x9.S r10 r11)))))
def turns_cloneValues (N : Nat) (a0 : (List Value)) : Option ((List Value)) :=
  (slices_Clone_Value N a0).bind fun r1 =>
  (turns_cloneValues_L1 N (r1.length - 0) 0 r1)
def turns_cloneRequest (N : Nat) (a0 : Request) : Option (Request) :=
  (slices_Clone_int N a0.Path).bind fun r1 =>
  (turns_cloneValues N a0.Args).bind fun r2 =>
  (slices_Clone_Ref N a0.Chain).bind fun r3 =>
  some (Request.mk a0.Client a0.Seq r1 a0.Target a0.Method r2 r3 a0.Txn)
def turns_cloneReply (N : Nat) (a0 : Reply) : Option (Reply) :=
  (slices_Clone_int N a0.Path).bind fun r1 =>
  (slices_Clone_int N a0.Value_.I).bind fun r2 =>
  (slices_Clone_string N a0.Value_.L).bind fun r3 =>
  some (Reply.mk a0.Client a0.Seq r1 a0.Err (Value.mk a0.Value_.Kind a0.Value_.N a0.Value_.S r2 r3))
def turns_cloneActor_L1 (a0 : Actor) (N : Nat) : Nat → Nat → List Turn → Option (Actor)
  | 0, v4, l3 =>
    (some (Actor.mk a0.Self a0.Index l3))
  | m + 1, v4, l3 =>
    (gx l3 ((v4 : Nat) : Int) fun x9 =>
    (turns_cloneRequest N x9.Request_).bind fun r10 =>
    (turns_cloneRequest N x9.Call).bind fun r11 =>
    (turns_cloneReply N x9.Reply_).bind fun r12 =>
    (((turns_cloneActor_L1 a0 N m (v4 + 1)) (l3.set v4 (Turn.mk r10 x9.Calls r11 x9.Started x9.Done r12)))))
def turns_cloneActor (N : Nat) (a0 : Actor) : Option (Actor) :=
  (slices_Clone_Turn N a0.Stack).bind fun r1 =>
  (turns_cloneActor_L1 a0 N (r1.length - 0) 0 r1)
def turns_changed (N : Nat) (a0 : Actor) (a1 : Int) (a2 : (List Turn)) : Option (Actor × Int) :=
  if a0.Index = 1099511627776 then
  (some ((Actor.mk (Ref.mk (⟨#[]⟩) (⟨#[]⟩)) 0 []), 5))
  else
  ((slt a0.Stack a1 fun l2 =>
  apx 455 l2 a2 fun l3 =>
  (turns_cloneActor N (Actor.mk a0.Self (IntKind.i64.wrap (a0.Index + 1)) l3)).bind fun r4 =>
  some (r4, 0)))
def turns_Begin (N : Nat) (a0 : Actor) (a1 : Request) : Option (Actor × Int) :=
  (turns_Admits N a0 a1).bind fun r2 =>
  if r2 = 0 then
  (((turns_changed N a0 ((a0.Stack.length : Nat) : Int) [(Turn.mk a1 0 (Request.mk (⟨#[]⟩) 0 [] (Ref.mk (⟨#[]⟩) (⟨#[]⟩)) (⟨#[]⟩) [] [] 0) false false (Reply.mk (⟨#[]⟩) 0 [] 0 (Value.mk 0 0 (⟨#[]⟩) [] [])))]).bind fun r3 =>
  some (r3.1, r3.2)))
  else
  (some ((Actor.mk (Ref.mk (⟨#[]⟩) (⟨#[]⟩)) 0 []), r2))
def turns_Nested_J1 (kx1 : Option (Request × Int)) (c9 : Bool) : Option (Request × Int) :=
  if c9 = true then
  (some ((Request.mk (⟨#[]⟩) 0 [] (Ref.mk (⟨#[]⟩) (⟨#[]⟩)) (⟨#[]⟩) [] [] 0), 1))
  else
  (kx1)
def turns_Nested_J2 (kx10 : Option (Request × Int)) (c12 : Bool) : Option (Request × Int) :=
  if c12 = true then
  (some ((Request.mk (⟨#[]⟩) 0 [] (Ref.mk (⟨#[]⟩) (⟨#[]⟩)) (⟨#[]⟩) [] [] 0), 5))
  else
  (kx10)
def turns_Nested_J3 (N : Nat) (a0 : Turn) (a1 : Ref) (a4 : (List Value)) (a2 : Ref) (a3 : ByteArray) : Option (Request × Int) :=
  (turns_cloneRequest N a0.Request_).bind fun r13 =>
  apx 7 r13.Path [a0.Calls] fun l14 =>
  apx 31 r13.Chain [a1] fun l15 =>
  (turns_cloneValues N a4).bind fun r16 =>
  some ((Request.mk r13.Client r13.Seq l14 a2 a3 r16 l15 r13.Txn), 0)
def turns_Nested_J4 (a0 : Turn) (N : Nat) (a1 : Ref) (a4 : (List Value)) (a2 : Ref) (a3 : ByteArray) : Option (Request × Int) :=
  if ((a0.Request_.Path.length : Nat) : Int) = 8 then
  (((turns_Nested_J2 (turns_Nested_J3 N a0 a1 a4 a2 a3)) true))
  else
  (((turns_Nested_J2 (turns_Nested_J3 N a0 a1 a4 a2 a3)) (decide (a0.Calls = 1099511627776))))
def turns_Nested (N : Nat) (a0 : Turn) (a1 : Ref) (a2 : Ref) (a3 : ByteArray) (a4 : (List Value)) : Option (Request × Int) :=
  (turns_ValidRequest N a0.Request_).bind fun r3 =>
  if r3 = true then
  ((turns_number N a0.Calls).bind fun r4 =>
  if r4 = true then
  ((directory_ValidRef N a1).bind fun r5 =>
  if r5 = true then
  ((directory_ValidRef N a2).bind fun r6 =>
  if r6 = true then
  ((turns_name N a3).bind fun r7 =>
  if r7 = true then
  ((turns_validArgs N a4).bind fun r8 =>
  ((turns_Nested_J1 (turns_Nested_J4 a0 N a1 a4 a2 a3)) (!r8)))
  else
  (((turns_Nested_J1 (turns_Nested_J4 a0 N a1 a4 a2 a3)) true)))
  else
  (((turns_Nested_J1 (turns_Nested_J4 a0 N a1 a4 a2 a3)) true)))
  else
  (((turns_Nested_J1 (turns_Nested_J4 a0 N a1 a4 a2 a3)) true)))
  else
  (((turns_Nested_J1 (turns_Nested_J4 a0 N a1 a4 a2 a3)) true)))
  else
  (((turns_Nested_J1 (turns_Nested_J4 a0 N a1 a4 a2 a3)) true))
def turns_replaced (N : Nat) (a0 : Actor) (a1 : Turn) : Option (Actor × Int) :=
  (turns_changed N a0 (IntKind.i64.wrap (((a0.Stack.length : Nat) : Int) - 1)) [a1]).bind fun r1 =>
  some (r1.1, r1.2)
def turns_Suspend_J1 (kx1 : Option (Actor × Int)) (c7 : Bool) : Option (Actor × Int) :=
  if c7 = true then
  (some ((Actor.mk (Ref.mk (⟨#[]⟩) (⟨#[]⟩)) 0 []), 1))
  else
  (kx1)
def turns_Suspend_J2 (kx9 : Option (Actor × Int)) (c12 : Bool) : Option (Actor × Int) :=
  if c12 = true then
  (some ((Actor.mk (Ref.mk (⟨#[]⟩) (⟨#[]⟩)) 0 []), 6))
  else
  (kx9)
def turns_Suspend_J3 (N : Nat) (r8 : Turn × Bool) (a0 : Actor) (a1 : Ref) (a2 : ByteArray) (a3 : (List Value)) : Option (Actor × Int) :=
  (turns_Nested N r8.1 a0.Self a1 a2 a3).bind fun r13 =>
  if r13.2 = 0 then
  (((turns_replaced N a0 (Turn.mk r8.1.Request_ (IntKind.i64.wrap (r8.1.Calls + 1)) r13.1 r8.1.Started r8.1.Done r8.1.Reply_)).bind fun r15 =>
  some (r15.1, r15.2)))
  else
  (some ((Actor.mk (Ref.mk (⟨#[]⟩) (⟨#[]⟩)) 0 []), r13.2))
def turns_Suspend_J4 (N : Nat) (a0 : Actor) (a1 : Ref) (a2 : ByteArray) (a3 : (List Value)) : Option (Actor × Int) :=
  (turns_top N a0).bind fun r8 =>
  if r8.2 = true then
  ((turns_running N r8.1).bind fun r11 =>
  ((turns_Suspend_J2 (turns_Suspend_J3 N r8 a0 a1 a2 a3)) (!r11)))
  else
  (((turns_Suspend_J2 (turns_Suspend_J3 N r8 a0 a1 a2 a3)) true))
def turns_Suspend (N : Nat) (a0 : Actor) (a1 : Ref) (a2 : ByteArray) (a3 : (List Value)) : Option (Actor × Int) :=
  (turns_Valid N a0).bind fun r3 =>
  if r3 = true then
  ((directory_ValidRef N a1).bind fun r4 =>
  if r4 = true then
  ((turns_name N a2).bind fun r5 =>
  if r5 = true then
  ((turns_validArgs N a3).bind fun r6 =>
  ((turns_Suspend_J1 (turns_Suspend_J4 N a0 a1 a2 a3)) (!r6)))
  else
  (((turns_Suspend_J1 (turns_Suspend_J4 N a0 a1 a2 a3)) true)))
  else
  (((turns_Suspend_J1 (turns_Suspend_J4 N a0 a1 a2 a3)) true)))
  else
  (((turns_Suspend_J1 (turns_Suspend_J4 N a0 a1 a2 a3)) true))
def turns_suspended (N : Nat) (a0 : Actor) : Option (Turn × Bool) :=
  (turns_top N a0).bind fun r1 =>
  if r1.2 = true then
  ((turns_running N r1.1).bind fun r3 =>
  (some (r1.1, (!r3))))
  else
  ((some (r1.1, false)))
def turns_StartCall_J1 (r3 : Turn × Bool) (kx4 : Option (Actor × Int)) (c7 : Bool) : Option (Actor × Int) :=
  if c7 = true then
  (some ((Actor.mk (Ref.mk (⟨#[]⟩) (⟨#[]⟩)) 0 []), 6))
  else
  (if r3.1.Started = true then
  (some ((Actor.mk (Ref.mk (⟨#[]⟩) (⟨#[]⟩)) 0 []), 7))
  else
  (kx4))
def turns_StartCall_J2 (N : Nat) (a0 : Actor) (r3 : Turn × Bool) : Option (Actor × Int) :=
  (turns_replaced N a0 (Turn.mk r3.1.Request_ r3.1.Calls r3.1.Call true r3.1.Done r3.1.Reply_)).bind fun r8 =>
  some (r8.1, r8.2)
def turns_StartCall (N : Nat) (a0 : Actor) (a1 : ByteArray) (a2 : Int) (a3 : (List Int)) : Option (Actor × Int) :=
  (turns_Valid N a0).bind fun r2 =>
  if r2 = true then
  (((turns_suspended N a0).bind fun r3 =>
  if r3.2 = true then
  ((turns_SameID N r3.1.Call a1 a2 a3).bind fun r6 =>
  ((turns_StartCall_J1 r3 (turns_StartCall_J2 N a0 r3)) (!r6)))
  else
  (((turns_StartCall_J1 r3 (turns_StartCall_J2 N a0 r3)) true))))
  else
  (some ((Actor.mk (Ref.mk (⟨#[]⟩) (⟨#[]⟩)) 0 []), 1))
def turns_Waiting_J1 (kx2 : Option (Request × Bool)) (c5 : Bool) : Option (Request × Bool) :=
  if c5 = true then
  (some ((Request.mk (⟨#[]⟩) 0 [] (Ref.mk (⟨#[]⟩) (⟨#[]⟩)) (⟨#[]⟩) [] [] 0), false))
  else
  (kx2)
def turns_Waiting_J2 (N : Nat) (r1 : Turn × Bool) : Option (Request × Bool) :=
  (turns_cloneRequest N r1.1.Call).bind fun r6 =>
  some (r6, true)
def turns_Waiting (N : Nat) (a0 : Actor) : Option (Request × Bool) :=
  (turns_suspended N a0).bind fun r1 =>
  (turns_Valid N a0).bind fun r4 =>
  if r4 = true then
  (if r1.2 = true then
  (((turns_Waiting_J1 (turns_Waiting_J2 N r1)) r1.1.Done))
  else
  (((turns_Waiting_J1 (turns_Waiting_J2 N r1)) true)))
  else
  (((turns_Waiting_J1 (turns_Waiting_J2 N r1)) true))
def turns_Answer_J1 (kx1 : Option (Actor × Int)) (c5 : Bool) : Option (Actor × Int) :=
  if c5 = true then
  (some ((Actor.mk (Ref.mk (⟨#[]⟩) (⟨#[]⟩)) 0 []), 1))
  else
  (kx1)
def turns_Answer_J2 (kx7 : Option (Actor × Int)) (c12 : Bool) : Option (Actor × Int) :=
  if c12 = true then
  (some ((Actor.mk (Ref.mk (⟨#[]⟩) (⟨#[]⟩)) 0 []), 8))
  else
  (kx7)
def turns_Answer_J3 (r6 : Turn × Bool) (kx7 : Option (Actor × Int)) (c10 : Bool) : Option (Actor × Int) :=
  if c10 = true then
  (some ((Actor.mk (Ref.mk (⟨#[]⟩) (⟨#[]⟩)) 0 []), 6))
  else
  (if r6.1.Started = true then
  (((turns_Answer_J2 kx7) r6.1.Done))
  else
  (((turns_Answer_J2 kx7) true)))
def turns_Answer_J4 (N : Nat) (a0 : Actor) (r6 : Turn × Bool) (a1 : Reply) : Option (Actor × Int) :=
  (turns_replaced N a0 (Turn.mk r6.1.Request_ r6.1.Calls r6.1.Call r6.1.Started true a1)).bind fun r13 =>
  some (r13.1, r13.2)
def turns_Answer_J5 (N : Nat) (a0 : Actor) (a1 : Reply) : Option (Actor × Int) :=
  (turns_suspended N a0).bind fun r6 =>
  if r6.2 = true then
  ((turns_SameID N r6.1.Call a1.Client a1.Seq a1.Path).bind fun r9 =>
  ((turns_Answer_J3 r6 (turns_Answer_J4 N a0 r6 a1)) (!r9)))
  else
  (((turns_Answer_J3 r6 (turns_Answer_J4 N a0 r6 a1)) true))
def turns_Answer (N : Nat) (a0 : Actor) (a1 : Reply) : Option (Actor × Int) :=
  (turns_Valid N a0).bind fun r3 =>
  if r3 = true then
  ((turns_ValidReply N a1).bind fun r4 =>
  ((turns_Answer_J1 (turns_Answer_J5 N a0 a1)) (!r4)))
  else
  (((turns_Answer_J1 (turns_Answer_J5 N a0 a1)) true))
def turns_Resume (N : Nat) (a0 : Actor) : Option (Actor × Reply × Int) :=
  (turns_Valid N a0).bind fun r2 =>
  if r2 = true then
  (((turns_suspended N a0).bind fun r3 =>
  if r3.2 = true then
  (if r3.1.Done = true then
  (((turns_replaced N a0 (Turn.mk r3.1.Request_ r3.1.Calls (Request.mk (⟨#[]⟩) 0 [] (Ref.mk (⟨#[]⟩) (⟨#[]⟩)) (⟨#[]⟩) [] [] 0) false false (Reply.mk (⟨#[]⟩) 0 [] 0 (Value.mk 0 0 (⟨#[]⟩) [] [])))).bind fun r5 =>
  if r5.2 = 0 then
  (((turns_cloneReply N r3.1.Reply_).bind fun r7 =>
  some (r5.1, r7, 0)))
  else
  (some ((Actor.mk (Ref.mk (⟨#[]⟩) (⟨#[]⟩)) 0 []), (Reply.mk (⟨#[]⟩) 0 [] 0 (Value.mk 0 0 (⟨#[]⟩) [] [])), r5.2))))
  else
  (some ((Actor.mk (Ref.mk (⟨#[]⟩) (⟨#[]⟩)) 0 []), (Reply.mk (⟨#[]⟩) 0 [] 0 (Value.mk 0 0 (⟨#[]⟩) [] [])), 12)))
  else
  (some ((Actor.mk (Ref.mk (⟨#[]⟩) (⟨#[]⟩)) 0 []), (Reply.mk (⟨#[]⟩) 0 [] 0 (Value.mk 0 0 (⟨#[]⟩) [] [])), 6))))
  else
  (some ((Actor.mk (Ref.mk (⟨#[]⟩) (⟨#[]⟩)) 0 []), (Reply.mk (⟨#[]⟩) 0 [] 0 (Value.mk 0 0 (⟨#[]⟩) [] [])), 1))
def turns_End_J1 (kx4 : Option (Actor × Request × Int)) (c7 : Bool) : Option (Actor × Request × Int) :=
  if c7 = true then
  (some ((Actor.mk (Ref.mk (⟨#[]⟩) (⟨#[]⟩)) 0 []), (Request.mk (⟨#[]⟩) 0 [] (Ref.mk (⟨#[]⟩) (⟨#[]⟩)) (⟨#[]⟩) [] [] 0), 6))
  else
  (kx4)
def turns_End_J2 (N : Nat) (a0 : Actor) (r3 : Turn × Bool) : Option (Actor × Request × Int) :=
  (turns_changed N a0 (IntKind.i64.wrap (((a0.Stack.length : Nat) : Int) - 1)) []).bind fun r8 =>
  if r8.2 = 0 then
  (((turns_cloneRequest N r3.1.Request_).bind fun r10 =>
  some (r8.1, r10, 0)))
  else
  (some ((Actor.mk (Ref.mk (⟨#[]⟩) (⟨#[]⟩)) 0 []), (Request.mk (⟨#[]⟩) 0 [] (Ref.mk (⟨#[]⟩) (⟨#[]⟩)) (⟨#[]⟩) [] [] 0), r8.2))
def turns_End (N : Nat) (a0 : Actor) : Option (Actor × Request × Int) :=
  (turns_Valid N a0).bind fun r2 =>
  if r2 = true then
  (((turns_top N a0).bind fun r3 =>
  if r3.2 = true then
  ((turns_running N r3.1).bind fun r6 =>
  ((turns_End_J1 (turns_End_J2 N a0 r3)) (!r6)))
  else
  (((turns_End_J1 (turns_End_J2 N a0 r3)) true))))
  else
  (some ((Actor.mk (Ref.mk (⟨#[]⟩) (⟨#[]⟩)) 0 []), (Request.mk (⟨#[]⟩) 0 [] (Ref.mk (⟨#[]⟩) (⟨#[]⟩)) (⟨#[]⟩) [] [] 0), 1))
def law24_awake (N : Nat)  : Option (Bool) :=
  (turns_New N (Ref.mk (⟨#[65]⟩) (⟨#[97]⟩))).bind fun r1 =>
  (turns_Begin N r1 (Request.mk (⟨#[99]⟩) 1 [] (Ref.mk (⟨#[65]⟩) (⟨#[97]⟩)) (⟨#[109]⟩) [] [] 0)).bind fun r2 =>
  (turns_Suspend N r2.1 (Ref.mk (⟨#[66]⟩) (⟨#[]⟩)) (⟨#[110]⟩) []).bind fun r3 =>
  (turns_Admits N r3.1 (Request.mk (⟨#[100]⟩) 1 [] (Ref.mk (⟨#[65]⟩) (⟨#[97]⟩)) (⟨#[109]⟩) [] [] 0)).bind fun r4 =>
  (turns_StartCall N r3.1 (⟨#[99]⟩) 1 [0]).bind fun r5 =>
  (turns_Admits N r5.1 (Request.mk (⟨#[99]⟩) 1 [0, 0] (Ref.mk (⟨#[65]⟩) (⟨#[97]⟩)) (⟨#[109]⟩) [] [(Ref.mk (⟨#[65]⟩) (⟨#[97]⟩)), (Ref.mk (⟨#[66]⟩) (⟨#[]⟩))] 0)).bind fun r6 =>
  (turns_Waiting N r5.1).bind fun r7 =>
  (turns_Answer N r5.1 (Reply.mk (⟨#[99]⟩) 1 [0] 0 (Value.mk 1 4 (⟨#[]⟩) [] []))).bind fun r8 =>
  (turns_Resume N r8.1).bind fun r9 =>
  (turns_End N r9.1).bind fun r10 =>
  if r2.2 = 0 then
  (if r3.2 = 0 then
  (if r5.2 = 0 then
  (if r8.2 = 0 then
  (if r9.2.2 = 0 then
  (if r10.2.2 = 0 then
  (if r4 = 12 then
  (if r6 = 0 then
  (if r7.2 = true then
  (if ((r7.1.Path.length : Nat) : Int) = 1 then
  (if r9.2.1.Value_.N = 4 then
  (if (sEq r10.2.1.Client (⟨#[99]⟩)) = true then
  (if ((r10.1.Stack.length : Nat) : Int) = 0 then
  ((some (decide (r10.1.Index = 6))))
  else
  ((some false)))
  else
  ((some false)))
  else
  ((some false)))
  else
  ((some false)))
  else
  ((some false)))
  else
  ((some false)))
  else
  ((some false)))
  else
  ((some false)))
  else
  ((some false)))
  else
  ((some false)))
  else
  ((some false)))
  else
  ((some false)))
  else
  ((some false))
def ref14_ValidRef (N : Nat) (a0 : Ref) : Option (Bool) :=
  if 1 ≤ ((a0.Type_.size : Nat) : Int) then
  (if ((a0.Type_.size : Nat) : Int) ≤ 32 then
  ((some (decide (((a0.Key.size : Nat) : Int) ≤ 32))))
  else
  ((some false)))
  else
  ((some false))
def ref1_SameInts_L1 (a1 : (List Int)) : List Int → Nat → Unit → Option (Bool)
  | [], v3, () =>
    (some true)
  | x6 :: xs, v3, () =>
    (gx a1 ((v3 : Nat) : Int) fun x9 =>
    if x6 = x9 then
    ((((ref1_SameInts_L1 a1 xs (v3 + 1)) ())))
    else
    (some false))
def ref1_SameInts (N : Nat) (a0 : (List Int)) (a1 : (List Int)) : Option (Bool) :=
  if ((a0.length : Nat) : Int) = ((a1.length : Nat) : Int) then
  (((ref1_SameInts_L1 a1 a0 0 ())))
  else
  (some false)
def ref24_SameID (N : Nat) (a0 : Request) (a1 : ByteArray) (a2 : Int) (a3 : (List Int)) : Option (Bool) :=
  if (sEq a0.Client a1) = true then
  (if a0.Seq = a2 then
  ((ref1_SameInts N a0.Path a3).bind fun r2 =>
  (some r2))
  else
  ((some false)))
  else
  ((some false))
def ref24_SameRefs_L1 (a1 : (List Ref)) : List Ref → Nat → Unit → Option (Bool)
  | [], v3, () =>
    (some true)
  | x6 :: xs, v3, () =>
    (gx a1 ((v3 : Nat) : Int) fun x9 =>
    if (sEq x6.Type_ x9.Type_ && sEq x6.Key x9.Key) = true then
    ((((ref24_SameRefs_L1 a1 xs (v3 + 1)) ())))
    else
    (some false))
def ref24_SameRefs (N : Nat) (a0 : (List Ref)) (a1 : (List Ref)) : Option (Bool) :=
  if ((a0.length : Nat) : Int) = ((a1.length : Nat) : Int) then
  (((ref24_SameRefs_L1 a1 a0 0 ())))
  else
  (some false)
def ref1_SameStrings_L1 (a1 : (List ByteArray)) : List ByteArray → Nat → Unit → Option (Bool)
  | [], v3, () =>
    (some true)
  | x6 :: xs, v3, () =>
    (gx a1 ((v3 : Nat) : Int) fun x9 =>
    if (sEq x6 x9) = true then
    ((((ref1_SameStrings_L1 a1 xs (v3 + 1)) ())))
    else
    (some false))
def ref1_SameStrings (N : Nat) (a0 : (List ByteArray)) (a1 : (List ByteArray)) : Option (Bool) :=
  if ((a0.length : Nat) : Int) = ((a1.length : Nat) : Int) then
  (((ref1_SameStrings_L1 a1 a0 0 ())))
  else
  (some false)
def ref1_SameValue (N : Nat) (a0 : Value) (a1 : Value) : Option (Bool) :=
  if a0.Kind = a1.Kind then
  (if a0.N = a1.N then
  (if (sEq a0.S a1.S) = true then
  ((ref1_SameInts N a0.I a1.I).bind fun r2 =>
  if r2 = true then
  ((ref1_SameStrings N a0.L a1.L).bind fun r3 =>
  (some r3))
  else
  ((some false)))
  else
  ((some false)))
  else
  ((some false)))
  else
  ((some false))
def ref24_SameRequest_J1 (kx1 : Option (Bool)) (c5 : Bool) : Option (Bool) :=
  if c5 = true then
  (some false)
  else
  (kx1)
def ref24_SameRequest_L1 (a1 : Request) (N : Nat) : List Value → Nat → Unit → Option (Bool)
  | [], v7, () =>
    (some true)
  | x10 :: xs, v7, () =>
    (gx a1.Args ((v7 : Nat) : Int) fun x13 =>
    (ref1_SameValue N x10 x13).bind fun r14 =>
    if r14 = true then
    ((((ref24_SameRequest_L1 a1 N xs (v7 + 1)) ())))
    else
    (some false))
def ref24_SameRequest_J2 (a1 : Request) (N : Nat) (a0 : Request) : Option (Bool) :=
  (ref24_SameRequest_L1 a1 N a0.Args 0 ())
def ref24_SameRequest (N : Nat) (a0 : Request) (a1 : Request) : Option (Bool) :=
  (ref24_SameID N a0 a1.Client a1.Seq a1.Path).bind fun r3 =>
  if r3 = true then
  (if (sEq a0.Target.Type_ a1.Target.Type_ && sEq a0.Target.Key a1.Target.Key) = true then
  (if (sEq a0.Method a1.Method) = true then
  (if ((a0.Args.length : Nat) : Int) = ((a1.Args.length : Nat) : Int) then
  ((ref24_SameRefs N a0.Chain a1.Chain).bind fun r4 =>
  if r4 = true then
  (((ref24_SameRequest_J1 (ref24_SameRequest_J2 a1 N a0)) (!decide (a0.Txn = a1.Txn))))
  else
  (((ref24_SameRequest_J1 (ref24_SameRequest_J2 a1 N a0)) true)))
  else
  (((ref24_SameRequest_J1 (ref24_SameRequest_J2 a1 N a0)) true)))
  else
  (((ref24_SameRequest_J1 (ref24_SameRequest_J2 a1 N a0)) true)))
  else
  (((ref24_SameRequest_J1 (ref24_SameRequest_J2 a1 N a0)) true)))
  else
  (((ref24_SameRequest_J1 (ref24_SameRequest_J2 a1 N a0)) true))
def law24_TurnsPlays_J1 (kx3 : Option (Bool)) (c6 : Bool) : Option (Bool) :=
  if c6 = true then
  (some true)
  else
  (kx3)
def law24_TurnsPlays_J2 (kx24 : Option (Bool)) (c26 : Bool) : Option (Bool) :=
  if c26 = true then
  (some false)
  else
  (kx24)
def law24_TurnsPlays_J3 (r23 : Actor × Int) (l13 : List Request) (x18 : actorgridlaw24_Act) (a0 : Ref) (kx22 : ByteArray → ByteArray → Int → (List Turn) → (List Request) → Int → Option (Bool)) : Option (Bool) :=
  if r23.2 = 0 then
  (apx 151 l13 [(Request.mk (bstr [IntKind.u8.wrap (97 + (Int.tmod x18.Who 3))]) (IntKind.i64.wrap (1 + (IntKind.i64.wrap (Int.tmod x18.What 4)))) [] a0 (⟨#[109]⟩) [] [] 0)] fun l27 =>
  (kx22 r23.1.Self.Type_ r23.1.Self.Key r23.1.Index r23.1.Stack l27 r23.2))
  else
  ((kx22 r23.1.Self.Type_ r23.1.Self.Key r23.1.Index r23.1.Stack l13 r23.2))
def law24_TurnsPlays_J4 (kx22 : ByteArray → ByteArray → Int → (List Turn) → (List Request) → Int → Option (Bool)) (r36 : Actor × Reply × Int) (l13 : List Request) (c39 : Bool) : Option (Bool) :=
  if c39 = true then
  (some false)
  else
  ((kx22 r36.1.Self.Type_ r36.1.Self.Key r36.1.Index r36.1.Stack l13 r36.2.2))
def law24_TurnsPlays_J5 (kx41 : Option (Bool)) (c45 : Bool) : Option (Bool) :=
  if c45 = true then
  (some false)
  else
  (kx41)
def law24_TurnsPlays_J6 (l13 : List Request) (kx22 : ByteArray → ByteArray → Int → (List Turn) → (List Request) → Int → Option (Bool)) (r40 : Actor × Request × Int) : Option (Bool) :=
  slx l13 0 (IntKind.i64.wrap (((l13.length : Nat) : Int) - 1)) fun l46 =>
  apn 151 (l13.take ((IntKind.i64.wrap (((l13.length : Nat) : Int) - 1)).toNat)) <|
  (kx22 r40.1.Self.Type_ r40.1.Self.Key r40.1.Index r40.1.Stack (l13.take ((IntKind.i64.wrap (((l13.length : Nat) : Int) - 1)).toNat)) r40.2.2)
def law24_TurnsPlays_J7 (kx59 : Option (Bool)) (c62 : Bool) : Option (Bool) :=
  if c62 = true then
  (some false)
  else
  (kx59)
def law24_TurnsPlays_L2 (kx63 : Int → Option (Bool)) : List Turn → Nat → Int → Option (Bool)
  | [], v65, v64 =>
    (kx63 v64)
  | x68 :: xs, v65, v64 =>
    (if x68.Call.Seq = 0 then
    ((((law24_TurnsPlays_L2 kx63 xs (v65 + 1)) (IntKind.i64.wrap (v64 + 1)))))
    else
    ((((law24_TurnsPlays_L2 kx63 xs (v65 + 1)) v64))))
def law24_TurnsPlays_J8 (rec16 : (ByteArray × ByteArray × Int × List Turn × List Request × Int) → Option (Bool)) (s54 : ByteArray) (s55 : ByteArray) (v56 : Int) (l57 : List Turn) (l51 : List Request) (v58 : Int) (v72 : Int) : Option (Bool) :=
  if 1 < v72 then
  (some false)
  else
  (((rec16 (s54, s55, v56, l57, l51, v58))))
def law24_TurnsPlays_J9 (rec16 : (ByteArray × ByteArray × Int × List Turn × List Request × Int) → Option (Bool)) (s54 : ByteArray) (s55 : ByteArray) (v56 : Int) (l57 : List Turn) (l51 : List Request) (v58 : Int) : Option (Bool) :=
  (law24_TurnsPlays_L2 (law24_TurnsPlays_J8 rec16 s54 s55 v56 l57 l51 v58) l57 0 0)
def law24_TurnsPlays_J10 (N : Nat) (l51 : List Request) (rec16 : (ByteArray × ByteArray × Int × List Turn × List Request × Int) → Option (Bool)) (a0 : Ref) (s54 : ByteArray) (s55 : ByteArray) (v56 : Int) (l57 : List Turn) (v58 : Int) : Option (Bool) :=
  (turns_Valid N (Actor.mk (Ref.mk s54 s55) v56 l57)).bind fun r61 =>
  if r61 = true then
  (if v56 = v58 then
  (if ((l57.length : Nat) : Int) = ((l51.length : Nat) : Int) then
  (((law24_TurnsPlays_J7 (law24_TurnsPlays_J9 rec16 s54 s55 v56 l57 l51 v58)) (!(sEq s54 a0.Type_ && sEq s55 a0.Key))))
  else
  (((law24_TurnsPlays_J7 (law24_TurnsPlays_J9 rec16 s54 s55 v56 l57 l51 v58)) true)))
  else
  (((law24_TurnsPlays_J7 (law24_TurnsPlays_J9 rec16 s54 s55 v56 l57 l51 v58)) true)))
  else
  (((law24_TurnsPlays_J7 (law24_TurnsPlays_J9 rec16 s54 s55 v56 l57 l51 v58)) true))
def law24_TurnsPlays_J11 (N : Nat) (rec16 : (ByteArray × ByteArray × Int × List Turn × List Request × Int) → Option (Bool)) (a0 : Ref) (v14 : Int) (s9 : ByteArray) (s10 : ByteArray) (v11 : Int) (l12 : List Turn) (s47 : ByteArray) (s48 : ByteArray) (v49 : Int) (l50 : List Turn) (l51 : List Request) (v52 : Int) : Option (Bool) :=
  if v52 = 0 then
  (((law24_TurnsPlays_J10 N l51 rec16 a0) s47 s48 v49 l50 (IntKind.i64.wrap (v14 + 1))))
  else
  (((law24_TurnsPlays_J10 N l51 rec16 a0) s9 s10 v11 l12 v14))
def law24_TurnsPlays_L1 (N : Nat) (a0 : Ref) : List actorgridlaw24_Act → Nat → ByteArray × ByteArray × Int × List Turn × List Request × Int → Option (Bool)
  | [], v15, (s9, s10, v11, l12, l13, v14) =>
    (some true)
  | x18 :: xs, v15, (s9, s10, v11, l12, l13, v14) =>
    ((turns_Waiting N (Actor.mk (Ref.mk s9 s10) v11 l12)).bind fun r21 =>
    if (Int.tmod x18.Kind 7) = 0 then
    ((turns_Begin N (Actor.mk (Ref.mk s9 s10) v11 l12) (Request.mk (bstr [IntKind.u8.wrap (97 + (Int.tmod x18.Who 3))]) (IntKind.i64.wrap (1 + (IntKind.i64.wrap (Int.tmod x18.What 4)))) [] a0 (⟨#[109]⟩) [] [] 0)).bind fun r23 =>
    if r23.2 = 0 then
    (((law24_TurnsPlays_J2 (law24_TurnsPlays_J3 r23 l13 x18 a0 (law24_TurnsPlays_J11 N (law24_TurnsPlays_L1 N a0 xs (v15 + 1)) a0 v14 s9 s10 v11 l12))) (decide (0 < ((l13.length : Nat) : Int)))))
    else
    (((law24_TurnsPlays_J2 (law24_TurnsPlays_J3 r23 l13 x18 a0 (law24_TurnsPlays_J11 N (law24_TurnsPlays_L1 N a0 xs (v15 + 1)) a0 v14 s9 s10 v11 l12))) false)))
    else
    (if (Int.tmod x18.Kind 7) = 1 then
    (if r21.2 = true then
    ((apn 7 r21.1.Path <|
    apx 7 r21.1.Path [IntKind.i64.wrap (Int.tmod x18.What 3)] fun l29 =>
    apn 31 r21.1.Chain <|
    apx 31 r21.1.Chain [r21.1.Target] fun l30 =>
    (turns_Begin N (Actor.mk (Ref.mk s9 s10) v11 l12) (Request.mk r21.1.Client r21.1.Seq l29 a0 (⟨#[110]⟩) [] l30 0)).bind fun r31 =>
    if r31.2 = 0 then
    (apx 151 l13 [(Request.mk r21.1.Client r21.1.Seq l29 a0 (⟨#[110]⟩) [] l30 0)] fun l32 =>
    ((law24_TurnsPlays_J11 N (law24_TurnsPlays_L1 N a0 xs (v15 + 1)) a0 v14 s9 s10 v11 l12) r31.1.Self.Type_ r31.1.Self.Key r31.1.Index r31.1.Stack l32 r31.2))
    else
    (((law24_TurnsPlays_J11 N (law24_TurnsPlays_L1 N a0 xs (v15 + 1)) a0 v14 s9 s10 v11 l12) r31.1.Self.Type_ r31.1.Self.Key r31.1.Index r31.1.Stack l13 r31.2))))
    else
    ((((law24_TurnsPlays_L1 N a0 xs (v15 + 1)) (s9, s10, v11, l12, l13, v14)))))
    else
    (if (Int.tmod x18.Kind 7) = 2 then
    ((turns_Suspend N (Actor.mk (Ref.mk s9 s10) v11 l12) (Ref.mk (⟨#[66]⟩) (bstr [IntKind.u8.wrap (97 + (Int.tmod x18.Who 3))])) (⟨#[110]⟩) [(Value.mk 1 (IntKind.i64.wrap x18.What) (⟨#[]⟩) [] [])]).bind fun r33 =>
    ((law24_TurnsPlays_J11 N (law24_TurnsPlays_L1 N a0 xs (v15 + 1)) a0 v14 s9 s10 v11 l12) r33.1.Self.Type_ r33.1.Self.Key r33.1.Index r33.1.Stack l13 r33.2))
    else
    (if (Int.tmod x18.Kind 7) = 3 then
    ((turns_StartCall N (Actor.mk (Ref.mk s9 s10) v11 l12) r21.1.Client r21.1.Seq r21.1.Path).bind fun r34 =>
    ((law24_TurnsPlays_J11 N (law24_TurnsPlays_L1 N a0 xs (v15 + 1)) a0 v14 s9 s10 v11 l12) r34.1.Self.Type_ r34.1.Self.Key r34.1.Index r34.1.Stack l13 r34.2))
    else
    (if (Int.tmod x18.Kind 7) = 4 then
    ((turns_Answer N (Actor.mk (Ref.mk s9 s10) v11 l12) (Reply.mk r21.1.Client r21.1.Seq r21.1.Path 0 (Value.mk 1 (IntKind.i64.wrap x18.What) (⟨#[]⟩) [] []))).bind fun r35 =>
    ((law24_TurnsPlays_J11 N (law24_TurnsPlays_L1 N a0 xs (v15 + 1)) a0 v14 s9 s10 v11 l12) r35.1.Self.Type_ r35.1.Self.Key r35.1.Index r35.1.Stack l13 r35.2))
    else
    (if (Int.tmod x18.Kind 7) = 5 then
    ((turns_Resume N (Actor.mk (Ref.mk s9 s10) v11 l12)).bind fun r36 =>
    if r36.2.2 = 0 then
    (if r21.2 = true then
    (((law24_TurnsPlays_J4 (law24_TurnsPlays_J11 N (law24_TurnsPlays_L1 N a0 xs (v15 + 1)) a0 v14 s9 s10 v11 l12) r36 l13) true))
    else
    (if ((l13.length : Nat) : Int) = 0 then
    (((law24_TurnsPlays_J4 (law24_TurnsPlays_J11 N (law24_TurnsPlays_L1 N a0 xs (v15 + 1)) a0 v14 s9 s10 v11 l12) r36 l13) true))
    else
    (gx l13 (IntKind.i64.wrap (((l13.length : Nat) : Int) - 1)) fun x38 =>
    if (sEq r36.2.1.Client x38.Client) = true then
    (if r36.2.1.Seq = x38.Seq then
    (((law24_TurnsPlays_J4 (law24_TurnsPlays_J11 N (law24_TurnsPlays_L1 N a0 xs (v15 + 1)) a0 v14 s9 s10 v11 l12) r36 l13) (!decide (((r36.2.1.Path.length : Nat) : Int) = (IntKind.i64.wrap (((x38.Path.length : Nat) : Int) + 1))))))
    else
    (((law24_TurnsPlays_J4 (law24_TurnsPlays_J11 N (law24_TurnsPlays_L1 N a0 xs (v15 + 1)) a0 v14 s9 s10 v11 l12) r36 l13) true)))
    else
    (((law24_TurnsPlays_J4 (law24_TurnsPlays_J11 N (law24_TurnsPlays_L1 N a0 xs (v15 + 1)) a0 v14 s9 s10 v11 l12) r36 l13) true)))))
    else
    (((law24_TurnsPlays_J4 (law24_TurnsPlays_J11 N (law24_TurnsPlays_L1 N a0 xs (v15 + 1)) a0 v14 s9 s10 v11 l12) r36 l13) false)))
    else
    ((turns_End N (Actor.mk (Ref.mk s9 s10) v11 l12)).bind fun r40 =>
    if r40.2.2 = 0 then
    (if ((l13.length : Nat) : Int) = 0 then
    (((law24_TurnsPlays_J5 (law24_TurnsPlays_J6 l13 (law24_TurnsPlays_J11 N (law24_TurnsPlays_L1 N a0 xs (v15 + 1)) a0 v14 s9 s10 v11 l12) r40)) true))
    else
    (gx l13 (IntKind.i64.wrap (((l13.length : Nat) : Int) - 1)) fun x43 =>
    (ref24_SameRequest N r40.2.1 x43).bind fun r44 =>
    ((law24_TurnsPlays_J5 (law24_TurnsPlays_J6 l13 (law24_TurnsPlays_J11 N (law24_TurnsPlays_L1 N a0 xs (v15 + 1)) a0 v14 s9 s10 v11 l12) r40)) (!r44))))
    else
    (((law24_TurnsPlays_J11 N (law24_TurnsPlays_L1 N a0 xs (v15 + 1)) a0 v14 s9 s10 v11 l12) r40.1.Self.Type_ r40.1.Self.Key r40.1.Index r40.1.Stack l13 r40.2.2)))))))))
def law24_TurnsPlays_J12 (N : Nat) (a0 : Ref) (a1 : (List actorgridlaw24_Act)) : Option (Bool) :=
  (turns_New N a0).bind fun r7 =>
  (law24_TurnsPlays_L1 N a0 a1 0 (r7.Self.Type_, r7.Self.Key, r7.Index, r7.Stack, [], 0))
def law24_TurnsPlays (N : Nat) (a0 : Ref) (a1 : (List actorgridlaw24_Act)) : Option (Bool) :=
  (law24_awake N).bind fun r2 =>
  if r2 = true then
  (((ref14_ValidRef N a0).bind fun r5 =>
  if r5 = true then
  (((law24_TurnsPlays_J1 (law24_TurnsPlays_J12 N a0 a1)) (decide (80 < ((a1.length : Nat) : Int)))))
  else
  (((law24_TurnsPlays_J1 (law24_TurnsPlays_J12 N a0 a1)) true))))
  else
  (some false)
end Go.Proofs.Ytmgpaicldmgckaa
