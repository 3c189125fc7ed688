/- The models of the functions. No statement. -/
import Derived.Test.YthdbndgfjldhpaaT
/- The functions of the program as plain functions on plain data. -/
set_option maxHeartbeats 40000000
set_option synthInstance.maxHeartbeats 2000000
set_option synthInstance.maxSize 4000
set_option linter.unusedSimpArgs false
set_option linter.unusedVariables false
set_option maxRecDepth 100000
namespace Go.Proofs.Ythdbndgfjldhpaa
open Go Go.Proofs Go.Abs
def reminders_validName (N : Nat) (a0 : ByteArray) : Option (Bool) :=
  if 1 ≤ ((a0.size : Nat) : Int) then
  ((some (decide (((a0.size : Nat) : Int) ≤ 32))))
  else
  ((some false))
def reminders_between (N : Nat) (a0 : Int) (a1 : Int) : Option (Bool) :=
  if a1 ≤ a0 then
  ((some (decide (a0 ≤ 1099511627776))))
  else
  ((some false))
def reminders_validReminder (N : Nat) (a0 : Reminder) : Option (Bool) :=
  (reminders_validName N a0.Name).bind fun r2 =>
  if r2 = true then
  ((reminders_between N a0.Due 0).bind fun r3 =>
  if r3 = true then
  ((reminders_between N a0.Period 1).bind fun r4 =>
  if r4 = true then
  ((reminders_between N a0.Left 1).bind fun r5 =>
  if r5 = true then
  (dvx a0.Period <|
  (some (decide ((IntKind.i64.wrap (a0.Left - 1)) ≤ (IntKind.i64.wrap (Int.tdiv (IntKind.i64.wrap (1099511627776 - a0.Due)) a0.Period))))))
  else
  ((some false)))
  else
  ((some false)))
  else
  ((some false)))
  else
  ((some false))
def reminders_Valid_J1 (rec4 : Unit → Option (Bool)) (c12 : Bool) : Option (Bool) :=
  if c12 = true then
  (some false)
  else
  (((rec4 ())))
def reminders_Valid_L1 (N : Nat) (a0 : (List Reminder)) : List Reminder → Nat → Unit → Option (Bool)
  | [], v3, () =>
    (some true)
  | x6 :: xs, v3, () =>
    ((reminders_validReminder N x6).bind fun r10 =>
    if r10 = true then
    (if 0 < ((v3 : Nat) : Int) then
    (gx a0 (IntKind.i64.wrap (((v3 : Nat) : Int) - 1)) fun x11 =>
    ((reminders_Valid_J1 (reminders_Valid_L1 N a0 xs (v3 + 1))) (!(sLt x11.Name x6.Name))))
    else
    (((reminders_Valid_J1 (reminders_Valid_L1 N a0 xs (v3 + 1))) false)))
    else
    (((reminders_Valid_J1 (reminders_Valid_L1 N a0 xs (v3 + 1))) true)))
def reminders_Valid (N : Nat) (a0 : (List Reminder)) : Option (Bool) :=
  if 8 < ((a0.length : Nat) : Int) then
  (some false)
  else
  (((reminders_Valid_L1 N a0 a0 0 ())))
def cmp_isNaN_string (N : Nat) (a0 : ByteArray) : Option (Bool) :=
  some (!(sEq a0 a0))
def cmp_Compare_string (N : Nat) (a0 : ByteArray) (a1 : ByteArray) : Option (Int) :=
  (cmp_isNaN_string N a0).bind fun r1 =>
  (cmp_isNaN_string N a1).bind fun r2 =>
  if r1 = true then
  (if r2 = true then
  (some 0)
  else
  ((some (-1))))
  else
  ((if r2 = true then
  (some 1)
  else
  ((if (sLt a0 a1) = true then
  (some (-1))
  else
  ((if (sLt a0 a1 || sEq a0 a1) = true then
  ((some 0))
  else
  (some 1)))))))
def reminders_find_1 (N : Nat) (a0 : Reminder) (a1 : ByteArray) : Option (Int) :=
  (cmp_Compare_string N a0.Name a1).bind fun r1 =>
  some r1
def slices_BinarySearchFunc_string_reminders_find_1_L1 (a0 : (List Reminder)) (N : Nat) (a1 : ByteArray) (kx1 : Int → Option (Int × Bool)) : Nat → Int × Int → Option (Int × Bool)
  | 0, _ => none
  | n + 1, (v2, v3) =>
    if v2 < v3 then
    ((gx a0 (IntKind.i64.wrap (shrI .u64 (IntKind.u64.wrap (IntKind.i64.wrap (v2 + v3))) 1)) fun x6 =>
    (reminders_find_1 N x6 a1).bind fun r7 =>
    if r7 < 0 then
    (((slices_BinarySearchFunc_string_reminders_find_1_L1 a0 N a1 kx1 n) (IntKind.i64.wrap ((IntKind.i64.wrap (shrI .u64 (IntKind.u64.wrap (IntKind.i64.wrap (v2 + v3))) 1)) + 1), v3)))
    else
    (((slices_BinarySearchFunc_string_reminders_find_1_L1 a0 N a1 kx1 n) (v2, IntKind.i64.wrap (shrI .u64 (IntKind.u64.wrap (IntKind.i64.wrap (v2 + v3))) 1))))))
    else
    ((kx1 v2))
def slices_BinarySearchFunc_string_reminders_find_1_J1 (a0 : (List Reminder)) (N : Nat) (a1 : ByteArray) (v8 : Int) : Option (Int × Bool) :=
  if v8 < ((a0.length : Nat) : Int) then
  (gx a0 v8 fun x10 =>
  (reminders_find_1 N x10 a1).bind fun r11 =>
  (some (v8, (decide (r11 = 0)))))
  else
  ((some (v8, false)))
def slices_BinarySearchFunc_string_reminders_find_1 (N : Nat) (a0 : (List Reminder)) (a1 : ByteArray) : Option (Int × Bool) :=
  (slices_BinarySearchFunc_string_reminders_find_1_L1 a0 N a1 (slices_BinarySearchFunc_string_reminders_find_1_J1 a0 N a1) N (0, ((a0.length : Nat) : Int)))
def reminders_find (N : Nat) (a0 : (List Reminder)) (a1 : ByteArray) : Option (Int × Bool) :=
  (slices_BinarySearchFunc_string_reminders_find_1 N a0 a1).bind fun r1 =>
  some (r1.1, r1.2)
def slices_Clone_Reminder (N : Nat) (a0 : (List Reminder)) : Option ((List Reminder)) :=
  (apn 39 a0 <|
  some a0)
def slices_Insert_Reminder (N : Nat) (a0 : List Reminder) (a1 : Int) (a2 : List Reminder) : Option (List Reminder) := insM 39 a0 a1 a2 fun l => some l
def reminders_Set_J1 (kx1 : Option ((List Reminder) × Int)) (c8 : Bool) : Option ((List Reminder) × Int) :=
  if c8 = true then
  (some ([], 1))
  else
  (kx1)
def reminders_Set_J2 (kx10 : Bool → Option ((List Reminder) × Int)) (c12 : Bool) (c13 : Bool) : Option ((List Reminder) × Int) :=
  if c13 = true then
  (some ([], 5))
  else
  ((kx10 c12))
def reminders_Set_J3 (N : Nat) (a0 : (List Reminder)) (r9 : Int × Bool) (a2 : ByteArray) (a1 : Int) (a3 : Int) (a4 : Int) (c14 : Bool) : Option ((List Reminder) × Int) :=
  (slices_Clone_Reminder N a0).bind fun r15 =>
  if c14 = true then
  (gx r15 r9.1 fun x17 =>
  some ((r15.set ((r9.1).toNat) (Reminder.mk a2 (IntKind.i64.wrap (a1 + a3)) a3 a4)), 0))
  else
  (((slices_Insert_Reminder N r15 r9.1 [(Reminder.mk a2 (IntKind.i64.wrap (a1 + a3)) a3 a4)]).bind fun r18 =>
  some (r18, 0)))
def reminders_Set_J4 (N : Nat) (a0 : (List Reminder)) (a2 : ByteArray) (a3 : Int) (a1 : Int) (a4 : Int) : Option ((List Reminder) × Int) :=
  (reminders_find N a0 a2).bind fun r9 =>
  dvx a3 <|
  if (IntKind.i64.wrap (Int.tdiv (IntKind.i64.wrap (1099511627776 - a1)) a3)) < a4 then
  (some ([], 5))
  else
  (if r9.2 = true then
  (((reminders_Set_J2 (reminders_Set_J3 N a0 r9 a2 a1 a3 a4)) true false))
  else
  (((reminders_Set_J2 (reminders_Set_J3 N a0 r9 a2 a1 a3 a4)) false (decide (((a0.length : Nat) : Int) = 8)))))
def reminders_Set (N : Nat) (a0 : (List Reminder)) (a1 : Int) (a2 : ByteArray) (a3 : Int) (a4 : Int) : Option ((List Reminder) × Int) :=
  (reminders_Valid N a0).bind fun r3 =>
  if r3 = true then
  ((reminders_between N a1 0).bind fun r4 =>
  if r4 = true then
  ((reminders_validName N a2).bind fun r5 =>
  if r5 = true then
  ((reminders_between N a3 1).bind fun r6 =>
  if r6 = true then
  ((reminders_between N a4 1).bind fun r7 =>
  ((reminders_Set_J1 (reminders_Set_J4 N a0 a2 a3 a1 a4)) (!r7)))
  else
  (((reminders_Set_J1 (reminders_Set_J4 N a0 a2 a3 a1 a4)) true)))
  else
  (((reminders_Set_J1 (reminders_Set_J4 N a0 a2 a3 a1 a4)) true)))
  else
  (((reminders_Set_J1 (reminders_Set_J4 N a0 a2 a3 a1 a4)) true)))
  else
  (((reminders_Set_J1 (reminders_Set_J4 N a0 a2 a3 a1 a4)) true))
def slices_Delete_Reminder (N : Nat) (a0 : List Reminder) (a1 : Int) (a2 : Int) : Option (List Reminder) := delM a0 a1 a2 fun l => some l
def reminders_Fire (N : Nat) (a0 : (List Reminder)) (a1 : ByteArray) (a2 : Int) : Option ((List Reminder) × Int) :=
  (reminders_Valid N a0).bind fun r2 =>
  if r2 = true then
  (((reminders_find N a0 a1).bind fun r3 =>
  if r3.2 = true then
  (gx a0 r3.1 fun x5 =>
  if x5.Due = a2 then
  (((slices_Clone_Reminder N a0).bind fun r6 =>
  gx r6 r3.1 fun x8 =>
  if x8.Left = 1 then
  ((slices_Delete_Reminder N r6 r3.1 (IntKind.i64.wrap (r3.1 + 1))).bind fun r9 =>
  some (r9, 0))
  else
  ((some ((r6.set ((r3.1).toNat) (Reminder.mk x8.Name (IntKind.i64.wrap (x8.Due + x8.Period)) x8.Period (IntKind.i64.wrap (x8.Left - 1)))), 0)))))
  else
  (some ([], 8)))
  else
  (some ([], 6))))
  else
  (some ([], 1))
def law29_awake_J1 (kx2 : Option (Bool)) (c5 : Bool) : Option (Bool) :=
  if c5 = true then
  (some false)
  else
  (kx2)
def law29_awake_J2 (kx7 : Option (Bool)) (c10 : Bool) : Option (Bool) :=
  if c10 = true then
  (some false)
  else
  (kx7)
def law29_awake_J3 (N : Nat) (r6 : (List Reminder) × Int) : Option (Bool) :=
  (reminders_Fire N r6.1 (⟨#[97]⟩) 15).bind fun r11 =>
  (reminders_Fire N r6.1 (⟨#[97]⟩) 20).bind fun r12 =>
  if r11.2 = 8 then
  (if r12.2 = 0 then
  (if ((r12.1.length : Nat) : Int) = 0 then
  ((reminders_Valid N r12.1).bind fun r14 =>
  (some r14))
  else
  ((some false)))
  else
  ((some false)))
  else
  ((some false))
def law29_awake_J4 (N : Nat) (r1 : (List Reminder) × Int) : Option (Bool) :=
  (reminders_Fire N r1.1 (⟨#[97]⟩) 15).bind fun r6 =>
  if r6.2 = 0 then
  (if ((r6.1.length : Nat) : Int) = 1 then
  (gx r6.1 0 fun x9 =>
  ((law29_awake_J2 (law29_awake_J3 N r6)) (!decide (x9.Due = 20))))
  else
  (((law29_awake_J2 (law29_awake_J3 N r6)) true)))
  else
  (((law29_awake_J2 (law29_awake_J3 N r6)) true))
def law29_awake (N : Nat)  : Option (Bool) :=
  (reminders_Set N [] 10 (⟨#[97]⟩) 5 2).bind fun r1 =>
  if r1.2 = 0 then
  (if ((r1.1.length : Nat) : Int) = 1 then
  (gx r1.1 0 fun x4 =>
  ((law29_awake_J1 (law29_awake_J4 N r1)) (!(sEq x4.Name (⟨#[97]⟩) && (decide (x4.Due = 15) && (decide (x4.Period = 5) && decide (x4.Left = 2)))))))
  else
  (((law29_awake_J1 (law29_awake_J4 N r1)) true)))
  else
  (((law29_awake_J1 (law29_awake_J4 N r1)) true))
def law29_name (N : Nat) (a0 : Int) : Option (ByteArray) :=
  sls (⟨#[97, 98, 99, 100, 101, 102, 103, 104, 105, 106]⟩) (IntKind.i64.wrap (Int.tmod a0 10)) (IntKind.i64.wrap ((IntKind.i64.wrap (Int.tmod a0 10)) + 1)) fun s1 =>
  some s1
def cmp_isNaN_int (N : Nat) (a0 : Int) : Option (Bool) :=
  some (!decide (a0 = a0))
def cmp_Compare_int (N : Nat) (a0 : Int) (a1 : Int) : Option (Int) :=
  (cmp_isNaN_int N a0).bind fun r1 =>
  (cmp_isNaN_int N a1).bind fun r2 =>
  if r1 = true then
  (if r2 = true then
  (some 0)
  else
  ((some (-1))))
  else
  ((if r2 = true then
  (some 1)
  else
  ((if a0 < a1 then
  (some (-1))
  else
  ((if a1 < a0 then
  (some 1)
  else
  ((some 0))))))))
def reminders_Due_1 (N : Nat) (a0 : Reminder) (a1 : Reminder) : Option (Int) :=
  (cmp_Compare_int N a0.Due a1.Due).bind fun r1 =>
  some r1
def slices_insertionSortCmpFunc_Reminder_reminders_Due_1_J1 (kx9 : Option ((List Reminder))) (rec3 : (List Reminder × Int) → Option ((List Reminder))) (l6 : List Reminder) (v2 : Int) (c14 : Bool) : Option ((List Reminder)) :=
  if c14 = true then
  (kx9)
  else
  (((rec3 (l6, IntKind.i64.wrap (v2 + 1)))))
def slices_insertionSortCmpFunc_Reminder_reminders_Due_1_J2 (l6 : List Reminder) (v7 : Int) (rec8 : (List Reminder × Int) → Option ((List Reminder))) : Option ((List Reminder)) :=
  gx l6 (IntKind.i64.wrap (v7 - 1)) fun x16 =>
  gx l6 v7 fun x17 =>
  gx (l6.set ((v7).toNat) x16) (IntKind.i64.wrap (v7 - 1)) fun x18 =>
  ((rec8 (((l6.set ((v7).toNat) x16).set ((IntKind.i64.wrap (v7 - 1)).toNat) x17), IntKind.i64.wrap (v7 - 1))))
def slices_insertionSortCmpFunc_Reminder_reminders_Due_1_L2 (a1 : Int) (N : Nat) (rec3 : (List Reminder × Int) → Option ((List Reminder))) (v2 : Int) : Nat → List Reminder × Int → Option ((List Reminder))
  | 0, _ => none
  | n + 1, (l6, v7) =>
    if a1 < v7 then
    (gx l6 v7 fun x11 =>
    gx l6 (IntKind.i64.wrap (v7 - 1)) fun x12 =>
    (reminders_Due_1 N x11 x12).bind fun r13 =>
    ((slices_insertionSortCmpFunc_Reminder_reminders_Due_1_J1 (slices_insertionSortCmpFunc_Reminder_reminders_Due_1_J2 l6 v7 (slices_insertionSortCmpFunc_Reminder_reminders_Due_1_L2 a1 N rec3 v2 n)) rec3 l6 v2) (decide (r13 < 0))))
    else
    (((slices_insertionSortCmpFunc_Reminder_reminders_Due_1_J1 (slices_insertionSortCmpFunc_Reminder_reminders_Due_1_J2 l6 v7 (slices_insertionSortCmpFunc_Reminder_reminders_Due_1_L2 a1 N rec3 v2 n)) rec3 l6 v2) false))
def slices_insertionSortCmpFunc_Reminder_reminders_Due_1_L1 (a2 : Int) (a1 : Int) (N : Nat) : Nat → List Reminder × Int → Option ((List Reminder))
  | 0, _ => none
  | n + 1, (l1, v2) =>
    if v2 < a2 then
    (((slices_insertionSortCmpFunc_Reminder_reminders_Due_1_L2 a1 N (slices_insertionSortCmpFunc_Reminder_reminders_Due_1_L1 a2 a1 N n) v2 N (l1, v2))))
    else
    (some l1)
def slices_insertionSortCmpFunc_Reminder_reminders_Due_1 (N : Nat) (a0 : (List Reminder)) (a1 : Int) (a2 : Int) : Option ((List Reminder)) :=
  lenM (fun r => r) a0 (
  (slices_insertionSortCmpFunc_Reminder_reminders_Due_1_L1 a2 a1 N N (a0, IntKind.i64.wrap (a1 + 1))))
def slices_stableCmpFunc_Reminder_reminders_Due_1_L1 (a1 : Int) (N : Nat) (kx1 : (List Reminder) → Int → Option ((List Reminder))) : Nat → List Reminder × Int × Int → Option ((List Reminder))
  | 0, _ => none
  | n + 1, (l2, v3, v4) =>
    if v4 ≤ a1 then
    (((slices_insertionSortCmpFunc_Reminder_reminders_Due_1 N l2 v3 v4).bind fun r7 =>
    ((slices_stableCmpFunc_Reminder_reminders_Due_1_L1 a1 N kx1 n) (r7, v4, IntKind.i64.wrap (v4 + 20)))))
    else
    ((kx1 l2 v3))
def slices_stableCmpFunc_Reminder_reminders_Due_1_L3 (v11 : Int) (a1 : Int) (kx14 : Option ((List Reminder))) : Nat → Unit → Option ((List Reminder))
  | 0, _ => none
  | n + 1, () =>
    if (IntKind.i64.wrap (2 * v11)) ≤ a1 then
    ((none))
    else
    (kx14)
def slices_stableCmpFunc_Reminder_reminders_Due_1_J1 (v11 : Int) (a1 : Int) (rec12 : Int → Option ((List Reminder))) : Option ((List Reminder)) :=
  if (IntKind.i64.wrap (0 + v11)) < a1 then
  (none)
  else
  (((rec12 (IntKind.i64.wrap (v11 * 2)))))
def slices_stableCmpFunc_Reminder_reminders_Due_1_L2 (a1 : Int) (N : Nat) (r10 : (List Reminder)) : Nat → Int → Option ((List Reminder))
  | 0, _ => none
  | n + 1, v11 =>
    if v11 < a1 then
    (((slices_stableCmpFunc_Reminder_reminders_Due_1_L3 v11 a1 (slices_stableCmpFunc_Reminder_reminders_Due_1_J1 v11 a1 (slices_stableCmpFunc_Reminder_reminders_Due_1_L2 a1 N r10 n)) N ())))
    else
    (some r10)
def slices_stableCmpFunc_Reminder_reminders_Due_1_J2 (N : Nat) (a1 : Int) (l8 : List Reminder) (v9 : Int) : Option ((List Reminder)) :=
  (slices_insertionSortCmpFunc_Reminder_reminders_Due_1 N l8 v9 a1).bind fun r10 =>
  (slices_stableCmpFunc_Reminder_reminders_Due_1_L2 a1 N r10 N 20)
def slices_stableCmpFunc_Reminder_reminders_Due_1 (N : Nat) (a0 : (List Reminder)) (a1 : Int) : Option ((List Reminder)) :=
  lenM (fun r => r) a0 (
  (slices_stableCmpFunc_Reminder_reminders_Due_1_L1 a1 N (slices_stableCmpFunc_Reminder_reminders_Due_1_J2 N a1) N (a0, 0, 20)))
def slices_SortStableFunc_Reminder_reminders_Due_1 (N : Nat) (a0 : (List Reminder)) : Option ((List Reminder)) :=
  lenM (fun r => r) a0 (
  (slices_stableCmpFunc_Reminder_reminders_Due_1 N a0 ((a0.length : Nat) : Int)).bind fun r1 =>
  some r1)
def reminders_Due_L1 (kx3 : (List Reminder) → Option ((List Reminder))) (a1 : Int) : List Reminder → Nat → List Reminder → Option ((List Reminder))
  | [], v5, l4 =>
    (kx3 l4)
  | x8 :: xs, v5, l4 =>
    (if x8.Due ≤ a1 then
    (apx 39 l4 [x8] fun l11 =>
    (((reminders_Due_L1 kx3 a1 xs (v5 + 1)) l11)))
    else
    ((((reminders_Due_L1 kx3 a1 xs (v5 + 1)) l4))))
def reminders_Due_J1 (N : Nat) (l13 : List Reminder) : Option ((List Reminder)) :=
  (slices_SortStableFunc_Reminder_reminders_Due_1 N l13).bind fun r14 =>
  some r14
def reminders_Due (N : Nat) (a0 : (List Reminder)) (a1 : Int) : Option ((List Reminder)) :=
  (reminders_Valid N a0).bind fun r2 =>
  if r2 = true then
  (((reminders_Due_L1 (reminders_Due_J1 N) a1 a0 0 [])))
  else
  (some [])
def reminders_Cancel (N : Nat) (a0 : (List Reminder)) (a1 : ByteArray) : Option ((List Reminder) × Int) :=
  (reminders_Valid N a0).bind fun r2 =>
  if r2 = true then
  (((reminders_find N a0 a1).bind fun r3 =>
  if r3.2 = true then
  (((slices_Clone_Reminder N a0).bind fun r5 =>
  (slices_Delete_Reminder N r5 r3.1 (IntKind.i64.wrap (r3.1 + 1))).bind fun r6 =>
  some (r6, 0)))
  else
  (some ([], 6))))
  else
  (some ([], 1))
def law29_play_J1 (N : Nat) (a2 : actorgridlaw29_Act) (a0 : (List Reminder)) (a1 : Int) (kx1 : Option ((List Reminder) × Int)) (c3 : Bool) : Option ((List Reminder) × Int) :=
  if c3 = true then
  ((law29_name N a2.Name).bind fun r4 =>
  (reminders_Set N a0 a1 r4 (IntKind.i64.wrap ((IntKind.i64.wrap (Int.tmod a2.Period 20)) + 1)) (IntKind.i64.wrap ((IntKind.i64.wrap (Int.tmod a2.N 6)) + 1))).bind fun r5 =>
  some (r5.1, r5.2))
  else
  (if (Int.tmod a2.Kind 4) = 2 then
  ((law29_name N a2.Name).bind fun r6 =>
  (reminders_Cancel N a0 r6).bind fun r7 =>
  some (r7.1, r7.2))
  else
  (kx1))
def law29_play_J2 (N : Nat) (a0 : (List Reminder)) (a1 : Int) (a2 : actorgridlaw29_Act) : Option ((List Reminder) × Int) :=
  (reminders_Due N a0 a1).bind fun r8 =>
  if ((r8.length : Nat) : Int) = 0 then
  (some (a0, 0))
  else
  ((dvx ((r8.length : Nat) : Int) <|
  gx r8 (Int.tmod (IntKind.i64.wrap a2.N) ((r8.length : Nat) : Int)) fun x10 =>
  (reminders_Fire N a0 x10.Name x10.Due).bind fun r11 =>
  some (r11.1, r11.2)))
def law29_play (N : Nat) (a0 : (List Reminder)) (a1 : Int) (a2 : actorgridlaw29_Act) : Option ((List Reminder) × Int) :=
  if (Int.tmod a2.Kind 4) = 0 then
  (((law29_play_J1 N a2 a0 a1 (law29_play_J2 N a0 a1 a2)) true))
  else
  (((law29_play_J1 N a2 a0 a1 (law29_play_J2 N a0 a1 a2)) (decide ((Int.tmod a2.Kind 4) = 1))))
def law29_RemindersOnce_J1 (l20 : List actorgridlaw29_firing) (v21 : Int) (rec22 : (List actorgridlaw29_firing × Int) → Option (Bool)) (c28 : Bool) : Option (Bool) :=
  if c28 = true then
  (gx l20 v21 fun x29 =>
  ((rec22 ((l20.set ((v21).toNat) (actorgridlaw29_firing.mk x29.name x29.due (-1))), IntKind.i64.wrap (v21 + 1)))))
  else
  (((rec22 (l20, IntKind.i64.wrap (v21 + 1)))))
def law29_RemindersOnce_L2 (N : Nat) (x12 : actorgridlaw29_Act) (kx19 : (List actorgridlaw29_firing) → Option (Bool)) : Nat → List actorgridlaw29_firing × Int → Option (Bool)
  | 0, _ => none
  | n + 1, (l20, v21) =>
    if v21 < ((l20.length : Nat) : Int) then
    ((gx l20 v21 fun x26 =>
    (law29_name N x12.Name).bind fun r27 =>
    if (sEq x26.name r27) = true then
    (((law29_RemindersOnce_J1 l20 v21 (law29_RemindersOnce_L2 N x12 kx19 n)) (decide (0 ≤ x26.life))))
    else
    (((law29_RemindersOnce_J1 l20 v21 (law29_RemindersOnce_L2 N x12 kx19 n)) false))))
    else
    ((kx19 l20))
def law29_RemindersOnce_J2 (rec10 : (List Reminder × List actorgridlaw29_firing × Int × Int) → Option (Bool)) (l18 : List Reminder) (v7 : Int) (x12 : actorgridlaw29_Act) (v8 : Int) (l31 : List actorgridlaw29_firing) : Option (Bool) :=
  ((rec10 (l18, l31, IntKind.i64.wrap (v7 + (IntKind.i64.wrap (Int.tmod x12.After 16))), (IntKind.i64.wrap (v8 + 1)))))
def law29_RemindersOnce_J3 (N : Nat) (x12 : actorgridlaw29_Act) (rec10 : (List Reminder × List actorgridlaw29_firing × Int × Int) → Option (Bool)) (v7 : Int) (v8 : Int) (l6 : List actorgridlaw29_firing) (l18 : List Reminder) : Option (Bool) :=
  (law29_RemindersOnce_L2 N x12 (law29_RemindersOnce_J2 rec10 l18 v7 x12 v8) N (l6, 0))
def law29_RemindersOnce_J4 (rec33 : Unit → Option (Bool)) (kx39 : Option (Bool)) (c41 : Bool) : Option (Bool) :=
  if c41 = true then
  (((rec33 ())))
  else
  (kx39)
def law29_RemindersOnce_J5 (rec44 : Unit → Option (Bool)) (c50 : Bool) : Option (Bool) :=
  if c50 = true then
  (some false)
  else
  (((rec44 ())))
def law29_RemindersOnce_L4 (kx42 : Option (Bool)) (x35 : Reminder) : List actorgridlaw29_firing → Nat → Unit → Option (Bool)
  | [], v43, () =>
    kx42
  | x46 :: xs, v43, () =>
    (if 0 ≤ x46.life then
    (if (sEq x46.name x35.Name) = true then
    (((law29_RemindersOnce_J5 (law29_RemindersOnce_L4 kx42 x35 xs (v43 + 1))) (decide (x46.due = x35.Due))))
    else
    (((law29_RemindersOnce_J5 (law29_RemindersOnce_L4 kx42 x35 xs (v43 + 1))) false)))
    else
    (((law29_RemindersOnce_J5 (law29_RemindersOnce_L4 kx42 x35 xs (v43 + 1))) false)))
def law29_RemindersOnce_J6 (l6 : List actorgridlaw29_firing) (x35 : Reminder) (v8 : Int) (N : Nat) (r38 : (List Reminder) × Int) (rec10 : (List Reminder × List actorgridlaw29_firing × Int × Int) → Option (Bool)) (v7 : Int) (x12 : actorgridlaw29_Act) : Option (Bool) :=
  apx 31 l6 [(actorgridlaw29_firing.mk x35.Name x35.Due v8)] fun l51 =>
  (reminders_Fire N r38.1 x35.Name x35.Due).bind fun r53 =>
  if r53.2 = 0 then
  (some false)
  else
  ((((rec10 (r38.1, l51, IntKind.i64.wrap (v7 + (IntKind.i64.wrap (Int.tmod x12.After 16))), v8)))))
def law29_RemindersOnce_J7 (l6 : List actorgridlaw29_firing) (x35 : Reminder) (v8 : Int) (N : Nat) (r38 : (List Reminder) × Int) (rec10 : (List Reminder × List actorgridlaw29_firing × Int × Int) → Option (Bool)) (v7 : Int) (x12 : actorgridlaw29_Act) : Option (Bool) :=
  (law29_RemindersOnce_L4 (law29_RemindersOnce_J6 l6 x35 v8 N r38 rec10 v7 x12) x35 l6 0 ())
def law29_RemindersOnce_L3 (rec10 : (List Reminder × List actorgridlaw29_firing × Int × Int) → Option (Bool)) (l5 : List Reminder) (l6 : List actorgridlaw29_firing) (v7 : Int) (x12 : actorgridlaw29_Act) (v8 : Int) (N : Nat) : List Reminder → Nat → Unit → Option (Bool)
  | [], v32, () =>
    ((rec10 (l5, l6, IntKind.i64.wrap (v7 + (IntKind.i64.wrap (Int.tmod x12.After 16))), v8)))
  | x35 :: xs, v32, () =>
    ((reminders_Fire N l5 x35.Name x35.Due).bind fun r38 =>
    if r38.2 = 0 then
    (((law29_RemindersOnce_J4 (law29_RemindersOnce_L3 rec10 l5 l6 v7 x12 v8 N xs (v32 + 1)) (law29_RemindersOnce_J7 l6 x35 v8 N r38 rec10 v7 x12)) (decide ((IntKind.i64.wrap (v7 + (IntKind.i64.wrap (Int.tmod x12.After 16)))) < x35.Due))))
    else
    (((law29_RemindersOnce_J4 (law29_RemindersOnce_L3 rec10 l5 l6 v7 x12 v8 N xs (v32 + 1)) (law29_RemindersOnce_J7 l6 x35 v8 N r38 rec10 v7 x12)) true)))
def law29_RemindersOnce_L1 (N : Nat) : List actorgridlaw29_Act → Nat → List Reminder × List actorgridlaw29_firing × Int × Int → Option (Bool)
  | [], v9, (l5, l6, v7, v8) =>
    (some true)
  | x12 :: xs, v9, (l5, l6, v7, v8) =>
    (if (Int.tmod x12.Kind 4) < 3 then
    ((law29_play N l5 (IntKind.i64.wrap (v7 + (IntKind.i64.wrap (Int.tmod x12.After 16)))) x12).bind fun r17 =>
    if r17.2 = 0 then
    (((law29_RemindersOnce_J3 N x12 (law29_RemindersOnce_L1 N xs (v9 + 1)) v7 v8 l6) r17.1))
    else
    (((law29_RemindersOnce_J3 N x12 (law29_RemindersOnce_L1 N xs (v9 + 1)) v7 v8 l6) l5)))
    else
    (((law29_RemindersOnce_L3 (law29_RemindersOnce_L1 N xs (v9 + 1)) l5 l6 v7 x12 v8 N l5 0 ()))))
def law29_RemindersOnce (N : Nat) (a0 : (List actorgridlaw29_Act)) : Option (Bool) :=
  (law29_awake N).bind fun r2 =>
  if r2 = true then
  ((if 100 < ((a0.length : Nat) : Int) then
  (some true)
  else
  (((law29_RemindersOnce_L1 N a0 0 ([], [], 0, 0))))))
  else
  (some false)
end Go.Proofs.Ythdbndgfjldhpaa
