/- The models of the functions. No statement. -/
import Derived.Test.YthdbndgfjldhpaaT
/- The functions of the program as plain functions on plain data. -/
set_option maxHeartbeats 40000000
set_option synthInstance.maxHeartbeats 2000000
set_option synthInstance.maxSize 4000
set_option linter.unusedSimpArgs false
set_option linter.unusedVariables false
set_option maxRecDepth 100000
namespace Go.Proofs.Ythdbndgfjldhpaa
open Go Go.Proofs Go.Abs
def reminders_validName (N : Nat) (a0 : ByteArray) : Option (Bool) :=
  if 1 ≤ ((a0.size : Nat) : Int) then
  ((some (decide (((a0.size : Nat) : Int) ≤ 32))))
  else
  ((some false))
def reminders_between (N : Nat) (a0 : Int) (a1 : Int) : Option (Bool) :=
  if a1 ≤ a0 then
  ((some (decide (a0 ≤ 1099511627776))))
  else
  ((some false))
def reminders_validReminder (N : Nat) (a0 : Reminder) : Option (Bool) :=
  (reminders_validName N a0.Name).bind fun r2 =>
  if r2 = true then
  ((reminders_between N a0.Due 0).bind fun r3 =>
  if r3 = true then
  ((reminders_between N a0.Period 1).bind fun r4 =>
  if r4 = true then
  ((reminders_between N a0.Left 1).bind fun r5 =>
  if r5 = true then
  (dvx a0.Period <|
  (some (decide ((IntKind.i64.wrap (a0.Left - 1)) ≤ (IntKind.i64.wrap (Int.tdiv (IntKind.i64.wrap (1099511627776 - a0.Due)) a0.Period))))))
  else
  ((some false)))
  else
  ((some false)))
  else
  ((some false)))
  else
  ((some false))
def reminders_Valid_J1 (rec4 : Unit → Option (Bool)) (c12 : Bool) : Option (Bool) :=
  if c12 = true then
  (some false)
  else
  (((rec4 ())))
def reminders_Valid_L1 (N : Nat) (a0 : (List Reminder)) : List Reminder → Nat → Unit → Option (Bool)
  | [], v3, () =>
    (some true)
  | x6 :: xs, v3, () =>
    ((reminders_validReminder N x6).bind fun r10 =>
    if r10 = true then
    (if 0 < ((v3 : Nat) : Int) then
    (gx a0 (IntKind.i64.wrap (((v3 : Nat) : Int) - 1)) fun x11 =>
    ((reminders_Valid_J1 (reminders_Valid_L1 N a0 xs (v3 + 1))) (!(sLt x11.Name x6.Name))))
    else
    (((reminders_Valid_J1 (reminders_Valid_L1 N a0 xs (v3 + 1))) false)))
    else
    (((reminders_Valid_J1 (reminders_Valid_L1 N a0 xs (v3 + 1))) true)))
def reminders_Valid (N : Nat) (a0 : (List Reminder)) : Option (Bool) :=
  if 8 < ((a0.length : Nat) : Int) then
  (some false)
  else
  (((reminders_Valid_L1 N a0 a0 0 ())))
def cmp_isNaN_string (N : Nat) (a0 : ByteArray) : Option (Bool) :=
  some (!(sEq a0 a0))
def cmp_Compare_string (N : Nat) (a0 : ByteArray) (a1 : ByteArray) : Option (Int) :=
  (cmp_isNaN_string N a0).bind fun r1 =>
  (cmp_isNaN_string N a1).bind fun r2 =>
  if r1 = true then
  (if r2 = true then
  (some 0)
  else
  ((some (-1))))
  else
  ((if r2 = true then
  (some 1)
  else
  ((if (sLt a0 a1) = true then
  (some (-1))
  else
  ((if (sLt a0 a1 || sEq a0 a1) = true then
  ((some 0))
  else
  (some 1)))))))
def reminders_find_1 (N : Nat) (a0 : Reminder) (a1 : ByteArray) : Option (Int) :=
  (cmp_Compare_string N a0.Name a1).bind fun r1 =>
  some r1
def slices_BinarySearchFunc_string_reminders_find_1_L1 (a0 : (List Reminder)) (N : Nat) (a1 : ByteArray) (kx1 : Int → Option (Int × Bool)) : Nat → Int × Int → Option (Int × Bool)
  | 0, _ => none
  | n + 1, (v2, v3) =>
    if v2 < v3 then
    ((gx a0 (IntKind.i64.wrap (shrI .u64 (IntKind.u64.wrap (IntKind.i64.wrap (v2 + v3))) 1)) fun x6 =>
    (reminders_find_1 N x6 a1).bind fun r7 =>
    if r7 < 0 then
    (((slices_BinarySearchFunc_string_reminders_find_1_L1 a0 N a1 kx1 n) (IntKind.i64.wrap ((IntKind.i64.wrap (shrI .u64 (IntKind.u64.wrap (IntKind.i64.wrap (v2 + v3))) 1)) + 1), v3)))
    else
    (((slices_BinarySearchFunc_string_reminders_find_1_L1 a0 N a1 kx1 n) (v2, IntKind.i64.wrap (shrI .u64 (IntKind.u64.wrap (IntKind.i64.wrap (v2 + v3))) 1))))))
    else
    ((kx1 v2))
def slices_BinarySearchFunc_string_reminders_find_1_J1 (a0 : (List Reminder)) (N : Nat) (a1 : ByteArray) (v8 : Int) : Option (Int × Bool) :=
  if v8 < ((a0.length : Nat) : Int) then
  (gx a0 v8 fun x10 =>
  (reminders_find_1 N x10 a1).bind fun r11 =>
  (some (v8, (decide (r11 = 0)))))
  else
  ((some (v8, false)))
def slices_BinarySearchFunc_string_reminders_find_1 (N : Nat) (a0 : (List Reminder)) (a1 : ByteArray) : Option (Int × Bool) :=
  (slices_BinarySearchFunc_string_reminders_find_1_L1 a0 N a1 (slices_BinarySearchFunc_string_reminders_find_1_J1 a0 N a1) N (0, ((a0.length : Nat) : Int)))
def reminders_find (N : Nat) (a0 : (List Reminder)) (a1 : ByteArray) : Option (Int × Bool) :=
  (slices_BinarySearchFunc_string_reminders_find_1 N a0 a1).bind fun r1 =>
  some (r1.1, r1.2)
def slices_Clone_Reminder (N : Nat) (a0 : (List Reminder)) : Option ((List Reminder)) :=
  (apn 39 a0 <|
  some a0)
def slices_Insert_Reminder (N : Nat) (a0 : List Reminder) (a1 : Int) (a2 : List Reminder) : Option (List Reminder) := insM 39 a0 a1 a2 fun l => some l
def reminders_Set_J1 (kx1 : Option ((List Reminder) × Int)) (c8 : Bool) : Option ((List Reminder) × Int) :=
  if c8 = true then
  (some ([], 1))
  else
  (kx1)
def reminders_Set_J2 (kx10 : Bool → Option ((List Reminder) × Int)) (c12 : Bool) (c13 : Bool) : Option ((List Reminder) × Int) :=
  if c13 = true then
  (some ([], 5))
  else
  ((kx10 c12))
def reminders_Set_J3 (N : Nat) (a0 : (List Reminder)) (r9 : Int × Bool) (a2 : ByteArray) (a1 : Int) (a3 : Int) (a4 : Int) (c14 : Bool) : Option ((List Reminder) × Int) :=
  (slices_Clone_Reminder N a0).bind fun r15 =>
  if c14 = true then
  (gx r15 r9.1 fun x17 =>
  some ((r15.set ((r9.1).toNat) (Reminder.mk a2 (IntKind.i64.wrap (a1 + a3)) a3 a4)), 0))
  else
  (((slices_Insert_Reminder N r15 r9.1 [(Reminder.mk a2 (IntKind.i64.wrap (a1 + a3)) a3 a4)]).bind fun r18 =>
  some (r18, 0)))
def reminders_Set_J4 (N : Nat) (a0 : (List Reminder)) (a2 : ByteArray) (a3 : Int) (a1 : Int) (a4 : Int) : Option ((List Reminder) × Int) :=
  (reminders_find N a0 a2).bind fun r9 =>
  dvx a3 <|
  if (IntKind.i64.wrap (Int.tdiv (IntKind.i64.wrap (1099511627776 - a1)) a3)) < a4 then
  (some ([], 5))
  else
  (if r9.2 = true then
  (((reminders_Set_J2 (reminders_Set_J3 N a0 r9 a2 a1 a3 a4)) true false))
  else
  (((reminders_Set_J2 (reminders_Set_J3 N a0 r9 a2 a1 a3 a4)) false (decide (((a0.length : Nat) : Int) = 8)))))
def reminders_Set (N : Nat) (a0 : (List Reminder)) (a1 : Int) (a2 : ByteArray) (a3 : Int) (a4 : Int) : Option ((List Reminder) × Int) :=
  (reminders_Valid N a0).bind fun r3 =>
  if r3 = true then
  ((reminders_between N a1 0).bind fun r4 =>
  if r4 = true then
  ((reminders_validName N a2).bind fun r5 =>
  if r5 = true then
  ((reminders_between N a3 1).bind fun r6 =>
  if r6 = true then
  ((reminders_between N a4 1).bind fun r7 =>
  ((reminders_Set_J1 (reminders_Set_J4 N a0 a2 a3 a1 a4)) (!r7)))
  else
  (((reminders_Set_J1 (reminders_Set_J4 N a0 a2 a3 a1 a4)) true)))
  else
  (((reminders_Set_J1 (reminders_Set_J4 N a0 a2 a3 a1 a4)) true)))
  else
  (((reminders_Set_J1 (reminders_Set_J4 N a0 a2 a3 a1 a4)) true)))
  else
  (((reminders_Set_J1 (reminders_Set_J4 N a0 a2 a3 a1 a4)) true))
def slices_Delete_Reminder (N : Nat) (a0 : List Reminder) (a1 : Int) (a2 : Int) : Option (List Reminder) := delM a0 a1 a2 fun l => some l
def reminders_Fire (N : Nat) (a0 : (List Reminder)) (a1 : ByteArray) (a2 : Int) : Option ((List Reminder) × Int) :=
  (reminders_Valid N a0).bind fun r2 =>
  if r2 = true then
  (((reminders_find N a0 a1).bind fun r3 =>
  if r3.2 = true then
  (gx a0 r3.1 fun x5 =>
  if x5.Due = a2 then
  (((slices_Clone_Reminder N a0).bind fun r6 =>
  gx r6 r3.1 fun x8 =>
  if x8.Left = 1 then
  ((slices_Delete_Reminder N r6 r3.1 (IntKind.i64.wrap (r3.1 + 1))).bind fun r9 =>
  some (r9, 0))
  else
  ((some ((r6.set ((r3.1).toNat) (Reminder.mk x8.Name (IntKind.i64.wrap (x8.Due + x8.Period)) x8.Period (IntKind.i64.wrap (x8.Left - 1)))), 0)))))
  else
  (some ([], 8)))
  else
  (some ([], 6))))
  else
  (some ([], 1))
def law29_awake_J1 (kx2 : Option (Bool)) (c5 : Bool) : Option (Bool) :=
  if c5 = true then
  (some false)
  else
  (kx2)
def law29_awake_J2 (kx7 : Option (Bool)) (c10 : Bool) : Option (Bool) :=
  if c10 = true then
  (some false)
  else
  (kx7)
def law29_awake_J3 (N : Nat) (r6 : (List Reminder) × Int) : Option (Bool) :=
  (reminders_Fire N r6.1 (⟨#[97]⟩) 15).bind fun r11 =>
  (reminders_Fire N r6.1 (⟨#[97]⟩) 20).bind fun r12 =>
  if r11.2 = 8 then
  (if r12.2 = 0 then
  (if ((r12.1.length : Nat) : Int) = 0 then
  ((reminders_Valid N r12.1).bind fun r14 =>
  (some r14))
  else
  ((some false)))
  else
  ((some false)))
  else
  ((some false))
def law29_awake_J4 (N : Nat) (r1 : (List Reminder) × Int) : Option (Bool) :=
  (reminders_Fire N r1.1 (⟨#[97]⟩) 15).bind fun r6 =>
  if r6.2 = 0 then
  (if ((r6.1.length : Nat) : Int) = 1 then
  (gx r6.1 0 fun x9 =>
  ((law29_awake_J2 (law29_awake_J3 N r6)) (!decide (x9.Due = 20))))
  else
  (((law29_awake_J2 (law29_awake_J3 N r6)) true)))
  else
  (((law29_awake_J2 (law29_awake_J3 N r6)) true))
def law29_awake (N : Nat)  : Option (Bool) :=
  (reminders_Set N [] 10 (⟨#[97]⟩) 5 2).bind fun r1 =>
  if r1.2 = 0 then
  (if ((r1.1.length : Nat) : Int) = 1 then
  (gx r1.1 0 fun x4 =>
  ((law29_awake_J1 (law29_awake_J4 N r1)) (!(sEq x4.Name (⟨#[97]⟩) && (decide (x4.Due = 15) && (decide (x4.Period = 5) && decide (x4.Left = 2)))))))
  else
  (((law29_awake_J1 (law29_awake_J4 N r1)) true)))
  else
  (((law29_awake_J1 (law29_awake_J4 N r1)) true))
def law29_name (N : Nat) (a0 : Int) : Option (ByteArray) :=
  sls (⟨#[97, 98, 99, 100, 101, 102, 103, 104, 105, 106]⟩) (IntKind.i64.wrap (Int.tmod a0 10)) (IntKind.i64.wrap ((IntKind.i64.wrap (Int.tmod a0 10)) + 1)) fun s1 =>
  some s1
def cmp_isNaN_int (N : Nat) (a0 : Int) : Option (Bool) :=
  some (!decide (a0 = a0))
def cmp_Compare_int (N : Nat) (a0 : Int) (a1 : Int) : Option (Int) :=
  (cmp_isNaN_int N a0).bind fun r1 =>
  (cmp_isNaN_int N a1).bind fun r2 =>
  if r1 = true then
  (if r2 = true then
  (some 0)
  else
  ((some (-1))))
  else
  ((if r2 = true then
  (some 1)
  else
  ((if a0 < a1 then
  (some (-1))
  else
  ((if a1 < a0 then
  (some 1)
  else
  ((some 0))))))))
def reminders_Due_1 (N : Nat) (a0 : Reminder) (a1 : Reminder) : Option (Int) :=
  (cmp_Compare_int N a0.Due a1.Due).bind fun r1 =>
  some r1
def slices_insertionSortCmpFunc_Reminder_reminders_Due_1_J1 (kx9 : Option ((List Reminder))) (rec3 : (List Reminder × Int) → Option ((List Reminder))) (l6 : List Reminder) (v2 : Int) (c14 : Bool) : Option ((List Reminder)) :=
  if c14 = true then
  (kx9)
  else
  (((rec3 (l6, IntKind.i64.wrap (v2 + 1)))))
def slices_insertionSortCmpFunc_Reminder_reminders_Due_1_J2 (l6 : List Reminder) (v7 : Int) (rec8 : (List Reminder × Int) → Option ((List Reminder))) : Option ((List Reminder)) :=
  gx l6 (IntKind.i64.wrap (v7 - 1)) fun x16 =>
  gx l6 v7 fun x17 =>
  gx (l6.set ((v7).toNat) x16) (IntKind.i64.wrap (v7 - 1)) fun x18 =>
  ((rec8 (((l6.set ((v7).toNat) x16).set ((IntKind.i64.wrap (v7 - 1)).toNat) x17), IntKind.i64.wrap (v7 - 1))))
def slices_insertionSortCmpFunc_Reminder_reminders_Due_1_L2 (a1 : Int) (N : Nat) (rec3 : (List Reminder × Int) → Option ((List Reminder))) (v2 : Int) : Nat → List Reminder × Int → Option ((List Reminder))
  | 0, _ => none
  | n + 1, (l6, v7) =>
    if a1 < v7 then
    (gx l6 v7 fun x11 =>
    gx l6 (IntKind.i64.wrap (v7 - 1)) fun x12 =>
    (reminders_Due_1 N x11 x12).bind fun r13 =>
    ((slices_insertionSortCmpFunc_Reminder_reminders_Due_1_J1 (slices_insertionSortCmpFunc_Reminder_reminders_Due_1_J2 l6 v7 (slices_insertionSortCmpFunc_Reminder_reminders_Due_1_L2 a1 N rec3 v2 n)) rec3 l6 v2) (decide (r13 < 0))))
    else
    (((slices_insertionSortCmpFunc_Reminder_reminders_Due_1_J1 (slices_insertionSortCmpFunc_Reminder_reminders_Due_1_J2 l6 v7 (slices_insertionSortCmpFunc_Reminder_reminders_Due_1_L2 a1 N rec3 v2 n)) rec3 l6 v2) false))
def slices_insertionSortCmpFunc_Reminder_reminders_Due_1_L1 (a2 : Int) (a1 : Int) (N : Nat) : Nat → List Reminder × Int → Option ((List Reminder))
  | 0, _ => none
  | n + 1, (l1, v2) =>
    if v2 < a2 then
    (((slices_insertionSortCmpFunc_Reminder_reminders_Due_1_L2 a1 N (slices_insertionSortCmpFunc_Reminder_reminders_Due_1_L1 a2 a1 N n) v2 N (l1, v2))))
    else
    (some l1)
def slices_insertionSortCmpFunc_Reminder_reminders_Due_1 (N : Nat) (a0 : (List Reminder)) (a1 : Int) (a2 : Int) : Option ((List Reminder)) :=
  lenM (fun r => r) a0 (
  (slices_insertionSortCmpFunc_Reminder_reminders_Due_1_L1 a2 a1 N N (a0, IntKind.i64.wrap (a1 + 1))))
def slices_stableCmpFunc_Reminder_reminders_Due_1_L1 (a1 : Int) (N : Nat) (kx1 : (List Reminder) → Int → Option ((List Reminder))) : Nat → List Reminder × Int × Int → Option ((List Reminder))
  | 0, _ => none
  | n + 1, (l2, v3, v4) =>
    if v4 ≤ a1 then
    (((slices_insertionSortCmpFunc_Reminder_reminders_Due_1 N l2 v3 v4).bind fun r7 =>
    ((slices_stableCmpFunc_Reminder_reminders_Due_1_L1 a1 N kx1 n) (r7, v4, IntKind.i64.wrap (v4 + 20)))))
    else
    ((kx1 l2 v3))
def slices_stableCmpFunc_Reminder_reminders_Due_1_L3 (v11 : Int) (a1 : Int) (kx14 : Option ((List Reminder))) : Nat → Unit → Option ((List Reminder))
  | 0, _ => none
  | n + 1, () =>
    if (IntKind.i64.wrap (2 * v11)) ≤ a1 then
    ((none))
    else
    (kx14)
def slices_stableCmpFunc_Reminder_reminders_Due_1_J1 (v11 : Int) (a1 : Int) (rec12 : Int → Option ((List Reminder))) : Option ((List Reminder)) :=
  if (IntKind.i64.wrap (0 + v11)) < a1 then
  (none)
  else
  (((rec12 (IntKind.i64.wrap (v11 * 2)))))
def slices_stableCmpFunc_Reminder_reminders_Due_1_L2 (a1 : Int) (N : Nat) (r10 : (List Reminder)) : Nat → Int → Option ((List Reminder))
  | 0, _ => none
  | n + 1, v11 =>
    if v11 < a1 then
    (((slices_stableCmpFunc_Reminder_reminders_Due_1_L3 v11 a1 (slices_stableCmpFunc_Reminder_reminders_Due_1_J1 v11 a1 (slices_stableCmpFunc_Reminder_reminders_Due_1_L2 a1 N r10 n)) N ())))
    else
    (some r10)
def slices_stableCmpFunc_Reminder_reminders_Due_1_J2 (N : Nat) (a1 : Int) (l8 : List Reminder) (v9 : Int) : Option ((List Reminder)) :=
  (slices_insertionSortCmpFunc_Reminder_reminders_Due_1 N l8 v9 a1).bind fun r10 =>
  (slices_stableCmpFunc_Reminder_reminders_Due_1_L2 a1 N r10 N 20)
def slices_stableCmpFunc_Reminder_reminders_Due_1 (N : Nat) (a0 : (List Reminder)) (a1 : Int) : Option ((List Reminder)) :=
  lenM (fun r => r) a0 (
  (slices_stableCmpFunc_Reminder_reminders_Due_1_L1 a1 N (slices_stableCmpFunc_Reminder_reminders_Due_1_J2 N a1) N (a0, 0, 20)))
def slices_SortStableFunc_Reminder_reminders_Due_1 (N : Nat) (a0 : (List Reminder)) : Option ((List Reminder)) :=
  lenM (fun r => r) a0 (
  (slices_stableCmpFunc_Reminder_reminders_Due_1 N a0 ((a0.length : Nat) : Int)).bind fun r1 =>
  some r1)
def reminders_Due_L1 (kx3 : (List Reminder) → Option ((List Reminder))) (a1 : Int) : List Reminder → Nat → List Reminder → Option ((List Reminder))
  | [], v5, l4 =>
    (kx3 l4)
  | x8 :: xs, v5, l4 =>
    (if x8.Due ≤ a1 then
    (apx 39 l4 [x8] fun l11 =>
    (((reminders_Due_L1 kx3 a1 xs (v5 + 1)) l11)))
    else
    ((((reminders_Due_L1 kx3 a1 xs (v5 + 1)) l4))))
def reminders_Due_J1 (N : Nat) (l13 : List Reminder) : Option ((List Reminder)) :=
  (slices_SortStableFunc_Reminder_reminders_Due_1 N l13).bind fun r14 =>
  some r14
def reminders_Due (N : Nat) (a0 : (List Reminder)) (a1 : Int) : Option ((List Reminder)) :=
  (reminders_Valid N a0).bind fun r2 =>
  if r2 = true then
  (((reminders_Due_L1 (reminders_Due_J1 N) a1 a0 0 [])))
  else
  (some [])
def reminders_Next_J1 (kx1 : Option (Int × Bool)) (c4 : Bool) : Option (Int × Bool) :=
  if c4 = true then
  (some (0, false))
  else
  (kx1)
def reminders_Next_L1  : List Reminder → Nat → Int → Option (Int × Bool)
  | [], v9, v8 =>
    (some (v8, true))
  | x12 :: xs, v9, v8 =>
    ((((reminders_Next_L1 xs (v9 + 1)) (if x12.Due < v8 then x12.Due else v8))))
def reminders_Next_J2 (a0 : (List Reminder)) : Option (Int × Bool) :=
  gx a0 0 fun x5 =>
  slx a0 1 ((a0.length : Nat) : Int) fun l7 =>
  (reminders_Next_L1 l7 0 x5.Due)
def reminders_Next (N : Nat) (a0 : (List Reminder)) : Option (Int × Bool) :=
  (reminders_Valid N a0).bind fun r3 =>
  if r3 = true then
  (((reminders_Next_J1 (reminders_Next_J2 a0)) (decide (((a0.length : Nat) : Int) = 0))))
  else
  (((reminders_Next_J1 (reminders_Next_J2 a0)) true))
def law29_RemindersSorted_L1 (kx4 : (List Reminder) → Option (Bool)) (N : Nat) : List actorgridlaw29_Act → Nat → List Reminder → Option (Bool)
  | [], v6, l5 =>
    (kx4 l5)
  | x9 :: xs, v6, l5 =>
    ((law29_name N x9.Name).bind fun r12 =>
    (reminders_Set N l5 (IntKind.i64.wrap x9.After) r12 (IntKind.i64.wrap ((IntKind.i64.wrap x9.Period) + 1)) (IntKind.i64.wrap ((IntKind.i64.wrap x9.N) + 1))).bind fun r13 =>
    if r13.2 = 0 then
    ((((law29_RemindersSorted_L1 kx4 N xs (v6 + 1)) r13.1)))
    else
    ((((law29_RemindersSorted_L1 kx4 N xs (v6 + 1)) l5))))
def law29_RemindersSorted_L2 (kx17 : Int → Option (Bool)) (a1 : Int) : List Reminder → Nat → Int → Option (Bool)
  | [], v19, v18 =>
    (kx17 v18)
  | x22 :: xs, v19, v18 =>
    (if x22.Due ≤ (IntKind.i64.wrap a1) then
    ((((law29_RemindersSorted_L2 kx17 a1 xs (v19 + 1)) (IntKind.i64.wrap (v18 + 1)))))
    else
    ((((law29_RemindersSorted_L2 kx17 a1 xs (v19 + 1)) v18))))
def law29_RemindersSorted_J1 (rec29 : Unit → Option (Bool)) (c36 : Bool) : Option (Bool) :=
  if c36 = true then
  (some false)
  else
  (((rec29 ())))
def law29_RemindersSorted_L3 (kx27 : Option (Bool)) (a1 : Int) (r16 : (List Reminder)) : List Reminder → Nat → Unit → Option (Bool)
  | [], v28, () =>
    kx27
  | x31 :: xs, v28, () =>
    (if (IntKind.i64.wrap a1) < x31.Due then
    (((law29_RemindersSorted_J1 (law29_RemindersSorted_L3 kx27 a1 r16 xs (v28 + 1))) true))
    else
    (if 0 < ((v28 : Nat) : Int) then
    (gx r16 (IntKind.i64.wrap (((v28 : Nat) : Int) - 1)) fun x35 =>
    if x31.Due < x35.Due then
    (((law29_RemindersSorted_J1 (law29_RemindersSorted_L3 kx27 a1 r16 xs (v28 + 1))) true))
    else
    (if x35.Due = x31.Due then
    (((law29_RemindersSorted_J1 (law29_RemindersSorted_L3 kx27 a1 r16 xs (v28 + 1))) (!(sLt x35.Name x31.Name))))
    else
    (((law29_RemindersSorted_J1 (law29_RemindersSorted_L3 kx27 a1 r16 xs (v28 + 1))) false))))
    else
    (((law29_RemindersSorted_J1 (law29_RemindersSorted_L3 kx27 a1 r16 xs (v28 + 1))) false))))
def law29_RemindersSorted_J2 (N : Nat) (l15 : List Reminder) (r16 : (List Reminder)) (v26 : Int) : Option (Bool) :=
  (reminders_Next N l15).bind fun r37 =>
  if ((r16.length : Nat) : Int) = v26 then
  (if r37.2 = (decide (0 < ((l15.length : Nat) : Int))) then
  (if v26 = 0 then
  ((some true))
  else
  (gx r16 0 fun x39 =>
  (some (decide (x39.Due = r37.1)))))
  else
  ((some false)))
  else
  ((some false))
def law29_RemindersSorted_J3 (N : Nat) (l15 : List Reminder) (r16 : (List Reminder)) (a1 : Int) (v26 : Int) : Option (Bool) :=
  (law29_RemindersSorted_L3 (law29_RemindersSorted_J2 N l15 r16 v26) a1 r16 r16 0 ())
def law29_RemindersSorted_J4 (N : Nat) (a1 : Int) (l15 : List Reminder) : Option (Bool) :=
  (reminders_Due N l15 (IntKind.i64.wrap a1)).bind fun r16 =>
  (law29_RemindersSorted_L2 (law29_RemindersSorted_J3 N l15 r16 a1) a1 l15 0 0)
def law29_RemindersSorted (N : Nat) (a0 : (List actorgridlaw29_Act)) (a1 : Int) : Option (Bool) :=
  (law29_awake N).bind fun r2 =>
  if r2 = true then
  ((if 40 < ((a0.length : Nat) : Int) then
  (some true)
  else
  (((law29_RemindersSorted_L1 (law29_RemindersSorted_J4 N a1) N a0 0 [])))))
  else
  (some false)
end Go.Proofs.Ythdbndgfjldhpaa
