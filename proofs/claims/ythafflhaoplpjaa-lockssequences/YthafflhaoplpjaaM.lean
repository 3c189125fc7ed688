/- The models of the functions. No statement. -/
import Derived.Test.YthafflhaoplpjaaT
/- The functions of the program as plain functions on plain data. -/
set_option maxHeartbeats 40000000
set_option synthInstance.maxHeartbeats 2000000
set_option synthInstance.maxSize 4000
set_option linter.unusedSimpArgs false
set_option linter.unusedVariables false
set_option maxRecDepth 100000
namespace Go.Proofs.Ythafflhaoplpjaa
open Go Go.Proofs Go.Abs
def locks_validActor (N : Nat) (a0 : Ref) : Option (Bool) :=
  if 1 ≤ ((a0.Type_.size : Nat) : Int) then
  (if ((a0.Type_.size : Nat) : Int) ≤ 32 then
  ((some (decide (((a0.Key.size : Nat) : Int) ≤ 32))))
  else
  ((some false)))
  else
  ((some false))
def locks_validTxn (N : Nat) (a0 : Int) : Option (Bool) :=
  if 1 ≤ a0 then
  ((some (decide (a0 ≤ 1099511627776))))
  else
  ((some false))
def locks_validLock_J1 (kx1 : Option (Bool)) (c5 : Bool) : Option (Bool) :=
  if c5 = true then
  (some false)
  else
  (kx1)
def locks_validLock_J2 (rec8 : Unit → Option (Bool)) (c15 : Bool) : Option (Bool) :=
  if c15 = true then
  (some false)
  else
  (((rec8 ())))
def locks_validLock_L1 (a0 : Lock) : List Int → Nat → Unit → Option (Bool)
  | [], v7, () =>
    (some true)
  | x10 :: xs, v7, () =>
    (if x10 < 1 then
    (((locks_validLock_J2 (locks_validLock_L1 a0 xs (v7 + 1))) true))
    else
    (if a0.Owner ≤ x10 then
    (((locks_validLock_J2 (locks_validLock_L1 a0 xs (v7 + 1))) true))
    else
    (if 0 < ((v7 : Nat) : Int) then
    (gx a0.Waiters (IntKind.i64.wrap (((v7 : Nat) : Int) - 1)) fun x14 =>
    ((locks_validLock_J2 (locks_validLock_L1 a0 xs (v7 + 1))) (decide (x10 ≤ x14))))
    else
    (((locks_validLock_J2 (locks_validLock_L1 a0 xs (v7 + 1))) false)))))
def locks_validLock_J3 (a0 : Lock) : Option (Bool) :=
  (locks_validLock_L1 a0 a0.Waiters 0 ())
def locks_validLock (N : Nat) (a0 : Lock) : Option (Bool) :=
  (locks_validActor N a0.Actor).bind fun r3 =>
  if r3 = true then
  ((locks_validTxn N a0.Owner).bind fun r4 =>
  if r4 = true then
  (((locks_validLock_J1 (locks_validLock_J3 a0)) (decide (32 < ((a0.Waiters.length : Nat) : Int)))))
  else
  (((locks_validLock_J1 (locks_validLock_J3 a0)) true)))
  else
  (((locks_validLock_J1 (locks_validLock_J3 a0)) true))
def cmp_isNaN_string (N : Nat) (a0 : ByteArray) : Option (Bool) :=
  some (!(sEq a0 a0))
def cmp_Compare_string (N : Nat) (a0 : ByteArray) (a1 : ByteArray) : Option (Int) :=
  (cmp_isNaN_string N a0).bind fun r1 =>
  (cmp_isNaN_string N a1).bind fun r2 =>
  if r1 = true then
  (if r2 = true then
  (some 0)
  else
  ((some (-1))))
  else
  ((if r2 = true then
  (some 1)
  else
  ((if (sLt a0 a1) = true then
  (some (-1))
  else
  ((if (sLt a0 a1 || sEq a0 a1) = true then
  ((some 0))
  else
  (some 1)))))))
def cmp_Or_int_L1  : List Int → Nat → Unit → Option (Int)
  | [], v2, () =>
    (some 0)
  | x5 :: xs, v2, () =>
    (if x5 = 0 then
    ((((cmp_Or_int_L1 xs (v2 + 1)) ())))
    else
    (some x5))
def cmp_Or_int (N : Nat) (a0 : (List Int)) : Option (Int) :=
  (cmp_Or_int_L1 a0 0 ())
def locks_compare (N : Nat) (a0 : Ref) (a1 : Ref) : Option (Int) :=
  (cmp_Compare_string N a0.Type_ a1.Type_).bind fun r1 =>
  (cmp_Compare_string N a0.Key a1.Key).bind fun r2 =>
  (cmp_Or_int N [r1, r2]).bind fun r3 =>
  some r3
def locks_Valid_J1 (rec4 : Unit → Option (Bool)) (c13 : Bool) : Option (Bool) :=
  if c13 = true then
  (some false)
  else
  (((rec4 ())))
def locks_Valid_L1 (N : Nat) (a0 : (List Lock)) : List Lock → Nat → Unit → Option (Bool)
  | [], v3, () =>
    (some true)
  | x6 :: xs, v3, () =>
    ((locks_validLock N x6).bind fun r10 =>
    if r10 = true then
    (if 0 < ((v3 : Nat) : Int) then
    (gx a0 (IntKind.i64.wrap (((v3 : Nat) : Int) - 1)) fun x11 =>
    (locks_compare N x11.Actor x6.Actor).bind fun r12 =>
    ((locks_Valid_J1 (locks_Valid_L1 N a0 xs (v3 + 1))) (decide (0 ≤ r12))))
    else
    (((locks_Valid_J1 (locks_Valid_L1 N a0 xs (v3 + 1))) false)))
    else
    (((locks_Valid_J1 (locks_Valid_L1 N a0 xs (v3 + 1))) true)))
def locks_Valid (N : Nat) (a0 : (List Lock)) : Option (Bool) :=
  if 128 < ((a0.length : Nat) : Int) then
  (some false)
  else
  (((locks_Valid_L1 N a0 a0 0 ())))
def locks_find_1 (N : Nat) (a0 : Lock) (a1 : Ref) : Option (Int) :=
  (locks_compare N a0.Actor a1).bind fun r1 =>
  some r1
def slices_BinarySearchFunc_Ref_locks_find_1_L1 (a0 : (List Lock)) (N : Nat) (a1 : Ref) (kx1 : Int → Option (Int × Bool)) : Nat → Int × Int → Option (Int × Bool)
  | 0, _ => none
  | n + 1, (v2, v3) =>
    if v2 < v3 then
    ((gx a0 (IntKind.i64.wrap (shrI .u64 (IntKind.u64.wrap (IntKind.i64.wrap (v2 + v3))) 1)) fun x6 =>
    (locks_find_1 N x6 a1).bind fun r7 =>
    if r7 < 0 then
    (((slices_BinarySearchFunc_Ref_locks_find_1_L1 a0 N a1 kx1 n) (IntKind.i64.wrap ((IntKind.i64.wrap (shrI .u64 (IntKind.u64.wrap (IntKind.i64.wrap (v2 + v3))) 1)) + 1), v3)))
    else
    (((slices_BinarySearchFunc_Ref_locks_find_1_L1 a0 N a1 kx1 n) (v2, IntKind.i64.wrap (shrI .u64 (IntKind.u64.wrap (IntKind.i64.wrap (v2 + v3))) 1))))))
    else
    ((kx1 v2))
def slices_BinarySearchFunc_Ref_locks_find_1_J1 (a0 : (List Lock)) (N : Nat) (a1 : Ref) (v8 : Int) : Option (Int × Bool) :=
  if v8 < ((a0.length : Nat) : Int) then
  (gx a0 v8 fun x10 =>
  (locks_find_1 N x10 a1).bind fun r11 =>
  (some (v8, (decide (r11 = 0)))))
  else
  ((some (v8, false)))
def slices_BinarySearchFunc_Ref_locks_find_1 (N : Nat) (a0 : (List Lock)) (a1 : Ref) : Option (Int × Bool) :=
  (slices_BinarySearchFunc_Ref_locks_find_1_L1 a0 N a1 (slices_BinarySearchFunc_Ref_locks_find_1_J1 a0 N a1) N (0, ((a0.length : Nat) : Int)))
def locks_find (N : Nat) (a0 : (List Lock)) (a1 : Ref) : Option (Int × Bool) :=
  (slices_BinarySearchFunc_Ref_locks_find_1 N a0 a1).bind fun r1 =>
  some (r1.1, r1.2)
def slices_Clone_Lock (N : Nat) (a0 : (List Lock)) : Option ((List Lock)) :=
  (apn 63 a0 <|
  some a0)
def slices_Clone_int (N : Nat) (a0 : (List Int)) : Option ((List Int)) :=
  (apn 7 a0 <|
  some a0)
def locks_clone_L1 (N : Nat) : Nat → Nat → List Lock → Option ((List Lock))
  | 0, v4, l3 =>
    lenG l3 v4 <|
    (some l3)
  | m + 1, v4, l3 =>
    (gx l3 ((v4 : Nat) : Int) fun x9 =>
    (slices_Clone_int N x9.Waiters).bind fun r10 =>
    (((locks_clone_L1 N m (v4 + 1)) (l3.set v4 (Lock.mk x9.Actor x9.Owner r10)))))
def locks_clone (N : Nat) (a0 : (List Lock)) : Option ((List Lock)) :=
  (slices_Clone_Lock N a0).bind fun r1 =>
  (locks_clone_L1 N (r1.length - 0) 0 r1)
def slices_Insert_Lock (N : Nat) (a0 : List Lock) (a1 : Int) (a2 : List Lock) : Option (List Lock) := insM 63 a0 a1 a2 fun l => some l
def cmp_isNaN_int (N : Nat) (a0 : Int) : Option (Bool) :=
  some (!decide (a0 = a0))
def cmp_Less_int (N : Nat) (a0 : Int) (a1 : Int) : Option (Bool) :=
  (cmp_isNaN_int N a0).bind fun r2 =>
  if r2 = true then
  ((cmp_isNaN_int N a1).bind fun r3 =>
  if r3 = true then
  ((some (decide (a0 < a1))))
  else
  ((some true)))
  else
  ((some (decide (a0 < a1))))
def slices_isNaN_int (N : Nat) (a0 : Int) : Option (Bool) :=
  some (!decide (a0 = a0))
def slices_BinarySearch_int_L1 (a0 : (List Int)) (N : Nat) (a1 : Int) (kx1 : Int → Option (Int × Bool)) : Nat → Int × Int → Option (Int × Bool)
  | 0, _ => none
  | n + 1, (v2, v3) =>
    if v2 < v3 then
    ((gx a0 (IntKind.i64.wrap (shrI .u64 (IntKind.u64.wrap (IntKind.i64.wrap (v2 + v3))) 1)) fun x6 =>
    (cmp_Less_int N x6 a1).bind fun r7 =>
    if r7 = true then
    (((slices_BinarySearch_int_L1 a0 N a1 kx1 n) (IntKind.i64.wrap ((IntKind.i64.wrap (shrI .u64 (IntKind.u64.wrap (IntKind.i64.wrap (v2 + v3))) 1)) + 1), v3)))
    else
    (((slices_BinarySearch_int_L1 a0 N a1 kx1 n) (v2, IntKind.i64.wrap (shrI .u64 (IntKind.u64.wrap (IntKind.i64.wrap (v2 + v3))) 1))))))
    else
    ((kx1 v2))
def slices_BinarySearch_int_J1 (a0 : (List Int)) (a1 : Int) (N : Nat) (v8 : Int) : Option (Int × Bool) :=
  if v8 < ((a0.length : Nat) : Int) then
  (gx a0 v8 fun x10 =>
  if x10 = a1 then
  ((some (v8, true)))
  else
  ((slices_isNaN_int N x10).bind fun r11 =>
  if r11 = true then
  ((slices_isNaN_int N a1).bind fun r12 =>
  (some (v8, r12)))
  else
  ((some (v8, false)))))
  else
  ((some (v8, false)))
def slices_BinarySearch_int (N : Nat) (a0 : (List Int)) (a1 : Int) : Option (Int × Bool) :=
  (slices_BinarySearch_int_L1 a0 N a1 (slices_BinarySearch_int_J1 a0 a1 N) N (0, ((a0.length : Nat) : Int)))
def slices_Insert_int (N : Nat) (a0 : List Int) (a1 : Int) (a2 : List Int) : Option (List Int) := insM 7 a0 a1 a2 fun l => some l
def locks_Acquire_J1 (kx1 : Option ((List Lock) × Int × Int)) (c6 : Bool) : Option ((List Lock) × Int × Int) :=
  if c6 = true then
  (some ([], 0, 1))
  else
  (kx1)
def locks_Acquire_J2 (N : Nat) (a0 : (List Lock)) (a1 : Ref) (a2 : Int) : Option ((List Lock) × Int × Int) :=
  (locks_find N a0 a1).bind fun r7 =>
  if r7.2 = true then
  ((gx a0 r7.1 fun x12 =>
  (slices_BinarySearch_int N x12.Waiters a2).bind fun r13 =>
  if x12.Owner = a2 then
  ((locks_clone N a0).bind fun r15 =>
  some (r15, 1, 0))
  else
  (if x12.Owner < a2 then
  ((locks_clone N a0).bind fun r16 =>
  some (r16, 3, 0))
  else
  (if r13.2 = true then
  ((locks_clone N a0).bind fun r17 =>
  some (r17, 2, 0))
  else
  (if ((x12.Waiters.length : Nat) : Int) = 32 then
  (some ([], 0, 5))
  else
  (((locks_clone N a0).bind fun r18 =>
  gx r18 r7.1 fun x19 =>
  (slices_Insert_int N x19.Waiters r13.1 [a2]).bind fun r20 =>
  some ((r18.set ((r7.1).toNat) (Lock.mk x19.Actor x19.Owner r20)), 2, 0))))))))
  else
  (if ((a0.length : Nat) : Int) = 128 then
  (some ([], 0, 5))
  else
  (((locks_clone N a0).bind fun r10 =>
  (slices_Insert_Lock N r10 r7.1 [(Lock.mk a1 a2 [])]).bind fun r11 =>
  some (r11, 1, 0))))
def locks_Acquire (N : Nat) (a0 : (List Lock)) (a1 : Ref) (a2 : Int) : Option ((List Lock) × Int × Int) :=
  (locks_Valid N a0).bind fun r3 =>
  if r3 = true then
  ((locks_validActor N a1).bind fun r4 =>
  if r4 = true then
  ((locks_validTxn N a2).bind fun r5 =>
  ((locks_Acquire_J1 (locks_Acquire_J2 N a0 a1 a2)) (!r5)))
  else
  (((locks_Acquire_J1 (locks_Acquire_J2 N a0 a1 a2)) true)))
  else
  (((locks_Acquire_J1 (locks_Acquire_J2 N a0 a1 a2)) true))
def locks_Owner (N : Nat) (a0 : (List Lock)) (a1 : Ref) : Option (Int) :=
  (locks_Valid N a0).bind fun r2 =>
  if r2 = true then
  (((locks_find N a0 a1).bind fun r4 =>
  if r4.2 = true then
  (gx a0 r4.1 fun x5 =>
  some x5.Owner)
  else
  ((some 0))))
  else
  (some 0)
def slices_Delete_Lock (N : Nat) (a0 : List Lock) (a1 : Int) (a2 : Int) : Option (List Lock) := delM a0 a1 a2 fun l => some l
def locks_pass (N : Nat) (a0 : (List Lock)) (a1 : Int) : Option ((List Lock) × Int) :=
  gx a0 a1 fun x1 =>
  if ((x1.Waiters.length : Nat) : Int) = 0 then
  ((slices_Delete_Lock N a0 a1 (IntKind.i64.wrap (a1 + 1))).bind fun r3 =>
  some (r3, 0))
  else
  ((gx x1.Waiters (IntKind.i64.wrap (((x1.Waiters.length : Nat) : Int) - 1)) fun x4 =>
  slt x1.Waiters (IntKind.i64.wrap (((x1.Waiters.length : Nat) : Int) - 1)) fun l5 =>
  some (((a0.set ((a1).toNat) (Lock.mk x1.Actor x4 x1.Waiters)).set ((a1).toNat) (Lock.mk x1.Actor x4 l5)), x4)))
def locks_Release_J1 (kx1 : Option ((List Lock) × Int × Int)) (c6 : Bool) : Option ((List Lock) × Int × Int) :=
  if c6 = true then
  (some ([], 0, 1))
  else
  (kx1)
def locks_Release_J2 (kx8 : Option ((List Lock) × Int × Int)) (c11 : Bool) : Option ((List Lock) × Int × Int) :=
  if c11 = true then
  (some ([], 0, 10))
  else
  (kx8)
def locks_Release_J3 (N : Nat) (a0 : (List Lock)) (r7 : Int × Bool) : Option ((List Lock) × Int × Int) :=
  (locks_clone N a0).bind fun r12 =>
  (locks_pass N r12 r7.1).bind fun r13 =>
  some (r13.1, r13.2, 0)
def locks_Release_J4 (N : Nat) (a0 : (List Lock)) (a1 : Ref) (a2 : Int) : Option ((List Lock) × Int × Int) :=
  (locks_find N a0 a1).bind fun r7 =>
  if r7.2 = true then
  (gx a0 r7.1 fun x10 =>
  ((locks_Release_J2 (locks_Release_J3 N a0 r7)) (!decide (x10.Owner = a2))))
  else
  (((locks_Release_J2 (locks_Release_J3 N a0 r7)) true))
def locks_Release (N : Nat) (a0 : (List Lock)) (a1 : Ref) (a2 : Int) : Option ((List Lock) × Int × Int) :=
  (locks_Valid N a0).bind fun r3 =>
  if r3 = true then
  ((locks_validActor N a1).bind fun r4 =>
  if r4 = true then
  ((locks_validTxn N a2).bind fun r5 =>
  ((locks_Release_J1 (locks_Release_J4 N a0 a1 a2)) (!r5)))
  else
  (((locks_Release_J1 (locks_Release_J4 N a0 a1 a2)) true)))
  else
  (((locks_Release_J1 (locks_Release_J4 N a0 a1 a2)) true))
def math_bits_Len64_J1 (v8 : Int) (v9 : Int) : Option (Int) :=
  gxs (⟨((([0, 1, 2, 2, 3, 3, 3, 3, 4, 4, 4, 4, 4, 4, 4, 4, 5, 5, 5, 5, 5, 5, 5, 5, 5, 5, 5, 5, 5, 5, 5, 5, 6, 6, 6, 6, 6, 6, 6, 6, 6, 6, 6, 6, 6, 6, 6, 6, 6, 6, 6, 6, 6, 6, 6, 6, 6, 6, 6, 6, 6, 6, 6, 6] : List UInt8).append ([7, 7, 7, 7, 7, 7, 7, 7, 7, 7, 7, 7, 7, 7, 7, 7, 7, 7, 7, 7, 7, 7, 7, 7, 7, 7, 7, 7, 7, 7, 7, 7, 7, 7, 7, 7, 7, 7, 7, 7, 7, 7, 7, 7, 7, 7, 7, 7, 7, 7, 7, 7, 7, 7, 7, 7, 7, 7, 7, 7, 7, 7, 7, 7] : List UInt8)).append (([8, 8, 8, 8, 8, 8, 8, 8, 8, 8, 8, 8, 8, 8, 8, 8, 8, 8, 8, 8, 8, 8, 8, 8, 8, 8, 8, 8, 8, 8, 8, 8, 8, 8, 8, 8, 8, 8, 8, 8, 8, 8, 8, 8, 8, 8, 8, 8, 8, 8, 8, 8, 8, 8, 8, 8, 8, 8, 8, 8, 8, 8, 8, 8] : List UInt8).append ([8, 8, 8, 8, 8, 8, 8, 8, 8, 8, 8, 8, 8, 8, 8, 8, 8, 8, 8, 8, 8, 8, 8, 8, 8, 8, 8, 8, 8, 8, 8, 8, 8, 8, 8, 8, 8, 8, 8, 8, 8, 8, 8, 8, 8, 8, 8, 8, 8, 8, 8, 8, 8, 8, 8, 8, 8, 8, 8, 8, 8, 8, 8, 8] : List UInt8))).toArray⟩ : ByteArray) (IntKind.u8.wrap v8) fun b10 =>
  some (IntKind.i64.wrap (v9 + (IntKind.i64.wrap (b10.toNat : Int))))
def math_bits_Len64_J2 (v5 : Int) (v6 : Int) : Option (Int) :=
  if 256 ≤ v5 then
  ((math_bits_Len64_J1 (shrI .u64 v5 8) (IntKind.i64.wrap (v6 + 8))))
  else
  ((math_bits_Len64_J1 v5 v6))
def math_bits_Len64_J3 (v2 : Int) (v3 : Int) : Option (Int) :=
  if 65536 ≤ v2 then
  ((math_bits_Len64_J2 (shrI .u64 v2 16) (IntKind.i64.wrap (v3 + 16))))
  else
  ((math_bits_Len64_J2 v2 v3))
def math_bits_Len64 (N : Nat) (a0 : Int) : Option (Int) :=
  if 4294967296 ≤ a0 then
  ((math_bits_Len64_J3 (shrI .u64 a0 32) 32))
  else
  ((math_bits_Len64_J3 a0 0))
def math_bits_Len (N : Nat) (a0 : Int) : Option (Int) :=
  ((math_bits_Len64 N a0).bind fun r2 =>
  some r2)
def cmp_Compare_int (N : Nat) (a0 : Int) (a1 : Int) : Option (Int) :=
  (cmp_isNaN_int N a0).bind fun r1 =>
  (cmp_isNaN_int N a1).bind fun r2 =>
  if r1 = true then
  (if r2 = true then
  (some 0)
  else
  ((some (-1))))
  else
  ((if r2 = true then
  (some 1)
  else
  ((if a0 < a1 then
  (some (-1))
  else
  ((if a1 < a0 then
  (some 1)
  else
  ((some 0))))))))
def locks_Edges_1 (N : Nat) (a0 : Arr2_i64) (a1 : Arr2_i64) : Option (Int) :=
  (cmp_Compare_int N a0.e0 a1.e0).bind fun r1 =>
  (cmp_Compare_int N a0.e1 a1.e1).bind fun r2 =>
  (cmp_Or_int N [r1, r2]).bind fun r3 =>
  some r3
def slices_insertionSortCmpFunc_2int_locks_Edges_1_cut_J1 (kx6 : Option ((List Arr2_i64))) (rec2 : Int → Option ((List Arr2_i64))) (v1 : Int) (c11 : Bool) : Option ((List Arr2_i64)) :=
  if c11 = true then
  (kx6)
  else
  (((rec2 (IntKind.i64.wrap (v1 + 1)))))
def slices_insertionSortCmpFunc_2int_locks_Edges_1_cut_J2 (a0 : (List Arr2_i64)) (v1 : Int) : Option ((List Arr2_i64)) :=
  gx a0 (IntKind.i64.wrap (v1 - 1)) fun x13 =>
  gx a0 v1 fun x14 =>
  none
def slices_insertionSortCmpFunc_2int_locks_Edges_1_cut_L2 (a1 : Int) (v1 : Int) (a0 : (List Arr2_i64)) (N : Nat) (rec2 : Int → Option ((List Arr2_i64))) : Nat → Unit → Option ((List Arr2_i64))
  | 0, _ => none
  | n + 1, () =>
    if a1 < v1 then
    (gx a0 v1 fun x8 =>
    gx a0 (IntKind.i64.wrap (v1 - 1)) fun x9 =>
    (locks_Edges_1 N x8 x9).bind fun r10 =>
    ((slices_insertionSortCmpFunc_2int_locks_Edges_1_cut_J1 (slices_insertionSortCmpFunc_2int_locks_Edges_1_cut_J2 a0 v1) rec2 v1) (decide (r10 < 0))))
    else
    (((slices_insertionSortCmpFunc_2int_locks_Edges_1_cut_J1 (slices_insertionSortCmpFunc_2int_locks_Edges_1_cut_J2 a0 v1) rec2 v1) false))
def slices_insertionSortCmpFunc_2int_locks_Edges_1_cut_L1 (a2 : Int) (a1 : Int) (a0 : (List Arr2_i64)) (N : Nat) : Nat → Int → Option ((List Arr2_i64))
  | 0, _ => none
  | n + 1, v1 =>
    if v1 < a2 then
    (((slices_insertionSortCmpFunc_2int_locks_Edges_1_cut_L2 a1 v1 a0 N (slices_insertionSortCmpFunc_2int_locks_Edges_1_cut_L1 a2 a1 a0 N n) N ())))
    else
    (some a0)
def slices_insertionSortCmpFunc_2int_locks_Edges_1_cut (N : Nat) (a0 : (List Arr2_i64)) (a1 : Int) (a2 : Int) : Option ((List Arr2_i64)) :=
  lenM (fun r => r) a0 (
  (slices_insertionSortCmpFunc_2int_locks_Edges_1_cut_L1 a2 a1 a0 N N (IntKind.i64.wrap (a1 + 1))))
def slices_pdqsortCmpFunc_2int_locks_Edges_1_cut_L1 (a2 : Int) (a1 : Int) (N : Nat) (a0 : (List Arr2_i64)) (a3 : Int) : Nat → Unit → Option ((List Arr2_i64))
  | 0, _ => none
  | n + 1, () =>
    if (IntKind.i64.wrap (a2 - a1)) ≤ 12 then
    ((slices_insertionSortCmpFunc_2int_locks_Edges_1_cut N a0 a1 a2).bind fun r3 =>
    some r3)
    else
    ((if a3 = 0 then
    (none)
    else
    (((none)))))
def slices_pdqsortCmpFunc_2int_locks_Edges_1_cut (N : Nat) (a0 : (List Arr2_i64)) (a1 : Int) (a2 : Int) (a3 : Int) : Option ((List Arr2_i64)) :=
  lenM (fun r => r) a0 (
  (slices_pdqsortCmpFunc_2int_locks_Edges_1_cut_L1 a2 a1 N a0 a3 N ()))
def slices_SortFunc_2int_locks_Edges_1_small (N : Nat) (a0 : (List Arr2_i64)) : Option ((List Arr2_i64)) :=
  lenM (fun r => r) a0 (
  (math_bits_Len N (IntKind.u64.wrap ((a0.length : Nat) : Int))).bind fun r1 =>
  (slices_pdqsortCmpFunc_2int_locks_Edges_1_cut N a0 0 ((a0.length : Nat) : Int) r1).bind fun r2 =>
  some r2)
noncomputable def slices_SortFunc_2int_locks_Edges_1 (N : Nat) (a0 : (List Arr2_i64)) : Option (List Arr2_i64) := if a0.isEmpty = true then slices_SortFunc_2int_locks_Edges_1_small N a0  else sortM (fun x y => locks_Edges_1 N x y ) a0
def slices_Compact_2int_L2 (a0 : (List Arr2_i64)) (v3 : Nat) (kx11 : (List Arr2_i64) → Int → Option ((List Arr2_i64))) : Nat → List Arr2_i64 × Int × Int → Option ((List Arr2_i64))
  | 0, _ => none
  | n + 1, (l12, v13, v14) =>
    if v14 < (((a0.length - v3) : Nat) : Int) then
    ((gx ((l12.drop v3).take (a0.length - v3)) v14 fun x18 =>
    gx ((l12.drop v3).take (a0.length - v3)) (IntKind.i64.wrap (v14 - 1)) fun x19 =>
    if (decide (x18.e0 = x19.e0) && decide (x18.e1 = x19.e1)) = true then
    ((((slices_Compact_2int_L2 a0 v3 kx11 n) (l12, v13, IntKind.i64.wrap (v14 + 1)))))
    else
    (gx l12 v13 fun x20 =>
    (((slices_Compact_2int_L2 a0 v3 kx11 n) ((l12.set ((v13).toNat) x18), (IntKind.i64.wrap (v13 + 1)), IntKind.i64.wrap (v14 + 1)))))))
    else
    ((kx11 l12 v13))
def slices_Compact_2int_J1 (l23 : List Arr2_i64) (v24 : Int) : Option ((List Arr2_i64)) :=
  slx l23 v24 ((l23.length : Nat) : Int) fun l25 =>
  slx (clrL (Arr2_i64.mk 0 0) (v24).toNat l23) 0 v24 fun l26 =>
  some ((clrL (Arr2_i64.mk 0 0) (v24).toNat l23).take ((v24).toNat))
def slices_Compact_2int_L1 (a0 : (List Arr2_i64)) (N : Nat) : Nat → Nat → Unit → Option ((List Arr2_i64))
  | 0, v3, () =>
    (some a0)
  | m + 1, v3, () =>
    (gx a0 ((v3 : Nat) : Int) fun x8 =>
    gx a0 (IntKind.i64.wrap (((v3 : Nat) : Int) - 1)) fun x9 =>
    if (decide (x8.e0 = x9.e0) && decide (x8.e1 = x9.e1)) = true then
    (slx a0 ((v3 : Nat) : Int) ((a0.length : Nat) : Int) fun l10 =>
    (slices_Compact_2int_L2 a0 v3 slices_Compact_2int_J1 N (a0, ((v3 : Nat) : Int), 1)))
    else
    ((((slices_Compact_2int_L1 a0 N m (v3 + 1)) ()))))
def slices_Compact_2int (N : Nat) (a0 : (List Arr2_i64)) : Option ((List Arr2_i64)) :=
  if ((a0.length : Nat) : Int) < 2 then
  (some a0)
  else
  (((slices_Compact_2int_L1 a0 N (a0.length - 1) 1 ())))
noncomputable def locks_Edges_L2 (rec6 : List Arr2_i64 → Option ((List Arr2_i64))) (x8 : Lock) : List Int → Nat → List Arr2_i64 → Option ((List Arr2_i64))
  | [], v12, l11 =>
    ((rec6 l11))
  | x15 :: xs, v12, l11 =>
    (apx 15 l11 [(Arr2_i64.mk x15 x8.Owner)] fun l18 =>
    (((locks_Edges_L2 rec6 x8 xs (v12 + 1)) l18)))
noncomputable def locks_Edges_L1 (kx3 : (List Arr2_i64) → Option ((List Arr2_i64))) : List Lock → Nat → List Arr2_i64 → Option ((List Arr2_i64))
  | [], v5, l4 =>
    (kx3 l4)
  | x8 :: xs, v5, l4 =>
    ((locks_Edges_L2 (locks_Edges_L1 kx3 xs (v5 + 1)) x8 x8.Waiters 0 l4))
noncomputable def locks_Edges_J1 (N : Nat) (l20 : List Arr2_i64) : Option ((List Arr2_i64)) :=
  (slices_SortFunc_2int_locks_Edges_1 N l20).bind fun r21 =>
  (slices_Compact_2int N r21).bind fun r22 =>
  some r22
noncomputable def locks_Edges (N : Nat) (a0 : (List Lock)) : Option ((List Arr2_i64)) :=
  (locks_Valid N a0).bind fun r2 =>
  if r2 = true then
  (((locks_Edges_L1 (locks_Edges_J1 N) a0 0 [])))
  else
  (some [])
def locks_Withdraw_1 (N : Nat) (a0 : Int) (c0_0 : Int) : Option (Bool) :=
  some (decide (a0 = c0_0))
def slices_IndexFunc_int_locks_Withdraw_1_L1 (N : Nat) (k1_0_0 : Int) : List Int → Nat → Unit → Option (Int)
  | [], v2, () =>
    (some (-1))
  | x5 :: xs, v2, () =>
    ((locks_Withdraw_1 N x5 k1_0_0).bind fun r8 =>
    if r8 = true then
    (some ((v2 : Nat) : Int))
    else
    ((((slices_IndexFunc_int_locks_Withdraw_1_L1 N k1_0_0 xs (v2 + 1)) ()))))
def slices_IndexFunc_int_locks_Withdraw_1 (N : Nat) (a0 : (List Int)) (k1_0_0 : Int) : Option (Int) :=
  (slices_IndexFunc_int_locks_Withdraw_1_L1 N k1_0_0 a0 0 ())
def slices_DeleteFunc_int_locks_Withdraw_1_L1 (N : Nat) (k1_0_0 : Int) (kx3 : (List Int) → Int → Option ((List Int))) : Nat → List Int × Int × Int → Option ((List Int))
  | 0, _ => none
  | n + 1, (l4, v5, v6) =>
    if v6 < ((l4.length : Nat) : Int) then
    ((gx l4 v6 fun x10 =>
    (locks_Withdraw_1 N x10 k1_0_0).bind fun r11 =>
    if r11 = true then
    ((((slices_DeleteFunc_int_locks_Withdraw_1_L1 N k1_0_0 kx3 n) (l4, v5, IntKind.i64.wrap (v6 + 1)))))
    else
    (gx l4 v5 fun x12 =>
    (((slices_DeleteFunc_int_locks_Withdraw_1_L1 N k1_0_0 kx3 n) ((l4.set ((v5).toNat) x10), (IntKind.i64.wrap (v5 + 1)), IntKind.i64.wrap (v6 + 1)))))))
    else
    ((kx3 l4 v5))
def slices_DeleteFunc_int_locks_Withdraw_1_J1 (l15 : List Int) (v16 : Int) : Option ((List Int)) :=
  slx l15 v16 ((l15.length : Nat) : Int) fun l17 =>
  slx (clrL 0 (v16).toNat l15) 0 v16 fun l18 =>
  some ((clrL 0 (v16).toNat l15).take ((v16).toNat))
def slices_DeleteFunc_int_locks_Withdraw_1 (N : Nat) (a0 : (List Int)) (k1_0_0 : Int) : Option ((List Int)) :=
  (slices_IndexFunc_int_locks_Withdraw_1 N a0 k1_0_0).bind fun r1 =>
  if r1 = (-1) then
  (some a0)
  else
  (((slices_DeleteFunc_int_locks_Withdraw_1_L1 N k1_0_0 slices_DeleteFunc_int_locks_Withdraw_1_J1 N (a0, r1, IntKind.i64.wrap (r1 + 1)))))
def locks_Withdraw_L1 (N : Nat) (a1 : Int) : Nat → Nat → List Lock → Option ((List Lock))
  | 0, v6, l5 =>
    (some l5)
  | m + 1, v6, l5 =>
    (gx l5 ((v6 : Nat) : Int) fun x11 =>
    (slices_DeleteFunc_int_locks_Withdraw_1 N x11.Waiters a1).bind fun r12 =>
    (((locks_Withdraw_L1 N a1 m (v6 + 1)) (l5.set v6 (Lock.mk x11.Actor x11.Owner r12)))))
def locks_Withdraw (N : Nat) (a0 : (List Lock)) (a1 : Int) : Option ((List Lock)) :=
  (locks_Valid N a0).bind fun r2 =>
  if r2 = true then
  (((locks_clone N a0).bind fun r3 =>
  (locks_Withdraw_L1 N a1 (r3.length - 0) 0 r3)))
  else
  (some [])
noncomputable def law31_awake_J1 (kx2 : Option (Bool)) (c5 : Bool) : Option (Bool) :=
  if c5 = true then
  (some false)
  else
  (kx2)
noncomputable def law31_awake_J2 (kx7 : Option (Bool)) (c9 : Bool) : Option (Bool) :=
  if c9 = true then
  (some false)
  else
  (kx7)
noncomputable def law31_awake_J3 (kx11 : Option (Bool)) (c13 : Bool) : Option (Bool) :=
  if c13 = true then
  (some false)
  else
  (kx11)
noncomputable def law31_awake_J4 (kx17 : Option (Bool)) (c20 : Bool) : Option (Bool) :=
  if c20 = true then
  (some false)
  else
  (kx17)
noncomputable def law31_awake_J5 (N : Nat) (r16 : (List Lock) × Int × Int) : Option (Bool) :=
  (locks_Edges N r16.1).bind fun r21 =>
  if ((r21.length : Nat) : Int) = 1 then
  (gx r21 0 fun x23 =>
  if (decide (x23.e0 = 2) && decide (x23.e1 = 3)) = true then
  ((locks_Withdraw N r16.1 2).bind fun r24 =>
  (some (decide (((r24.length : Nat) : Int) = 1))))
  else
  ((some false)))
  else
  ((some false))
noncomputable def law31_awake_J6 (N : Nat) (r6 : (List Lock) × Int × Int) : Option (Bool) :=
  (locks_Acquire N r6.1 (Ref.mk (⟨#[65]⟩) (⟨#[107]⟩)) 2).bind fun r14 =>
  if r14.2.2 = 0 then
  (((locks_Release N r14.1 (Ref.mk (⟨#[65]⟩) (⟨#[107]⟩)) 5).bind fun r16 =>
  if r16.2.2 = 0 then
  (if r16.2.1 = 3 then
  ((locks_Valid N r16.1).bind fun r19 =>
  ((law31_awake_J4 (law31_awake_J5 N r16)) (!r19)))
  else
  (((law31_awake_J4 (law31_awake_J5 N r16)) true)))
  else
  (((law31_awake_J4 (law31_awake_J5 N r16)) true))))
  else
  (some false)
noncomputable def law31_awake_J7 (N : Nat) (r6 : (List Lock) × Int × Int) : Option (Bool) :=
  (locks_Acquire N r6.1 (Ref.mk (⟨#[65]⟩) (⟨#[107]⟩)) 7).bind fun r10 =>
  if r10.2.2 = 0 then
  (((law31_awake_J3 (law31_awake_J6 N r6)) (!decide (r10.2.1 = 3))))
  else
  (((law31_awake_J3 (law31_awake_J6 N r6)) true))
noncomputable def law31_awake_J8 (N : Nat) (r1 : (List Lock) × Int × Int) : Option (Bool) :=
  (locks_Acquire N r1.1 (Ref.mk (⟨#[65]⟩) (⟨#[107]⟩)) 3).bind fun r6 =>
  if r6.2.2 = 0 then
  (((law31_awake_J2 (law31_awake_J7 N r6)) (!decide (r6.2.1 = 2))))
  else
  (((law31_awake_J2 (law31_awake_J7 N r6)) true))
noncomputable def law31_awake (N : Nat)  : Option (Bool) :=
  (locks_Acquire N [] (Ref.mk (⟨#[65]⟩) (⟨#[107]⟩)) 5).bind fun r1 =>
  if r1.2.2 = 0 then
  (if r1.2.1 = 1 then
  ((locks_Owner N r1.1 (Ref.mk (⟨#[65]⟩) (⟨#[107]⟩))).bind fun r4 =>
  ((law31_awake_J1 (law31_awake_J8 N r1)) (!decide (r4 = 5))))
  else
  (((law31_awake_J1 (law31_awake_J8 N r1)) true)))
  else
  (((law31_awake_J1 (law31_awake_J8 N r1)) true))
def law31_ref (N : Nat) (a0 : Int) : Option (Ref) :=
  sls (⟨#[97, 98, 99, 100, 101, 102]⟩) (IntKind.i64.wrap (Int.tmod a0 6)) (IntKind.i64.wrap ((IntKind.i64.wrap (Int.tmod a0 6)) + 1)) fun s1 =>
  some (Ref.mk (⟨#[65]⟩) s1)
def ref14_ValidRef (N : Nat) (a0 : Ref) : Option (Bool) :=
  if 1 ≤ ((a0.Type_.size : Nat) : Int) then
  (if ((a0.Type_.size : Nat) : Int) ≤ 32 then
  ((some (decide (((a0.Key.size : Nat) : Int) ≤ 32))))
  else
  ((some false)))
  else
  ((some false))
def ref29_isTxn (N : Nat) (a0 : Int) : Option (Bool) :=
  if 1 ≤ a0 then
  ((some (decide (a0 ≤ 1099511627776))))
  else
  ((some false))
def ref14_Less (N : Nat) (a0 : Ref) (a1 : Ref) : Option (Bool) :=
  if (sLt a0.Type_ a1.Type_) = true then
  ((some true))
  else
  (if (sEq a0.Type_ a1.Type_) = true then
  ((some (sLt a0.Key a1.Key)))
  else
  ((some false)))
def ref29_ValidLocks_J1 (kx9 : Option (Bool)) (c15 : Bool) : Option (Bool) :=
  if c15 = true then
  (some false)
  else
  (kx9)
def ref29_ValidLocks_J2 (rec17 : Unit → Option (Bool)) (c24 : Bool) : Option (Bool) :=
  if c24 = true then
  (some false)
  else
  (((rec17 ())))
def ref29_ValidLocks_L2 (rec4 : Unit → Option (Bool)) (x6 : Lock) : List Int → Nat → Unit → Option (Bool)
  | [], v16, () =>
    ((rec4 ()))
  | x19 :: xs, v16, () =>
    (if x19 < 1 then
    (((ref29_ValidLocks_J2 (ref29_ValidLocks_L2 rec4 x6 xs (v16 + 1))) true))
    else
    (if x6.Owner ≤ x19 then
    (((ref29_ValidLocks_J2 (ref29_ValidLocks_L2 rec4 x6 xs (v16 + 1))) true))
    else
    (if 0 < ((v16 : Nat) : Int) then
    (gx x6.Waiters (IntKind.i64.wrap (((v16 : Nat) : Int) - 1)) fun x23 =>
    ((ref29_ValidLocks_J2 (ref29_ValidLocks_L2 rec4 x6 xs (v16 + 1))) (decide (x19 ≤ x23))))
    else
    (((ref29_ValidLocks_J2 (ref29_ValidLocks_L2 rec4 x6 xs (v16 + 1))) false)))))
def ref29_ValidLocks_J3 (rec4 : Unit → Option (Bool)) (x6 : Lock) : Option (Bool) :=
  (ref29_ValidLocks_L2 rec4 x6 x6.Waiters 0 ())
def ref29_ValidLocks_L1 (N : Nat) (a0 : (List Lock)) : List Lock → Nat → Unit → Option (Bool)
  | [], v3, () =>
    (some true)
  | x6 :: xs, v3, () =>
    ((ref14_ValidRef N x6.Actor).bind fun r11 =>
    if r11 = true then
    ((ref29_isTxn N x6.Owner).bind fun r12 =>
    if r12 = true then
    (if 32 < ((x6.Waiters.length : Nat) : Int) then
    (((ref29_ValidLocks_J1 (ref29_ValidLocks_J3 (ref29_ValidLocks_L1 N a0 xs (v3 + 1)) x6)) true))
    else
    (if 0 < ((v3 : Nat) : Int) then
    (gx a0 (IntKind.i64.wrap (((v3 : Nat) : Int) - 1)) fun x13 =>
    (ref14_Less N x13.Actor x6.Actor).bind fun r14 =>
    ((ref29_ValidLocks_J1 (ref29_ValidLocks_J3 (ref29_ValidLocks_L1 N a0 xs (v3 + 1)) x6)) (!r14)))
    else
    (((ref29_ValidLocks_J1 (ref29_ValidLocks_J3 (ref29_ValidLocks_L1 N a0 xs (v3 + 1)) x6)) false))))
    else
    (((ref29_ValidLocks_J1 (ref29_ValidLocks_J3 (ref29_ValidLocks_L1 N a0 xs (v3 + 1)) x6)) true)))
    else
    (((ref29_ValidLocks_J1 (ref29_ValidLocks_J3 (ref29_ValidLocks_L1 N a0 xs (v3 + 1)) x6)) true)))
def ref29_ValidLocks (N : Nat) (a0 : (List Lock)) : Option (Bool) :=
  if 128 < ((a0.length : Nat) : Int) then
  (some false)
  else
  (((ref29_ValidLocks_L1 N a0 a0 0 ())))
def ref29_lockOf_L1 (a0 : (List Lock)) (N : Nat) (a1 : Ref) : List Lock → Nat → Unit → Option (Int × Bool)
  | [], v2, () =>
    (some (((a0.length : Nat) : Int), false))
  | x5 :: xs, v2, () =>
    ((ref14_Less N x5.Actor a1).bind fun r8 =>
    if r8 = true then
    ((((ref29_lockOf_L1 a0 N a1 xs (v2 + 1)) ())))
    else
    (some (((v2 : Nat) : Int), (sEq x5.Actor.Type_ a1.Type_ && sEq x5.Actor.Key a1.Key))))
def ref29_lockOf (N : Nat) (a0 : (List Lock)) (a1 : Ref) : Option (Int × Bool) :=
  (ref29_lockOf_L1 a0 N a1 a0 0 ())
def ref29_CopyLocks_L1  : Nat → List Lock × Int → Option ((List Lock))
  | 0, _ => none
  | n + 1, (l2, v3) =>
    if v3 < ((l2.length : Nat) : Int) then
    ((gx l2 v3 fun x7 =>
    apn 7 x7.Waiters <|
    (((ref29_CopyLocks_L1 n) ((l2.set ((v3).toNat) x7), IntKind.i64.wrap (v3 + 1))))))
    else
    ((some l2))
def ref29_CopyLocks (N : Nat) (a0 : (List Lock)) : Option ((List Lock)) :=
  apn 63 a0 <|
  (ref29_CopyLocks_L1 N (a0, 0))
def ref29_Waits_L1 (a1 : Int) : List Int → Nat → Unit → Option (Bool)
  | [], v2, () =>
    (some false)
  | x5 :: xs, v2, () =>
    (if x5 = a1 then
    (some true)
    else
    ((((ref29_Waits_L1 a1 xs (v2 + 1)) ()))))
def ref29_Waits (N : Nat) (a0 : Lock) (a1 : Int) : Option (Bool) :=
  (ref29_Waits_L1 a1 a0.Waiters 0 ())
def ref29_add_J1 (rec3 : Int → Option ((List Int))) (v2 : Int) (kx1 : Int → Option ((List Int))) (c7 : Bool) : Option ((List Int)) :=
  if c7 = true then
  (((rec3 (IntKind.i64.wrap (v2 - 1)))))
  else
  ((kx1 v2))
def ref29_add_L1 (a0 : (List Int)) (kx1 : Int → Option ((List Int))) (a1 : Int) : Nat → Int → Option ((List Int))
  | 0, _ => none
  | n + 1, v2 =>
    if 0 < v2 then
    (gx a0 (IntKind.i64.wrap (v2 - 1)) fun x6 =>
    ((ref29_add_J1 (ref29_add_L1 a0 kx1 a1 n) v2 kx1) (decide (a1 < x6))))
    else
    (((ref29_add_J1 (ref29_add_L1 a0 kx1 a1 n) v2 kx1) false))
def ref29_add_J2 (a0 : (List Int)) (a1 : Int) (v8 : Int) : Option ((List Int)) :=
  slx a0 0 v8 fun l9 =>
  apn 7 l9 <|
  apx 7 l9 [a1] fun l10 =>
  slx a0 v8 ((a0.length : Nat) : Int) fun l11 =>
  apx 7 l10 l11 fun l12 =>
  some l12
def ref29_add (N : Nat) (a0 : (List Int)) (a1 : Int) : Option ((List Int)) :=
  (ref29_add_L1 a0 (ref29_add_J2 a0 a1) a1 N ((a0.length : Nat) : Int))
def ref29_Acquire_J1 (kx1 : Option ((List Lock) × Int × Int)) (c6 : Bool) : Option ((List Lock) × Int × Int) :=
  if c6 = true then
  (some ([], 0, 1))
  else
  (kx1)
def ref29_Acquire_J2 (N : Nat) (a0 : (List Lock)) (a1 : Ref) (a2 : Int) : Option ((List Lock) × Int × Int) :=
  (ref29_lockOf N a0 a1).bind fun r7 =>
  if r7.2 = true then
  (((ref29_CopyLocks N a0).bind fun r15 =>
  gx r15 r7.1 fun x16 =>
  if x16.Owner = a2 then
  (some (r15, 1, 0))
  else
  ((if x16.Owner < a2 then
  (some (r15, 3, 0))
  else
  (((ref29_Waits N x16 a2).bind fun r20 =>
  if r20 = true then
  (some (r15, 2, 0))
  else
  ((if ((x16.Waiters.length : Nat) : Int) = 32 then
  (some ([], 0, 5))
  else
  (((ref29_add N x16.Waiters a2).bind fun r22 =>
  some ((r15.set ((r7.1).toNat) (Lock.mk x16.Actor x16.Owner r22)), 2, 0)))))))))))
  else
  (if ((a0.length : Nat) : Int) = 128 then
  (some ([], 0, 5))
  else
  (((ref29_CopyLocks N a0).bind fun r10 =>
  slx r10 r7.1 ((r10.length : Nat) : Int) fun l11 =>
  apn 63 l11 <|
  slt r10 r7.1 fun l12 =>
  apx 63 l12 [(Lock.mk a1 a2 [])] fun l13 =>
  apx 63 l13 l11 fun l14 =>
  some (l14, 1, 0))))
def ref29_Acquire (N : Nat) (a0 : (List Lock)) (a1 : Ref) (a2 : Int) : Option ((List Lock) × Int × Int) :=
  (ref29_ValidLocks N a0).bind fun r3 =>
  if r3 = true then
  ((ref14_ValidRef N a1).bind fun r4 =>
  if r4 = true then
  ((ref29_isTxn N a2).bind fun r5 =>
  ((ref29_Acquire_J1 (ref29_Acquire_J2 N a0 a1 a2)) (!r5)))
  else
  (((ref29_Acquire_J1 (ref29_Acquire_J2 N a0 a1 a2)) true)))
  else
  (((ref29_Acquire_J1 (ref29_Acquire_J2 N a0 a1 a2)) true))
def ref29_SameLocks_J1 (kx9 : Option (Bool)) (c12 : Bool) : Option (Bool) :=
  if c12 = true then
  (some false)
  else
  (kx9)
def ref29_SameLocks_L2 (x6 : Lock) (a1 : (List Lock)) (v3 : Nat) (rec4 : Unit → Option (Bool)) : Nat → Int → Option (Bool)
  | 0, _ => none
  | n + 1, v13 =>
    if v13 < ((x6.Waiters.length : Nat) : Int) then
    ((gx x6.Waiters v13 fun x17 =>
    gx a1 ((v3 : Nat) : Int) fun x18 =>
    gx x18.Waiters v13 fun x19 =>
    if x17 = x19 then
    ((((ref29_SameLocks_L2 x6 a1 v3 rec4 n) (IntKind.i64.wrap (v13 + 1)))))
    else
    (some false)))
    else
    (((rec4 ())))
def ref29_SameLocks_J2 (x6 : Lock) (a1 : (List Lock)) (v3 : Nat) (rec4 : Unit → Option (Bool)) (N : Nat) : Option (Bool) :=
  (ref29_SameLocks_L2 x6 a1 v3 rec4 N 0)
def ref29_SameLocks_L1 (a1 : (List Lock)) (N : Nat) : List Lock → Nat → Unit → Option (Bool)
  | [], v3, () =>
    (some true)
  | x6 :: xs, v3, () =>
    (gx a1 ((v3 : Nat) : Int) fun x11 =>
    if (sEq x6.Actor.Type_ x11.Actor.Type_ && sEq x6.Actor.Key x11.Actor.Key) = true then
    (if x6.Owner = x11.Owner then
    (((ref29_SameLocks_J1 (ref29_SameLocks_J2 x6 a1 v3 (ref29_SameLocks_L1 a1 N xs (v3 + 1)) N)) (!decide (((x6.Waiters.length : Nat) : Int) = ((x11.Waiters.length : Nat) : Int)))))
    else
    (((ref29_SameLocks_J1 (ref29_SameLocks_J2 x6 a1 v3 (ref29_SameLocks_L1 a1 N xs (v3 + 1)) N)) true)))
    else
    (((ref29_SameLocks_J1 (ref29_SameLocks_J2 x6 a1 v3 (ref29_SameLocks_L1 a1 N xs (v3 + 1)) N)) true)))
def ref29_SameLocks (N : Nat) (a0 : (List Lock)) (a1 : (List Lock)) : Option (Bool) :=
  if ((a0.length : Nat) : Int) = ((a1.length : Nat) : Int) then
  (((ref29_SameLocks_L1 a1 N a0 0 ())))
  else
  (some false)
def ref29_pass (N : Nat) (a0 : (List Lock)) (a1 : Int) : Option ((List Lock) × Int) :=
  (ref29_CopyLocks N a0).bind fun r1 =>
  gx r1 a1 fun x2 =>
  if ((x2.Waiters.length : Nat) : Int) = 0 then
  (slt r1 a1 fun l4 =>
  slx r1 (IntKind.i64.wrap (a1 + 1)) ((r1.length : Nat) : Int) fun l5 =>
  apx 63 l4 l5 fun l6 =>
  some (l6, 0))
  else
  ((gx x2.Waiters (IntKind.i64.wrap (((x2.Waiters.length : Nat) : Int) - 1)) fun x7 =>
  slx x2.Waiters 0 (IntKind.i64.wrap (((x2.Waiters.length : Nat) : Int) - 1)) fun l8 =>
  some ((r1.set ((a1).toNat) (Lock.mk x2.Actor x7 l8)), x7)))
def ref29_Release_J1 (kx1 : Option ((List Lock) × Int × Int)) (c6 : Bool) : Option ((List Lock) × Int × Int) :=
  if c6 = true then
  (some ([], 0, 1))
  else
  (kx1)
def ref29_Release_J2 (kx8 : Option ((List Lock) × Int × Int)) (c11 : Bool) : Option ((List Lock) × Int × Int) :=
  if c11 = true then
  (some ([], 0, 10))
  else
  (kx8)
def ref29_Release_J3 (N : Nat) (a0 : (List Lock)) (r7 : Int × Bool) : Option ((List Lock) × Int × Int) :=
  (ref29_pass N a0 r7.1).bind fun r12 =>
  some (r12.1, r12.2, 0)
def ref29_Release_J4 (N : Nat) (a0 : (List Lock)) (a1 : Ref) (a2 : Int) : Option ((List Lock) × Int × Int) :=
  (ref29_lockOf N a0 a1).bind fun r7 =>
  if r7.2 = true then
  (gx a0 r7.1 fun x10 =>
  ((ref29_Release_J2 (ref29_Release_J3 N a0 r7)) (!decide (x10.Owner = a2))))
  else
  (((ref29_Release_J2 (ref29_Release_J3 N a0 r7)) true))
def ref29_Release (N : Nat) (a0 : (List Lock)) (a1 : Ref) (a2 : Int) : Option ((List Lock) × Int × Int) :=
  (ref29_ValidLocks N a0).bind fun r3 =>
  if r3 = true then
  ((ref14_ValidRef N a1).bind fun r4 =>
  if r4 = true then
  ((ref29_isTxn N a2).bind fun r5 =>
  ((ref29_Release_J1 (ref29_Release_J4 N a0 a1 a2)) (!r5)))
  else
  (((ref29_Release_J1 (ref29_Release_J4 N a0 a1 a2)) true)))
  else
  (((ref29_Release_J1 (ref29_Release_J4 N a0 a1 a2)) true))
def locks_ReleaseAll_L1 (a1 : Int) (N : Nat) : Nat → List Lock × List LockGrant × Int → Option ((List Lock) × (List LockGrant))
  | 0, _ => none
  | n + 1, (l5, l6, v7) =>
    if v7 < ((l5.length : Nat) : Int) then
    ((gx l5 v7 fun x11 =>
    if x11.Owner = a1 then
    (((locks_pass N l5 v7).bind fun r12 =>
    if r12.2 = 0 then
    (((locks_ReleaseAll_L1 a1 N n) (r12.1, l6, v7)))
    else
    (apx 39 l6 [(LockGrant.mk x11.Actor r12.2)] fun l13 =>
    ((locks_ReleaseAll_L1 a1 N n) (r12.1, l13, IntKind.i64.wrap (v7 + 1))))))
    else
    (((locks_ReleaseAll_L1 a1 N n) (l5, l6, IntKind.i64.wrap (v7 + 1))))))
    else
    ((some (l5, l6)))
def locks_ReleaseAll (N : Nat) (a0 : (List Lock)) (a1 : Int) : Option ((List Lock) × (List LockGrant)) :=
  (locks_Valid N a0).bind fun r2 =>
  if r2 = true then
  (((locks_clone N a0).bind fun r3 =>
  (locks_ReleaseAll_L1 a1 N N (r3, [], 0))))
  else
  (some ([], []))
def ref29_ReleaseAll_L1 (a1 : Int) (N : Nat) : List Lock → Nat → List Lock × List LockGrant → Option ((List Lock) × (List LockGrant))
  | [], v7, (l5, l6) =>
    (some (l5, l6))
  | x10 :: xs, v7, (l5, l6) =>
    (if x10.Owner = a1 then
    (((ref29_lockOf N l5 x10.Actor).bind fun r14 =>
    (ref29_pass N l5 r14.1).bind fun r15 =>
    if r15.2 = 0 then
    ((((ref29_ReleaseAll_L1 a1 N xs (v7 + 1)) (r15.1, l6))))
    else
    (apx 39 l6 [(LockGrant.mk x10.Actor r15.2)] fun l16 =>
    (((ref29_ReleaseAll_L1 a1 N xs (v7 + 1)) (r15.1, l16))))))
    else
    ((((ref29_ReleaseAll_L1 a1 N xs (v7 + 1)) (l5, l6)))))
def ref29_ReleaseAll (N : Nat) (a0 : (List Lock)) (a1 : Int) : Option ((List Lock) × (List LockGrant)) :=
  (ref29_ValidLocks N a0).bind fun r2 =>
  if r2 = true then
  (((ref29_CopyLocks N a0).bind fun r3 =>
  (ref29_ReleaseAll_L1 a1 N a0 0 (r3, []))))
  else
  (some ([], []))
def ref29_SameGrants_L1 (a1 : (List LockGrant)) : List LockGrant → Nat → Unit → Option (Bool)
  | [], v3, () =>
    (some true)
  | x6 :: xs, v3, () =>
    (gx a1 ((v3 : Nat) : Int) fun x9 =>
    if (sEq x6.Actor.Type_ x9.Actor.Type_ && (sEq x6.Actor.Key x9.Actor.Key && decide (x6.Txn = x9.Txn))) = true then
    ((((ref29_SameGrants_L1 a1 xs (v3 + 1)) ())))
    else
    (some false))
def ref29_SameGrants (N : Nat) (a0 : (List LockGrant)) (a1 : (List LockGrant)) : Option (Bool) :=
  if ((a0.length : Nat) : Int) = ((a1.length : Nat) : Int) then
  (((ref29_SameGrants_L1 a1 a0 0 ())))
  else
  (some false)
def ref29_Withdraw_L2 (l5 : List Lock) (v6 : Int) (a1 : Int) (kx10 : (List Int) → Option ((List Lock))) : Nat → List Int × Int → Option ((List Lock))
  | 0, _ => none
  | n + 1, (l11, v12) =>
    gx l5 v6 fun x15 =>
    if v12 < ((x15.Waiters.length : Nat) : Int) then
    ((gx x15.Waiters v12 fun x17 =>
    if x17 = a1 then
    ((((ref29_Withdraw_L2 l5 v6 a1 kx10 n) (l11, IntKind.i64.wrap (v12 + 1)))))
    else
    (apx 7 l11 [x17] fun l18 =>
    (((ref29_Withdraw_L2 l5 v6 a1 kx10 n) (l18, IntKind.i64.wrap (v12 + 1)))))))
    else
    ((kx10 l11))
def ref29_Withdraw_J1 (l5 : List Lock) (v6 : Int) (rec7 : (List Lock × Int) → Option ((List Lock))) (l20 : List Int) : Option ((List Lock)) :=
  gx l5 v6 fun x21 =>
  ((rec7 ((l5.set ((v6).toNat) (Lock.mk x21.Actor x21.Owner l20)), IntKind.i64.wrap (v6 + 1))))
def ref29_Withdraw_L1 (a1 : Int) (N : Nat) : Nat → List Lock × Int → Option ((List Lock))
  | 0, _ => none
  | n + 1, (l5, v6) =>
    if v6 < ((l5.length : Nat) : Int) then
    (((ref29_Withdraw_L2 l5 v6 a1 (ref29_Withdraw_J1 l5 v6 (ref29_Withdraw_L1 a1 N n)) N ([], 0))))
    else
    ((some l5))
def ref29_Withdraw (N : Nat) (a0 : (List Lock)) (a1 : Int) : Option ((List Lock)) :=
  (ref29_ValidLocks N a0).bind fun r2 =>
  if r2 = true then
  (((ref29_CopyLocks N a0).bind fun r3 =>
  (ref29_Withdraw_L1 a1 N N (r3, 0))))
  else
  (some [])
noncomputable def law31_LocksSequences_J1 (kx19 : Option (Bool)) (c22 : Bool) : Option (Bool) :=
  if c22 = true then
  (some false)
  else
  (kx19)
noncomputable def law31_LocksSequences_J2 (r17 : (List Lock) × Int × Int) (kx14 : (List Lock) → (List Lock) → Option (Bool)) (r18 : (List Lock) × Int × Int) (l5 : List Lock) (l6 : List Lock) : Option (Bool) :=
  if r17.2.2 = 0 then
  ((kx14 r17.1 r18.1))
  else
  ((kx14 l5 l6))
noncomputable def law31_LocksSequences_J3 (kx25 : Option (Bool)) (c28 : Bool) : Option (Bool) :=
  if c28 = true then
  (some false)
  else
  (kx25)
noncomputable def law31_LocksSequences_J4 (r23 : (List Lock) × Int × Int) (kx14 : (List Lock) → (List Lock) → Option (Bool)) (r24 : (List Lock) × Int × Int) (l5 : List Lock) (l6 : List Lock) : Option (Bool) :=
  if r23.2.2 = 0 then
  ((kx14 r23.1 r24.1))
  else
  ((kx14 l5 l6))
noncomputable def law31_LocksSequences_J5 (N : Nat) (l5 : List Lock) (r13 : Ref) (x10 : actorgridlaw31_Act) (l6 : List Lock) (kx14 : (List Lock) → (List Lock) → Option (Bool)) (c16 : Bool) : Option (Bool) :=
  if c16 = true then
  ((locks_Acquire N l5 r13 (IntKind.i64.wrap ((IntKind.i64.wrap (Int.tmod x10.Txn 40)) + 1))).bind fun r17 =>
  (ref29_Acquire N l6 r13 (IntKind.i64.wrap ((IntKind.i64.wrap (Int.tmod x10.Txn 40)) + 1))).bind fun r18 =>
  if r17.2.2 = r18.2.2 then
  (if r17.2.1 = r18.2.1 then
  ((ref29_SameLocks N r17.1 r18.1).bind fun r21 =>
  ((law31_LocksSequences_J1 (law31_LocksSequences_J2 r17 kx14 r18 l5 l6)) (!r21)))
  else
  (((law31_LocksSequences_J1 (law31_LocksSequences_J2 r17 kx14 r18 l5 l6)) true)))
  else
  (((law31_LocksSequences_J1 (law31_LocksSequences_J2 r17 kx14 r18 l5 l6)) true)))
  else
  (if (Int.tmod x10.Kind 6) = 3 then
  ((locks_Release N l5 r13 (IntKind.i64.wrap ((IntKind.i64.wrap (Int.tmod x10.Txn 40)) + 1))).bind fun r23 =>
  (ref29_Release N l6 r13 (IntKind.i64.wrap ((IntKind.i64.wrap (Int.tmod x10.Txn 40)) + 1))).bind fun r24 =>
  if r23.2.2 = r24.2.2 then
  (if r23.2.1 = r24.2.1 then
  ((ref29_SameLocks N r23.1 r24.1).bind fun r27 =>
  ((law31_LocksSequences_J3 (law31_LocksSequences_J4 r23 kx14 r24 l5 l6)) (!r27)))
  else
  (((law31_LocksSequences_J3 (law31_LocksSequences_J4 r23 kx14 r24 l5 l6)) true)))
  else
  (((law31_LocksSequences_J3 (law31_LocksSequences_J4 r23 kx14 r24 l5 l6)) true)))
  else
  (if (Int.tmod x10.Kind 6) = 4 then
  ((locks_ReleaseAll N l5 (IntKind.i64.wrap ((IntKind.i64.wrap (Int.tmod x10.Txn 40)) + 1))).bind fun r29 =>
  (ref29_ReleaseAll N l6 (IntKind.i64.wrap ((IntKind.i64.wrap (Int.tmod x10.Txn 40)) + 1))).bind fun r30 =>
  (ref29_SameGrants N r29.2 r30.2).bind fun r32 =>
  if r32 = true then
  (((kx14 r29.1 r30.1)))
  else
  (some false))
  else
  ((locks_Withdraw N l5 (IntKind.i64.wrap ((IntKind.i64.wrap (Int.tmod x10.Txn 40)) + 1))).bind fun r33 =>
  (ref29_Withdraw N l6 (IntKind.i64.wrap ((IntKind.i64.wrap (Int.tmod x10.Txn 40)) + 1))).bind fun r34 =>
  (kx14 r33 r34))))
noncomputable def law31_LocksSequences_J6 (N : Nat) (rec8 : (List Lock × List Lock) → Option (Bool)) (l35 : List Lock) (l36 : List Lock) : Option (Bool) :=
  (ref29_SameLocks N l35 l36).bind fun r37 =>
  if r37 = true then
  (((rec8 (l35, l36))))
  else
  (some false)
noncomputable def law31_LocksSequences_L1 (N : Nat) : List actorgridlaw31_Act → Nat → List Lock × List Lock → Option (Bool)
  | [], v7, (l5, l6) =>
    (some true)
  | x10 :: xs, v7, (l5, l6) =>
    ((law31_ref N x10.Actor).bind fun r13 =>
    if (Int.tmod x10.Kind 6) = 0 then
    (((law31_LocksSequences_J5 N l5 r13 x10 l6 (law31_LocksSequences_J6 N (law31_LocksSequences_L1 N xs (v7 + 1)))) true))
    else
    (if (Int.tmod x10.Kind 6) = 1 then
    (((law31_LocksSequences_J5 N l5 r13 x10 l6 (law31_LocksSequences_J6 N (law31_LocksSequences_L1 N xs (v7 + 1)))) true))
    else
    (((law31_LocksSequences_J5 N l5 r13 x10 l6 (law31_LocksSequences_J6 N (law31_LocksSequences_L1 N xs (v7 + 1)))) (decide ((Int.tmod x10.Kind 6) = 2))))))
noncomputable def law31_LocksSequences (N : Nat) (a0 : (List actorgridlaw31_Act)) : Option (Bool) :=
  (law31_awake N).bind fun r2 =>
  if r2 = true then
  ((if 120 < ((a0.length : Nat) : Int) then
  (some true)
  else
  (((law31_LocksSequences_L1 N a0 0 ([], []))))))
  else
  (some false)
end Go.Proofs.Ythafflhaoplpjaa
