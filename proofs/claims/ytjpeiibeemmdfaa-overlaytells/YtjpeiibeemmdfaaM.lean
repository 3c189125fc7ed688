/- The models of the functions. No statement. -/
import Derived.Test.YtjpeiibeemmdfaaT
/- The functions of the program as plain functions on plain data. -/
set_option maxHeartbeats 40000000
set_option synthInstance.maxHeartbeats 2000000
set_option synthInstance.maxSize 4000
set_option linter.unusedSimpArgs false
set_option linter.unusedVariables false
set_option maxRecDepth 100000
namespace Go.Proofs.Ytjpeiibeemmdfaa
open Go Go.Proofs Go.Abs
def view_identifiers_J1 (kx1 : Option (Bool)) (c3 : Bool) : Option (Bool) :=
  if c3 = true then
  (some false)
  else
  (kx1)
def view_identifiers_J2 (kx12 : Option (Bool)) (c14 : Bool) : Option (Bool) :=
  if c14 = true then
  (some false)
  else
  (kx12)
def view_identifiers_J3 (rec7 : Int → Option (Bool)) (x9 : Int) : Option (Bool) :=
  ((rec7 x9))
def view_identifiers_L1  : List Int → Nat → Int → Option (Bool)
  | [], v6, v5 =>
    (some true)
  | x9 :: xs, v6, v5 =>
    (if x9 ≤ v5 then
    (((view_identifiers_J2 (view_identifiers_J3 (view_identifiers_L1 xs (v6 + 1)) x9)) true))
    else
    (((view_identifiers_J2 (view_identifiers_J3 (view_identifiers_L1 xs (v6 + 1)) x9)) (decide (1000 < x9)))))
def view_identifiers_J4 (a0 : (List Int)) : Option (Bool) :=
  (view_identifiers_L1 a0 0 0)
def view_identifiers (N : Nat) (a0 : (List Int)) (a1 : Int) : Option (Bool) :=
  if ((a0.length : Nat) : Int) < 1 then
  (((view_identifiers_J1 (view_identifiers_J4 a0)) true))
  else
  (((view_identifiers_J1 (view_identifiers_J4 a0)) (decide (a1 < ((a0.length : Nat) : Int)))))
def view_ValidMembers (N : Nat) (a0 : (List Int)) : Option (Bool) :=
  (view_identifiers N a0 16).bind fun r1 =>
  some r1
def overlay_identifier (N : Nat) (a0 : Int) : Option (Bool) :=
  if 1 ≤ a0 then
  ((some (decide (a0 ≤ 1000))))
  else
  ((some false))
def hashing_shifts (N : Nat)  : Option (Arr3_u64) :=
  some (Arr3_u64.mk 30 27 31)
def hashing_factors (N : Nat)  : Option (Arr2_u64) :=
  some (Arr2_u64.mk 13787848793156543929 10723151780598845931)
def hashing_Mix (N : Nat) (a0 : Int) : Option (Int) :=
  brN N (
  (hashing_shifts N).bind fun r1 =>
  (hashing_factors N).bind fun r2 =>
  (((((some (IntKind.u64.wrap ((BitVec.ofInt (IntKind.bits .u64) (IntKind.u64.wrap ((IntKind.u64.wrap ((BitVec.ofInt (IntKind.bits .u64) (IntKind.u64.wrap ((IntKind.u64.wrap ((BitVec.ofInt (IntKind.bits .u64) a0 ^^^ BitVec.ofInt (IntKind.bits .u64) (shrI .u64 a0 30)).toNat)) * 13787848793156543929)) ^^^ BitVec.ofInt (IntKind.bits .u64) (shrI .u64 (IntKind.u64.wrap ((IntKind.u64.wrap ((BitVec.ofInt (IntKind.bits .u64) a0 ^^^ BitVec.ofInt (IntKind.bits .u64) (shrI .u64 a0 30)).toNat)) * 13787848793156543929)) 27)).toNat)) * 10723151780598845931)) ^^^ BitVec.ofInt (IntKind.bits .u64) (shrI .u64 (IntKind.u64.wrap ((IntKind.u64.wrap ((BitVec.ofInt (IntKind.bits .u64) (IntKind.u64.wrap ((IntKind.u64.wrap ((BitVec.ofInt (IntKind.bits .u64) a0 ^^^ BitVec.ofInt (IntKind.bits .u64) (shrI .u64 a0 30)).toNat)) * 13787848793156543929)) ^^^ BitVec.ofInt (IntKind.bits .u64) (shrI .u64 (IntKind.u64.wrap ((IntKind.u64.wrap ((BitVec.ofInt (IntKind.bits .u64) a0 ^^^ BitVec.ofInt (IntKind.bits .u64) (shrI .u64 a0 30)).toNat)) * 13787848793156543929)) 27)).toNat)) * 10723151780598845931)) 31)).toNat))))))))
def hashing_Combine (N : Nat) (a0 : Int) (a1 : Int) : Option (Int) :=
  (hashing_Mix N (IntKind.u64.wrap (a0 + (IntKind.u64.wrap (11400714819323198485 * (IntKind.u64.wrap (a1 + 1))))))).bind fun r1 =>
  some r1
def hashing_Position (N : Nat) (a0 : Int) (a1 : Int) : Option (Int) :=
  (hashing_Combine N (IntKind.u64.wrap a0) (IntKind.u64.wrap a1)).bind fun r1 =>
  some r1
def cmp_isNaN_uint64 (N : Nat) (a0 : Int) : Option (Bool) :=
  some (!decide (a0 = a0))
def cmp_Compare_uint64 (N : Nat) (a0 : Int) (a1 : Int) : Option (Int) :=
  (cmp_isNaN_uint64 N a0).bind fun r1 =>
  (cmp_isNaN_uint64 N a1).bind fun r2 =>
  if r1 = true then
  (if r2 = true then
  (some 0)
  else
  ((some (-1))))
  else
  ((if r2 = true then
  (some 1)
  else
  ((if a0 < a1 then
  (some (-1))
  else
  ((if a1 < a0 then
  (some 1)
  else
  ((some 0))))))))
def overlay_Observers_1 (N : Nat) (a0 : Int) (a1 : Int) (c0_0 : Int) (c1_0 : Int) : Option (Int) :=
  (hashing_Position N c1_0 a0).bind fun r1 =>
  (hashing_Position N c1_0 a1).bind fun r2 =>
  (cmp_Compare_uint64 N (IntKind.u64.wrap ((IntKind.u64.wrap (c0_0 - r1)) - 1)) (IntKind.u64.wrap ((IntKind.u64.wrap (c0_0 - r2)) - 1))).bind fun r3 =>
  some r3
def slices_MinFunc_int_overlay_Observers_1_L1 (a0 : (List Int)) (N : Nat) (k1_0_0 : Int) (k1_1_0 : Int) : Nat → Nat → Int → Option (Int)
  | 0, v5, v4 =>
    (some v4)
  | m + 1, v5, v4 =>
    (gx a0 ((v5 : Nat) : Int) fun x10 =>
    (overlay_Observers_1 N x10 v4 k1_0_0 k1_1_0).bind fun r11 =>
    if r11 < 0 then
    ((((slices_MinFunc_int_overlay_Observers_1_L1 a0 N k1_0_0 k1_1_0 m (v5 + 1)) x10)))
    else
    ((((slices_MinFunc_int_overlay_Observers_1_L1 a0 N k1_0_0 k1_1_0 m (v5 + 1)) v4))))
def slices_MinFunc_int_overlay_Observers_1 (N : Nat) (a0 : (List Int)) (k1_0_0 : Int) (k1_1_0 : Int) : Option (Int) :=
  if ((a0.length : Nat) : Int) < 1 then
  (none)
  else
  ((gx a0 0 fun x2 =>
  (slices_MinFunc_int_overlay_Observers_1_L1 a0 N k1_0_0 k1_1_0 (a0.length - 1) 1 x2)))
def overlay_Observers_J1 (kx1 : Option ((List Int))) (c6 : Bool) : Option ((List Int)) :=
  if c6 = true then
  (some [])
  else
  (kx1)
def overlay_Observers_J2 (N : Nat) (a1 : Int) (a0 : (List Int)) : Option ((List Int)) :=
  ((hashing_Position N 0 a1).bind fun r10 =>
  (slices_MinFunc_int_overlay_Observers_1 N a0 r10 0).bind fun r11 =>
  apn 7 [r11] <|
  (((hashing_Position N 1 a1).bind fun r14 =>
  (slices_MinFunc_int_overlay_Observers_1 N a0 r14 1).bind fun r15 =>
  apx 7 [r11] [r15] fun l16 =>
  (((hashing_Position N 2 a1).bind fun r19 =>
  (slices_MinFunc_int_overlay_Observers_1 N a0 r19 2).bind fun r20 =>
  apx 7 l16 [r20] fun l21 =>
  (((hashing_Position N 3 a1).bind fun r24 =>
  (slices_MinFunc_int_overlay_Observers_1 N a0 r24 3).bind fun r25 =>
  apx 7 l21 [r25] fun l26 =>
  (((hashing_Position N 4 a1).bind fun r29 =>
  (slices_MinFunc_int_overlay_Observers_1 N a0 r29 4).bind fun r30 =>
  apx 7 l26 [r30] fun l31 =>
  ((some l31)))))))))))
def overlay_Observers (N : Nat) (a0 : (List Int)) (a1 : Int) : Option ((List Int)) :=
  (view_ValidMembers N a0).bind fun r3 =>
  if r3 = true then
  ((overlay_identifier N a1).bind fun r4 =>
  if r4 = true then
  (if ((a0.length : Nat) : Int) = 1 then
  (gx a0 0 fun x5 =>
  ((overlay_Observers_J1 (overlay_Observers_J2 N a1 a0)) (decide (x5 = a1))))
  else
  (((overlay_Observers_J1 (overlay_Observers_J2 N a1 a0)) false)))
  else
  (((overlay_Observers_J1 (overlay_Observers_J2 N a1 a0)) true)))
  else
  (((overlay_Observers_J1 (overlay_Observers_J2 N a1 a0)) true))
def view_Place_L1 (a1 : Int) : List Int → Nat → Unit → Option (Int)
  | [], v2, () =>
    (some (-1))
  | x5 :: xs, v2, () =>
    (if x5 = a1 then
    (some ((v2 : Nat) : Int))
    else
    ((((view_Place_L1 a1 xs (v2 + 1)) ()))))
def view_Place (N : Nat) (a0 : (List Int)) (a1 : Int) : Option (Int) :=
  (view_Place_L1 a1 a0 0 ())
def view_Contains (N : Nat) (a0 : (List Int)) (a1 : Int) : Option (Bool) :=
  (view_Place N a0 a1).bind fun r1 =>
  some (decide (0 ≤ r1))
def slices_Clone_int (N : Nat) (a0 : (List Int)) : Option ((List Int)) :=
  (apn 7 a0 <|
  some a0)
def math_bits_Len64_J1 (v8 : Int) (v9 : Int) : Option (Int) :=
  gxs (⟨((([0, 1, 2, 2, 3, 3, 3, 3, 4, 4, 4, 4, 4, 4, 4, 4, 5, 5, 5, 5, 5, 5, 5, 5, 5, 5, 5, 5, 5, 5, 5, 5, 6, 6, 6, 6, 6, 6, 6, 6, 6, 6, 6, 6, 6, 6, 6, 6, 6, 6, 6, 6, 6, 6, 6, 6, 6, 6, 6, 6, 6, 6, 6, 6] : List UInt8).append ([7, 7, 7, 7, 7, 7, 7, 7, 7, 7, 7, 7, 7, 7, 7, 7, 7, 7, 7, 7, 7, 7, 7, 7, 7, 7, 7, 7, 7, 7, 7, 7, 7, 7, 7, 7, 7, 7, 7, 7, 7, 7, 7, 7, 7, 7, 7, 7, 7, 7, 7, 7, 7, 7, 7, 7, 7, 7, 7, 7, 7, 7, 7, 7] : List UInt8)).append (([8, 8, 8, 8, 8, 8, 8, 8, 8, 8, 8, 8, 8, 8, 8, 8, 8, 8, 8, 8, 8, 8, 8, 8, 8, 8, 8, 8, 8, 8, 8, 8, 8, 8, 8, 8, 8, 8, 8, 8, 8, 8, 8, 8, 8, 8, 8, 8, 8, 8, 8, 8, 8, 8, 8, 8, 8, 8, 8, 8, 8, 8, 8, 8] : List UInt8).append ([8, 8, 8, 8, 8, 8, 8, 8, 8, 8, 8, 8, 8, 8, 8, 8, 8, 8, 8, 8, 8, 8, 8, 8, 8, 8, 8, 8, 8, 8, 8, 8, 8, 8, 8, 8, 8, 8, 8, 8, 8, 8, 8, 8, 8, 8, 8, 8, 8, 8, 8, 8, 8, 8, 8, 8, 8, 8, 8, 8, 8, 8, 8, 8] : List UInt8))).toArray⟩ : ByteArray) (IntKind.u8.wrap v8) fun b10 =>
  some (IntKind.i64.wrap (v9 + (IntKind.i64.wrap (b10.toNat : Int))))
def math_bits_Len64_J2 (v5 : Int) (v6 : Int) : Option (Int) :=
  if 256 ≤ v5 then
  ((math_bits_Len64_J1 (shrI .u64 v5 8) (IntKind.i64.wrap (v6 + 8))))
  else
  ((math_bits_Len64_J1 v5 v6))
def math_bits_Len64_J3 (v2 : Int) (v3 : Int) : Option (Int) :=
  if 65536 ≤ v2 then
  ((math_bits_Len64_J2 (shrI .u64 v2 16) (IntKind.i64.wrap (v3 + 16))))
  else
  ((math_bits_Len64_J2 v2 v3))
def math_bits_Len64 (N : Nat) (a0 : Int) : Option (Int) :=
  if 4294967296 ≤ a0 then
  ((math_bits_Len64_J3 (shrI .u64 a0 32) 32))
  else
  ((math_bits_Len64_J3 a0 0))
def math_bits_Len (N : Nat) (a0 : Int) : Option (Int) :=
  ((math_bits_Len64 N a0).bind fun r2 =>
  some r2)
def overlay_Order_1 (N : Nat) (a0 : Int) (a1 : Int) (c0_0 : Int) : Option (Int) :=
  (hashing_Position N c0_0 a0).bind fun r1 =>
  (hashing_Position N c0_0 a1).bind fun r2 =>
  (cmp_Compare_uint64 N r1 r2).bind fun r3 =>
  some r3
def slices_insertionSortCmpFunc_int_overlay_Order_1_cut_J1 (kx6 : Option ((List Int))) (rec2 : Int → Option ((List Int))) (v1 : Int) (c11 : Bool) : Option ((List Int)) :=
  if c11 = true then
  (kx6)
  else
  (((rec2 (IntKind.i64.wrap (v1 + 1)))))
def slices_insertionSortCmpFunc_int_overlay_Order_1_cut_J2 (a0 : (List Int)) (v1 : Int) : Option ((List Int)) :=
  gx a0 (IntKind.i64.wrap (v1 - 1)) fun x13 =>
  gx a0 v1 fun x14 =>
  none
def slices_insertionSortCmpFunc_int_overlay_Order_1_cut_L2 (a1 : Int) (v1 : Int) (a0 : (List Int)) (N : Nat) (k3_0_0 : Int) (rec2 : Int → Option ((List Int))) : Nat → Unit → Option ((List Int))
  | 0, _ => none
  | n + 1, () =>
    if a1 < v1 then
    (gx a0 v1 fun x8 =>
    gx a0 (IntKind.i64.wrap (v1 - 1)) fun x9 =>
    (overlay_Order_1 N x8 x9 k3_0_0).bind fun r10 =>
    ((slices_insertionSortCmpFunc_int_overlay_Order_1_cut_J1 (slices_insertionSortCmpFunc_int_overlay_Order_1_cut_J2 a0 v1) rec2 v1) (decide (r10 < 0))))
    else
    (((slices_insertionSortCmpFunc_int_overlay_Order_1_cut_J1 (slices_insertionSortCmpFunc_int_overlay_Order_1_cut_J2 a0 v1) rec2 v1) false))
def slices_insertionSortCmpFunc_int_overlay_Order_1_cut_L1 (a2 : Int) (a1 : Int) (a0 : (List Int)) (N : Nat) (k3_0_0 : Int) : Nat → Int → Option ((List Int))
  | 0, _ => none
  | n + 1, v1 =>
    if v1 < a2 then
    (((slices_insertionSortCmpFunc_int_overlay_Order_1_cut_L2 a1 v1 a0 N k3_0_0 (slices_insertionSortCmpFunc_int_overlay_Order_1_cut_L1 a2 a1 a0 N k3_0_0 n) N ())))
    else
    (some a0)
def slices_insertionSortCmpFunc_int_overlay_Order_1_cut (N : Nat) (a0 : (List Int)) (a1 : Int) (a2 : Int) (k3_0_0 : Int) : Option ((List Int)) :=
  lenM (fun r => r) a0 (
  (slices_insertionSortCmpFunc_int_overlay_Order_1_cut_L1 a2 a1 a0 N k3_0_0 N (IntKind.i64.wrap (a1 + 1))))
def slices_pdqsortCmpFunc_int_overlay_Order_1_cut_L1 (a2 : Int) (a1 : Int) (N : Nat) (a0 : (List Int)) (k4_0_0 : Int) (a3 : Int) : Nat → Unit → Option ((List Int))
  | 0, _ => none
  | n + 1, () =>
    if (IntKind.i64.wrap (a2 - a1)) ≤ 12 then
    ((slices_insertionSortCmpFunc_int_overlay_Order_1_cut N a0 a1 a2 k4_0_0).bind fun r3 =>
    some r3)
    else
    ((if a3 = 0 then
    (none)
    else
    (((none)))))
def slices_pdqsortCmpFunc_int_overlay_Order_1_cut (N : Nat) (a0 : (List Int)) (a1 : Int) (a2 : Int) (a3 : Int) (k4_0_0 : Int) : Option ((List Int)) :=
  lenM (fun r => r) a0 (
  (slices_pdqsortCmpFunc_int_overlay_Order_1_cut_L1 a2 a1 N a0 k4_0_0 a3 N ()))
def slices_SortFunc_int_overlay_Order_1_small (N : Nat) (a0 : (List Int)) (k1_0_0 : Int) : Option ((List Int)) :=
  lenM (fun r => r) a0 (
  (math_bits_Len N (IntKind.u64.wrap ((a0.length : Nat) : Int))).bind fun r1 =>
  (slices_pdqsortCmpFunc_int_overlay_Order_1_cut N a0 0 ((a0.length : Nat) : Int) r1 k1_0_0).bind fun r2 =>
  some r2)
noncomputable def slices_SortFunc_int_overlay_Order_1 (N : Nat) (a0 : (List Int)) (k1_0_0 : Int) : Option (List Int) := if a0.isEmpty = true then slices_SortFunc_int_overlay_Order_1_small N a0 k1_0_0 else sortM (fun x y => overlay_Order_1 N x y k1_0_0) a0
noncomputable def overlay_Order_J1 (kx1 : Option ((List Int))) (c4 : Bool) : Option ((List Int)) :=
  if c4 = true then
  (some [])
  else
  (kx1)
noncomputable def overlay_Order_J2 (N : Nat) (a0 : (List Int)) (a1 : Int) : Option ((List Int)) :=
  (slices_Clone_int N a0).bind fun r5 =>
  (slices_SortFunc_int_overlay_Order_1 N r5 a1).bind fun r6 =>
  some r6
noncomputable def overlay_Order (N : Nat) (a0 : (List Int)) (a1 : Int) : Option ((List Int)) :=
  (view_ValidMembers N a0).bind fun r3 =>
  if r3 = true then
  (if a1 < 0 then
  (((overlay_Order_J1 (overlay_Order_J2 N a0 a1)) true))
  else
  (((overlay_Order_J1 (overlay_Order_J2 N a0 a1)) (decide (5 ≤ a1)))))
  else
  (((overlay_Order_J1 (overlay_Order_J2 N a0 a1)) true))
noncomputable def overlay_Subjects_J1 (kx1 : Option ((List Int))) (c5 : Bool) : Option ((List Int)) :=
  if c5 = true then
  (some [])
  else
  (kx1)
noncomputable def overlay_Subjects_J2 (N : Nat) (a0 : (List Int)) (a1 : Int) : Option ((List Int)) :=
  ((overlay_Order N a0 0).bind fun r9 =>
  (view_Place N r9 a1).bind fun r10 =>
  dvx ((r9.length : Nat) : Int) <|
  gx r9 (Int.tmod (IntKind.i64.wrap (r10 + 1)) ((r9.length : Nat) : Int)) fun x11 =>
  apn 7 [x11] <|
  (((overlay_Order N a0 1).bind fun r14 =>
  (view_Place N r14 a1).bind fun r15 =>
  dvx ((r14.length : Nat) : Int) <|
  gx r14 (Int.tmod (IntKind.i64.wrap (r15 + 1)) ((r14.length : Nat) : Int)) fun x16 =>
  apx 7 [x11] [x16] fun l17 =>
  (((overlay_Order N a0 2).bind fun r20 =>
  (view_Place N r20 a1).bind fun r21 =>
  dvx ((r20.length : Nat) : Int) <|
  gx r20 (Int.tmod (IntKind.i64.wrap (r21 + 1)) ((r20.length : Nat) : Int)) fun x22 =>
  apx 7 l17 [x22] fun l23 =>
  (((overlay_Order N a0 3).bind fun r26 =>
  (view_Place N r26 a1).bind fun r27 =>
  dvx ((r26.length : Nat) : Int) <|
  gx r26 (Int.tmod (IntKind.i64.wrap (r27 + 1)) ((r26.length : Nat) : Int)) fun x28 =>
  apx 7 l23 [x28] fun l29 =>
  (((overlay_Order N a0 4).bind fun r32 =>
  (view_Place N r32 a1).bind fun r33 =>
  dvx ((r32.length : Nat) : Int) <|
  gx r32 (Int.tmod (IntKind.i64.wrap (r33 + 1)) ((r32.length : Nat) : Int)) fun x34 =>
  apx 7 l29 [x34] fun l35 =>
  ((some l35)))))))))))
noncomputable def overlay_Subjects (N : Nat) (a0 : (List Int)) (a1 : Int) : Option ((List Int)) :=
  (view_ValidMembers N a0).bind fun r3 =>
  if r3 = true then
  ((view_Contains N a0 a1).bind fun r4 =>
  if r4 = true then
  (((overlay_Subjects_J1 (overlay_Subjects_J2 N a0 a1)) (decide (((a0.length : Nat) : Int) = 1))))
  else
  (((overlay_Subjects_J1 (overlay_Subjects_J2 N a0 a1)) true)))
  else
  (((overlay_Subjects_J1 (overlay_Subjects_J2 N a0 a1)) true))
def overlay_Shared_L1 (a1 : Int) : List Int → Nat → List Int → Option ((List Int))
  | [], v6, l5 =>
    (some l5)
  | x9 :: xs, v6, l5 =>
    (if x9 = a1 then
    (apx 7 l5 [((v6 : Nat) : Int)] fun l12 =>
    (((overlay_Shared_L1 a1 xs (v6 + 1)) l12)))
    else
    ((((overlay_Shared_L1 a1 xs (v6 + 1)) l5))))
def overlay_Shared (N : Nat) (a0 : (List Int)) (a1 : Int) (a2 : Int) : Option ((List Int)) :=
  (overlay_identifier N a1).bind fun r2 =>
  if r2 = true then
  (((overlay_Observers N a0 a2).bind fun r4 =>
  (overlay_Shared_L1 a1 r4 0 [])))
  else
  (some [])
noncomputable def law4_awake (N : Nat)  : Option (Bool) :=
  (overlay_Observers N [4, 9] 4).bind fun r1 =>
  (overlay_Subjects N [4, 9] 4).bind fun r2 =>
  (overlay_Observers N [4] 7).bind fun r3 =>
  if ((r1.length : Nat) : Int) = 5 then
  (gx r1 0 fun x5 =>
  if x5 = 9 then
  (if ((r2.length : Nat) : Int) = 5 then
  (gx r2 4 fun x6 =>
  if x6 = 9 then
  (if ((r3.length : Nat) : Int) = 5 then
  (gx r3 2 fun x7 =>
  if x7 = 4 then
  ((overlay_Observers N [4] 4).bind fun r8 =>
  if ((r8.length : Nat) : Int) = 0 then
  ((overlay_Order N [2, 3, 5] 1).bind fun r9 =>
  if ((r9.length : Nat) : Int) = 3 then
  ((overlay_Shared N [4, 9] 4 9).bind fun r10 =>
  (some (decide (((r10.length : Nat) : Int) = 5))))
  else
  ((some false)))
  else
  ((some false)))
  else
  ((some false)))
  else
  ((some false)))
  else
  ((some false)))
  else
  ((some false)))
  else
  ((some false)))
  else
  ((some false))
def ref3_IsID (N : Nat) (a0 : Int) : Option (Bool) :=
  if 1 ≤ a0 then
  ((some (decide (a0 ≤ 1000))))
  else
  ((some false))
def ref3_Rising_J1 (rec3 : Unit → Option (Bool)) (c11 : Bool) : Option (Bool) :=
  if c11 = true then
  (some false)
  else
  (((rec3 ())))
def ref3_Rising_L1 (N : Nat) (a0 : (List Int)) : List Int → Nat → Unit → Option (Bool)
  | [], v2, () =>
    (some true)
  | x5 :: xs, v2, () =>
    ((ref3_IsID N x5).bind fun r9 =>
    if r9 = true then
    (if 0 < ((v2 : Nat) : Int) then
    (gx a0 (IntKind.i64.wrap (((v2 : Nat) : Int) - 1)) fun x10 =>
    ((ref3_Rising_J1 (ref3_Rising_L1 N a0 xs (v2 + 1))) (decide (x5 ≤ x10))))
    else
    (((ref3_Rising_J1 (ref3_Rising_L1 N a0 xs (v2 + 1))) false)))
    else
    (((ref3_Rising_J1 (ref3_Rising_L1 N a0 xs (v2 + 1))) true)))
def ref3_Rising (N : Nat) (a0 : (List Int)) : Option (Bool) :=
  (ref3_Rising_L1 N a0 a0 0 ())
def ref3_ValidMembers (N : Nat) (a0 : (List Int)) : Option (Bool) :=
  if 1 ≤ ((a0.length : Nat) : Int) then
  (if ((a0.length : Nat) : Int) ≤ 16 then
  ((ref3_Rising N a0).bind fun r2 =>
  (some r2))
  else
  ((some false)))
  else
  ((some false))
def ref3_Insert_J1 (l2 : List Int) (a1 : Int) (kx10 : (List Int) → Bool → Option ((List Int))) (c12 : Bool) (c13 : Bool) : Option ((List Int)) :=
  if c13 = true then
  (apx 7 l2 [a1] fun l14 =>
  (kx10 l14 true))
  else
  ((kx10 l2 c12))
def ref3_Insert_J2 (x7 : Int) (rec5 : (List Int × Bool) → Option ((List Int))) (l15 : List Int) (c16 : Bool) : Option ((List Int)) :=
  apx 7 l15 [x7] fun l17 =>
  ((rec5 (l17, c16)))
def ref3_Insert_L1 (kx1 : (List Int) → Bool → Option ((List Int))) (a1 : Int) : List Int → Nat → List Int × Bool → Option ((List Int))
  | [], v4, (l2, c3) =>
    (kx1 l2 c3)
  | x7 :: xs, v4, (l2, c3) =>
    (if c3 = true then
    (((ref3_Insert_J1 l2 a1 (ref3_Insert_J2 x7 (ref3_Insert_L1 kx1 a1 xs (v4 + 1)))) true false))
    else
    (((ref3_Insert_J1 l2 a1 (ref3_Insert_J2 x7 (ref3_Insert_L1 kx1 a1 xs (v4 + 1)))) false (decide (a1 < x7)))))
def ref3_Insert_J3 (a1 : Int) (l20 : List Int) (c21 : Bool) : Option ((List Int)) :=
  if c21 = true then
  ((some l20))
  else
  (apx 7 l20 [a1] fun l23 =>
  (some l23))
def ref3_Insert (N : Nat) (a0 : (List Int)) (a1 : Int) : Option ((List Int)) :=
  (ref3_Insert_L1 (ref3_Insert_J3 a1) a1 a0 0 ([], false))
def law4_same_L1 (a1 : (List Int)) : List Int → Nat → Unit → Option (Bool)
  | [], v3, () =>
    (some true)
  | x6 :: xs, v3, () =>
    (gx a1 ((v3 : Nat) : Int) fun x9 =>
    if x6 = x9 then
    ((((law4_same_L1 a1 xs (v3 + 1)) ())))
    else
    (some false))
def law4_same (N : Nat) (a0 : (List Int)) (a1 : (List Int)) : Option (Bool) :=
  if ((a0.length : Nat) : Int) = ((a1.length : Nat) : Int) then
  (((law4_same_L1 a1 a0 0 ())))
  else
  (some false)
def ref2_Mix (N : Nat) (a0 : Int) : Option (Int) :=
  brN N (
  some (IntKind.u64.wrap ((BitVec.ofInt (IntKind.bits .u64) (IntKind.u64.wrap ((IntKind.u64.wrap ((BitVec.ofInt (IntKind.bits .u64) (IntKind.u64.wrap ((IntKind.u64.wrap ((BitVec.ofInt (IntKind.bits .u64) a0 ^^^ BitVec.ofInt (IntKind.bits .u64) (shrI .u64 a0 30)).toNat)) * 13787848793156543929)) ^^^ BitVec.ofInt (IntKind.bits .u64) (shrI .u64 (IntKind.u64.wrap ((IntKind.u64.wrap ((BitVec.ofInt (IntKind.bits .u64) a0 ^^^ BitVec.ofInt (IntKind.bits .u64) (shrI .u64 a0 30)).toNat)) * 13787848793156543929)) 27)).toNat)) * 10723151780598845931)) ^^^ BitVec.ofInt (IntKind.bits .u64) (shrI .u64 (IntKind.u64.wrap ((IntKind.u64.wrap ((BitVec.ofInt (IntKind.bits .u64) (IntKind.u64.wrap ((IntKind.u64.wrap ((BitVec.ofInt (IntKind.bits .u64) a0 ^^^ BitVec.ofInt (IntKind.bits .u64) (shrI .u64 a0 30)).toNat)) * 13787848793156543929)) ^^^ BitVec.ofInt (IntKind.bits .u64) (shrI .u64 (IntKind.u64.wrap ((IntKind.u64.wrap ((BitVec.ofInt (IntKind.bits .u64) a0 ^^^ BitVec.ofInt (IntKind.bits .u64) (shrI .u64 a0 30)).toNat)) * 13787848793156543929)) 27)).toNat)) * 10723151780598845931)) 31)).toNat)))
def ref2_Combine (N : Nat) (a0 : Int) (a1 : Int) : Option (Int) :=
  (ref2_Mix N (IntKind.u64.wrap (a0 + (IntKind.u64.wrap (11400714819323198485 * (IntKind.u64.wrap (a1 + 1))))))).bind fun r1 =>
  some r1
def ref2_Position (N : Nat) (a0 : Int) (a1 : Int) : Option (Int) :=
  (ref2_Combine N (IntKind.u64.wrap a0) (IntKind.u64.wrap a1)).bind fun r1 =>
  some r1
def ref4_Order_J1 (kx1 : Option ((List Int))) (c4 : Bool) : Option ((List Int)) :=
  if c4 = true then
  (some [])
  else
  (kx1)
def ref4_Order_L2 (kx13 : Int → Option ((List Int))) (N : Nat) (a1 : Int) (x10 : Int) : List Int → Nat → Unit → Option ((List Int))
  | [], v14, () =>
    ((kx13 ((v14 : Nat) : Int)))
  | x18 :: xs, v14, () =>
    (ref2_Position N a1 x18).bind fun r21 =>
    (ref2_Position N a1 x10).bind fun r22 =>
    (if r21 < r22 then
    ((((ref4_Order_L2 kx13 N a1 x10 xs (v14 + 1)) ())))
    else
    ((kx13 ((v14 : Nat) : Int))))
def ref4_Order_J2 (l6 : List Int) (x10 : Int) (rec8 : List Int → Option ((List Int))) (v23 : Int) : Option ((List Int)) :=
  slx l6 0 v23 fun l24 =>
  apn 7 (l6.take ((v23).toNat)) <|
  apx 7 (l6.take ((v23).toNat)) [x10] fun l25 =>
  slx l6 v23 ((l6.length : Nat) : Int) fun l26 =>
  apx 7 l25 ((l6.drop ((v23).toNat)).take (l6.length - (v23).toNat)) fun l27 =>
  ((rec8 l27))
def ref4_Order_L1 (N : Nat) (a1 : Int) : List Int → Nat → List Int → Option ((List Int))
  | [], v7, l6 =>
    (some l6)
  | x10 :: xs, v7, l6 =>
    ((ref4_Order_L2 (ref4_Order_J2 l6 x10 (ref4_Order_L1 N a1 xs (v7 + 1))) N a1 x10 l6 0 ()))
def ref4_Order_J3 (N : Nat) (a1 : Int) (a0 : (List Int)) : Option ((List Int)) :=
  (ref4_Order_L1 N a1 a0 0 [])
def ref4_Order (N : Nat) (a0 : (List Int)) (a1 : Int) : Option ((List Int)) :=
  (ref3_ValidMembers N a0).bind fun r3 =>
  if r3 = true then
  (if a1 < 0 then
  (((ref4_Order_J1 (ref4_Order_J3 N a1 a0)) true))
  else
  (((ref4_Order_J1 (ref4_Order_J3 N a1 a0)) (decide (5 ≤ a1)))))
  else
  (((ref4_Order_J1 (ref4_Order_J3 N a1 a0)) true))
def ref4_Ahead_L1 (N : Nat) (a1 : Int) (a2 : Int) : List Int → Nat → Int → Option (Int)
  | [], v5, v4 =>
    (some v4)
  | x8 :: xs, v5, v4 =>
    ((ref2_Position N a1 x8).bind fun r11 =>
    (ref2_Position N a1 a2).bind fun r12 =>
    if r11 < r12 then
    ((((ref4_Ahead_L1 N a1 a2 xs (v5 + 1)) x8)))
    else
    ((((ref4_Ahead_L1 N a1 a2 xs (v5 + 1)) v4))))
def ref4_Ahead (N : Nat) (a0 : (List Int)) (a1 : Int) (a2 : Int) : Option (Int) :=
  (ref4_Order N a0 a1).bind fun r1 =>
  gx r1 (IntKind.i64.wrap (((r1.length : Nat) : Int) - 1)) fun x2 =>
  (ref4_Ahead_L1 N a1 a2 r1 0 x2)
def ref4_Observers_J1 (kx1 : Option ((List Int))) (c6 : Bool) : Option ((List Int)) :=
  if c6 = true then
  (some [])
  else
  (kx1)
def ref4_Observers_J2 (N : Nat) (a0 : (List Int)) (a1 : Int) : Option ((List Int)) :=
  ((ref4_Ahead N a0 0 a1).bind fun r10 =>
  apn 7 [r10] <|
  (((ref4_Ahead N a0 1 a1).bind fun r13 =>
  apx 7 [r10] [r13] fun l14 =>
  (((ref4_Ahead N a0 2 a1).bind fun r17 =>
  apx 7 l14 [r17] fun l18 =>
  (((ref4_Ahead N a0 3 a1).bind fun r21 =>
  apx 7 l18 [r21] fun l22 =>
  (((ref4_Ahead N a0 4 a1).bind fun r25 =>
  apx 7 l22 [r25] fun l26 =>
  ((some l26)))))))))))
def ref4_Observers (N : Nat) (a0 : (List Int)) (a1 : Int) : Option ((List Int)) :=
  (ref3_ValidMembers N a0).bind fun r3 =>
  if r3 = true then
  ((ref3_IsID N a1).bind fun r4 =>
  if r4 = true then
  (if ((a0.length : Nat) : Int) = 1 then
  (gx a0 0 fun x5 =>
  ((ref4_Observers_J1 (ref4_Observers_J2 N a0 a1)) (decide (x5 = a1))))
  else
  (((ref4_Observers_J1 (ref4_Observers_J2 N a0 a1)) false)))
  else
  (((ref4_Observers_J1 (ref4_Observers_J2 N a0 a1)) true)))
  else
  (((ref4_Observers_J1 (ref4_Observers_J2 N a0 a1)) true))
def ref3_Place_L1 (a1 : Int) : List Int → Nat → Unit → Option (Int)
  | [], v2, () =>
    (some (-1))
  | x5 :: xs, v2, () =>
    (if x5 = a1 then
    (some ((v2 : Nat) : Int))
    else
    ((((ref3_Place_L1 a1 xs (v2 + 1)) ()))))
def ref3_Place (N : Nat) (a0 : (List Int)) (a1 : Int) : Option (Int) :=
  (ref3_Place_L1 a1 a0 0 ())
def ref3_Contains (N : Nat) (a0 : (List Int)) (a1 : Int) : Option (Bool) :=
  (ref3_Place N a0 a1).bind fun r1 =>
  some (decide (0 ≤ r1))
def ref4_Subjects_J1 (kx1 : Option ((List Int))) (c5 : Bool) : Option ((List Int)) :=
  if c5 = true then
  (some [])
  else
  (kx1)
def ref4_Subjects_J2 (N : Nat) (a0 : (List Int)) (a1 : Int) : Option ((List Int)) :=
  ((ref4_Order N a0 0).bind fun r9 =>
  (ref3_Place N r9 a1).bind fun r10 =>
  dvx ((r9.length : Nat) : Int) <|
  gx r9 (Int.tmod (IntKind.i64.wrap (r10 + 1)) ((r9.length : Nat) : Int)) fun x11 =>
  apn 7 [x11] <|
  (((ref4_Order N a0 1).bind fun r14 =>
  (ref3_Place N r14 a1).bind fun r15 =>
  dvx ((r14.length : Nat) : Int) <|
  gx r14 (Int.tmod (IntKind.i64.wrap (r15 + 1)) ((r14.length : Nat) : Int)) fun x16 =>
  apx 7 [x11] [x16] fun l17 =>
  (((ref4_Order N a0 2).bind fun r20 =>
  (ref3_Place N r20 a1).bind fun r21 =>
  dvx ((r20.length : Nat) : Int) <|
  gx r20 (Int.tmod (IntKind.i64.wrap (r21 + 1)) ((r20.length : Nat) : Int)) fun x22 =>
  apx 7 l17 [x22] fun l23 =>
  (((ref4_Order N a0 3).bind fun r26 =>
  (ref3_Place N r26 a1).bind fun r27 =>
  dvx ((r26.length : Nat) : Int) <|
  gx r26 (Int.tmod (IntKind.i64.wrap (r27 + 1)) ((r26.length : Nat) : Int)) fun x28 =>
  apx 7 l23 [x28] fun l29 =>
  (((ref4_Order N a0 4).bind fun r32 =>
  (ref3_Place N r32 a1).bind fun r33 =>
  dvx ((r32.length : Nat) : Int) <|
  gx r32 (Int.tmod (IntKind.i64.wrap (r33 + 1)) ((r32.length : Nat) : Int)) fun x34 =>
  apx 7 l29 [x34] fun l35 =>
  ((some l35)))))))))))
def ref4_Subjects (N : Nat) (a0 : (List Int)) (a1 : Int) : Option ((List Int)) :=
  (ref3_ValidMembers N a0).bind fun r3 =>
  if r3 = true then
  (if ((a0.length : Nat) : Int) < 2 then
  (((ref4_Subjects_J1 (ref4_Subjects_J2 N a0 a1)) true))
  else
  ((ref3_Contains N a0 a1).bind fun r4 =>
  ((ref4_Subjects_J1 (ref4_Subjects_J2 N a0 a1)) (!r4))))
  else
  (((ref4_Subjects_J1 (ref4_Subjects_J2 N a0 a1)) true))
def ref4_Shared_L1 (a1 : Int) : List Int → Nat → List Int → Option ((List Int))
  | [], v4, l3 =>
    (some l3)
  | x7 :: xs, v4, l3 =>
    (if x7 = a1 then
    (apx 7 l3 [((v4 : Nat) : Int)] fun l10 =>
    (((ref4_Shared_L1 a1 xs (v4 + 1)) l10)))
    else
    ((((ref4_Shared_L1 a1 xs (v4 + 1)) l3))))
def ref4_Shared (N : Nat) (a0 : (List Int)) (a1 : Int) (a2 : Int) : Option ((List Int)) :=
  (ref4_Observers N a0 a2).bind fun r1 =>
  (ref4_Shared_L1 a1 r1 0 [])
def cmp_isNaN_int (N : Nat) (a0 : Int) : Option (Bool) :=
  some (!decide (a0 = a0))
def cmp_Less_int (N : Nat) (a0 : Int) (a1 : Int) : Option (Bool) :=
  (cmp_isNaN_int N a0).bind fun r2 =>
  if r2 = true then
  ((cmp_isNaN_int N a1).bind fun r3 =>
  if r3 = true then
  ((some (decide (a0 < a1))))
  else
  ((some true)))
  else
  ((some (decide (a0 < a1))))
def slices_insertionSortOrdered_int_J1 (kx9 : Option ((List Int))) (rec3 : (List Int × Int) → Option ((List Int))) (l6 : List Int) (v2 : Int) (c14 : Bool) : Option ((List Int)) :=
  if c14 = true then
  (kx9)
  else
  (((rec3 (l6, IntKind.i64.wrap (v2 + 1)))))
def slices_insertionSortOrdered_int_J2 (l6 : List Int) (v7 : Int) (rec8 : (List Int × Int) → Option ((List Int))) : Option ((List Int)) :=
  gx l6 (IntKind.i64.wrap (v7 - 1)) fun x16 =>
  gx l6 v7 fun x17 =>
  gx (l6.set ((v7).toNat) x16) (IntKind.i64.wrap (v7 - 1)) fun x18 =>
  ((rec8 (((l6.set ((v7).toNat) x16).set ((IntKind.i64.wrap (v7 - 1)).toNat) x17), IntKind.i64.wrap (v7 - 1))))
def slices_insertionSortOrdered_int_L2 (a1 : Int) (N : Nat) (rec3 : (List Int × Int) → Option ((List Int))) (v2 : Int) : Nat → List Int × Int → Option ((List Int))
  | 0, _ => none
  | n + 1, (l6, v7) =>
    if a1 < v7 then
    (gx l6 v7 fun x11 =>
    gx l6 (IntKind.i64.wrap (v7 - 1)) fun x12 =>
    (cmp_Less_int N x11 x12).bind fun r13 =>
    ((slices_insertionSortOrdered_int_J1 (slices_insertionSortOrdered_int_J2 l6 v7 (slices_insertionSortOrdered_int_L2 a1 N rec3 v2 n)) rec3 l6 v2) r13))
    else
    (((slices_insertionSortOrdered_int_J1 (slices_insertionSortOrdered_int_J2 l6 v7 (slices_insertionSortOrdered_int_L2 a1 N rec3 v2 n)) rec3 l6 v2) false))
def slices_insertionSortOrdered_int_L1 (a2 : Int) (a1 : Int) (N : Nat) : Nat → List Int × Int → Option ((List Int))
  | 0, _ => none
  | n + 1, (l1, v2) =>
    if v2 < a2 then
    (((slices_insertionSortOrdered_int_L2 a1 N (slices_insertionSortOrdered_int_L1 a2 a1 N n) v2 N (l1, v2))))
    else
    (some l1)
def slices_insertionSortOrdered_int (N : Nat) (a0 : (List Int)) (a1 : Int) (a2 : Int) : Option ((List Int)) :=
  lenM (fun r => r) a0 (
  (slices_insertionSortOrdered_int_L1 a2 a1 N N (a0, IntKind.i64.wrap (a1 + 1))))
def slices_pdqsortOrdered_int_L1 (a2 : Int) (a1 : Int) (N : Nat) (a0 : (List Int)) (a3 : Int) : Nat → Unit → Option ((List Int))
  | 0, _ => none
  | n + 1, () =>
    if (IntKind.i64.wrap (a2 - a1)) ≤ 12 then
    ((slices_insertionSortOrdered_int N a0 a1 a2).bind fun r3 =>
    some r3)
    else
    ((if a3 = 0 then
    (none)
    else
    (((none)))))
def slices_pdqsortOrdered_int (N : Nat) (a0 : (List Int)) (a1 : Int) (a2 : Int) (a3 : Int) : Option ((List Int)) :=
  lenM (fun r => r) a0 (
  (slices_pdqsortOrdered_int_L1 a2 a1 N a0 a3 N ()))
def slices_Sort_int (N : Nat) (a0 : (List Int)) : Option ((List Int)) :=
  lenM (fun r => r) a0 (
  (math_bits_Len N (IntKind.u64.wrap ((a0.length : Nat) : Int))).bind fun r1 =>
  (slices_pdqsortOrdered_int N a0 0 ((a0.length : Nat) : Int) r1).bind fun r2 =>
  some r2)
def slices_Compact_int_L2 (a0 : (List Int)) (v3 : Nat) (kx11 : (List Int) → Int → Option ((List Int))) : Nat → List Int × Int × Int → Option ((List Int))
  | 0, _ => none
  | n + 1, (l12, v13, v14) =>
    if v14 < (((a0.length - v3) : Nat) : Int) then
    ((gx ((l12.drop v3).take (a0.length - v3)) v14 fun x18 =>
    gx ((l12.drop v3).take (a0.length - v3)) (IntKind.i64.wrap (v14 - 1)) fun x19 =>
    if x18 = x19 then
    ((((slices_Compact_int_L2 a0 v3 kx11 n) (l12, v13, IntKind.i64.wrap (v14 + 1)))))
    else
    (gx l12 v13 fun x20 =>
    (((slices_Compact_int_L2 a0 v3 kx11 n) ((l12.set ((v13).toNat) x18), (IntKind.i64.wrap (v13 + 1)), IntKind.i64.wrap (v14 + 1)))))))
    else
    ((kx11 l12 v13))
def slices_Compact_int_J1 (l23 : List Int) (v24 : Int) : Option ((List Int)) :=
  slx l23 v24 ((l23.length : Nat) : Int) fun l25 =>
  slx (clrL 0 (v24).toNat l23) 0 v24 fun l26 =>
  some ((clrL 0 (v24).toNat l23).take ((v24).toNat))
def slices_Compact_int_L1 (a0 : (List Int)) (N : Nat) : Nat → Nat → Unit → Option ((List Int))
  | 0, v3, () =>
    (some a0)
  | m + 1, v3, () =>
    (gx a0 ((v3 : Nat) : Int) fun x8 =>
    gx a0 (IntKind.i64.wrap (((v3 : Nat) : Int) - 1)) fun x9 =>
    if x8 = x9 then
    (slx a0 ((v3 : Nat) : Int) ((a0.length : Nat) : Int) fun l10 =>
    (slices_Compact_int_L2 a0 v3 slices_Compact_int_J1 N (a0, ((v3 : Nat) : Int), 1)))
    else
    ((((slices_Compact_int_L1 a0 N m (v3 + 1)) ()))))
def slices_Compact_int (N : Nat) (a0 : (List Int)) : Option ((List Int)) :=
  if ((a0.length : Nat) : Int) < 2 then
  (some a0)
  else
  (((slices_Compact_int_L1 a0 N (a0.length - 1) 1 ())))
def overlay_Neighbours_1 (N : Nat) (a0 : Int) (c0_0 : Int) : Option (Bool) :=
  some (decide (a0 = c0_0))
def slices_IndexFunc_int_overlay_Neighbours_1_L1 (N : Nat) (k1_0_0 : Int) : List Int → Nat → Unit → Option (Int)
  | [], v2, () =>
    (some (-1))
  | x5 :: xs, v2, () =>
    ((overlay_Neighbours_1 N x5 k1_0_0).bind fun r8 =>
    if r8 = true then
    (some ((v2 : Nat) : Int))
    else
    ((((slices_IndexFunc_int_overlay_Neighbours_1_L1 N k1_0_0 xs (v2 + 1)) ()))))
def slices_IndexFunc_int_overlay_Neighbours_1 (N : Nat) (a0 : (List Int)) (k1_0_0 : Int) : Option (Int) :=
  (slices_IndexFunc_int_overlay_Neighbours_1_L1 N k1_0_0 a0 0 ())
def slices_DeleteFunc_int_overlay_Neighbours_1_L1 (N : Nat) (k1_0_0 : Int) (kx3 : (List Int) → Int → Option ((List Int))) : Nat → List Int × Int × Int → Option ((List Int))
  | 0, _ => none
  | n + 1, (l4, v5, v6) =>
    if v6 < ((l4.length : Nat) : Int) then
    ((gx l4 v6 fun x10 =>
    (overlay_Neighbours_1 N x10 k1_0_0).bind fun r11 =>
    if r11 = true then
    ((((slices_DeleteFunc_int_overlay_Neighbours_1_L1 N k1_0_0 kx3 n) (l4, v5, IntKind.i64.wrap (v6 + 1)))))
    else
    (gx l4 v5 fun x12 =>
    (((slices_DeleteFunc_int_overlay_Neighbours_1_L1 N k1_0_0 kx3 n) ((l4.set ((v5).toNat) x10), (IntKind.i64.wrap (v5 + 1)), IntKind.i64.wrap (v6 + 1)))))))
    else
    ((kx3 l4 v5))
def slices_DeleteFunc_int_overlay_Neighbours_1_J1 (l15 : List Int) (v16 : Int) : Option ((List Int)) :=
  slx l15 v16 ((l15.length : Nat) : Int) fun l17 =>
  slx (clrL 0 (v16).toNat l15) 0 v16 fun l18 =>
  some ((clrL 0 (v16).toNat l15).take ((v16).toNat))
def slices_DeleteFunc_int_overlay_Neighbours_1 (N : Nat) (a0 : (List Int)) (k1_0_0 : Int) : Option ((List Int)) :=
  (slices_IndexFunc_int_overlay_Neighbours_1 N a0 k1_0_0).bind fun r1 =>
  if r1 = (-1) then
  (some a0)
  else
  (((slices_DeleteFunc_int_overlay_Neighbours_1_L1 N k1_0_0 slices_DeleteFunc_int_overlay_Neighbours_1_J1 N (a0, r1, IntKind.i64.wrap (r1 + 1)))))
noncomputable def overlay_Neighbours (N : Nat) (a0 : (List Int)) (a1 : Int) : Option ((List Int)) :=
  (overlay_Observers N a0 a1).bind fun r1 =>
  (overlay_Subjects N a0 a1).bind fun r2 =>
  apx 7 r1 r2 fun l3 =>
  (slices_Sort_int N l3).bind fun r4 =>
  (slices_Compact_int N r4).bind fun r5 =>
  (slices_DeleteFunc_int_overlay_Neighbours_1 N r5 a1).bind fun r6 =>
  some r6
def ref4_Neighbours_J1 (N : Nat) (l5 : List Int) (x9 : Int) (rec7 : List Int → Option ((List Int))) (c14 : Bool) : Option ((List Int)) :=
  if c14 = true then
  ((ref3_Insert N l5 x9).bind fun r15 =>
  ((rec7 r15)))
  else
  (((rec7 l5)))
def ref4_Neighbours_L1 (a1 : Int) (N : Nat) : List Int → Nat → List Int → Option ((List Int))
  | [], v6, l5 =>
    (some l5)
  | x9 :: xs, v6, l5 =>
    (if x9 = a1 then
    (((ref4_Neighbours_J1 N l5 x9 (ref4_Neighbours_L1 a1 N xs (v6 + 1))) false))
    else
    ((ref3_Contains N l5 x9).bind fun r13 =>
    ((ref4_Neighbours_J1 N l5 x9 (ref4_Neighbours_L1 a1 N xs (v6 + 1))) (!r13))))
def ref4_Neighbours (N : Nat) (a0 : (List Int)) (a1 : Int) : Option ((List Int)) :=
  (ref4_Observers N a0 a1).bind fun r1 =>
  apn 7 r1 <|
  (ref4_Subjects N a0 a1).bind fun r2 =>
  apx 7 r1 r2 fun l3 =>
  (ref4_Neighbours_L1 a1 N l3 0 [])
noncomputable def law4_OverlayTells (N : Nat) (a0 : (List Int)) (a1 : Int) (a2 : Int) (a3 : Int) : Option (Bool) :=
  (law4_awake N).bind fun r2 =>
  if r2 = true then
  ((if 60 < ((a0.length : Nat) : Int) then
  (some true)
  else
  (((overlay_Order N a0 a1).bind fun r5 =>
  (ref4_Order N a0 a1).bind fun r6 =>
  (law4_same N r5 r6).bind fun r7 =>
  if r7 = true then
  ((overlay_Observers N a0 a2).bind fun r8 =>
  (ref4_Observers N a0 a2).bind fun r9 =>
  (law4_same N r8 r9).bind fun r10 =>
  if r10 = true then
  ((overlay_Subjects N a0 a2).bind fun r11 =>
  (ref4_Subjects N a0 a2).bind fun r12 =>
  (law4_same N r11 r12).bind fun r13 =>
  if r13 = true then
  ((overlay_Shared N a0 a2 a3).bind fun r14 =>
  (ref4_Shared N a0 a2 a3).bind fun r15 =>
  (law4_same N r14 r15).bind fun r16 =>
  if r16 = true then
  ((overlay_Neighbours N a0 a2).bind fun r17 =>
  (ref4_Neighbours N a0 a2).bind fun r18 =>
  (law4_same N r17 r18).bind fun r19 =>
  (some r19))
  else
  ((some false)))
  else
  ((some false)))
  else
  ((some false)))
  else
  ((some false))))))
  else
  (some false)
end Go.Proofs.Ytjpeiibeemmdfaa
