/- The models of the functions. No statement. -/
import Derived.Test.YtekgpnhfhkhpaaaT
/- The functions of the program as plain functions on plain data. -/
set_option maxHeartbeats 40000000
set_option synthInstance.maxHeartbeats 2000000
set_option synthInstance.maxSize 4000
set_option linter.unusedSimpArgs false
set_option linter.unusedVariables false
set_option maxRecDepth 100000
namespace Go.Proofs.Ytekgpnhfhkhpaaa
open Go Go.Proofs Go.Abs
def cascade_between (N : Nat) (a0 : Int) : Option (Bool) :=
 if 1 ≤ a0 then
 ((some (decide (a0 ≤ 1099511627776))))
 else
 ((some false))
def slices_Index_int_L1 (a1 : Int) : List Int → Nat → Unit → Option (Int)
 | [], v2, () =>
  (some (-1))
 | x5 :: xs, v2, () =>
  (if a1 = x5 then
  (some ((v2 : Nat) : Int))
  else
  ((((slices_Index_int_L1 a1 xs (v2 + 1)) ()))))
def slices_Index_int (N : Nat) (a0 : (List Int)) (a1 : Int) : Option (Int) :=
 (slices_Index_int_L1 a1 a0 0 ())
def slices_Contains_int (N : Nat) (a0 : (List Int)) (a1 : Int) : Option (Bool) :=
 (slices_Index_int N a0 a1).bind fun r1 =>
 some (decide (0 ≤ r1))
def cascade_state_ended (N : Nat) (a0 : cascade_state) (a1 : Int) : Option (Bool) :=
 (slices_Contains_int N a0.committed a1).bind fun r2 =>
 if r2 = true then
 ((some true))
 else
 ((slices_Contains_int N a0.aborted a1).bind fun r3 =>
 (some r3))
def cascade_state_on_L1 (a1 : Int) : List cascade_stack → Nat → Unit → Option ((List Int))
 | [], v2, () =>
  (some [])
 | x5 :: xs, v2, () =>
  (if x5.actor = a1 then
  (some x5.txns)
  else
  ((((cascade_state_on_L1 a1 xs (v2 + 1)) ()))))
def cascade_state_on (N : Nat) (a0 : cascade_state) (a1 : Int) : Option ((List Int)) :=
 (cascade_state_on_L1 a1 a0.stacks 0 ())
def cascade_state_begun_1 (N : Nat) (a0 : Arr2_i64) (c0_0 : Int) : Option (Bool) :=
 some (decide (a0.e0 = c0_0))
def slices_IndexFunc_2int_cascade_state_begun_1_L1 (N : Nat) (k1_0_0 : Int) : List Arr2_i64 → Nat → Unit → Option (Int)
 | [], v2, () =>
  (some (-1))
 | x5 :: xs, v2, () =>
  ((cascade_state_begun_1 N x5 k1_0_0).bind fun r8 =>
  if r8 = true then
  (some ((v2 : Nat) : Int))
  else
  ((((slices_IndexFunc_2int_cascade_state_begun_1_L1 N k1_0_0 xs (v2 + 1)) ()))))
def slices_IndexFunc_2int_cascade_state_begun_1 (N : Nat) (a0 : (List Arr2_i64)) (k1_0_0 : Int) : Option (Int) :=
 (slices_IndexFunc_2int_cascade_state_begun_1_L1 N k1_0_0 a0 0 ())
def slices_ContainsFunc_2int_cascade_state_begun_1 (N : Nat) (a0 : (List Arr2_i64)) (k1_0_0 : Int) : Option (Bool) :=
 (slices_IndexFunc_2int_cascade_state_begun_1 N a0 k1_0_0).bind fun r1 =>
 some (decide (0 ≤ r1))
def cascade_state_begun (N : Nat) (a0 : cascade_state) (a1 : Int) : Option (Bool) :=
 (slices_ContainsFunc_2int_cascade_state_begun_1 N a0.prepared a1).bind fun r1 =>
 some r1
def slices_Index_2int_L1 (a1 : Arr2_i64) : List Arr2_i64 → Nat → Unit → Option (Int)
 | [], v2, () =>
  (some (-1))
 | x5 :: xs, v2, () =>
  (if (decide (a1.e0 = x5.e0) && decide (a1.e1 = x5.e1)) = true then
  (some ((v2 : Nat) : Int))
  else
  ((((slices_Index_2int_L1 a1 xs (v2 + 1)) ()))))
def slices_Index_2int (N : Nat) (a0 : (List Arr2_i64)) (a1 : Arr2_i64) : Option (Int) :=
 (slices_Index_2int_L1 a1 a0 0 ())
def slices_Contains_2int (N : Nat) (a0 : (List Arr2_i64)) (a1 : Arr2_i64) : Option (Bool) :=
 (slices_Index_2int N a0 a1).bind fun r1 =>
 some (decide (0 ≤ r1))
def cascade_state_has (N : Nat) (a0 : cascade_state) (a1 : Int) (a2 : Int) : Option (Bool) :=
 (slices_Contains_2int N a0.prepared (Arr2_i64.mk a1 a2)).bind fun r1 =>
 some r1
def cascade_state_ready_L1 (N : Nat) (a1 : Int) (a0 : cascade_state) : List cascade_stack → Nat → Bool → Option (Bool)
 | [], v3, c2 =>
  (some c2)
 | x6 :: xs, v3, c2 =>
  ((slices_Contains_int N x6.txns a1).bind fun r9 =>
  if r9 = true then
  ((cascade_state_has N a0 a1 x6.actor).bind fun r11 =>
  if r11 = true then
  (((((cascade_state_ready_L1 N a1 a0 xs (v3 + 1)) true))))
  else
  (some false))
  else
  ((((cascade_state_ready_L1 N a1 a0 xs (v3 + 1)) c2))))
def cascade_state_ready (N : Nat) (a0 : cascade_state) (a1 : Int) : Option (Bool) :=
 (cascade_state_ready_L1 N a1 a0 a0.stacks 0 false)
def cascade_state_lowest_1 (N : Nat) (a0 : cascade_stack) (c0_0 : Int) : Option (Bool) :=
 (slices_Index_int N a0.txns c0_0).bind fun r1 =>
 some (decide (0 < r1))
def slices_IndexFunc_stack_cascade_state_lowest_1_L1 (N : Nat) (k1_0_0 : Int) : List cascade_stack → Nat → Unit → Option (Int)
 | [], v2, () =>
  (some (-1))
 | x5 :: xs, v2, () =>
  ((cascade_state_lowest_1 N x5 k1_0_0).bind fun r8 =>
  if r8 = true then
  (some ((v2 : Nat) : Int))
  else
  ((((slices_IndexFunc_stack_cascade_state_lowest_1_L1 N k1_0_0 xs (v2 + 1)) ()))))
def slices_IndexFunc_stack_cascade_state_lowest_1 (N : Nat) (a0 : (List cascade_stack)) (k1_0_0 : Int) : Option (Int) :=
 (slices_IndexFunc_stack_cascade_state_lowest_1_L1 N k1_0_0 a0 0 ())
def slices_ContainsFunc_stack_cascade_state_lowest_1 (N : Nat) (a0 : (List cascade_stack)) (k1_0_0 : Int) : Option (Bool) :=
 (slices_IndexFunc_stack_cascade_state_lowest_1 N a0 k1_0_0).bind fun r1 =>
 some (decide (0 ≤ r1))
def cascade_state_lowest (N : Nat) (a0 : cascade_state) (a1 : Int) : Option (Bool) :=
 (slices_ContainsFunc_stack_cascade_state_lowest_1 N a0.stacks a1).bind fun r1 =>
 some (!r1)
def cascade_state_allowed_J1 (kx1 : Option (Bool)) (c5 : Bool) : Option (Bool) :=
 if c5 = true then
 (some false)
 else
 (kx1)
def cascade_state_allowed_J2 (kx8 : Option (Bool)) (c12 : Bool) : Option (Bool) :=
 if c12 = true then
 (some false)
 else
 (kx8)
def cascade_state_allowed_J3 (r6 : (List Int)) (a1 : TxnEvent) (N : Nat) (a0 : cascade_state) : Option (Bool) :=
 if ((r6.length : Nat) : Int) = 0 then
 ((some true))
 else
 (gx r6 (IntKind.i64.wrap (((r6.length : Nat) : Int) - 1)) fun x14 =>
 if x14 = a1.Txn then
 ((some true))
 else
 ((cascade_state_has N a0 x14 a1.Actor).bind fun r15 =>
 (some r15)))
def cascade_state_allowed_J4 (N : Nat) (a0 : cascade_state) (a1 : TxnEvent) : Option (Bool) :=
 (cascade_state_on N a0 a1.Actor).bind fun r6 =>
 if a1.Kind = 1 then
 ((cascade_between N a1.Actor).bind fun r10 =>
 if r10 = true then
 ((cascade_state_begun N a0 a1.Txn).bind fun r11 =>
 ((cascade_state_allowed_J2 (cascade_state_allowed_J3 r6 a1 N a0)) r11))
 else
 (((cascade_state_allowed_J2 (cascade_state_allowed_J3 r6 a1 N a0)) true)))
 else
 (if a1.Kind = 2 then
 ((cascade_between N a1.Actor).bind fun r18 =>
 if r18 = true then
 ((slices_Contains_int N r6 a1.Txn).bind fun r19 =>
 if r19 = true then
 ((cascade_state_has N a0 a1.Txn a1.Actor).bind fun r20 =>
 (some (!r20)))
 else
 ((some false)))
 else
 ((some false)))
 else
 (if a1.Kind = 3 then
 (if a1.Actor = 0 then
 ((cascade_state_ready N a0 a1.Txn).bind fun r23 =>
 if r23 = true then
 ((cascade_state_lowest N a0 a1.Txn).bind fun r24 =>
 (some r24))
 else
 ((some false)))
 else
 ((some false)))
 else
 (if a1.Kind = 4 then
 (some (decide (a1.Actor = 0)))
 else
 ((some false)))))
def cascade_state_allowed (N : Nat) (a0 : cascade_state) (a1 : TxnEvent) : Option (Bool) :=
 (cascade_between N a1.Txn).bind fun r3 =>
 if r3 = true then
 ((cascade_state_ended N a0 a1.Txn).bind fun r4 =>
 ((cascade_state_allowed_J1 (cascade_state_allowed_J4 N a0 a1)) r4))
 else
 (((cascade_state_allowed_J1 (cascade_state_allowed_J4 N a0 a1)) true))
def cascade_state_exec_1 (N : Nat) (a0 : cascade_stack) (c0_0 : Int) (c0_1 : Int) (c0_2 : Int) : Option (Bool) :=
 some (decide (a0.actor = c0_2))
def slices_IndexFunc_stack_cascade_state_exec_1_L1 (N : Nat) (k1_0_0 : Int) (k1_0_1 : Int) (k1_0_2 : Int) : List cascade_stack → Nat → Unit → Option (Int)
 | [], v2, () =>
  (some (-1))
 | x5 :: xs, v2, () =>
  ((cascade_state_exec_1 N x5 k1_0_0 k1_0_1 k1_0_2).bind fun r8 =>
  if r8 = true then
  (some ((v2 : Nat) : Int))
  else
  ((((slices_IndexFunc_stack_cascade_state_exec_1_L1 N k1_0_0 k1_0_1 k1_0_2 xs (v2 + 1)) ()))))
def slices_IndexFunc_stack_cascade_state_exec_1 (N : Nat) (a0 : (List cascade_stack)) (k1_0_0 : Int) (k1_0_1 : Int) (k1_0_2 : Int) : Option (Int) :=
 (slices_IndexFunc_stack_cascade_state_exec_1_L1 N k1_0_0 k1_0_1 k1_0_2 a0 0 ())
def cascade_state_exec_J1 (x6 : cascade_stack) (a1 : TxnEvent) (l4 : List cascade_stack) (v5 : Int) (a0 : cascade_state) (l12 : List Arr2_i64) : Option (cascade_state) :=
 apx 7 x6.txns [a1.Txn] fun l13 =>
 gx l4 v5 fun x14 =>
 some (cascade_state.mk (l4.set ((v5).toNat) (cascade_stack.mk x6.actor l13)) a0.prepared a0.known a0.committed a0.aborted l12)
def cascade_state_exec_J2 (N : Nat) (a1 : TxnEvent) (a0 : cascade_state) (l4 : List cascade_stack) (v5 : Int) : Option (cascade_state) :=
 gx l4 v5 fun x6 =>
 (slices_Contains_int N x6.txns a1.Txn).bind fun r8 =>
 if r8 = true then
 (some (cascade_state.mk l4 a0.prepared a0.known a0.committed a0.aborted a0.deps))
 else
 ((if 0 < ((x6.txns.length : Nat) : Int) then
 (gx x6.txns (IntKind.i64.wrap (((x6.txns.length : Nat) : Int) - 1)) fun x10 =>
 apx 15 a0.deps [(Arr2_i64.mk a1.Txn x10)] fun l11 =>
 ((cascade_state_exec_J1 x6 a1 l4 v5 a0) l11))
 else
 (((cascade_state_exec_J1 x6 a1 l4 v5 a0) a0.deps))))
def cascade_state_exec (N : Nat) (a0 : cascade_state) (a1 : TxnEvent) : Option (cascade_state) :=
 (slices_IndexFunc_stack_cascade_state_exec_1 N a0.stacks a1.Kind a1.Txn a1.Actor).bind fun r1 =>
 if r1 < 0 then
 (apx 31 a0.stacks [(cascade_stack.mk a1.Actor [])] fun l3 =>
 ((cascade_state_exec_J2 N a1 a0) l3 ((a0.stacks.length : Nat) : Int)))
 else
 (((cascade_state_exec_J2 N a1 a0) a0.stacks r1))
def cascade_state_remove_1 (N : Nat) (a0 : Int) (c0_0 : (List Int)) : Option (Bool) :=
 (slices_Contains_int N c0_0 a0).bind fun r1 =>
 some r1
def slices_IndexFunc_int_cascade_state_remove_1_L1 (N : Nat) (k1_0_0 : (List Int)) : List Int → Nat → Unit → Option (Int)
 | [], v2, () =>
  (some (-1))
 | x5 :: xs, v2, () =>
  ((cascade_state_remove_1 N x5 k1_0_0).bind fun r8 =>
  if r8 = true then
  (some ((v2 : Nat) : Int))
  else
  ((((slices_IndexFunc_int_cascade_state_remove_1_L1 N k1_0_0 xs (v2 + 1)) ()))))
def slices_IndexFunc_int_cascade_state_remove_1 (N : Nat) (a0 : (List Int)) (k1_0_0 : (List Int)) : Option (Int) :=
 (slices_IndexFunc_int_cascade_state_remove_1_L1 N k1_0_0 a0 0 ())
def slices_DeleteFunc_int_cascade_state_remove_1_L1 (N : Nat) (k1_0_0 : (List Int)) (kx3 : (List Int) → Int → Option ((List Int))) : Nat → List Int × Int × Int → Option ((List Int))
 | 0, _ => none
 | n + 1, (l4, v5, v6) =>
  if v6 < ((l4.length : Nat) : Int) then
  ((gx l4 v6 fun x10 =>
  (cascade_state_remove_1 N x10 k1_0_0).bind fun r11 =>
  if r11 = true then
  ((((slices_DeleteFunc_int_cascade_state_remove_1_L1 N k1_0_0 kx3 n) (l4, v5, IntKind.i64.wrap (v6 + 1)))))
  else
  (gx l4 v5 fun x12 =>
  (((slices_DeleteFunc_int_cascade_state_remove_1_L1 N k1_0_0 kx3 n) ((l4.set ((v5).toNat) x10), (IntKind.i64.wrap (v5 + 1)), IntKind.i64.wrap (v6 + 1)))))))
  else
  ((kx3 l4 v5))
def slices_DeleteFunc_int_cascade_state_remove_1_J1 (l15 : List Int) (v16 : Int) : Option ((List Int)) :=
 slx l15 v16 ((l15.length : Nat) : Int) fun l17 =>
 slx (clrL 0 (v16).toNat l15) 0 v16 fun l18 =>
 some ((clrL 0 (v16).toNat l15).take ((v16).toNat))
def slices_DeleteFunc_int_cascade_state_remove_1 (N : Nat) (a0 : (List Int)) (k1_0_0 : (List Int)) : Option ((List Int)) :=
 (slices_IndexFunc_int_cascade_state_remove_1 N a0 k1_0_0).bind fun r1 =>
 if r1 = (-1) then
 (some a0)
 else
 (((slices_DeleteFunc_int_cascade_state_remove_1_L1 N k1_0_0 slices_DeleteFunc_int_cascade_state_remove_1_J1 N (a0, r1, IntKind.i64.wrap (r1 + 1)))))
def cascade_state_remove_L1 (a0 : cascade_state) (N : Nat) (a1 : (List Int)) : Nat → Nat → List cascade_stack → Option (cascade_state)
 | 0, v2, l1 =>
  some (cascade_state.mk l1 a0.prepared a0.known a0.committed a0.aborted a0.deps)
 | m + 1, v2, l1 =>
  (gx l1 ((v2 : Nat) : Int) fun x7 =>
  (slices_DeleteFunc_int_cascade_state_remove_1 N x7.txns a1).bind fun r8 =>
  (((cascade_state_remove_L1 a0 N a1 m (v2 + 1)) (l1.set v2 (cascade_stack.mk x7.actor r8)))))
def cascade_state_remove (N : Nat) (a0 : cascade_state) (a1 : (List Int)) : Option (cascade_state) :=
 (cascade_state_remove_L1 a0 N a1 (a0.stacks.length - 0) 0 a0.stacks)
def slices_Clone_int (N : Nat) (a0 : (List Int)) : Option ((List Int)) :=
 (apn 7 a0 <|
 some a0)
def math_bits_Len64_J1 (v8 : Int) (v9 : Int) : Option (Int) :=
 gxs (⟨((([0, 1, 2, 2, 3, 3, 3, 3, 4, 4, 4, 4, 4, 4, 4, 4, 5, 5, 5, 5, 5, 5, 5, 5, 5, 5, 5, 5, 5, 5, 5, 5, 6, 6, 6, 6, 6, 6, 6, 6, 6, 6, 6, 6, 6, 6, 6, 6, 6, 6, 6, 6, 6, 6, 6, 6, 6, 6, 6, 6, 6, 6, 6, 6] : List UInt8).append ([7, 7, 7, 7, 7, 7, 7, 7, 7, 7, 7, 7, 7, 7, 7, 7, 7, 7, 7, 7, 7, 7, 7, 7, 7, 7, 7, 7, 7, 7, 7, 7, 7, 7, 7, 7, 7, 7, 7, 7, 7, 7, 7, 7, 7, 7, 7, 7, 7, 7, 7, 7, 7, 7, 7, 7, 7, 7, 7, 7, 7, 7, 7, 7] : List UInt8)).append (([8, 8, 8, 8, 8, 8, 8, 8, 8, 8, 8, 8, 8, 8, 8, 8, 8, 8, 8, 8, 8, 8, 8, 8, 8, 8, 8, 8, 8, 8, 8, 8, 8, 8, 8, 8, 8, 8, 8, 8, 8, 8, 8, 8, 8, 8, 8, 8, 8, 8, 8, 8, 8, 8, 8, 8, 8, 8, 8, 8, 8, 8, 8, 8] : List UInt8).append ([8, 8, 8, 8, 8, 8, 8, 8, 8, 8, 8, 8, 8, 8, 8, 8, 8, 8, 8, 8, 8, 8, 8, 8, 8, 8, 8, 8, 8, 8, 8, 8, 8, 8, 8, 8, 8, 8, 8, 8, 8, 8, 8, 8, 8, 8, 8, 8, 8, 8, 8, 8, 8, 8, 8, 8, 8, 8, 8, 8, 8, 8, 8, 8] : List UInt8))).toArray⟩ : ByteArray) (IntKind.u8.wrap v8) fun b10 =>
 some (IntKind.i64.wrap (v9 + (IntKind.i64.wrap (b10.toNat : Int))))
def math_bits_Len64_J2 (v5 : Int) (v6 : Int) : Option (Int) :=
 if 256 ≤ v5 then
 ((math_bits_Len64_J1 (shrI .u64 v5 8) (IntKind.i64.wrap (v6 + 8))))
 else
 ((math_bits_Len64_J1 v5 v6))
def math_bits_Len64_J3 (v2 : Int) (v3 : Int) : Option (Int) :=
 if 65536 ≤ v2 then
 ((math_bits_Len64_J2 (shrI .u64 v2 16) (IntKind.i64.wrap (v3 + 16))))
 else
 ((math_bits_Len64_J2 v2 v3))
def math_bits_Len64 (N : Nat) (a0 : Int) : Option (Int) :=
 if 4294967296 ≤ a0 then
 ((math_bits_Len64_J3 (shrI .u64 a0 32) 32))
 else
 ((math_bits_Len64_J3 a0 0))
def math_bits_Len (N : Nat) (a0 : Int) : Option (Int) :=
 ((math_bits_Len64 N a0).bind fun r2 =>
 some r2)
def cmp_isNaN_int (N : Nat) (a0 : Int) : Option (Bool) :=
 some (!decide (a0 = a0))
def cmp_Less_int (N : Nat) (a0 : Int) (a1 : Int) : Option (Bool) :=
 (cmp_isNaN_int N a0).bind fun r2 =>
 if r2 = true then
 ((cmp_isNaN_int N a1).bind fun r3 =>
 if r3 = true then
 ((some (decide (a0 < a1))))
 else
 ((some true)))
 else
 ((some (decide (a0 < a1))))
def slices_insertionSortOrdered_int_cut_J1 (kx6 : Option ((List Int))) (rec2 : Int → Option ((List Int))) (v1 : Int) (c11 : Bool) : Option ((List Int)) :=
 if c11 = true then
 (kx6)
 else
 (((rec2 (IntKind.i64.wrap (v1 + 1)))))
def slices_insertionSortOrdered_int_cut_J2 (a0 : (List Int)) (v1 : Int) : Option ((List Int)) :=
 gx a0 (IntKind.i64.wrap (v1 - 1)) fun x13 =>
 gx a0 v1 fun x14 =>
 none
def slices_insertionSortOrdered_int_cut_L2 (a1 : Int) (v1 : Int) (a0 : (List Int)) (N : Nat) (rec2 : Int → Option ((List Int))) : Nat → Unit → Option ((List Int))
 | 0, _ => none
 | n + 1, () =>
  if a1 < v1 then
  (gx a0 v1 fun x8 =>
  gx a0 (IntKind.i64.wrap (v1 - 1)) fun x9 =>
  (cmp_Less_int N x8 x9).bind fun r10 =>
  ((slices_insertionSortOrdered_int_cut_J1 (slices_insertionSortOrdered_int_cut_J2 a0 v1) rec2 v1) r10))
  else
  (((slices_insertionSortOrdered_int_cut_J1 (slices_insertionSortOrdered_int_cut_J2 a0 v1) rec2 v1) false))
def slices_insertionSortOrdered_int_cut_L1 (a2 : Int) (a1 : Int) (a0 : (List Int)) (N : Nat) : Nat → Int → Option ((List Int))
 | 0, _ => none
 | n + 1, v1 =>
  if v1 < a2 then
  (((slices_insertionSortOrdered_int_cut_L2 a1 v1 a0 N (slices_insertionSortOrdered_int_cut_L1 a2 a1 a0 N n) N ())))
  else
  (some a0)
def slices_insertionSortOrdered_int_cut (N : Nat) (a0 : (List Int)) (a1 : Int) (a2 : Int) : Option ((List Int)) :=
 lenM (fun r => r) a0 (
 (slices_insertionSortOrdered_int_cut_L1 a2 a1 a0 N N (IntKind.i64.wrap (a1 + 1))))
def slices_pdqsortOrdered_int_cut_L1 (a2 : Int) (a1 : Int) (N : Nat) (a0 : (List Int)) (a3 : Int) : Nat → Unit → Option ((List Int))
 | 0, _ => none
 | n + 1, () =>
  if (IntKind.i64.wrap (a2 - a1)) ≤ 12 then
  ((slices_insertionSortOrdered_int_cut N a0 a1 a2).bind fun r3 =>
  some r3)
  else
  ((if a3 = 0 then
  (none)
  else
  (((none)))))
def slices_pdqsortOrdered_int_cut (N : Nat) (a0 : (List Int)) (a1 : Int) (a2 : Int) (a3 : Int) : Option ((List Int)) :=
 lenM (fun r => r) a0 (
 (slices_pdqsortOrdered_int_cut_L1 a2 a1 N a0 a3 N ()))
def slices_Sort_int_small (N : Nat) (a0 : (List Int)) : Option ((List Int)) :=
 lenM (fun r => r) a0 (
 (math_bits_Len N (IntKind.u64.wrap ((a0.length : Nat) : Int))).bind fun r1 =>
 (slices_pdqsortOrdered_int_cut N a0 0 ((a0.length : Nat) : Int) r1).bind fun r2 =>
 some r2)
def slices_Sort_int (N : Nat) (a0 : (List Int)) : Option (List Int) := if a0.isEmpty = true then slices_Sort_int_small N a0 else sortI a0
def slices_Compact_int_L2 (a0 : (List Int)) (v3 : Nat) (kx11 : (List Int) → Int → Option ((List Int))) : Nat → List Int × Int × Int → Option ((List Int))
 | 0, _ => none
 | n + 1, (l12, v13, v14) =>
  if v14 < (((a0.length - v3) : Nat) : Int) then
  ((gx ((l12.drop v3).take (a0.length - v3)) v14 fun x18 =>
  gx ((l12.drop v3).take (a0.length - v3)) (IntKind.i64.wrap (v14 - 1)) fun x19 =>
  if x18 = x19 then
  ((((slices_Compact_int_L2 a0 v3 kx11 n) (l12, v13, IntKind.i64.wrap (v14 + 1)))))
  else
  (gx l12 v13 fun x20 =>
  (((slices_Compact_int_L2 a0 v3 kx11 n) ((l12.set ((v13).toNat) x18), (IntKind.i64.wrap (v13 + 1)), IntKind.i64.wrap (v14 + 1)))))))
  else
  ((kx11 l12 v13))
def slices_Compact_int_J1 (l23 : List Int) (v24 : Int) : Option ((List Int)) :=
 slx l23 v24 ((l23.length : Nat) : Int) fun l25 =>
 slx (clrL 0 (v24).toNat l23) 0 v24 fun l26 =>
 some ((clrL 0 (v24).toNat l23).take ((v24).toNat))
def slices_Compact_int_L1 (a0 : (List Int)) (N : Nat) : Nat → Nat → Unit → Option ((List Int))
 | 0, v3, () =>
  (some a0)
 | m + 1, v3, () =>
  (gx a0 ((v3 : Nat) : Int) fun x8 =>
  gx a0 (IntKind.i64.wrap (((v3 : Nat) : Int) - 1)) fun x9 =>
  if x8 = x9 then
  (slx a0 ((v3 : Nat) : Int) ((a0.length : Nat) : Int) fun l10 =>
  (slices_Compact_int_L2 a0 v3 slices_Compact_int_J1 N (a0, ((v3 : Nat) : Int), 1)))
  else
  ((((slices_Compact_int_L1 a0 N m (v3 + 1)) ()))))
def slices_Compact_int (N : Nat) (a0 : (List Int)) : Option ((List Int)) :=
 if ((a0.length : Nat) : Int) < 2 then
 (some a0)
 else
 (((slices_Compact_int_L1 a0 N (a0.length - 1) 1 ())))
def cascade_Closure_J1 (l9 : List Int) (x14 : Arr2_i64) (rec12 : (List Int × Bool) → Option ((List Int))) (c10 : Bool) (c20 : Bool) : Option ((List Int)) :=
 if c20 = true then
 (apx 7 l9 [x14.e0] fun l21 =>
 ((rec12 (l21, true))))
 else
 (((rec12 (l9, c10))))
def cascade_Closure_L2 (rec7 : (List Int × Bool) → Option ((List Int))) (N : Nat) : List Arr2_i64 → Nat → List Int × Bool → Option ((List Int))
 | [], v11, (l9, c10) =>
  (rec7 (l9, c10))
 | x14 :: xs, v11, (l9, c10) =>
  ((slices_Contains_int N l9 x14.e1).bind fun r18 =>
  if r18 = true then
  ((slices_Contains_int N l9 x14.e0).bind fun r19 =>
  ((cascade_Closure_J1 l9 x14 (cascade_Closure_L2 rec7 N xs (v11 + 1)) c10) (!r19)))
  else
  (((cascade_Closure_J1 l9 x14 (cascade_Closure_L2 rec7 N xs (v11 + 1)) c10) false)))
def cascade_Closure_L1 (N : Nat) (a0 : (List Arr2_i64)) (kx4 : (List Int) → Option ((List Int))) : Nat → List Int × Bool → Option ((List Int))
 | 0, _ => none
 | n + 1, (l5, c6) =>
  if c6 = true then
  (((cascade_Closure_L2 (cascade_Closure_L1 N a0 kx4 n) N a0 0 (l5, false))))
  else
  ((kx4 l5))
def cascade_Closure_J2 (N : Nat) (l24 : List Int) : Option ((List Int)) :=
 (slices_Sort_int N l24).bind fun r25 =>
 some r25
def cascade_Closure (N : Nat) (a0 : (List Arr2_i64)) (a1 : (List Int)) : Option ((List Int)) :=
 (slices_Clone_int N a1).bind fun r1 =>
 (slices_Sort_int N r1).bind fun r2 =>
 (slices_Compact_int N r2).bind fun r3 =>
 (cascade_Closure_L1 N a0 (cascade_Closure_J2 N) N (r3, true))
def slices_IndexFunc_int_cascade_state_ended_L1 (N : Nat) (k1_0_0 : (List cascade_stack)) (k1_0_1 : (List Arr2_i64)) (k1_0_2 : (List Int)) (k1_0_3 : (List Int)) (k1_0_4 : (List Int)) (k1_0_5 : (List Arr2_i64)) : List Int → Nat → Unit → Option (Int)
 | [], v2, () =>
  (some (-1))
 | x5 :: xs, v2, () =>
  ((cascade_state_ended N (cascade_state.mk k1_0_0 k1_0_1 k1_0_2 k1_0_3 k1_0_4 k1_0_5) x5).bind fun r8 =>
  if r8 = true then
  (some ((v2 : Nat) : Int))
  else
  ((((slices_IndexFunc_int_cascade_state_ended_L1 N k1_0_0 k1_0_1 k1_0_2 k1_0_3 k1_0_4 k1_0_5 xs (v2 + 1)) ()))))
def slices_IndexFunc_int_cascade_state_ended (N : Nat) (a0 : (List Int)) (k1_0_0 : (List cascade_stack)) (k1_0_1 : (List Arr2_i64)) (k1_0_2 : (List Int)) (k1_0_3 : (List Int)) (k1_0_4 : (List Int)) (k1_0_5 : (List Arr2_i64)) : Option (Int) :=
 (slices_IndexFunc_int_cascade_state_ended_L1 N k1_0_0 k1_0_1 k1_0_2 k1_0_3 k1_0_4 k1_0_5 a0 0 ())
def slices_DeleteFunc_int_cascade_state_ended_L1 (N : Nat) (k1_0_0 : (List cascade_stack)) (k1_0_1 : (List Arr2_i64)) (k1_0_2 : (List Int)) (k1_0_3 : (List Int)) (k1_0_4 : (List Int)) (k1_0_5 : (List Arr2_i64)) (kx3 : (List Int) → Int → Option ((List Int))) : Nat → List Int × Int × Int → Option ((List Int))
 | 0, _ => none
 | n + 1, (l4, v5, v6) =>
  if v6 < ((l4.length : Nat) : Int) then
  ((gx l4 v6 fun x10 =>
  (cascade_state_ended N (cascade_state.mk k1_0_0 k1_0_1 k1_0_2 k1_0_3 k1_0_4 k1_0_5) x10).bind fun r11 =>
  if r11 = true then
  ((((slices_DeleteFunc_int_cascade_state_ended_L1 N k1_0_0 k1_0_1 k1_0_2 k1_0_3 k1_0_4 k1_0_5 kx3 n) (l4, v5, IntKind.i64.wrap (v6 + 1)))))
  else
  (gx l4 v5 fun x12 =>
  (((slices_DeleteFunc_int_cascade_state_ended_L1 N k1_0_0 k1_0_1 k1_0_2 k1_0_3 k1_0_4 k1_0_5 kx3 n) ((l4.set ((v5).toNat) x10), (IntKind.i64.wrap (v5 + 1)), IntKind.i64.wrap (v6 + 1)))))))
  else
  ((kx3 l4 v5))
def slices_DeleteFunc_int_cascade_state_ended_J1 (l15 : List Int) (v16 : Int) : Option ((List Int)) :=
 slx l15 v16 ((l15.length : Nat) : Int) fun l17 =>
 slx (clrL 0 (v16).toNat l15) 0 v16 fun l18 =>
 some ((clrL 0 (v16).toNat l15).take ((v16).toNat))
def slices_DeleteFunc_int_cascade_state_ended (N : Nat) (a0 : (List Int)) (k1_0_0 : (List cascade_stack)) (k1_0_1 : (List Arr2_i64)) (k1_0_2 : (List Int)) (k1_0_3 : (List Int)) (k1_0_4 : (List Int)) (k1_0_5 : (List Arr2_i64)) : Option ((List Int)) :=
 (slices_IndexFunc_int_cascade_state_ended N a0 k1_0_0 k1_0_1 k1_0_2 k1_0_3 k1_0_4 k1_0_5).bind fun r1 =>
 if r1 = (-1) then
 (some a0)
 else
 (((slices_DeleteFunc_int_cascade_state_ended_L1 N k1_0_0 k1_0_1 k1_0_2 k1_0_3 k1_0_4 k1_0_5 slices_DeleteFunc_int_cascade_state_ended_J1 N (a0, r1, IntKind.i64.wrap (r1 + 1)))))
def cascade_state_apply_J1 (a1 : TxnEvent) (N : Nat) (a0 : cascade_state) (l4 : List Int) : Option (cascade_state) :=
 if a1.Kind = 1 then
 ((cascade_state_exec N (cascade_state.mk a0.stacks a0.prepared l4 a0.committed a0.aborted a0.deps) a1).bind fun r5 =>
 some r5)
 else
 (if a1.Kind = 2 then
 (apx 15 a0.prepared [(Arr2_i64.mk a1.Txn a1.Actor)] fun l6 =>
 some (cascade_state.mk a0.stacks l6 l4 a0.committed a0.aborted a0.deps))
 else
 (if a1.Kind = 3 then
 (apx 7 a0.committed [a1.Txn] fun l7 =>
 (cascade_state_remove N (cascade_state.mk a0.stacks a0.prepared l4 l7 a0.aborted a0.deps) [a1.Txn]).bind fun r8 =>
 some r8)
 else
 (if a1.Kind = 4 then
 ((cascade_Closure N a0.deps [a1.Txn]).bind fun r9 =>
 (slices_DeleteFunc_int_cascade_state_ended N r9 a0.stacks a0.prepared l4 a0.committed a0.aborted a0.deps).bind fun r10 =>
 apx 7 a0.aborted r10 fun l11 =>
 (cascade_state_remove N (cascade_state.mk a0.stacks a0.prepared l4 a0.committed l11 a0.deps) r10).bind fun r12 =>
 some r12)
 else
 (some (cascade_state.mk a0.stacks a0.prepared l4 a0.committed a0.aborted a0.deps)))))
def cascade_state_apply (N : Nat) (a0 : cascade_state) (a1 : TxnEvent) : Option (cascade_state) :=
 (slices_Contains_int N a0.known a1.Txn).bind fun r2 =>
 if r2 = true then
 (((cascade_state_apply_J1 a1 N a0) a0.known))
 else
 (apx 7 a0.known [a1.Txn] fun l3 =>
 ((cascade_state_apply_J1 a1 N a0) l3))
def cascade_run_L1 (N : Nat) : List TxnEvent → Nat → List cascade_stack × List Arr2_i64 × List Int × List Int × List Int × List Arr2_i64 → Option (cascade_state × Int)
 | [], v8, (l2, l3, l4, l5, l6, l7) =>
  (some ((cascade_state.mk l2 l3 l4 l5 l6 l7), (-1)))
 | x11 :: xs, v8, (l2, l3, l4, l5, l6, l7) =>
  ((cascade_state_allowed N (cascade_state.mk l2 l3 l4 l5 l6 l7) x11).bind fun r15 =>
  if r15 = true then
  (((cascade_state_apply N (cascade_state.mk l2 l3 l4 l5 l6 l7) x11).bind fun r16 =>
  (((cascade_run_L1 N xs (v8 + 1)) (r16.stacks, r16.prepared, r16.known, r16.committed, r16.aborted, r16.deps)))))
  else
  (some ((cascade_state.mk l2 l3 l4 l5 l6 l7), ((v8 : Nat) : Int))))
def cascade_run (N : Nat) (a0 : (List TxnEvent)) : Option (cascade_state × Int) :=
 (cascade_run_L1 N a0 0 ([], [], [], [], [], []))
def cmp_Compare_int (N : Nat) (a0 : Int) (a1 : Int) : Option (Int) :=
 (cmp_isNaN_int N a0).bind fun r1 =>
 (cmp_isNaN_int N a1).bind fun r2 =>
 if r1 = true then
 (if r2 = true then
 (some 0)
 else
 ((some (-1))))
 else
 ((if r2 = true then
 (some 1)
 else
 ((if a0 < a1 then
 (some (-1))
 else
 ((if a1 < a0 then
 (some 1)
 else
 ((some 0))))))))
def cmp_Or_int_L1  : List Int → Nat → Unit → Option (Int)
 | [], v2, () =>
  (some 0)
 | x5 :: xs, v2, () =>
  (if x5 = 0 then
  ((((cmp_Or_int_L1 xs (v2 + 1)) ())))
  else
  (some x5))
def cmp_Or_int (N : Nat) (a0 : (List Int)) : Option (Int) :=
 (cmp_Or_int_L1 a0 0 ())
def cascade_Dependencies_1 (N : Nat) (a0 : Arr2_i64) (a1 : Arr2_i64) : Option (Int) :=
 (cmp_Compare_int N a0.e0 a1.e0).bind fun r1 =>
 (cmp_Compare_int N a0.e1 a1.e1).bind fun r2 =>
 (cmp_Or_int N [r1, r2]).bind fun r3 =>
 some r3
def slices_insertionSortCmpFunc_2int_cascade_Dependencies_1_cut_J1 (kx6 : Option ((List Arr2_i64))) (rec2 : Int → Option ((List Arr2_i64))) (v1 : Int) (c11 : Bool) : Option ((List Arr2_i64)) :=
 if c11 = true then
 (kx6)
 else
 (((rec2 (IntKind.i64.wrap (v1 + 1)))))
def slices_insertionSortCmpFunc_2int_cascade_Dependencies_1_cut_J2 (a0 : (List Arr2_i64)) (v1 : Int) : Option ((List Arr2_i64)) :=
 gx a0 (IntKind.i64.wrap (v1 - 1)) fun x13 =>
 gx a0 v1 fun x14 =>
 none
def slices_insertionSortCmpFunc_2int_cascade_Dependencies_1_cut_L2 (a1 : Int) (v1 : Int) (a0 : (List Arr2_i64)) (N : Nat) (rec2 : Int → Option ((List Arr2_i64))) : Nat → Unit → Option ((List Arr2_i64))
 | 0, _ => none
 | n + 1, () =>
  if a1 < v1 then
  (gx a0 v1 fun x8 =>
  gx a0 (IntKind.i64.wrap (v1 - 1)) fun x9 =>
  (cascade_Dependencies_1 N x8 x9).bind fun r10 =>
  ((slices_insertionSortCmpFunc_2int_cascade_Dependencies_1_cut_J1 (slices_insertionSortCmpFunc_2int_cascade_Dependencies_1_cut_J2 a0 v1) rec2 v1) (decide (r10 < 0))))
  else
  (((slices_insertionSortCmpFunc_2int_cascade_Dependencies_1_cut_J1 (slices_insertionSortCmpFunc_2int_cascade_Dependencies_1_cut_J2 a0 v1) rec2 v1) false))
def slices_insertionSortCmpFunc_2int_cascade_Dependencies_1_cut_L1 (a2 : Int) (a1 : Int) (a0 : (List Arr2_i64)) (N : Nat) : Nat → Int → Option ((List Arr2_i64))
 | 0, _ => none
 | n + 1, v1 =>
  if v1 < a2 then
  (((slices_insertionSortCmpFunc_2int_cascade_Dependencies_1_cut_L2 a1 v1 a0 N (slices_insertionSortCmpFunc_2int_cascade_Dependencies_1_cut_L1 a2 a1 a0 N n) N ())))
  else
  (some a0)
def slices_insertionSortCmpFunc_2int_cascade_Dependencies_1_cut (N : Nat) (a0 : (List Arr2_i64)) (a1 : Int) (a2 : Int) : Option ((List Arr2_i64)) :=
 lenM (fun r => r) a0 (
 (slices_insertionSortCmpFunc_2int_cascade_Dependencies_1_cut_L1 a2 a1 a0 N N (IntKind.i64.wrap (a1 + 1))))
def slices_pdqsortCmpFunc_2int_cascade_Dependencies_1_cut_L1 (a2 : Int) (a1 : Int) (N : Nat) (a0 : (List Arr2_i64)) (a3 : Int) : Nat → Unit → Option ((List Arr2_i64))
 | 0, _ => none
 | n + 1, () =>
  if (IntKind.i64.wrap (a2 - a1)) ≤ 12 then
  ((slices_insertionSortCmpFunc_2int_cascade_Dependencies_1_cut N a0 a1 a2).bind fun r3 =>
  some r3)
  else
  ((if a3 = 0 then
  (none)
  else
  (((none)))))
def slices_pdqsortCmpFunc_2int_cascade_Dependencies_1_cut (N : Nat) (a0 : (List Arr2_i64)) (a1 : Int) (a2 : Int) (a3 : Int) : Option ((List Arr2_i64)) :=
 lenM (fun r => r) a0 (
 (slices_pdqsortCmpFunc_2int_cascade_Dependencies_1_cut_L1 a2 a1 N a0 a3 N ()))
def slices_SortFunc_2int_cascade_Dependencies_1_small (N : Nat) (a0 : (List Arr2_i64)) : Option ((List Arr2_i64)) :=
 lenM (fun r => r) a0 (
 (math_bits_Len N (IntKind.u64.wrap ((a0.length : Nat) : Int))).bind fun r1 =>
 (slices_pdqsortCmpFunc_2int_cascade_Dependencies_1_cut N a0 0 ((a0.length : Nat) : Int) r1).bind fun r2 =>
 some r2)
noncomputable def slices_SortFunc_2int_cascade_Dependencies_1 (N : Nat) (a0 : (List Arr2_i64)) : Option (List Arr2_i64) := if a0.isEmpty = true then slices_SortFunc_2int_cascade_Dependencies_1_small N a0  else sortM (fun x y => cascade_Dependencies_1 N x y ) a0
def slices_Compact_2int_L2 (a0 : (List Arr2_i64)) (v3 : Nat) (kx11 : (List Arr2_i64) → Int → Option ((List Arr2_i64))) : Nat → List Arr2_i64 × Int × Int → Option ((List Arr2_i64))
 | 0, _ => none
 | n + 1, (l12, v13, v14) =>
  if v14 < (((a0.length - v3) : Nat) : Int) then
  ((gx ((l12.drop v3).take (a0.length - v3)) v14 fun x18 =>
  gx ((l12.drop v3).take (a0.length - v3)) (IntKind.i64.wrap (v14 - 1)) fun x19 =>
  if (decide (x18.e0 = x19.e0) && decide (x18.e1 = x19.e1)) = true then
  ((((slices_Compact_2int_L2 a0 v3 kx11 n) (l12, v13, IntKind.i64.wrap (v14 + 1)))))
  else
  (gx l12 v13 fun x20 =>
  (((slices_Compact_2int_L2 a0 v3 kx11 n) ((l12.set ((v13).toNat) x18), (IntKind.i64.wrap (v13 + 1)), IntKind.i64.wrap (v14 + 1)))))))
  else
  ((kx11 l12 v13))
def slices_Compact_2int_J1 (l23 : List Arr2_i64) (v24 : Int) : Option ((List Arr2_i64)) :=
 slx l23 v24 ((l23.length : Nat) : Int) fun l25 =>
 slx (clrL (Arr2_i64.mk 0 0) (v24).toNat l23) 0 v24 fun l26 =>
 some ((clrL (Arr2_i64.mk 0 0) (v24).toNat l23).take ((v24).toNat))
def slices_Compact_2int_L1 (a0 : (List Arr2_i64)) (N : Nat) : Nat → Nat → Unit → Option ((List Arr2_i64))
 | 0, v3, () =>
  (some a0)
 | m + 1, v3, () =>
  (gx a0 ((v3 : Nat) : Int) fun x8 =>
  gx a0 (IntKind.i64.wrap (((v3 : Nat) : Int) - 1)) fun x9 =>
  if (decide (x8.e0 = x9.e0) && decide (x8.e1 = x9.e1)) = true then
  (slx a0 ((v3 : Nat) : Int) ((a0.length : Nat) : Int) fun l10 =>
  (slices_Compact_2int_L2 a0 v3 slices_Compact_2int_J1 N (a0, ((v3 : Nat) : Int), 1)))
  else
  ((((slices_Compact_2int_L1 a0 N m (v3 + 1)) ()))))
def slices_Compact_2int (N : Nat) (a0 : (List Arr2_i64)) : Option ((List Arr2_i64)) :=
 if ((a0.length : Nat) : Int) < 2 then
 (some a0)
 else
 (((slices_Compact_2int_L1 a0 N (a0.length - 1) 1 ())))
noncomputable def cascade_Dependencies (N : Nat) (a0 : (List TxnEvent)) : Option ((List Arr2_i64)) :=
 (cascade_run N a0).bind fun r1 =>
 if 0 ≤ r1.2 then
 (some [])
 else
 (((slices_SortFunc_2int_cascade_Dependencies_1 N r1.1.deps).bind fun r3 =>
 (slices_Compact_2int N r3).bind fun r4 =>
 some r4))
def cascade_state_status (N : Nat) (a0 : cascade_state) (a1 : Int) : Option (Int) :=
 (slices_Contains_int N a0.aborted a1).bind fun r2 =>
 if r2 = true then
 (some 4)
 else
 ((slices_Contains_int N a0.committed a1).bind fun r3 =>
 if r3 = true then
 (some 3)
 else
 ((cascade_state_ready N a0 a1).bind fun r4 =>
 if r4 = true then
 (some 2)
 else
 ((slices_Contains_int N a0.known a1).bind fun r5 =>
 if r5 = true then
 (some 1)
 else
 ((some 0)))))
def cascade_Status (N : Nat) (a0 : (List TxnEvent)) (a1 : Int) : Option (Int) :=
 (cascade_run N a0).bind fun r1 =>
 if 0 ≤ r1.2 then
 (some 0)
 else
 (((cascade_state_status N r1.1 a1).bind fun r3 =>
 some r3))
def cascade_Stack (N : Nat) (a0 : (List TxnEvent)) (a1 : Int) : Option ((List Int)) :=
 (cascade_run N a0).bind fun r1 =>
 if 0 ≤ r1.2 then
 (some [])
 else
 (((cascade_state_on N r1.1 a1).bind fun r3 =>
 some r3))
def slices_IndexFunc_int_cascade_state_lowest_L1 (N : Nat) (k1_0_0 : (List cascade_stack)) (k1_0_1 : (List Arr2_i64)) (k1_0_2 : (List Int)) (k1_0_3 : (List Int)) (k1_0_4 : (List Int)) (k1_0_5 : (List Arr2_i64)) : List Int → Nat → Unit → Option (Int)
 | [], v2, () =>
  (some (-1))
 | x5 :: xs, v2, () =>
  ((cascade_state_lowest N (cascade_state.mk k1_0_0 k1_0_1 k1_0_2 k1_0_3 k1_0_4 k1_0_5) x5).bind fun r8 =>
  if r8 = true then
  (some ((v2 : Nat) : Int))
  else
  ((((slices_IndexFunc_int_cascade_state_lowest_L1 N k1_0_0 k1_0_1 k1_0_2 k1_0_3 k1_0_4 k1_0_5 xs (v2 + 1)) ()))))
def slices_IndexFunc_int_cascade_state_lowest (N : Nat) (a0 : (List Int)) (k1_0_0 : (List cascade_stack)) (k1_0_1 : (List Arr2_i64)) (k1_0_2 : (List Int)) (k1_0_3 : (List Int)) (k1_0_4 : (List Int)) (k1_0_5 : (List Arr2_i64)) : Option (Int) :=
 (slices_IndexFunc_int_cascade_state_lowest_L1 N k1_0_0 k1_0_1 k1_0_2 k1_0_3 k1_0_4 k1_0_5 a0 0 ())
def slices_Delete_int (N : Nat) (a0 : List Int) (a1 : Int) (a2 : Int) : Option (List Int) := delM a0 a1 a2 fun l => some l
def cascade_Outcome_L1 (kx3 : (List Int) → Option ((List Int) × (List Int))) (N : Nat) (r1 : cascade_state × Int) : List Int → Nat → List Int → Option ((List Int) × (List Int))
 | [], v5, l4 =>
  (kx3 l4)
 | x8 :: xs, v5, l4 =>
  ((cascade_state_status N r1.1 x8).bind fun r11 =>
  if r11 = 1 then
  (apx 7 l4 [x8] fun l12 =>
  (((cascade_Outcome_L1 kx3 N r1 xs (v5 + 1)) l12)))
  else
  ((((cascade_Outcome_L1 kx3 N r1 xs (v5 + 1)) l4))))
def cascade_Outcome_J1 (l19 : List Int) (x23 : Int) (rec21 : List Int → Option ((List Int) × (List Int))) (c29 : Bool) : Option ((List Int) × (List Int)) :=
 if c29 = true then
 (apx 7 l19 [x23] fun l30 =>
 ((rec21 l30)))
 else
 (((rec21 l19)))
def cascade_Outcome_L2 (kx18 : (List Int) → Option ((List Int) × (List Int))) (N : Nat) (r16 : (List Int)) (r17 : cascade_state) : List Int → Nat → List Int → Option ((List Int) × (List Int))
 | [], v20, l19 =>
  (kx18 l19)
 | x23 :: xs, v20, l19 =>
  ((slices_Contains_int N r16 x23).bind fun r27 =>
  if r27 = true then
  (((cascade_Outcome_J1 l19 x23 (cascade_Outcome_L2 kx18 N r16 r17 xs (v20 + 1))) false))
  else
  ((cascade_state_status N r17 x23).bind fun r28 =>
  ((cascade_Outcome_J1 l19 x23 (cascade_Outcome_L2 kx18 N r16 r17 xs (v20 + 1))) (decide (r28 = 2)))))
def cascade_Outcome_L3 (N : Nat) (r16 : (List Int)) : Nat → List cascade_stack × List Arr2_i64 × List Int × List Int × List Int × List Arr2_i64 × List Int × List Int → Option ((List Int) × (List Int))
 | 0, _ => none
 | n + 1, (l35, l36, l37, l38, l39, l40, l41, l42) =>
  if 0 < ((l42.length : Nat) : Int) then
  (((slices_IndexFunc_int_cascade_state_lowest N l42 l35 l36 l37 l38 l39 l40).bind fun r45 =>
  if r45 < 0 then
  ((some (l41, r16)))
  else
  ((gx l42 r45 fun x47 =>
  apx 7 l41 [x47] fun l48 =>
  slx l42 r45 (IntKind.i64.wrap (r45 + 1)) fun l49 =>
  (cascade_state_remove N (cascade_state.mk l35 l36 l37 l38 l39 l40) ((l42.drop ((r45).toNat)).take ((IntKind.i64.wrap (r45 + 1)).toNat - (r45).toNat))).bind fun r50 =>
  (slices_Delete_int N l42 r45 (IntKind.i64.wrap (r45 + 1))).bind fun r51 =>
  ((cascade_Outcome_L3 N r16 n) (r50.stacks, r50.prepared, r50.known, r50.committed, r50.aborted, r50.deps, l48, r51))))))
  else
  ((some (l41, r16)))
def cascade_Outcome_J2 (N : Nat) (r16 : (List Int)) (r17 : cascade_state) (l32 : List Int) : Option ((List Int) × (List Int)) :=
 (slices_Sort_int N l32).bind fun r33 =>
 (cascade_Outcome_L3 N r16 N (r17.stacks, r17.prepared, r17.known, r17.committed, r17.aborted, r17.deps, [], r33))
def cascade_Outcome_J3 (N : Nat) (r1 : cascade_state × Int) (l14 : List Int) : Option ((List Int) × (List Int)) :=
 (cascade_Closure N r1.1.deps l14).bind fun r15 =>
 (slices_DeleteFunc_int_cascade_state_ended N r15 r1.1.stacks r1.1.prepared r1.1.known r1.1.committed r1.1.aborted r1.1.deps).bind fun r16 =>
 (cascade_state_remove N r1.1 r16).bind fun r17 =>
 (cascade_Outcome_L2 (cascade_Outcome_J2 N r16 r17) N r16 r17 r17.known 0 [])
def cascade_Outcome (N : Nat) (a0 : (List TxnEvent)) : Option ((List Int) × (List Int)) :=
 (cascade_run N a0).bind fun r1 =>
 if 0 ≤ r1.2 then
 (some ([], []))
 else
 (((cascade_Outcome_L1 (cascade_Outcome_J3 N r1) N r1 r1.1.known 0 [])))
def cascade_Check (N : Nat) (a0 : (List TxnEvent)) : Option (Int × Bool) :=
 (cascade_run N a0).bind fun r2 =>
 if 0 ≤ r2.2 then
 (some (r2.2, false))
 else
 ((some (0, true)))
def cascade_Order (N : Nat) (a0 : (List TxnEvent)) : Option ((List Int)) :=
 (cascade_run N a0).bind fun r1 =>
 if 0 ≤ r1.2 then
 (some [])
 else
 ((some r1.1.committed))
noncomputable def law33_awake_J1 (kx2 : Option (Bool)) (c8 : Bool) : Option (Bool) :=
 if c8 = true then
 (some false)
 else
 (kx2)
noncomputable def law33_awake_J2 (kx10 : Option (Bool)) (c14 : Bool) : Option (Bool) :=
 if c14 = true then
 (some false)
 else
 (kx10)
noncomputable def law33_awake_J3 (kx15 : Option (Bool)) (c19 : Bool) : Option (Bool) :=
 if c19 = true then
 (some false)
 else
 (kx15)
noncomputable def law33_awake_J4 (N : Nat) : Option (Bool) :=
 apx 23 [(TxnEvent.mk 1 1 1), (TxnEvent.mk 2 1 1), (TxnEvent.mk 1 2 1)] [(TxnEvent.mk 3 1 0)] fun l20 =>
 (cascade_Order N l20).bind fun r21 =>
 if ((r21.length : Nat) : Int) = 1 then
 (gx r21 0 fun x23 =>
 if x23 = 1 then
 (apx 23 [(TxnEvent.mk 1 1 1), (TxnEvent.mk 2 1 1), (TxnEvent.mk 1 2 1)] [(TxnEvent.mk 4 1 0)] fun l24 =>
 (cascade_Status N l24 2).bind fun r25 =>
 (some (decide (r25 = 4))))
 else
 ((some false)))
 else
 ((some false))
noncomputable def law33_awake_J5 (N : Nat) (r1 : (List Arr2_i64)) : Option (Bool) :=
 (cascade_Check N [(TxnEvent.mk 1 1 1), (TxnEvent.mk 2 1 1), (TxnEvent.mk 1 2 1)]).bind fun r16 =>
 if r16.2 = true then
 ((cascade_Closure N r1 [1]).bind fun r18 =>
 ((law33_awake_J3 (law33_awake_J4 N)) (!decide (((r18.length : Nat) : Int) = 2))))
 else
 (((law33_awake_J3 (law33_awake_J4 N)) true))
noncomputable def law33_awake_J6 (N : Nat) (r1 : (List Arr2_i64)) : Option (Bool) :=
 (cascade_Outcome N [(TxnEvent.mk 1 1 1), (TxnEvent.mk 2 1 1), (TxnEvent.mk 1 2 1)]).bind fun r9 =>
 if ((r9.1.length : Nat) : Int) = 1 then
 (gx r9.1 0 fun x12 =>
 if x12 = 1 then
 (if ((r9.2.length : Nat) : Int) = 1 then
 (gx r9.2 0 fun x13 =>
 ((law33_awake_J2 (law33_awake_J5 N r1)) (!decide (x13 = 2))))
 else
 (((law33_awake_J2 (law33_awake_J5 N r1)) true)))
 else
 (((law33_awake_J2 (law33_awake_J5 N r1)) true)))
 else
 (((law33_awake_J2 (law33_awake_J5 N r1)) true))
noncomputable def law33_awake (N : Nat)  : Option (Bool) :=
 (cascade_Dependencies N [(TxnEvent.mk 1 1 1), (TxnEvent.mk 2 1 1), (TxnEvent.mk 1 2 1)]).bind fun r1 =>
 if ((r1.length : Nat) : Int) = 1 then
 (gx r1 0 fun x4 =>
 if (decide (x4.e0 = 2) && decide (x4.e1 = 1)) = true then
 ((cascade_Status N [(TxnEvent.mk 1 1 1), (TxnEvent.mk 2 1 1), (TxnEvent.mk 1 2 1)] 1).bind fun r5 =>
 if r5 = 2 then
 ((cascade_Status N [(TxnEvent.mk 1 1 1), (TxnEvent.mk 2 1 1), (TxnEvent.mk 1 2 1)] 2).bind fun r6 =>
 if r6 = 1 then
 ((cascade_Stack N [(TxnEvent.mk 1 1 1), (TxnEvent.mk 2 1 1), (TxnEvent.mk 1 2 1)] 1).bind fun r7 =>
 ((law33_awake_J1 (law33_awake_J6 N r1)) (!decide (((r7.length : Nat) : Int) = 2))))
 else
 (((law33_awake_J1 (law33_awake_J6 N r1)) true)))
 else
 (((law33_awake_J1 (law33_awake_J6 N r1)) true)))
 else
 (((law33_awake_J1 (law33_awake_J6 N r1)) true)))
 else
 (((law33_awake_J1 (law33_awake_J6 N r1)) true))
def law33_history_J1 (kx9 : Int → Int → Option ((List TxnEvent))) (x6 : actorgridlaw33_Act) (c13 : Bool) : Option ((List TxnEvent)) :=
 if c13 = true then
 ((kx9 3 0))
 else
 (if (Int.tmod x6.Kind 8) = 7 then
 (if (Int.tmod x6.Actor 3) = 0 then
 ((kx9 4 0))
 else
 ((kx9 1 (IntKind.i64.wrap ((IntKind.i64.wrap (Int.tmod x6.Actor 4)) + 1)))))
 else
 ((kx9 1 (IntKind.i64.wrap ((IntKind.i64.wrap (Int.tmod x6.Actor 4)) + 1)))))
def law33_history_J2 (kx9 : Int → Int → Option ((List TxnEvent))) (x6 : actorgridlaw33_Act) (c11 : Bool) : Option ((List TxnEvent)) :=
 if c11 = true then
 ((kx9 2 (IntKind.i64.wrap ((IntKind.i64.wrap (Int.tmod x6.Actor 4)) + 1))))
 else
 (if (Int.tmod x6.Kind 8) = 5 then
 (((law33_history_J1 kx9 x6) true))
 else
 (((law33_history_J1 kx9 x6) (decide ((Int.tmod x6.Kind 8) = 6)))))
def law33_history_J3 (l2 : List TxnEvent) (x6 : actorgridlaw33_Act) (v3 : Nat) (N : Nat) (rec4 : List TxnEvent → Option ((List TxnEvent))) (v14 : Int) (v15 : Int) : Option ((List TxnEvent)) :=
 apn 23 l2 <|
 apx 23 l2 [(TxnEvent.mk v14 (IntKind.i64.wrap ((IntKind.i64.wrap ((IntKind.i64.wrap (Int.tmod x6.Txn 8)) + 1)) + (IntKind.i64.wrap (8 * (IntKind.i64.wrap (Int.tdiv ((v3 : Nat) : Int) 30)))))) v15)] fun l16 =>
 (cascade_Check N l16).bind fun r17 =>
 if r17.2 = true then
 (((rec4 l16)))
 else
 (((rec4 l2)))
def law33_history_L1 (N : Nat) : List actorgridlaw33_Act → Nat → List TxnEvent → Option ((List TxnEvent))
 | [], v3, l2 =>
  (some l2)
 | x6 :: xs, v3, l2 =>
  (if (Int.tmod x6.Kind 8) = 3 then
  (((law33_history_J2 (law33_history_J3 l2 x6 v3 N (law33_history_L1 N xs (v3 + 1))) x6) true))
  else
  (((law33_history_J2 (law33_history_J3 l2 x6 v3 N (law33_history_L1 N xs (v3 + 1))) x6) (decide ((Int.tmod x6.Kind 8) = 4)))))
def law33_history (N : Nat) (a0 : (List actorgridlaw33_Act)) : Option ((List TxnEvent)) :=
 (law33_history_L1 N a0 0 [])
noncomputable def law33_CascadeFinishes_L1 (kx6 : (List TxnEvent) → Option (Bool)) (N : Nat) : List Int → Nat → List TxnEvent → Option (Bool)
 | [], v8, l7 =>
  (kx6 l7)
 | x11 :: xs, v8, l7 =>
  ((cascade_Status N l7 x11).bind fun r14 =>
  if r14 = 4 then
  ((((law33_CascadeFinishes_L1 kx6 N xs (v8 + 1)) l7)))
  else
  (apx 23 l7 [(TxnEvent.mk 4 x11 0)] fun l15 =>
  (((law33_CascadeFinishes_L1 kx6 N xs (v8 + 1)) l15))))
noncomputable def law33_CascadeFinishes_L2 (kx18 : (List TxnEvent) → Option (Bool)) : List Int → Nat → List TxnEvent → Option (Bool)
 | [], v20, l19 =>
  (kx18 l19)
 | x23 :: xs, v20, l19 =>
  (apx 23 l19 [(TxnEvent.mk 3 x23 0)] fun l26 =>
  (((law33_CascadeFinishes_L2 kx18 xs (v20 + 1)) l26)))
noncomputable def law33_CascadeFinishes_J1 (rec33 : List TxnEvent → Option (Bool)) (l31 : List TxnEvent) (c40 : Bool) : Option (Bool) :=
 if c40 = true then
 (some false)
 else
 (((rec33 l31)))
noncomputable def law33_CascadeFinishes_L3 (kx30 : (List TxnEvent) → Option (Bool)) (N : Nat) : List TxnEvent → Nat → List TxnEvent → Option (Bool)
 | [], v32, l31 =>
  (kx30 l31)
 | x35 :: xs, v32, l31 =>
  ((cascade_Status N l31 x35.Txn).bind fun r38 =>
  if r38 = 3 then
  (((law33_CascadeFinishes_J1 (law33_CascadeFinishes_L3 kx30 N xs (v32 + 1)) l31) false))
  else
  (((law33_CascadeFinishes_J1 (law33_CascadeFinishes_L3 kx30 N xs (v32 + 1)) l31) (!decide (r38 = 4)))))
noncomputable def law33_CascadeFinishes_J2 (rec45 : List TxnEvent → Option (Bool)) (l43 : List TxnEvent) (c53 : Bool) : Option (Bool) :=
 if c53 = true then
 (some false)
 else
 (((rec45 l43)))
noncomputable def law33_CascadeFinishes_L4 (N : Nat) (r4 : (List TxnEvent)) : List Int → Nat → List TxnEvent → Option (Bool)
 | [], v44, l43 =>
  (some true)
 | x47 :: xs, v44, l43 =>
  ((cascade_Status N r4 x47).bind fun r51 =>
  if r51 = 2 then
  ((cascade_Status N l43 x47).bind fun r52 =>
  ((law33_CascadeFinishes_J2 (law33_CascadeFinishes_L4 N r4 xs (v44 + 1)) l43) (!decide (r52 = 3))))
  else
  (((law33_CascadeFinishes_J2 (law33_CascadeFinishes_L4 N r4 xs (v44 + 1)) l43) true)))
noncomputable def law33_CascadeFinishes_J3 (N : Nat) (r4 : (List TxnEvent)) (r5 : (List Int) × (List Int)) (l41 : List TxnEvent) : Option (Bool) :=
 (law33_CascadeFinishes_L4 N r4 r5.1 0 l41)
noncomputable def law33_CascadeFinishes_J4 (N : Nat) (r4 : (List TxnEvent)) (r5 : (List Int) × (List Int)) (l27 : List TxnEvent) : Option (Bool) :=
 (cascade_Check N l27).bind fun r29 =>
 if r29.2 = true then
 (((law33_CascadeFinishes_L3 (law33_CascadeFinishes_J3 N r4 r5) N r4 0 l27)))
 else
 (some false)
noncomputable def law33_CascadeFinishes_J5 (N : Nat) (r4 : (List TxnEvent)) (r5 : (List Int) × (List Int)) (l17 : List TxnEvent) : Option (Bool) :=
 (law33_CascadeFinishes_L2 (law33_CascadeFinishes_J4 N r4 r5) r5.1 0 l17)
noncomputable def law33_CascadeFinishes (N : Nat) (a0 : (List actorgridlaw33_Act)) : Option (Bool) :=
 (law33_awake N).bind fun r2 =>
 if r2 = true then
 ((if 100 < ((a0.length : Nat) : Int) then
 (some true)
 else
 (((law33_history N a0).bind fun r4 =>
 (cascade_Outcome N r4).bind fun r5 =>
 apn 23 r4 <|
 (law33_CascadeFinishes_L1 (law33_CascadeFinishes_J5 N r4 r5) N r5.2 0 r4)))))
 else
 (some false)
end Go.Proofs.Ytekgpnhfhkhpaaa
