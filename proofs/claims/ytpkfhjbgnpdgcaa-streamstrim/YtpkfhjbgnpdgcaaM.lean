/- The models of the functions. No statement. -/
import Derived.Test.YtpkfhjbgnpdgcaaT
/- The functions of the program as plain functions on plain data. -/
set_option maxHeartbeats 40000000
set_option synthInstance.maxHeartbeats 2000000
set_option synthInstance.maxSize 4000
set_option linter.unusedSimpArgs false
set_option linter.unusedVariables false
set_option maxRecDepth 100000
namespace Go.Proofs.Ytpkfhjbgnpdgcaa
open Go Go.Proofs Go.Abs
def streams_validName (N : Nat) (a0 : ByteArray) : Option (Bool) :=
  if 1 ≤ ((a0.size : Nat) : Int) then
  ((some (decide (((a0.size : Nat) : Int) ≤ 32))))
  else
  ((some false))
def streams_New (N : Nat) (a0 : ByteArray) : Option (Topic × Int) :=
  (streams_validName N a0).bind fun r2 =>
  if r2 = true then
  ((some ((Topic.mk a0 0 [] []), 0)))
  else
  (some ((Topic.mk (⟨#[]⟩) 0 [] []), 1))
def streams_validKey (N : Nat) (a0 : Ref) (a1 : ByteArray) : Option (Bool) :=
  (streams_validName N a0.Type_).bind fun r2 =>
  if r2 = true then
  ((streams_validName N a1).bind fun r3 =>
  if r3 = true then
  ((some (decide (((a0.Key.size : Nat) : Int) ≤ 32))))
  else
  ((some false)))
  else
  ((some false))
def cmp_isNaN_string (N : Nat) (a0 : ByteArray) : Option (Bool) :=
  some (!(sEq a0 a0))
def cmp_Compare_string (N : Nat) (a0 : ByteArray) (a1 : ByteArray) : Option (Int) :=
  (cmp_isNaN_string N a0).bind fun r1 =>
  (cmp_isNaN_string N a1).bind fun r2 =>
  if r1 = true then
  (if r2 = true then
  (some 0)
  else
  ((some (-1))))
  else
  ((if r2 = true then
  (some 1)
  else
  ((if (sLt a0 a1) = true then
  (some (-1))
  else
  ((if (sLt a0 a1 || sEq a0 a1) = true then
  ((some 0))
  else
  (some 1)))))))
def cmp_Or_int_L1  : List Int → Nat → Unit → Option (Int)
  | [], v2, () =>
    (some 0)
  | x5 :: xs, v2, () =>
    (if x5 = 0 then
    ((((cmp_Or_int_L1 xs (v2 + 1)) ())))
    else
    (some x5))
def cmp_Or_int (N : Nat) (a0 : (List Int)) : Option (Int) :=
  (cmp_Or_int_L1 a0 0 ())
def streams_compare (N : Nat) (a0 : Sub) (a1 : Ref) (a2 : ByteArray) : Option (Int) :=
  (cmp_Compare_string N a0.Target.Type_ a1.Type_).bind fun r1 =>
  (cmp_Compare_string N a0.Target.Key a1.Key).bind fun r2 =>
  (cmp_Compare_string N a0.Method a2).bind fun r3 =>
  (cmp_Or_int N [r1, r2, r3]).bind fun r4 =>
  some r4
def streams_Valid_J1 (kx1 : Option (Bool)) (c4 : Bool) : Option (Bool) :=
  if c4 = true then
  (some false)
  else
  (kx1)
def streams_Valid_J2 (kx12 : Option (Bool)) (c15 : Bool) : Option (Bool) :=
  if c15 = true then
  (some false)
  else
  (kx12)
def streams_Valid_J3 (rec7 : Unit → Option (Bool)) (c19 : Bool) : Option (Bool) :=
  if c19 = true then
  (some false)
  else
  (((rec7 ())))
def streams_Valid_J4 (v6 : Nat) (a0 : Topic) (N : Nat) (x9 : Sub) (rec7 : Unit → Option (Bool)) : Option (Bool) :=
  if 0 < ((v6 : Nat) : Int) then
  (gx a0.Subs (IntKind.i64.wrap (((v6 : Nat) : Int) - 1)) fun x17 =>
  (streams_compare N x17 x9.Target x9.Method).bind fun r18 =>
  ((streams_Valid_J3 rec7) (decide (0 ≤ r18))))
  else
  (((streams_Valid_J3 rec7) false))
def streams_Valid_L1 (N : Nat) (a0 : Topic) : List Sub → Nat → Unit → Option (Bool)
  | [], v6, () =>
    (some true)
  | x9 :: xs, v6, () =>
    ((streams_validKey N x9.Target x9.Method).bind fun r14 =>
    if r14 = true then
    (if x9.Cursor < a0.First then
    (((streams_Valid_J2 (streams_Valid_J4 v6 a0 N x9 (streams_Valid_L1 N a0 xs (v6 + 1)))) true))
    else
    (((streams_Valid_J2 (streams_Valid_J4 v6 a0 N x9 (streams_Valid_L1 N a0 xs (v6 + 1)))) (decide ((IntKind.i64.wrap (a0.First + ((a0.Events.length : Nat) : Int))) < x9.Cursor)))))
    else
    (((streams_Valid_J2 (streams_Valid_J4 v6 a0 N x9 (streams_Valid_L1 N a0 xs (v6 + 1)))) true)))
def streams_Valid_J5 (N : Nat) (a0 : Topic) : Option (Bool) :=
  (streams_Valid_L1 N a0 a0.Subs 0 ())
def streams_Valid (N : Nat) (a0 : Topic) : Option (Bool) :=
  (streams_validName N a0.Name).bind fun r3 =>
  if r3 = true then
  (if a0.First < 0 then
  (((streams_Valid_J1 (streams_Valid_J5 N a0)) true))
  else
  (if 64 < ((a0.Events.length : Nat) : Int) then
  (((streams_Valid_J1 (streams_Valid_J5 N a0)) true))
  else
  (if (IntKind.i64.wrap (1099511627776 - ((a0.Events.length : Nat) : Int))) < a0.First then
  (((streams_Valid_J1 (streams_Valid_J5 N a0)) true))
  else
  (((streams_Valid_J1 (streams_Valid_J5 N a0)) (decide (8 < ((a0.Subs.length : Nat) : Int))))))))
  else
  (((streams_Valid_J1 (streams_Valid_J5 N a0)) true))
def streams_find_L1 (kx1 : Int → Option (Int × Bool)) (N : Nat) (a1 : Ref) (a2 : ByteArray) : List Sub → Nat → Unit → Option (Int × Bool)
  | [], v2, () =>
    ((kx1 ((v2 : Nat) : Int)))
  | x6 :: xs, v2, () =>
    (streams_compare N x6 a1 a2).bind fun r9 =>
    (if r9 < 0 then
    ((((streams_find_L1 kx1 N a1 a2 xs (v2 + 1)) ())))
    else
    ((kx1 ((v2 : Nat) : Int))))
def streams_find_J1 (a0 : Topic) (N : Nat) (a1 : Ref) (a2 : ByteArray) (v10 : Int) : Option (Int × Bool) :=
  if v10 < ((a0.Subs.length : Nat) : Int) then
  (gx a0.Subs v10 fun x12 =>
  (streams_compare N x12 a1 a2).bind fun r13 =>
  (some (v10, (decide (r13 = 0)))))
  else
  ((some (v10, false)))
def streams_find (N : Nat) (a0 : Topic) (a1 : Ref) (a2 : ByteArray) : Option (Int × Bool) :=
  (streams_find_L1 (streams_find_J1 a0 N a1 a2) N a1 a2 a0.Subs 0 ())
def streams_End (N : Nat) (a0 : Topic) : Option (Int) :=
  (streams_Valid N a0).bind fun r2 =>
  if r2 = true then
  ((some (IntKind.i64.wrap (a0.First + ((a0.Events.length : Nat) : Int)))))
  else
  (some 0)
def slices_Clone_int (N : Nat) (a0 : (List Int)) : Option ((List Int)) :=
  (apn 7 a0 <|
  some a0)
def slices_Clone_Sub (N : Nat) (a0 : (List Sub)) : Option ((List Sub)) :=
  (apn 55 a0 <|
  some a0)
def streams_clone (N : Nat) (a0 : Topic) : Option (Topic) :=
  (slices_Clone_int N a0.Events).bind fun r1 =>
  (slices_Clone_Sub N a0.Subs).bind fun r2 =>
  some (Topic.mk a0.Name a0.First r1 r2)
def slices_Insert_Sub (N : Nat) (a0 : List Sub) (a1 : Int) (a2 : List Sub) : Option (List Sub) := insM 55 a0 a1 a2 fun l => some l
def streams_Subscribe_J1 (kx1 : Option (Topic × Int)) (c5 : Bool) : Option (Topic × Int) :=
  if c5 = true then
  (some ((Topic.mk (⟨#[]⟩) 0 [] []), 1))
  else
  (kx1)
def streams_Subscribe_J2 (N : Nat) (a0 : Topic) (a1 : Ref) (a2 : ByteArray) : Option (Topic × Int) :=
  (streams_find N a0 a1 a2).bind fun r6 =>
  if r6.2 = true then
  (some ((Topic.mk (⟨#[]⟩) 0 [] []), 7))
  else
  (if ((a0.Subs.length : Nat) : Int) = 8 then
  (some ((Topic.mk (⟨#[]⟩) 0 [] []), 5))
  else
  (((streams_End N a0).bind fun r8 =>
  (streams_clone N a0).bind fun r9 =>
  (slices_Insert_Sub N r9.Subs r6.1 [(Sub.mk a1 a2 r8)]).bind fun r10 =>
  some ((Topic.mk r9.Name r9.First r9.Events r10), 0))))
def streams_Subscribe (N : Nat) (a0 : Topic) (a1 : Ref) (a2 : ByteArray) : Option (Topic × Int) :=
  (streams_Valid N a0).bind fun r3 =>
  if r3 = true then
  ((streams_validKey N a1 a2).bind fun r4 =>
  ((streams_Subscribe_J1 (streams_Subscribe_J2 N a0 a1 a2)) (!r4)))
  else
  (((streams_Subscribe_J1 (streams_Subscribe_J2 N a0 a1 a2)) true))
def streams_Publish_J1 (kx4 : Option (Topic × Int × Int)) (c6 : Bool) : Option (Topic × Int × Int) :=
  if c6 = true then
  (some ((Topic.mk (⟨#[]⟩) 0 [] []), 0, 5))
  else
  (kx4)
def streams_Publish_J2 (N : Nat) (a0 : Topic) (a1 : Int) (r3 : Int) : Option (Topic × Int × Int) :=
  (streams_clone N a0).bind fun r7 =>
  apx 7 r7.Events [a1] fun l8 =>
  some ((Topic.mk r7.Name r7.First l8 r7.Subs), r3, 0)
def streams_Publish (N : Nat) (a0 : Topic) (a1 : Int) : Option (Topic × Int × Int) :=
  (streams_Valid N a0).bind fun r2 =>
  if r2 = true then
  (((streams_End N a0).bind fun r3 =>
  if ((a0.Events.length : Nat) : Int) = 64 then
  (((streams_Publish_J1 (streams_Publish_J2 N a0 a1 r3)) true))
  else
  (((streams_Publish_J1 (streams_Publish_J2 N a0 a1 r3)) (decide (r3 = 1099511627776))))))
  else
  (some ((Topic.mk (⟨#[]⟩) 0 [] []), 0, 1))
def streams_Pending_L1 (N : Nat) (a0 : Topic) : List Sub → Nat → List Delivery → Option ((List Delivery))
  | [], v5, l4 =>
    (some l4)
  | x8 :: xs, v5, l4 =>
    ((streams_End N a0).bind fun r11 =>
    if x8.Cursor < r11 then
    (gx a0.Events (IntKind.i64.wrap (x8.Cursor - a0.First)) fun x12 =>
    apx 63 l4 [(Delivery.mk x8.Target x8.Method x8.Cursor x12)] fun l13 =>
    (((streams_Pending_L1 N a0 xs (v5 + 1)) l13)))
    else
    ((((streams_Pending_L1 N a0 xs (v5 + 1)) l4))))
def streams_Pending (N : Nat) (a0 : Topic) : Option ((List Delivery)) :=
  (streams_Valid N a0).bind fun r2 =>
  if r2 = true then
  (((streams_Pending_L1 N a0 a0.Subs 0 [])))
  else
  (some [])
def streams_Ack_J1 (kx4 : Option (Topic × Int)) (c8 : Bool) : Option (Topic × Int) :=
  if c8 = true then
  (some ((Topic.mk (⟨#[]⟩) 0 [] []), 20))
  else
  (kx4)
def streams_Ack_J2 (N : Nat) (a0 : Topic) (r3 : Int × Bool) : Option (Topic × Int) :=
  (streams_clone N a0).bind fun r9 =>
  gx r9.Subs r3.1 fun x10 =>
  some ((Topic.mk r9.Name r9.First r9.Events (r9.Subs.set ((r3.1).toNat) (Sub.mk x10.Target x10.Method (IntKind.i64.wrap (x10.Cursor + 1))))), 0)
def streams_Ack (N : Nat) (a0 : Topic) (a1 : Ref) (a2 : ByteArray) (a3 : Int) : Option (Topic × Int) :=
  (streams_Valid N a0).bind fun r2 =>
  if r2 = true then
  (((streams_find N a0 a1 a2).bind fun r3 =>
  if r3.2 = true then
  (gx a0.Subs r3.1 fun x5 =>
  if a3 < x5.Cursor then
  (some ((Topic.mk (⟨#[]⟩) 0 [] []), 8))
  else
  (if x5.Cursor < a3 then
  (((streams_Ack_J1 (streams_Ack_J2 N a0 r3)) true))
  else
  ((streams_End N a0).bind fun r7 =>
  ((streams_Ack_J1 (streams_Ack_J2 N a0 r3)) (decide (a3 = r7))))))
  else
  (some ((Topic.mk (⟨#[]⟩) 0 [] []), 6))))
  else
  (some ((Topic.mk (⟨#[]⟩) 0 [] []), 1))
def streams_Trim_L1 (kx4 : Int → Option (Topic)) : List Sub → Nat → Int → Option (Topic)
  | [], v6, v5 =>
    (kx4 v5)
  | x9 :: xs, v6, v5 =>
    ((((streams_Trim_L1 kx4 xs (v6 + 1)) (if x9.Cursor < v5 then x9.Cursor else v5))))
def streams_Trim_J1 (N : Nat) (a0 : Topic) (v12 : Int) : Option (Topic) :=
  (streams_clone N a0).bind fun r13 =>
  slx a0.Events (IntKind.i64.wrap (v12 - a0.First)) ((a0.Events.length : Nat) : Int) fun l14 =>
  apn 7 l14 <|
  some (Topic.mk r13.Name v12 l14 r13.Subs)
def streams_Trim (N : Nat) (a0 : Topic) : Option (Topic) :=
  (streams_Valid N a0).bind fun r2 =>
  if r2 = true then
  (((streams_End N a0).bind fun r3 =>
  (streams_Trim_L1 (streams_Trim_J1 N a0) a0.Subs 0 r3)))
  else
  (some (Topic.mk (⟨#[]⟩) 0 [] []))
def law30_awake_J1 (kx6 : Option (Bool)) (c8 : Bool) : Option (Bool) :=
  if c8 = true then
  (some false)
  else
  (kx6)
def law30_awake_J2 (kx10 : Option (Bool)) (c12 : Bool) : Option (Bool) :=
  if c12 = true then
  (some false)
  else
  (kx10)
def law30_awake_J3 (kx14 : Option (Bool)) (c17 : Bool) : Option (Bool) :=
  if c17 = true then
  (some false)
  else
  (kx14)
def law30_awake_J4 (N : Nat) (r9 : Topic × Int × Int) : Option (Bool) :=
  (streams_Ack N r9.1 (Ref.mk (⟨#[65]⟩) (⟨#[107]⟩)) (⟨#[109]⟩) 0).bind fun r18 =>
  if r18.2 = 0 then
  (((streams_Trim N r18.1).bind fun r20 =>
  (streams_Pending N r20).bind fun r21 =>
  if ((r21.length : Nat) : Int) = 1 then
  (gx r21 0 fun x23 =>
  if x23.Value = 9 then
  (if r20.First = 1 then
  (if ((r20.Events.length : Nat) : Int) = 1 then
  ((streams_End N r20).bind fun r24 =>
  (some (decide (r24 = 2))))
  else
  ((some false)))
  else
  ((some false)))
  else
  ((some false)))
  else
  ((some false))))
  else
  (some false)
def law30_awake_J5 (N : Nat) (r9 : Topic × Int × Int) : Option (Bool) :=
  (streams_Pending N r9.1).bind fun r13 =>
  if ((r13.length : Nat) : Int) = 1 then
  (gx r13 0 fun x16 =>
  ((law30_awake_J3 (law30_awake_J4 N r9)) (!(sEq x16.Target.Type_ (⟨#[65]⟩) && (sEq x16.Target.Key (⟨#[107]⟩) && (sEq x16.Method (⟨#[109]⟩) && (decide (x16.Seq = 0) && decide (x16.Value = 7))))))))
  else
  (((law30_awake_J3 (law30_awake_J4 N r9)) true))
def law30_awake_J6 (N : Nat) (r5 : Topic × Int × Int) : Option (Bool) :=
  (streams_Publish N r5.1 9).bind fun r9 =>
  if r9.2.2 = 0 then
  (((law30_awake_J2 (law30_awake_J5 N r9)) (!decide (r9.2.1 = 1))))
  else
  (((law30_awake_J2 (law30_awake_J5 N r9)) true))
def law30_awake (N : Nat)  : Option (Bool) :=
  (streams_New N (⟨#[116]⟩)).bind fun r1 =>
  if r1.2 = 0 then
  (((streams_Subscribe N r1.1 (Ref.mk (⟨#[65]⟩) (⟨#[107]⟩)) (⟨#[109]⟩)).bind fun r3 =>
  if r3.2 = 0 then
  (((streams_Publish N r3.1 7).bind fun r5 =>
  if r5.2.2 = 0 then
  (((law30_awake_J1 (law30_awake_J6 N r5)) (!decide (r5.2.1 = 0))))
  else
  (((law30_awake_J1 (law30_awake_J6 N r5)) true))))
  else
  (some false)))
  else
  (some false)
def ref16_ValidName (N : Nat) (a0 : ByteArray) : Option (Bool) :=
  if 1 ≤ ((a0.size : Nat) : Int) then
  ((some (decide (((a0.size : Nat) : Int) ≤ 32))))
  else
  ((some false))
def law30_ref (N : Nat) (a0 : Int) : Option (Ref × ByteArray) :=
  sls (⟨#[97, 98, 99, 100, 101, 102]⟩) (IntKind.i64.wrap (Int.tdiv (IntKind.i64.wrap (Int.tmod a0 12)) 2)) (IntKind.i64.wrap ((IntKind.i64.wrap (Int.tdiv (IntKind.i64.wrap (Int.tmod a0 12)) 2)) + 1)) fun s1 =>
  sls (⟨#[120, 121]⟩) (Int.tmod (IntKind.i64.wrap (Int.tmod a0 12)) 2) (IntKind.i64.wrap ((Int.tmod (IntKind.i64.wrap (Int.tmod a0 12)) 2) + 1)) fun s2 =>
  some ((Ref.mk (⟨#[65]⟩) s1), s2)
def ref14_ValidRef (N : Nat) (a0 : Ref) : Option (Bool) :=
  if 1 ≤ ((a0.Type_.size : Nat) : Int) then
  (if ((a0.Type_.size : Nat) : Int) ≤ 32 then
  ((some (decide (((a0.Key.size : Nat) : Int) ≤ 32))))
  else
  ((some false)))
  else
  ((some false))
def ref14_Less (N : Nat) (a0 : Ref) (a1 : Ref) : Option (Bool) :=
  if (sLt a0.Type_ a1.Type_) = true then
  ((some true))
  else
  (if (sEq a0.Type_ a1.Type_) = true then
  ((some (sLt a0.Key a1.Key)))
  else
  ((some false)))
def ref29_lessSub (N : Nat) (a0 : Ref) (a1 : Ref) (a2 : ByteArray) (a3 : ByteArray) : Option (Bool) :=
  (ref14_Less N a0 a1).bind fun r2 =>
  if r2 = true then
  ((some true))
  else
  (if (sEq a0.Type_ a1.Type_ && sEq a0.Key a1.Key) = true then
  ((some (sLt a2 a3)))
  else
  ((some false)))
def ref29_ValidTopic_J1 (kx1 : Option (Bool)) (c4 : Bool) : Option (Bool) :=
  if c4 = true then
  (some false)
  else
  (kx1)
def ref29_ValidTopic_J2 (kx12 : Option (Bool)) (c16 : Bool) : Option (Bool) :=
  if c16 = true then
  (some false)
  else
  (kx12)
def ref29_ValidTopic_J3 (rec7 : Unit → Option (Bool)) (c20 : Bool) : Option (Bool) :=
  if c20 = true then
  (some false)
  else
  (((rec7 ())))
def ref29_ValidTopic_J4 (v6 : Nat) (a0 : Topic) (N : Nat) (x9 : Sub) (rec7 : Unit → Option (Bool)) : Option (Bool) :=
  if 0 < ((v6 : Nat) : Int) then
  (gx a0.Subs (IntKind.i64.wrap (((v6 : Nat) : Int) - 1)) fun x18 =>
  (ref29_lessSub N x18.Target x9.Target x18.Method x9.Method).bind fun r19 =>
  ((ref29_ValidTopic_J3 rec7) (!r19)))
  else
  (((ref29_ValidTopic_J3 rec7) false))
def ref29_ValidTopic_L1 (N : Nat) (a0 : Topic) : List Sub → Nat → Unit → Option (Bool)
  | [], v6, () =>
    (some true)
  | x9 :: xs, v6, () =>
    ((ref14_ValidRef N x9.Target).bind fun r14 =>
    if r14 = true then
    ((ref16_ValidName N x9.Method).bind fun r15 =>
    if r15 = true then
    (if x9.Cursor < a0.First then
    (((ref29_ValidTopic_J2 (ref29_ValidTopic_J4 v6 a0 N x9 (ref29_ValidTopic_L1 N a0 xs (v6 + 1)))) true))
    else
    (((ref29_ValidTopic_J2 (ref29_ValidTopic_J4 v6 a0 N x9 (ref29_ValidTopic_L1 N a0 xs (v6 + 1)))) (decide ((IntKind.i64.wrap (a0.First + ((a0.Events.length : Nat) : Int))) < x9.Cursor)))))
    else
    (((ref29_ValidTopic_J2 (ref29_ValidTopic_J4 v6 a0 N x9 (ref29_ValidTopic_L1 N a0 xs (v6 + 1)))) true)))
    else
    (((ref29_ValidTopic_J2 (ref29_ValidTopic_J4 v6 a0 N x9 (ref29_ValidTopic_L1 N a0 xs (v6 + 1)))) true)))
def ref29_ValidTopic_J5 (N : Nat) (a0 : Topic) : Option (Bool) :=
  (ref29_ValidTopic_L1 N a0 a0.Subs 0 ())
def ref29_ValidTopic (N : Nat) (a0 : Topic) : Option (Bool) :=
  (ref16_ValidName N a0.Name).bind fun r3 =>
  if r3 = true then
  (if a0.First < 0 then
  (((ref29_ValidTopic_J1 (ref29_ValidTopic_J5 N a0)) true))
  else
  (if 64 < ((a0.Events.length : Nat) : Int) then
  (((ref29_ValidTopic_J1 (ref29_ValidTopic_J5 N a0)) true))
  else
  (if (IntKind.i64.wrap (1099511627776 - ((a0.Events.length : Nat) : Int))) < a0.First then
  (((ref29_ValidTopic_J1 (ref29_ValidTopic_J5 N a0)) true))
  else
  (((ref29_ValidTopic_J1 (ref29_ValidTopic_J5 N a0)) (decide (8 < ((a0.Subs.length : Nat) : Int))))))))
  else
  (((ref29_ValidTopic_J1 (ref29_ValidTopic_J5 N a0)) true))
def ref29_CopyTopic (N : Nat) (a0 : Topic) : Option (Topic) :=
  apn 7 a0.Events <|
  apn 55 a0.Subs <|
  some a0
def ref29_Publish_J1 (kx3 : Option (Topic × Int × Int)) (c5 : Bool) : Option (Topic × Int × Int) :=
  if c5 = true then
  (some ((Topic.mk (⟨#[]⟩) 0 [] []), 0, 5))
  else
  (kx3)
def ref29_Publish_J2 (N : Nat) (a0 : Topic) (a1 : Int) : Option (Topic × Int × Int) :=
  (ref29_CopyTopic N a0).bind fun r6 =>
  apx 7 r6.Events [a1] fun l7 =>
  some ((Topic.mk r6.Name r6.First l7 r6.Subs), IntKind.i64.wrap (a0.First + ((a0.Events.length : Nat) : Int)), 0)
def ref29_Publish (N : Nat) (a0 : Topic) (a1 : Int) : Option (Topic × Int × Int) :=
  (ref29_ValidTopic N a0).bind fun r2 =>
  if r2 = true then
  ((if ((a0.Events.length : Nat) : Int) = 64 then
  (((ref29_Publish_J1 (ref29_Publish_J2 N a0 a1)) true))
  else
  (((ref29_Publish_J1 (ref29_Publish_J2 N a0 a1)) (decide ((IntKind.i64.wrap (a0.First + ((a0.Events.length : Nat) : Int))) = 1099511627776))))))
  else
  (some ((Topic.mk (⟨#[]⟩) 0 [] []), 0, 1))
def ref29_subOf_L1 (a0 : Topic) (N : Nat) (a1 : Ref) (a2 : ByteArray) : List Sub → Nat → Unit → Option (Int × Bool)
  | [], v2, () =>
    (some (((a0.Subs.length : Nat) : Int), false))
  | x5 :: xs, v2, () =>
    ((ref29_lessSub N x5.Target a1 x5.Method a2).bind fun r8 =>
    if r8 = true then
    ((((ref29_subOf_L1 a0 N a1 a2 xs (v2 + 1)) ())))
    else
    (if (sEq x5.Target.Type_ a1.Type_ && sEq x5.Target.Key a1.Key) = true then
    ((some (((v2 : Nat) : Int), (sEq x5.Method a2))))
    else
    ((some (((v2 : Nat) : Int), false)))))
def ref29_subOf (N : Nat) (a0 : Topic) (a1 : Ref) (a2 : ByteArray) : Option (Int × Bool) :=
  (ref29_subOf_L1 a0 N a1 a2 a0.Subs 0 ())
def ref29_Subscribe_J1 (kx1 : Option (Topic × Int)) (c6 : Bool) : Option (Topic × Int) :=
  if c6 = true then
  (some ((Topic.mk (⟨#[]⟩) 0 [] []), 1))
  else
  (kx1)
def ref29_Subscribe_J2 (N : Nat) (a0 : Topic) (a1 : Ref) (a2 : ByteArray) : Option (Topic × Int) :=
  (ref29_subOf N a0 a1 a2).bind fun r7 =>
  if r7.2 = true then
  (some ((Topic.mk (⟨#[]⟩) 0 [] []), 7))
  else
  ((if ((a0.Subs.length : Nat) : Int) = 8 then
  (some ((Topic.mk (⟨#[]⟩) 0 [] []), 5))
  else
  (((ref29_CopyTopic N a0).bind fun r10 =>
  slx r10.Subs r7.1 ((r10.Subs.length : Nat) : Int) fun l11 =>
  apn 55 l11 <|
  slt r10.Subs r7.1 fun l12 =>
  apx 55 l12 [(Sub.mk a1 a2 (IntKind.i64.wrap (r10.First + ((r10.Events.length : Nat) : Int))))] fun l13 =>
  apx 55 l13 l11 fun l14 =>
  some ((Topic.mk r10.Name r10.First r10.Events l14), 0)))))
def ref29_Subscribe (N : Nat) (a0 : Topic) (a1 : Ref) (a2 : ByteArray) : Option (Topic × Int) :=
  (ref29_ValidTopic N a0).bind fun r3 =>
  if r3 = true then
  ((ref14_ValidRef N a1).bind fun r4 =>
  if r4 = true then
  ((ref16_ValidName N a2).bind fun r5 =>
  ((ref29_Subscribe_J1 (ref29_Subscribe_J2 N a0 a1 a2)) (!r5)))
  else
  (((ref29_Subscribe_J1 (ref29_Subscribe_J2 N a0 a1 a2)) true)))
  else
  (((ref29_Subscribe_J1 (ref29_Subscribe_J2 N a0 a1 a2)) true))
def slices_Delete_Sub (N : Nat) (a0 : List Sub) (a1 : Int) (a2 : Int) : Option (List Sub) := delM a0 a1 a2 fun l => some l
def streams_Unsubscribe (N : Nat) (a0 : Topic) (a1 : Ref) (a2 : ByteArray) : Option (Topic × Int) :=
  (streams_Valid N a0).bind fun r2 =>
  if r2 = true then
  (((streams_find N a0 a1 a2).bind fun r3 =>
  if r3.2 = true then
  (((streams_clone N a0).bind fun r5 =>
  (slices_Delete_Sub N r5.Subs r3.1 (IntKind.i64.wrap (r3.1 + 1))).bind fun r6 =>
  some ((Topic.mk r5.Name r5.First r5.Events r6), 0)))
  else
  (some ((Topic.mk (⟨#[]⟩) 0 [] []), 6))))
  else
  (some ((Topic.mk (⟨#[]⟩) 0 [] []), 1))
def ref29_Unsubscribe (N : Nat) (a0 : Topic) (a1 : Ref) (a2 : ByteArray) : Option (Topic × Int) :=
  (ref29_ValidTopic N a0).bind fun r2 =>
  if r2 = true then
  (((ref29_subOf N a0 a1 a2).bind fun r3 =>
  if r3.2 = true then
  (((ref29_CopyTopic N a0).bind fun r5 =>
  slt r5.Subs r3.1 fun l6 =>
  slx r5.Subs (IntKind.i64.wrap (r3.1 + 1)) ((r5.Subs.length : Nat) : Int) fun l7 =>
  apx 55 l6 l7 fun l8 =>
  some ((Topic.mk r5.Name r5.First r5.Events l8), 0)))
  else
  (some ((Topic.mk (⟨#[]⟩) 0 [] []), 6))))
  else
  (some ((Topic.mk (⟨#[]⟩) 0 [] []), 1))
def ref29_Ack_J1 (kx7 : Option (Topic × Int)) (c9 : Bool) : Option (Topic × Int) :=
  if c9 = true then
  (some ((Topic.mk (⟨#[]⟩) 0 [] []), 20))
  else
  (kx7)
def ref29_Ack_J2 (N : Nat) (a0 : Topic) (r3 : Int × Bool) : Option (Topic × Int) :=
  (ref29_CopyTopic N a0).bind fun r10 =>
  gx r10.Subs r3.1 fun x11 =>
  some ((Topic.mk r10.Name r10.First r10.Events (r10.Subs.set ((r3.1).toNat) (Sub.mk x11.Target x11.Method (IntKind.i64.wrap (x11.Cursor + 1))))), 0)
def ref29_Ack (N : Nat) (a0 : Topic) (a1 : Ref) (a2 : ByteArray) (a3 : Int) : Option (Topic × Int) :=
  (ref29_ValidTopic N a0).bind fun r2 =>
  if r2 = true then
  (((ref29_subOf N a0 a1 a2).bind fun r3 =>
  if r3.2 = true then
  ((gx a0.Subs r3.1 fun x5 =>
  if a3 < x5.Cursor then
  (some ((Topic.mk (⟨#[]⟩) 0 [] []), 8))
  else
  ((if x5.Cursor < a3 then
  (((ref29_Ack_J1 (ref29_Ack_J2 N a0 r3)) true))
  else
  (((ref29_Ack_J1 (ref29_Ack_J2 N a0 r3)) (decide (a3 = (IntKind.i64.wrap (a0.First + ((a0.Events.length : Nat) : Int)))))))))))
  else
  (some ((Topic.mk (⟨#[]⟩) 0 [] []), 6))))
  else
  (some ((Topic.mk (⟨#[]⟩) 0 [] []), 1))
def ref29_Trim_L1 (kx3 : Int → Option (Topic)) : List Sub → Nat → Int → Option (Topic)
  | [], v5, v4 =>
    (kx3 v4)
  | x8 :: xs, v5, v4 =>
    ((((ref29_Trim_L1 kx3 xs (v5 + 1)) (if x8.Cursor < v4 then x8.Cursor else v4))))
def ref29_Trim_J1 (N : Nat) (a0 : Topic) (v11 : Int) : Option (Topic) :=
  (ref29_CopyTopic N a0).bind fun r12 =>
  slx r12.Events (IntKind.i64.wrap (v11 - r12.First)) ((r12.Events.length : Nat) : Int) fun l13 =>
  some (Topic.mk r12.Name v11 l13 r12.Subs)
def ref29_Trim (N : Nat) (a0 : Topic) : Option (Topic) :=
  (ref29_ValidTopic N a0).bind fun r2 =>
  if r2 = true then
  (((ref29_Trim_L1 (ref29_Trim_J1 N a0) a0.Subs 0 (IntKind.i64.wrap (a0.First + ((a0.Events.length : Nat) : Int))))))
  else
  (some (Topic.mk (⟨#[]⟩) 0 [] []))
def ref29_SameTopic_J1 (kx1 : Option (Bool)) (c3 : Bool) : Option (Bool) :=
  if c3 = true then
  (some false)
  else
  (kx1)
def ref29_SameTopic_L1 (kx4 : Option (Bool)) (a1 : Topic) : List Int → Nat → Unit → Option (Bool)
  | [], v5, () =>
    kx4
  | x8 :: xs, v5, () =>
    (gx a1.Events ((v5 : Nat) : Int) fun x11 =>
    if x8 = x11 then
    ((((ref29_SameTopic_L1 kx4 a1 xs (v5 + 1)) ())))
    else
    (some false))
def ref29_SameTopic_L2 (a1 : Topic) : List Sub → Nat → Unit → Option (Bool)
  | [], v13, () =>
    (some true)
  | x16 :: xs, v13, () =>
    (gx a1.Subs ((v13 : Nat) : Int) fun x19 =>
    if (sEq x16.Target.Type_ x19.Target.Type_ && (sEq x16.Target.Key x19.Target.Key && (sEq x16.Method x19.Method && decide (x16.Cursor = x19.Cursor)))) = true then
    ((((ref29_SameTopic_L2 a1 xs (v13 + 1)) ())))
    else
    (some false))
def ref29_SameTopic_J2 (a1 : Topic) (a0 : Topic) : Option (Bool) :=
  (ref29_SameTopic_L2 a1 a0.Subs 0 ())
def ref29_SameTopic_J3 (a1 : Topic) (a0 : Topic) : Option (Bool) :=
  (ref29_SameTopic_L1 (ref29_SameTopic_J2 a1 a0) a1 a0.Events 0 ())
def ref29_SameTopic (N : Nat) (a0 : Topic) (a1 : Topic) : Option (Bool) :=
  if (sEq a0.Name a1.Name) = true then
  (if a0.First = a1.First then
  (if ((a0.Events.length : Nat) : Int) = ((a1.Events.length : Nat) : Int) then
  (((ref29_SameTopic_J1 (ref29_SameTopic_J3 a1 a0)) (!decide (((a0.Subs.length : Nat) : Int) = ((a1.Subs.length : Nat) : Int)))))
  else
  (((ref29_SameTopic_J1 (ref29_SameTopic_J3 a1 a0)) true)))
  else
  (((ref29_SameTopic_J1 (ref29_SameTopic_J3 a1 a0)) true)))
  else
  (((ref29_SameTopic_J1 (ref29_SameTopic_J3 a1 a0)) true))
def law30_play_J1 (N : Nat) (a0 : Topic) (a2 : actorgridlaw30_Act) (a1 : Topic) (kx2 : ByteArray → Int → (List Int) → (List Sub) → ByteArray → Int → (List Int) → (List Sub) → Int → Int → Option (Bool × Topic × Topic)) (c12 : Bool) : Option (Bool × Topic × Topic) :=
  if c12 = true then
  ((streams_Pending N a0).bind fun r13 =>
  if 0 < ((r13.length : Nat) : Int) then
  (dvx ((r13.length : Nat) : Int) <|
  gx r13 (Int.tmod (IntKind.i64.wrap a2.Who) ((r13.length : Nat) : Int)) fun x14 =>
  (streams_Ack N a0 x14.Target x14.Method x14.Seq).bind fun r15 =>
  (ref29_Ack N a1 x14.Target x14.Method x14.Seq).bind fun r16 =>
  (kx2 r15.1.Name r15.1.First r15.1.Events r15.1.Subs r16.1.Name r16.1.First r16.1.Events r16.1.Subs r15.2 r16.2))
  else
  ((kx2 a0.Name a0.First a0.Events a0.Subs a1.Name a1.First a1.Events a1.Subs 0 0)))
  else
  ((streams_Trim N a0).bind fun r17 =>
  (ref29_Trim N a1).bind fun r18 =>
  (kx2 r17.Name r17.First r17.Events r17.Subs r18.Name r18.First r18.Events r18.Subs 0 0))
def law30_play_J2 (N : Nat) (a0 : Topic) (a2 : actorgridlaw30_Act) (a1 : Topic) (kx2 : ByteArray → Int → (List Int) → (List Sub) → ByteArray → Int → (List Int) → (List Sub) → Int → Int → Option (Bool × Topic × Topic)) (r1 : Ref × ByteArray) (c4 : Bool) : Option (Bool × Topic × Topic) :=
  if c4 = true then
  ((streams_Publish N a0 a2.Value).bind fun r5 =>
  (ref29_Publish N a1 a2.Value).bind fun r6 =>
  (kx2 r5.1.Name r5.1.First r5.1.Events r5.1.Subs r6.1.Name r6.1.First r6.1.Events r6.1.Subs r5.2.2 r6.2.2))
  else
  (if (Int.tmod a2.Kind 8) = 3 then
  ((streams_Subscribe N a0 r1.1 r1.2).bind fun r7 =>
  (ref29_Subscribe N a1 r1.1 r1.2).bind fun r8 =>
  (kx2 r7.1.Name r7.1.First r7.1.Events r7.1.Subs r8.1.Name r8.1.First r8.1.Events r8.1.Subs r7.2 r8.2))
  else
  (if (Int.tmod a2.Kind 8) = 4 then
  (if (Int.tmod a2.Value 4) = 0 then
  ((streams_Unsubscribe N a0 r1.1 r1.2).bind fun r9 =>
  (ref29_Unsubscribe N a1 r1.1 r1.2).bind fun r10 =>
  (kx2 r9.1.Name r9.1.First r9.1.Events r9.1.Subs r10.1.Name r10.1.First r10.1.Events r10.1.Subs r9.2 r10.2))
  else
  ((kx2 a0.Name a0.First a0.Events a0.Subs a1.Name a1.First a1.Events a1.Subs 0 0)))
  else
  (if (Int.tmod a2.Kind 8) = 5 then
  (((law30_play_J1 N a0 a2 a1 kx2) true))
  else
  (((law30_play_J1 N a0 a2 a1 kx2) (decide ((Int.tmod a2.Kind 8) = 6)))))))
def law30_play_J3 (a0 : Topic) (a1 : Topic) (kx29 : Option (Bool × Topic × Topic)) (c32 : Bool) : Option (Bool × Topic × Topic) :=
  if c32 = true then
  (some (false, a0, a1))
  else
  (kx29)
def law30_play_J4 (N : Nat) (s34 : ByteArray) (v35 : Int) (l36 : List Int) (l37 : List Sub) (s38 : ByteArray) (v39 : Int) (l40 : List Int) (l41 : List Sub) : Option (Bool × Topic × Topic) :=
  (streams_Valid N (Topic.mk s34 v35 l36 l37)).bind fun r42 =>
  some (r42, (Topic.mk s34 v35 l36 l37), (Topic.mk s38 v39 l40 l41))
def law30_play_J5 (v27 : Int) (N : Nat) (s19 : ByteArray) (v20 : Int) (l21 : List Int) (l22 : List Sub) (s23 : ByteArray) (v24 : Int) (l25 : List Int) (l26 : List Sub) (a0 : Topic) (a1 : Topic) : Option (Bool × Topic × Topic) :=
  if v27 = 0 then
  (((law30_play_J4 N) s19 v20 l21 l22 s23 v24 l25 l26))
  else
  (((law30_play_J4 N) a0.Name a0.First a0.Events a0.Subs a1.Name a1.First a1.Events a1.Subs))
def law30_play_J6 (N : Nat) (a0 : Topic) (a1 : Topic) (s19 : ByteArray) (v20 : Int) (l21 : List Int) (l22 : List Sub) (s23 : ByteArray) (v24 : Int) (l25 : List Int) (l26 : List Sub) (v27 : Int) (v28 : Int) : Option (Bool × Topic × Topic) :=
  if v27 = v28 then
  ((ref29_SameTopic N (Topic.mk s19 v20 l21 l22) (Topic.mk s23 v24 l25 l26)).bind fun r31 =>
  ((law30_play_J3 a0 a1 (law30_play_J5 v27 N s19 v20 l21 l22 s23 v24 l25 l26 a0 a1)) (!r31)))
  else
  (((law30_play_J3 a0 a1 (law30_play_J5 v27 N s19 v20 l21 l22 s23 v24 l25 l26 a0 a1)) true))
def law30_play (N : Nat) (a0 : Topic) (a1 : Topic) (a2 : actorgridlaw30_Act) : Option (Bool × Topic × Topic) :=
  (law30_ref N a2.Who).bind fun r1 =>
  if (Int.tmod a2.Kind 8) = 0 then
  (((law30_play_J2 N a0 a2 a1 (law30_play_J6 N a0 a1) r1) true))
  else
  (if (Int.tmod a2.Kind 8) = 1 then
  (((law30_play_J2 N a0 a2 a1 (law30_play_J6 N a0 a1) r1) true))
  else
  (((law30_play_J2 N a0 a2 a1 (law30_play_J6 N a0 a1) r1) (decide ((Int.tmod a2.Kind 8) = 2)))))
def ref29_SameDeliveries_L1 (a1 : (List Delivery)) : List Delivery → Nat → Unit → Option (Bool)
  | [], v3, () =>
    (some true)
  | x6 :: xs, v3, () =>
    (gx a1 ((v3 : Nat) : Int) fun x9 =>
    if (sEq x6.Target.Type_ x9.Target.Type_ && (sEq x6.Target.Key x9.Target.Key && (sEq x6.Method x9.Method && (decide (x6.Seq = x9.Seq) && decide (x6.Value = x9.Value))))) = true then
    ((((ref29_SameDeliveries_L1 a1 xs (v3 + 1)) ())))
    else
    (some false))
def ref29_SameDeliveries (N : Nat) (a0 : (List Delivery)) (a1 : (List Delivery)) : Option (Bool) :=
  if ((a0.length : Nat) : Int) = ((a1.length : Nat) : Int) then
  (((ref29_SameDeliveries_L1 a1 a0 0 ())))
  else
  (some false)
def law30_StreamsTrim_L1 (kx6 : ByteArray → Int → (List Int) → (List Sub) → Option (Bool)) (N : Nat) : List actorgridlaw30_Act → Nat → ByteArray × Int × List Int × List Sub × ByteArray × Int × List Int × List Sub → Option (Bool)
  | [], v15, (s7, v8, l9, l10, s11, v12, l13, l14) =>
    (kx6 s7 v8 l9 l10)
  | x18 :: xs, v15, (s7, v8, l9, l10, s11, v12, l13, l14) =>
    ((law30_play N (Topic.mk s7 v8 l9 l10) (Topic.mk s11 v12 l13 l14) x18).bind fun r21 =>
    if r21.1 = true then
    ((((law30_StreamsTrim_L1 kx6 N xs (v15 + 1)) (r21.2.1.Name, r21.2.1.First, r21.2.1.Events, r21.2.1.Subs, r21.2.2.Name, r21.2.2.First, r21.2.2.Events, r21.2.2.Subs))))
    else
    (some false))
def law30_StreamsTrim_J1 (kx27 : Option (Bool)) (c35 : Bool) : Option (Bool) :=
  if c35 = true then
  (some false)
  else
  (kx27)
def law30_StreamsTrim_L2 (kx37 : Int → Option (Bool)) : List Sub → Nat → Int → Option (Bool)
  | [], v39, v38 =>
    (kx37 v38)
  | x42 :: xs, v39, v38 =>
    ((((law30_StreamsTrim_L2 kx37 xs (v39 + 1)) (if x42.Cursor < v38 then x42.Cursor else v38))))
def law30_StreamsTrim_J2 (r26 : Topic) (N : Nat) (v45 : Int) : Option (Bool) :=
  if r26.First = v45 then
  ((streams_Trim N r26).bind fun r47 =>
  (ref29_SameTopic N r47 r26).bind fun r48 =>
  (some r48))
  else
  ((some false))
def law30_StreamsTrim_J3 (N : Nat) (s22 : ByteArray) (v23 : Int) (l24 : List Int) (l25 : List Sub) (r26 : Topic) : Option (Bool) :=
  (streams_End N (Topic.mk s22 v23 l24 l25)).bind fun r36 =>
  (law30_StreamsTrim_L2 (law30_StreamsTrim_J2 r26 N) l25 0 r36)
def law30_StreamsTrim_J4 (N : Nat) (s22 : ByteArray) (v23 : Int) (l24 : List Int) (l25 : List Sub) : Option (Bool) :=
  (streams_Trim N (Topic.mk s22 v23 l24 l25)).bind fun r26 =>
  (streams_End N r26).bind fun r29 =>
  (streams_End N (Topic.mk s22 v23 l24 l25)).bind fun r30 =>
  if r29 = r30 then
  ((streams_Pending N r26).bind fun r31 =>
  (streams_Pending N (Topic.mk s22 v23 l24 l25)).bind fun r32 =>
  (ref29_SameDeliveries N r31 r32).bind fun r33 =>
  if r33 = true then
  ((streams_Valid N r26).bind fun r34 =>
  if r34 = true then
  (((law30_StreamsTrim_J1 (law30_StreamsTrim_J3 N s22 v23 l24 l25 r26)) (!decide (((r26.Subs.length : Nat) : Int) = ((l25.length : Nat) : Int)))))
  else
  (((law30_StreamsTrim_J1 (law30_StreamsTrim_J3 N s22 v23 l24 l25 r26)) true)))
  else
  (((law30_StreamsTrim_J1 (law30_StreamsTrim_J3 N s22 v23 l24 l25 r26)) true)))
  else
  (((law30_StreamsTrim_J1 (law30_StreamsTrim_J3 N s22 v23 l24 l25 r26)) true))
def law30_StreamsTrim (N : Nat) (a0 : (List actorgridlaw30_Act)) : Option (Bool) :=
  (law30_awake N).bind fun r2 =>
  if r2 = true then
  ((if 150 < ((a0.length : Nat) : Int) then
  (some true)
  else
  (((streams_New N (⟨#[116]⟩)).bind fun r4 =>
  if r4.2 = 0 then
  (((law30_StreamsTrim_L1 (law30_StreamsTrim_J4 N) N a0 0 (r4.1.Name, r4.1.First, r4.1.Events, r4.1.Subs, r4.1.Name, r4.1.First, r4.1.Events, r4.1.Subs))))
  else
  (some false)))))
  else
  (some false)
end Go.Proofs.Ytpkfhjbgnpdgcaa
