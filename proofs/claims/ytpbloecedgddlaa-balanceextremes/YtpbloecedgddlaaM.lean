/- The models of the functions. No statement. -/
import Derived.Test.YtpbloecedgddlaaT
/- The functions of the program as plain functions on plain data. -/
set_option linter.unusedSimpArgs false
set_option linter.unusedVariables false
set_option maxRecDepth 100000
namespace Go.Proofs.Ytpbloecedgddlaa
open Go Go.Proofs Go.Abs
def view_identifiers_J1 (kx1 : Option (Bool)) (c3 : Bool) : Option (Bool) :=
  if c3 = true then
  (some false)
  else
  (kx1)
def view_identifiers_J2 (kx12 : Option (Bool)) (c14 : Bool) : Option (Bool) :=
  if c14 = true then
  (some false)
  else
  (kx12)
def view_identifiers_J3 (rec7 : Int → Option (Bool)) (x9 : Int) : Option (Bool) :=
  ((rec7 x9))
def view_identifiers_L1  : List Int → Nat → Int → Option (Bool)
  | [], v6, v5 =>
    (some true)
  | x9 :: xs, v6, v5 =>
    (if x9 ≤ v5 then
    (((view_identifiers_J2 (view_identifiers_J3 (view_identifiers_L1 xs (v6 + 1)) x9)) true))
    else
    (((view_identifiers_J2 (view_identifiers_J3 (view_identifiers_L1 xs (v6 + 1)) x9)) (decide (1000 < x9)))))
def view_identifiers_J4 (a0 : (List Int)) : Option (Bool) :=
  (view_identifiers_L1 a0 0 0)
def view_identifiers (N : Nat) (a0 : (List Int)) (a1 : Int) : Option (Bool) :=
  if ((a0.length : Nat) : Int) < 1 then
  (((view_identifiers_J1 (view_identifiers_J4 a0)) true))
  else
  (((view_identifiers_J1 (view_identifiers_J4 a0)) (decide (a1 < ((a0.length : Nat) : Int)))))
def view_ValidMembers (N : Nat) (a0 : (List Int)) : Option (Bool) :=
  (view_identifiers N a0 16).bind fun r1 =>
  some r1
def balance_Valid_J1 (kx9 : Option (Bool)) (c11 : Bool) : Option (Bool) :=
  if c11 = true then
  (some false)
  else
  (kx9)
def balance_Valid_J2 (l2 : List Int) (x6 : Load) (rec4 : List Int → Option (Bool)) : Option (Bool) :=
  apx 8 l2 [x6.Member] fun l12 =>
  ((rec4 l12))
def balance_Valid_L1 (kx1 : (List Int) → Option (Bool)) : List Load → Nat → List Int → Option (Bool)
  | [], v3, l2 =>
    (kx1 l2)
  | x6 :: xs, v3, l2 =>
    (if x6.Actors < 0 then
    (((balance_Valid_J1 (balance_Valid_J2 l2 x6 (balance_Valid_L1 kx1 xs (v3 + 1)))) true))
    else
    (((balance_Valid_J1 (balance_Valid_J2 l2 x6 (balance_Valid_L1 kx1 xs (v3 + 1)))) (decide (1000 < x6.Actors)))))
def balance_Valid_J3 (N : Nat) (l14 : List Int) : Option (Bool) :=
  (view_ValidMembers N l14).bind fun r15 =>
  some r15
def balance_Valid (N : Nat) (a0 : (List Load)) : Option (Bool) :=
  (balance_Valid_L1 (balance_Valid_J3 N) a0 0 [])
def slices_Clone_Load (N : Nat) (a0 : (List Load)) : Option ((List Load)) :=
  (apn 16 a0 <|
  some a0)
def balance_extremes_J1 (a0 : (List Load)) (v3 : Int) (x7 : Load) (rec5 : (Int × Int) → Option (Int × Int)) (v4 : Nat) (v12 : Int) : Option (Int × Int) :=
  gx a0 v3 fun x13 =>
  if x13.Actors < x7.Actors then
  (((rec5 (v12, ((v4 : Nat) : Int)))))
  else
  (((rec5 (v12, v3))))
def balance_extremes_L1 (a0 : (List Load)) : List Load → Nat → Int × Int → Option (Int × Int)
  | [], v4, (v2, v3) =>
    (some (v2, v3))
  | x7 :: xs, v4, (v2, v3) =>
    (gx a0 v2 fun x11 =>
    if x7.Actors < x11.Actors then
    (((balance_extremes_J1 a0 v3 x7 (balance_extremes_L1 a0 xs (v4 + 1)) v4) ((v4 : Nat) : Int)))
    else
    (((balance_extremes_J1 a0 v3 x7 (balance_extremes_L1 a0 xs (v4 + 1)) v4) v2)))
def balance_extremes (N : Nat) (a0 : (List Load)) : Option (Int × Int) :=
  (balance_extremes_L1 a0 a0 0 (0, 0))
def balance_Plan_L1 (N : Nat) : Nat → List Load × List LoadMove → Option ((List LoadMove))
  | 0, _ => none
  | n + 1, (l4, l5) =>
    (balance_extremes N l4).bind fun r7 =>
    gx l4 r7.2 fun x9 =>
    gx l4 r7.1 fun x10 =>
    if (IntKind.i64.wrap (x9.Actors - x10.Actors)) ≤ 1 then
    (some l5)
    else
    ((apx 16 l5 [(LoadMove.mk x9.Member x10.Member)] fun l11 =>
    gx (l4.set ((r7.2).toNat) (Load.mk x9.Member (IntKind.i64.wrap (x9.Actors - 1)))) r7.1 fun x12 =>
    ((balance_Plan_L1 N n) (((l4.set ((r7.2).toNat) (Load.mk x9.Member (IntKind.i64.wrap (x9.Actors - 1)))).set ((r7.1).toNat) (Load.mk x12.Member (IntKind.i64.wrap (x12.Actors + 1)))), l11))))
def balance_Plan (N : Nat) (a0 : (List Load)) : Option ((List LoadMove)) :=
  (balance_Valid N a0).bind fun r2 =>
  if r2 = true then
  (((slices_Clone_Load N a0).bind fun r3 =>
  (balance_Plan_L1 N N (r3, []))))
  else
  (some [])
def balance_Total_L1  : List Load → Nat → Int → Option (Int)
  | [], v5, v4 =>
    (some v4)
  | x8 :: xs, v5, v4 =>
    ((((balance_Total_L1 xs (v5 + 1)) (IntKind.i64.wrap (v4 + x8.Actors)))))
def balance_Total (N : Nat) (a0 : (List Load)) : Option (Int) :=
  (balance_Valid N a0).bind fun r2 =>
  if r2 = true then
  (((balance_Total_L1 a0 0 0)))
  else
  (some 0)
def slices_Insert_Load (N : Nat) (a0 : List Load) (a1 : Int) (a2 : List Load) : Option (List Load) := insM 16 a0 a1 a2 fun l => some l
def balance_sorted_L2 (kx9 : Option ((List Load))) (x6 : Load) (N : Nat) (l2 : List Load) (rec4 : List Load → Option ((List Load))) : List Load → Nat → Unit → Option ((List Load))
  | [], v10, () =>
    kx9
  | x13 :: xs, v10, () =>
    (if x13.Actors < x6.Actors then
    ((slices_Insert_Load N l2 ((v10 : Nat) : Int) [x6]).bind fun r16 =>
    ((rec4 r16)))
    else
    ((((balance_sorted_L2 kx9 x6 N l2 rec4 xs (v10 + 1)) ()))))
def balance_sorted_J1 (l2 : List Load) (x6 : Load) (rec4 : List Load → Option ((List Load))) : Option ((List Load)) :=
  apx 16 l2 [x6] fun l17 =>
  ((rec4 l17))
def balance_sorted_L1 (N : Nat) : List Load → Nat → List Load → Option ((List Load))
  | [], v3, l2 =>
    (some l2)
  | x6 :: xs, v3, l2 =>
    ((balance_sorted_L2 (balance_sorted_J1 l2 x6 (balance_sorted_L1 N xs (v3 + 1))) x6 N l2 (balance_sorted_L1 N xs (v3 + 1)) l2 0 ()))
def balance_sorted (N : Nat) (a0 : (List Load)) : Option ((List Load)) :=
  (balance_sorted_L1 N a0 0 [])
def balance_Needed_J1 (rec9 : Int → Option (Int)) (v7 : Int) (x11 : Load) (v15 : Int) : Option (Int) :=
  ((rec9 (IntKind.i64.wrap (v7 + (if (IntKind.i64.wrap (x11.Actors - v15)) > 0 then IntKind.i64.wrap (x11.Actors - v15) else 0)))))
def balance_Needed_L1 (r4 : Int) (a0 : (List Load)) (r3 : Int) : List Load → Nat → Int → Option (Int)
  | [], v8, v7 =>
    (some v7)
  | x11 :: xs, v8, v7 =>
    (if ((v8 : Nat) : Int) < (Int.tmod r4 ((a0.length : Nat) : Int)) then
    (((balance_Needed_J1 (balance_Needed_L1 r4 a0 r3 xs (v8 + 1)) v7 x11) (IntKind.i64.wrap ((IntKind.i64.wrap (Int.tdiv r3 ((a0.length : Nat) : Int))) + 1))))
    else
    (((balance_Needed_J1 (balance_Needed_L1 r4 a0 r3 xs (v8 + 1)) v7 x11) (IntKind.i64.wrap (Int.tdiv r3 ((a0.length : Nat) : Int))))))
def balance_Needed (N : Nat) (a0 : (List Load)) : Option (Int) :=
  (balance_Valid N a0).bind fun r2 =>
  if r2 = true then
  (((balance_Total N a0).bind fun r3 =>
  dvx ((a0.length : Nat) : Int) <|
  (balance_Total N a0).bind fun r4 =>
  dvx ((a0.length : Nat) : Int) <|
  (balance_sorted N a0).bind fun r6 =>
  (balance_Needed_L1 r4 a0 r3 r6 0 0)))
  else
  (some 0)
def balance_Spread (N : Nat) (a0 : (List Load)) : Option (Int) :=
  (balance_Valid N a0).bind fun r2 =>
  if r2 = true then
  (((balance_extremes N a0).bind fun r3 =>
  gx a0 r3.2 fun x4 =>
  gx a0 r3.1 fun x5 =>
  some (IntKind.i64.wrap (x4.Actors - x5.Actors))))
  else
  (some 0)
def balance_Least (N : Nat) (a0 : (List Load)) : Option (Int) :=
  (balance_Valid N a0).bind fun r2 =>
  if r2 = true then
  (((balance_extremes N a0).bind fun r3 =>
  gx a0 r3.1 fun x4 =>
  some x4.Member))
  else
  (some 0)
def balance_Most (N : Nat) (a0 : (List Load)) : Option (Int) :=
  (balance_Valid N a0).bind fun r2 =>
  if r2 = true then
  (((balance_extremes N a0).bind fun r3 =>
  gx a0 r3.2 fun x4 =>
  some x4.Member))
  else
  (some 0)
def balance_index_1 (N : Nat) (a0 : Load) (c0_0 : Int) : Option (Bool) :=
  some (decide (a0.Member = c0_0))
def slices_IndexFunc_Load_balance_index_1_L1 (N : Nat) (k1_0_0 : Int) : List Load → Nat → Unit → Option (Int)
  | [], v2, () =>
    (some (-1))
  | x5 :: xs, v2, () =>
    ((balance_index_1 N x5 k1_0_0).bind fun r8 =>
    if r8 = true then
    (some ((v2 : Nat) : Int))
    else
    ((((slices_IndexFunc_Load_balance_index_1_L1 N k1_0_0 xs (v2 + 1)) ()))))
def slices_IndexFunc_Load_balance_index_1 (N : Nat) (a0 : (List Load)) (k1_0_0 : Int) : Option (Int) :=
  (slices_IndexFunc_Load_balance_index_1_L1 N k1_0_0 a0 0 ())
def balance_index (N : Nat) (a0 : (List Load)) (a1 : Int) : Option (Int) :=
  (slices_IndexFunc_Load_balance_index_1 N a0 a1).bind fun r1 =>
  some r1
def balance_Apply_J1 (kx14 : Option ((List Load) × Int)) (c20 : Bool) : Option ((List Load) × Int) :=
  if c20 = true then
  (some ([], 5))
  else
  (kx14)
def balance_Apply_J2 (r12 : Int) (r13 : Int) (l5 : List Load) (kx14 : Option ((List Load) × Int)) (c16 : Bool) : Option ((List Load) × Int) :=
  if c16 = true then
  (some ([], 6))
  else
  (if r12 = r13 then
  (some ([], 11))
  else
  (gx l5 r12 fun x18 =>
  if x18.Actors = 0 then
  (((balance_Apply_J1 kx14) true))
  else
  (gx l5 r13 fun x19 =>
  ((balance_Apply_J1 kx14) (decide (x19.Actors = 1000))))))
def balance_Apply_J3 (l5 : List Load) (r12 : Int) (r13 : Int) (rec7 : List Load → Option ((List Load) × Int)) : Option ((List Load) × Int) :=
  gx l5 r12 fun x21 =>
  gx (l5.set ((r12).toNat) (Load.mk x21.Member (IntKind.i64.wrap (x21.Actors - 1)))) r13 fun x22 =>
  ((rec7 ((l5.set ((r12).toNat) (Load.mk x21.Member (IntKind.i64.wrap (x21.Actors - 1)))).set ((r13).toNat) (Load.mk x22.Member (IntKind.i64.wrap (x22.Actors + 1))))))
def balance_Apply_L1 (N : Nat) : List LoadMove → Nat → List Load → Option ((List Load) × Int)
  | [], v6, l5 =>
    (some (l5, 0))
  | x9 :: xs, v6, l5 =>
    ((balance_index N l5 x9.From).bind fun r12 =>
    (balance_index N l5 x9.To).bind fun r13 =>
    if r12 < 0 then
    (((balance_Apply_J2 r12 r13 l5 (balance_Apply_J3 l5 r12 r13 (balance_Apply_L1 N xs (v6 + 1)))) true))
    else
    (((balance_Apply_J2 r12 r13 l5 (balance_Apply_J3 l5 r12 r13 (balance_Apply_L1 N xs (v6 + 1)))) (decide (r13 < 0)))))
def balance_Apply (N : Nat) (a0 : (List Load)) (a1 : (List LoadMove)) : Option ((List Load) × Int) :=
  (balance_Valid N a0).bind fun r2 =>
  if r2 = true then
  (((slices_Clone_Load N a0).bind fun r3 =>
  (balance_Apply_L1 N a1 0 r3)))
  else
  (some ([], 1))
def balance_Place (N : Nat) (a0 : (List Load)) : Option ((List Load) × Int × Int) :=
  (balance_Valid N a0).bind fun r2 =>
  if r2 = true then
  (((balance_extremes N a0).bind fun r3 =>
  gx a0 r3.1 fun x5 =>
  if x5.Actors = 1000 then
  (some ([], 0, 5))
  else
  (((slices_Clone_Load N a0).bind fun r6 =>
  gx r6 r3.1 fun x7 =>
  some ((r6.set ((r3.1).toNat) (Load.mk x7.Member (IntKind.i64.wrap (x7.Actors + 1)))), x7.Member, 0)))))
  else
  (some ([], 0, 1))
def law35_awake_J1 (kx2 : Option (Bool)) (c10 : Bool) : Option (Bool) :=
  if c10 = true then
  (some false)
  else
  (kx2)
def law35_awake_J2 (kx12 : Option (Bool)) (c17 : Bool) : Option (Bool) :=
  if c17 = true then
  (some false)
  else
  (kx12)
def law35_awake_J3 (N : Nat) (r11 : (List Load) × Int) : Option (Bool) :=
  (balance_Place N r11.1).bind fun r18 =>
  if r18.2.2 = 0 then
  (if r18.2.1 = 1 then
  ((balance_Valid N r11.1).bind fun r20 =>
  (some r20))
  else
  ((some false)))
  else
  ((some false))
def law35_awake_J4 (N : Nat) (r1 : (List LoadMove)) : Option (Bool) :=
  (balance_Apply N [(Load.mk 1 5), (Load.mk 2 1), (Load.mk 3 0)] r1).bind fun r11 =>
  if r11.2 = 0 then
  (if ((r11.1.length : Nat) : Int) = 3 then
  (gx r11.1 0 fun x14 =>
  if x14.Actors = 2 then
  (gx r11.1 1 fun x15 =>
  if x15.Actors = 2 then
  (gx r11.1 2 fun x16 =>
  ((law35_awake_J2 (law35_awake_J3 N r11)) (!decide (x16.Actors = 2))))
  else
  (((law35_awake_J2 (law35_awake_J3 N r11)) true)))
  else
  (((law35_awake_J2 (law35_awake_J3 N r11)) true)))
  else
  (((law35_awake_J2 (law35_awake_J3 N r11)) true)))
  else
  (((law35_awake_J2 (law35_awake_J3 N r11)) true))
def law35_awake (N : Nat)  : Option (Bool) :=
  (balance_Plan N [(Load.mk 1 5), (Load.mk 2 1), (Load.mk 3 0)]).bind fun r1 =>
  if ((r1.length : Nat) : Int) = 3 then
  (gx r1 0 fun x4 =>
  if (decide (x4.From = 1) && decide (x4.To = 3)) = true then
  ((balance_Needed N [(Load.mk 1 5), (Load.mk 2 1), (Load.mk 3 0)]).bind fun r5 =>
  if r5 = 3 then
  ((balance_Spread N [(Load.mk 1 5), (Load.mk 2 1), (Load.mk 3 0)]).bind fun r6 =>
  if r6 = 5 then
  ((balance_Total N [(Load.mk 1 5), (Load.mk 2 1), (Load.mk 3 0)]).bind fun r7 =>
  if r7 = 6 then
  ((balance_Least N [(Load.mk 1 5), (Load.mk 2 1), (Load.mk 3 0)]).bind fun r8 =>
  if r8 = 3 then
  ((balance_Most N [(Load.mk 1 5), (Load.mk 2 1), (Load.mk 3 0)]).bind fun r9 =>
  ((law35_awake_J1 (law35_awake_J4 N r1)) (!decide (r9 = 1))))
  else
  (((law35_awake_J1 (law35_awake_J4 N r1)) true)))
  else
  (((law35_awake_J1 (law35_awake_J4 N r1)) true)))
  else
  (((law35_awake_J1 (law35_awake_J4 N r1)) true)))
  else
  (((law35_awake_J1 (law35_awake_J4 N r1)) true)))
  else
  (((law35_awake_J1 (law35_awake_J4 N r1)) true)))
  else
  (((law35_awake_J1 (law35_awake_J4 N r1)) true))
def ref3_IsID (N : Nat) (a0 : Int) : Option (Bool) :=
  if 1 ≤ a0 then
  ((some (decide (a0 ≤ 1000))))
  else
  ((some false))
def ref3_Rising_J1 (rec3 : Unit → Option (Bool)) (c11 : Bool) : Option (Bool) :=
  if c11 = true then
  (some false)
  else
  (((rec3 ())))
def ref3_Rising_L1 (N : Nat) (a0 : (List Int)) : List Int → Nat → Unit → Option (Bool)
  | [], v2, () =>
    (some true)
  | x5 :: xs, v2, () =>
    ((ref3_IsID N x5).bind fun r9 =>
    if r9 = true then
    (if 0 < ((v2 : Nat) : Int) then
    (gx a0 (IntKind.i64.wrap (((v2 : Nat) : Int) - 1)) fun x10 =>
    ((ref3_Rising_J1 (ref3_Rising_L1 N a0 xs (v2 + 1))) (decide (x5 ≤ x10))))
    else
    (((ref3_Rising_J1 (ref3_Rising_L1 N a0 xs (v2 + 1))) false)))
    else
    (((ref3_Rising_J1 (ref3_Rising_L1 N a0 xs (v2 + 1))) true)))
def ref3_Rising (N : Nat) (a0 : (List Int)) : Option (Bool) :=
  (ref3_Rising_L1 N a0 a0 0 ())
def ref3_ValidMembers (N : Nat) (a0 : (List Int)) : Option (Bool) :=
  if 1 ≤ ((a0.length : Nat) : Int) then
  (if ((a0.length : Nat) : Int) ≤ 16 then
  ((ref3_Rising N a0).bind fun r2 =>
  (some r2))
  else
  ((some false)))
  else
  ((some false))
def ref35_Valid_J1 (kx9 : Option (Bool)) (c11 : Bool) : Option (Bool) :=
  if c11 = true then
  (some false)
  else
  (kx9)
def ref35_Valid_J2 (l2 : List Int) (x6 : Load) (rec4 : List Int → Option (Bool)) : Option (Bool) :=
  apx 8 l2 [x6.Member] fun l12 =>
  ((rec4 l12))
def ref35_Valid_L1 (kx1 : (List Int) → Option (Bool)) : List Load → Nat → List Int → Option (Bool)
  | [], v3, l2 =>
    (kx1 l2)
  | x6 :: xs, v3, l2 =>
    (if x6.Actors < 0 then
    (((ref35_Valid_J1 (ref35_Valid_J2 l2 x6 (ref35_Valid_L1 kx1 xs (v3 + 1)))) true))
    else
    (((ref35_Valid_J1 (ref35_Valid_J2 l2 x6 (ref35_Valid_L1 kx1 xs (v3 + 1)))) (decide (1000 < x6.Actors)))))
def ref35_Valid_J3 (N : Nat) (l14 : List Int) : Option (Bool) :=
  (ref3_ValidMembers N l14).bind fun r15 =>
  some r15
def ref35_Valid (N : Nat) (a0 : (List Load)) : Option (Bool) :=
  (ref35_Valid_L1 (ref35_Valid_J3 N) a0 0 [])
def ref35_least_L1 (a0 : (List Load)) : Nat → Nat → Int → Option (Int)
  | 0, v3, v2 =>
    (some v2)
  | m + 1, v3, v2 =>
    (gx a0 ((v3 : Nat) : Int) fun x8 =>
    gx a0 v2 fun x9 =>
    if x8.Actors < x9.Actors then
    ((((ref35_least_L1 a0 m (v3 + 1)) ((v3 : Nat) : Int))))
    else
    ((((ref35_least_L1 a0 m (v3 + 1)) v2))))
def ref35_least (N : Nat) (a0 : (List Load)) : Option (Int) :=
  (ref35_least_L1 a0 (a0.length - 1) 1 0)
def ref35_Place (N : Nat) (a0 : (List Load)) : Option ((List Load) × Int × Int) :=
  (ref35_Valid N a0).bind fun r2 =>
  if r2 = true then
  (((ref35_least N a0).bind fun r3 =>
  gx a0 r3 fun x5 =>
  if x5.Actors = 1000 then
  (some ([], 0, 5))
  else
  ((apn 16 a0 <|
  some ((a0.set ((r3).toNat) (Load.mk x5.Member (IntKind.i64.wrap (x5.Actors + 1)))), x5.Member, 0)))))
  else
  (some ([], 0, 1))
def ref35_of_L1 (a1 : Int) : List Load → Nat → Unit → Option (Int)
  | [], v2, () =>
    (some (-1))
  | x5 :: xs, v2, () =>
    (if x5.Member = a1 then
    (some ((v2 : Nat) : Int))
    else
    ((((ref35_of_L1 a1 xs (v2 + 1)) ()))))
def ref35_of (N : Nat) (a0 : (List Load)) (a1 : Int) : Option (Int) :=
  (ref35_of_L1 a1 a0 0 ())
def ref35_Apply_J1 (kx13 : Option ((List Load) × Int)) (c15 : Bool) : Option ((List Load) × Int) :=
  if c15 = true then
  (some ([], 6))
  else
  (kx13)
def ref35_Apply_J2 (kx17 : Option ((List Load) × Int)) (c21 : Bool) : Option ((List Load) × Int) :=
  if c21 = true then
  (some ([], 5))
  else
  (kx17)
def ref35_Apply_J3 (l4 : List Load) (r11 : Int) (r12 : Int) (rec6 : List Load → Option ((List Load) × Int)) : Option ((List Load) × Int) :=
  gx l4 r11 fun x22 =>
  gx (l4.set ((r11).toNat) (Load.mk x22.Member (IntKind.i64.wrap (x22.Actors - 1)))) r12 fun x23 =>
  ((rec6 ((l4.set ((r11).toNat) (Load.mk x22.Member (IntKind.i64.wrap (x22.Actors - 1)))).set ((r12).toNat) (Load.mk x23.Member (IntKind.i64.wrap (x23.Actors + 1))))))
def ref35_Apply_J4 (r11 : Int) (r12 : Int) (l4 : List Load) (rec6 : List Load → Option ((List Load) × Int)) : Option ((List Load) × Int) :=
  if r11 = r12 then
  (some ([], 11))
  else
  ((gx l4 r11 fun x19 =>
  if x19.Actors = 0 then
  (((ref35_Apply_J2 (ref35_Apply_J3 l4 r11 r12 rec6)) true))
  else
  (gx l4 r12 fun x20 =>
  ((ref35_Apply_J2 (ref35_Apply_J3 l4 r11 r12 rec6)) (decide (x20.Actors = 1000))))))
def ref35_Apply_L1 (N : Nat) : List LoadMove → Nat → List Load → Option ((List Load) × Int)
  | [], v5, l4 =>
    (some (l4, 0))
  | x8 :: xs, v5, l4 =>
    ((ref35_of N l4 x8.From).bind fun r11 =>
    (ref35_of N l4 x8.To).bind fun r12 =>
    if r11 < 0 then
    (((ref35_Apply_J1 (ref35_Apply_J4 r11 r12 l4 (ref35_Apply_L1 N xs (v5 + 1)))) true))
    else
    (((ref35_Apply_J1 (ref35_Apply_J4 r11 r12 l4 (ref35_Apply_L1 N xs (v5 + 1)))) (decide (r12 < 0)))))
def ref35_Apply (N : Nat) (a0 : (List Load)) (a1 : (List LoadMove)) : Option ((List Load) × Int) :=
  (ref35_Valid N a0).bind fun r2 =>
  if r2 = true then
  ((apn 16 a0 <|
  (ref35_Apply_L1 N a1 0 a0)))
  else
  (some ([], 1))
def ref35_SameLoads_L1 (a1 : (List Load)) : List Load → Nat → Unit → Option (Bool)
  | [], v3, () =>
    (some true)
  | x6 :: xs, v3, () =>
    (gx a1 ((v3 : Nat) : Int) fun x9 =>
    if (decide (x6.Member = x9.Member) && decide (x6.Actors = x9.Actors)) = true then
    ((((ref35_SameLoads_L1 a1 xs (v3 + 1)) ())))
    else
    (some false))
def ref35_SameLoads (N : Nat) (a0 : (List Load)) (a1 : (List Load)) : Option (Bool) :=
  if ((a0.length : Nat) : Int) = ((a1.length : Nat) : Int) then
  (((ref35_SameLoads_L1 a1 a0 0 ())))
  else
  (some false)
def ref35_Least (N : Nat) (a0 : (List Load)) : Option (Int) :=
  (ref35_Valid N a0).bind fun r2 =>
  if r2 = true then
  (((ref35_least N a0).bind fun r3 =>
  gx a0 r3 fun x4 =>
  some x4.Member))
  else
  (some 0)
def ref35_most_L1 (a0 : (List Load)) : Nat → Nat → Int → Option (Int)
  | 0, v3, v2 =>
    (some v2)
  | m + 1, v3, v2 =>
    (gx a0 ((v3 : Nat) : Int) fun x8 =>
    gx a0 v2 fun x9 =>
    if x9.Actors < x8.Actors then
    ((((ref35_most_L1 a0 m (v3 + 1)) ((v3 : Nat) : Int))))
    else
    ((((ref35_most_L1 a0 m (v3 + 1)) v2))))
def ref35_most (N : Nat) (a0 : (List Load)) : Option (Int) :=
  (ref35_most_L1 a0 (a0.length - 1) 1 0)
def ref35_Most (N : Nat) (a0 : (List Load)) : Option (Int) :=
  (ref35_Valid N a0).bind fun r2 =>
  if r2 = true then
  (((ref35_most N a0).bind fun r3 =>
  gx a0 r3 fun x4 =>
  some x4.Member))
  else
  (some 0)
def ref35_Spread (N : Nat) (a0 : (List Load)) : Option (Int) :=
  (ref35_Valid N a0).bind fun r2 =>
  if r2 = true then
  (((ref35_most N a0).bind fun r3 =>
  gx a0 r3 fun x4 =>
  (ref35_least N a0).bind fun r5 =>
  gx a0 r5 fun x6 =>
  some (IntKind.i64.wrap (x4.Actors - x6.Actors))))
  else
  (some 0)
def ref35_Total_L1  : List Load → Nat → Int → Option (Int)
  | [], v5, v4 =>
    (some v4)
  | x8 :: xs, v5, v4 =>
    ((((ref35_Total_L1 xs (v5 + 1)) (IntKind.i64.wrap (v4 + x8.Actors)))))
def ref35_Total (N : Nat) (a0 : (List Load)) : Option (Int) :=
  (ref35_Valid N a0).bind fun r2 =>
  if r2 = true then
  (((ref35_Total_L1 a0 0 0)))
  else
  (some 0)
def ref35_Needed_J1 (rec15 : Int → Option (Int)) (v13 : Int) (c21 : Bool) : Option (Int) :=
  if c21 = true then
  (((rec15 (IntKind.i64.wrap (v13 + 1)))))
  else
  (((rec15 v13)))
def ref35_Needed_L2 (kx12 : Int → Option (Int)) (x9 : Load) : List Load → Nat → Int → Option (Int)
  | [], v14, v13 =>
    (kx12 v13)
  | x17 :: xs, v14, v13 =>
    (if x9.Actors < x17.Actors then
    (((ref35_Needed_J1 (ref35_Needed_L2 kx12 x9 xs (v14 + 1)) v13) true))
    else
    (if x17.Actors = x9.Actors then
    (((ref35_Needed_J1 (ref35_Needed_L2 kx12 x9 xs (v14 + 1)) v13) (decide (x17.Member < x9.Member))))
    else
    (((ref35_Needed_J1 (ref35_Needed_L2 kx12 x9 xs (v14 + 1)) v13) false))))
def ref35_Needed_J2 (rec7 : Int → Option (Int)) (v5 : Int) (x9 : Load) (v25 : Int) : Option (Int) :=
  ((rec7 (IntKind.i64.wrap (v5 + (if (IntKind.i64.wrap (x9.Actors - v25)) > 0 then IntKind.i64.wrap (x9.Actors - v25) else 0)))))
def ref35_Needed_J3 (r3 : Int) (a0 : (List Load)) (rec7 : Int → Option (Int)) (v5 : Int) (x9 : Load) (v23 : Int) : Option (Int) :=
  if v23 < (Int.tmod r3 ((a0.length : Nat) : Int)) then
  (((ref35_Needed_J2 rec7 v5 x9) (IntKind.i64.wrap ((IntKind.i64.wrap (Int.tdiv r3 ((a0.length : Nat) : Int))) + 1))))
  else
  (((ref35_Needed_J2 rec7 v5 x9) (IntKind.i64.wrap (Int.tdiv r3 ((a0.length : Nat) : Int)))))
def ref35_Needed_L1 (r3 : Int) (a0 : (List Load)) : List Load → Nat → Int → Option (Int)
  | [], v6, v5 =>
    (some v5)
  | x9 :: xs, v6, v5 =>
    ((ref35_Needed_L2 (ref35_Needed_J3 r3 a0 (ref35_Needed_L1 r3 a0 xs (v6 + 1)) v5 x9) x9 a0 0 0))
def ref35_Needed (N : Nat) (a0 : (List Load)) : Option (Int) :=
  (ref35_Valid N a0).bind fun r2 =>
  if r2 = true then
  (((ref35_Total N a0).bind fun r3 =>
  dvx ((a0.length : Nat) : Int) <|
  dvx ((a0.length : Nat) : Int) <|
  (ref35_Needed_L1 r3 a0 a0 0 0)))
  else
  (some 0)
def ref35_Plan_L1 (N : Nat) : Nat → List Load × List LoadMove → Option ((List LoadMove))
  | 0, _ => none
  | n + 1, (l3, l4) =>
    (ref35_most N l3).bind fun r6 =>
    (ref35_least N l3).bind fun r7 =>
    gx l3 r6 fun x9 =>
    gx l3 r7 fun x10 =>
    if (IntKind.i64.wrap (x9.Actors - x10.Actors)) ≤ 1 then
    (some l4)
    else
    ((gx (l3.set ((r6).toNat) (Load.mk x9.Member (IntKind.i64.wrap (x9.Actors - 1)))) r7 fun x11 =>
    gx ((l3.set ((r6).toNat) (Load.mk x9.Member (IntKind.i64.wrap (x9.Actors - 1)))).set ((r7).toNat) (Load.mk x11.Member (IntKind.i64.wrap (x11.Actors + 1)))) r6 fun x12 =>
    apx 16 l4 [(LoadMove.mk x12.Member x11.Member)] fun l13 =>
    ((ref35_Plan_L1 N n) (((l3.set ((r6).toNat) (Load.mk x9.Member (IntKind.i64.wrap (x9.Actors - 1)))).set ((r7).toNat) (Load.mk x11.Member (IntKind.i64.wrap (x11.Actors + 1)))), l13))))
def ref35_Plan (N : Nat) (a0 : (List Load)) : Option ((List LoadMove)) :=
  (ref35_Valid N a0).bind fun r2 =>
  if r2 = true then
  ((apn 16 a0 <|
  (ref35_Plan_L1 N N (a0, []))))
  else
  (some [])
def ref35_SameMoves_L1 (a1 : (List LoadMove)) : List LoadMove → Nat → Unit → Option (Bool)
  | [], v3, () =>
    (some true)
  | x6 :: xs, v3, () =>
    (gx a1 ((v3 : Nat) : Int) fun x9 =>
    if (decide (x6.From = x9.From) && decide (x6.To = x9.To)) = true then
    ((((ref35_SameMoves_L1 a1 xs (v3 + 1)) ())))
    else
    (some false))
def ref35_SameMoves (N : Nat) (a0 : (List LoadMove)) (a1 : (List LoadMove)) : Option (Bool) :=
  if ((a0.length : Nat) : Int) = ((a1.length : Nat) : Int) then
  (((ref35_SameMoves_L1 a1 a0 0 ())))
  else
  (some false)
def law35_BalanceAny_J1 (kx3 : Option (Bool)) (c5 : Bool) : Option (Bool) :=
  if c5 = true then
  (some true)
  else
  (kx3)
def law35_BalanceAny_J2 (kx10 : Option (Bool)) (c14 : Bool) : Option (Bool) :=
  if c14 = true then
  (some false)
  else
  (kx10)
def law35_BalanceAny_J3 (N : Nat) (a0 : (List Load)) : Option (Bool) :=
  (balance_Valid N a0).bind fun r16 =>
  (ref35_Valid N a0).bind fun r17 =>
  if r16 = r17 then
  ((balance_Least N a0).bind fun r18 =>
  (ref35_Least N a0).bind fun r19 =>
  if r18 = r19 then
  ((balance_Most N a0).bind fun r20 =>
  (ref35_Most N a0).bind fun r21 =>
  if r20 = r21 then
  ((balance_Spread N a0).bind fun r22 =>
  (ref35_Spread N a0).bind fun r23 =>
  if r22 = r23 then
  ((balance_Total N a0).bind fun r24 =>
  (ref35_Total N a0).bind fun r25 =>
  if r24 = r25 then
  ((balance_Needed N a0).bind fun r26 =>
  (ref35_Needed N a0).bind fun r27 =>
  if r26 = r27 then
  ((balance_Plan N a0).bind fun r28 =>
  (ref35_Plan N a0).bind fun r29 =>
  (ref35_SameMoves N r28 r29).bind fun r30 =>
  (some r30))
  else
  ((some false)))
  else
  ((some false)))
  else
  ((some false)))
  else
  ((some false)))
  else
  ((some false)))
  else
  ((some false))
def law35_BalanceAny_J4 (N : Nat) (a0 : (List Load)) (a1 : (List LoadMove)) : Option (Bool) :=
  (balance_Place N a0).bind fun r6 =>
  (ref35_Place N a0).bind fun r7 =>
  (balance_Apply N a0 a1).bind fun r8 =>
  (ref35_Apply N a0 a1).bind fun r9 =>
  if r6.2.2 = r7.2.2 then
  (if r6.2.1 = r7.2.1 then
  ((ref35_SameLoads N r6.1 r7.1).bind fun r12 =>
  if r12 = true then
  (if r8.2 = r9.2 then
  ((ref35_SameLoads N r8.1 r9.1).bind fun r13 =>
  ((law35_BalanceAny_J2 (law35_BalanceAny_J3 N a0)) (!r13)))
  else
  (((law35_BalanceAny_J2 (law35_BalanceAny_J3 N a0)) true)))
  else
  (((law35_BalanceAny_J2 (law35_BalanceAny_J3 N a0)) true)))
  else
  (((law35_BalanceAny_J2 (law35_BalanceAny_J3 N a0)) true)))
  else
  (((law35_BalanceAny_J2 (law35_BalanceAny_J3 N a0)) true))
def law35_BalanceAny (N : Nat) (a0 : (List Load)) (a1 : (List LoadMove)) : Option (Bool) :=
  (law35_awake N).bind fun r2 =>
  if r2 = true then
  ((if 40 < ((a0.length : Nat) : Int) then
  (((law35_BalanceAny_J1 (law35_BalanceAny_J4 N a0 a1)) true))
  else
  (((law35_BalanceAny_J1 (law35_BalanceAny_J4 N a0 a1)) (decide (200 < ((a1.length : Nat) : Int)))))))
  else
  (some false)
def law35_loads_L1  : List Int → Nat → List Load → Option ((List Load))
  | [], v3, l2 =>
    ((some l2))
  | x7 :: xs, v3, l2 =>
    (if ((v3 : Nat) : Int) < 16 then
    ((apx 16 l2 [(Load.mk (IntKind.i64.wrap ((IntKind.i64.wrap (3 * ((v3 : Nat) : Int))) + 1)) (Int.tmod (IntKind.i64.wrap x7) 1001))] fun l11 =>
    (((law35_loads_L1 xs (v3 + 1)) l11))))
    else
    ((some l2)))
def law35_loads (N : Nat) (a0 : (List Int)) : Option ((List Load)) :=
  (law35_loads_L1 a0 0 [])
def law35_BalancePlans (N : Nat) (a0 : (List Int)) : Option (Bool) :=
  (law35_awake N).bind fun r2 =>
  if r2 = true then
  (((law35_loads N a0).bind fun r3 =>
  if ((r3.length : Nat) : Int) = 0 then
  ((balance_Needed N r3).bind fun r6 =>
  if r6 = 0 then
  ((balance_Plan N r3).bind fun r7 =>
  (some (decide (((r7.length : Nat) : Int) = 0))))
  else
  ((some false)))
  else
  (((balance_Plan N r3).bind fun r9 =>
  (balance_Apply N r3 r9).bind fun r10 =>
  if r10.2 = 0 then
  ((balance_Spread N r10.1).bind fun r12 =>
  if r12 ≤ 1 then
  ((balance_Total N r10.1).bind fun r13 =>
  (balance_Total N r3).bind fun r14 =>
  if r13 = r14 then
  ((balance_Needed N r3).bind fun r15 =>
  if ((r9.length : Nat) : Int) = r15 then
  ((balance_Plan N r10.1).bind fun r16 =>
  if ((r16.length : Nat) : Int) = 0 then
  ((balance_Valid N r10.1).bind fun r17 =>
  (some r17))
  else
  ((some false)))
  else
  ((some false)))
  else
  ((some false)))
  else
  ((some false)))
  else
  ((some false))))))
  else
  (some false)
def law35_BalanceLeast_J1 (kx4 : Option (Bool)) (c6 : Bool) : Option (Bool) :=
  if c6 = true then
  (some true)
  else
  (kx4)
def law35_BalanceLeast_J2 (kx14 : Option (Bool)) (c18 : Bool) : Option (Bool) :=
  if c18 = true then
  (some false)
  else
  (kx14)
def law35_BalanceLeast_J3 (v10 : Int) (a1 : (List Int)) (r3 : (List Load)) (N : Nat) (l8 : List Load) (rec11 : (List Load × Int × Int) → Option (Bool)) (v9 : Int) : Option (Bool) :=
  if v10 = ((a1.length : Nat) : Int) then
  ((some true))
  else
  ((gx a1 v10 fun x20 =>
  dvx ((r3.length : Nat) : Int) <|
  gx r3 (Int.tmod (IntKind.i64.wrap x20) ((r3.length : Nat) : Int)) fun x21 =>
  dvx ((r3.length : Nat) : Int) <|
  gx r3 (Int.tmod (IntKind.i64.wrap (IntKind.u16.wrap (Int.tdiv x20 32))) ((r3.length : Nat) : Int)) fun x22 =>
  (balance_Apply N l8 [(LoadMove.mk x21.Member x22.Member)]).bind fun r23 =>
  if r23.2 = 0 then
  (((rec11 (r23.1, (IntKind.i64.wrap (v9 + 1)), IntKind.i64.wrap (v10 + 1)))))
  else
  (((rec11 (l8, v9, IntKind.i64.wrap (v10 + 1)))))))
def law35_BalanceLeast_L1 (a1 : (List Int)) (N : Nat) (r3 : (List Load)) : Nat → List Load × Int × Int → Option (Bool)
  | 0, _ => none
  | n + 1, (l8, v9, v10) =>
    if v10 ≤ ((a1.length : Nat) : Int) then
    (((balance_Spread N l8).bind fun r16 =>
    if r16 ≤ 1 then
    ((balance_Needed N r3).bind fun r17 =>
    ((law35_BalanceLeast_J2 (law35_BalanceLeast_J3 v10 a1 r3 N l8 (law35_BalanceLeast_L1 a1 N r3 n) v9)) (decide (v9 < r17))))
    else
    (((law35_BalanceLeast_J2 (law35_BalanceLeast_J3 v10 a1 r3 N l8 (law35_BalanceLeast_L1 a1 N r3 n) v9)) false))))
    else
    ((some true))
def law35_BalanceLeast_J4 (a1 : (List Int)) (N : Nat) (r3 : (List Load)) : Option (Bool) :=
  (law35_BalanceLeast_L1 a1 N r3 N (r3, 0, 0))
def law35_BalanceLeast (N : Nat) (a0 : (List Int)) (a1 : (List Int)) : Option (Bool) :=
  (law35_awake N).bind fun r2 =>
  if r2 = true then
  (((law35_loads N a0).bind fun r3 =>
  if ((r3.length : Nat) : Int) = 0 then
  (((law35_BalanceLeast_J1 (law35_BalanceLeast_J4 a1 N r3)) true))
  else
  (((law35_BalanceLeast_J1 (law35_BalanceLeast_J4 a1 N r3)) (decide (3000 < ((a1.length : Nat) : Int)))))))
  else
  (some false)
def law35_BalancePlaces_L1 (kx6 : Int → Option (Bool)) : List Load → Nat → Int → Option (Bool)
  | [], v8, v7 =>
    (kx6 v7)
  | x11 :: xs, v8, v7 =>
    ((((law35_BalancePlaces_L1 kx6 xs (v8 + 1)) (IntKind.i64.wrap (v7 + (IntKind.i64.wrap (1000 - x11.Actors)))))))
def law35_BalancePlaces_L2 (kx15 : Int → Option (Bool)) : List Load → Nat → Int → Option (Bool)
  | [], v17, v16 =>
    (kx15 v16)
  | x20 :: xs, v17, v16 =>
    ((((law35_BalancePlaces_L2 kx15 xs (v17 + 1)) (if x20.Actors > v16 then x20.Actors else v16))))
def law35_BalancePlaces_L3 (kx24 : Int → Option (Bool)) (v23 : Int) : List Load → Nat → Int → Option (Bool)
  | [], v26, v25 =>
    (kx24 v25)
  | x29 :: xs, v26, v25 =>
    ((((law35_BalancePlaces_L3 kx24 v23 xs (v26 + 1)) (IntKind.i64.wrap (v25 + (IntKind.i64.wrap (v23 - x29.Actors)))))))
def law35_BalancePlaces_J1 (kx45 : Option (Bool)) (c50 : Bool) : Option (Bool) :=
  if c50 = true then
  (some false)
  else
  (kx45)
def law35_BalancePlaces_J2 (rec38 : (List Load × Int × Int) → Option (Bool)) (r41 : (List Load) × Int × Int) (r51 : Int) (v37 : Int) (c54 : Bool) : Option (Bool) :=
  if c54 = true then
  (some false)
  else
  (((rec38 (r41.1, (if 1 > r51 then 1 else r51), IntKind.i64.wrap (v37 + 1)))))
def law35_BalancePlaces_J3 (N : Nat) (r41 : (List Load) × Int × Int) (v32 : Int) (v37 : Int) (rec38 : (List Load × Int × Int) → Option (Bool)) : Option (Bool) :=
  (balance_Spread N r41.1).bind fun r51 =>
  if v32 ≤ (IntKind.i64.wrap (v37 + 1)) then
  ((balance_Spread N r41.1).bind fun r53 =>
  ((law35_BalancePlaces_J2 rec38 r41 r51 v37) (decide (1 < r53))))
  else
  (((law35_BalancePlaces_J2 rec38 r41 r51 v37) false))
def law35_BalancePlaces_L4 (a1 : Int) (N : Nat) (r33 : Int) (v32 : Int) (v14 : Int) : Nat → List Load × Int × Int → Option (Bool)
  | 0, _ => none
  | n + 1, (l35, v36, v37) =>
    if v37 < (IntKind.i64.wrap (Int.tmod a1 4000)) then
    (((balance_Place N l35).bind fun r41 =>
    if r41.2.2 = 0 then
    (((balance_Least N l35).bind fun r47 =>
    if r41.2.1 = r47 then
    ((balance_Total N r41.1).bind fun r48 =>
    if r48 = (IntKind.i64.wrap ((IntKind.i64.wrap (r33 + v37)) + 1)) then
    ((balance_Spread N r41.1).bind fun r49 =>
    ((law35_BalancePlaces_J1 (law35_BalancePlaces_J3 N r41 v32 v37 (law35_BalancePlaces_L4 a1 N r33 v32 v14 n))) (decide (v36 < r49))))
    else
    (((law35_BalancePlaces_J1 (law35_BalancePlaces_J3 N r41 v32 v37 (law35_BalancePlaces_L4 a1 N r33 v32 v14 n))) true)))
    else
    (((law35_BalancePlaces_J1 (law35_BalancePlaces_J3 N r41 v32 v37 (law35_BalancePlaces_L4 a1 N r33 v32 v14 n))) true))))
    else
    (if r41.2.2 = 5 then
    ((some (decide (v37 = v14))))
    else
    ((some false)))))
    else
    ((some true))
def law35_BalancePlaces_J4 (N : Nat) (r3 : (List Load)) (a1 : Int) (v14 : Int) (r5 : Int) (v32 : Int) : Option (Bool) :=
  (balance_Total N r3).bind fun r33 =>
  (law35_BalancePlaces_L4 a1 N r33 v32 v14 N (r3, (if 1 > r5 then 1 else r5), 0))
def law35_BalancePlaces_J5 (N : Nat) (r3 : (List Load)) (a1 : Int) (v14 : Int) (r5 : Int) (v23 : Int) : Option (Bool) :=
  (law35_BalancePlaces_L3 (law35_BalancePlaces_J4 N r3 a1 v14 r5) v23 r3 0 0)
def law35_BalancePlaces_J6 (N : Nat) (r3 : (List Load)) (a1 : Int) (r5 : Int) (v14 : Int) : Option (Bool) :=
  (law35_BalancePlaces_L2 (law35_BalancePlaces_J5 N r3 a1 v14 r5) r3 0 0)
def law35_BalancePlaces (N : Nat) (a0 : (List Int)) (a1 : Int) : Option (Bool) :=
  (law35_awake N).bind fun r2 =>
  if r2 = true then
  (((law35_loads N a0).bind fun r3 =>
  if ((r3.length : Nat) : Int) = 0 then
  (some true)
  else
  (((balance_Spread N r3).bind fun r5 =>
  (law35_BalancePlaces_L1 (law35_BalancePlaces_J6 N r3 a1 r5) r3 0 0)))))
  else
  (some false)
def law35_BalanceExtremes_J1 (r3 : (List Load)) (v16 : Nat) (v15 : Int) (rec17 : (Int × Int × Int × Int) → Option (Bool)) (v14 : Int) (v23 : Int) (v24 : Int) : Option (Bool) :=
  gx r3 ((v16 : Nat) : Int) fun x25 =>
  if v15 < x25.Actors then
  (((rec17 (v23, v24, x25.Member, x25.Actors))))
  else
  (((rec17 (v23, v24, v14, v15))))
def law35_BalanceExtremes_L1 (kx11 : Int → Int → Int → Int → Option (Bool)) (r3 : (List Load)) : Nat → Nat → Int × Int × Int × Int → Option (Bool)
  | 0, v16, (v12, v13, v14, v15) =>
    (kx11 v12 v13 v14 v15)
  | m + 1, v16, (v12, v13, v14, v15) =>
    (gx r3 ((v16 : Nat) : Int) fun x22 =>
    if x22.Actors < v13 then
    (((law35_BalanceExtremes_J1 r3 v16 v15 (law35_BalanceExtremes_L1 kx11 r3 m (v16 + 1)) v14) x22.Member x22.Actors))
    else
    (((law35_BalanceExtremes_J1 r3 v16 v15 (law35_BalanceExtremes_L1 kx11 r3 m (v16 + 1)) v14) v12 v13)))
def law35_BalanceExtremes_J2 (N : Nat) (r3 : (List Load)) (v30 : Int) (v31 : Int) (v32 : Int) (v33 : Int) : Option (Bool) :=
  (balance_Least N r3).bind fun r35 =>
  if r35 = v30 then
  ((balance_Most N r3).bind fun r36 =>
  if r36 = v32 then
  ((balance_Spread N r3).bind fun r37 =>
  (some (decide (r37 = (IntKind.i64.wrap (v33 - v31))))))
  else
  ((some false)))
  else
  ((some false))
def law35_BalanceExtremes (N : Nat) (a0 : (List Int)) : Option (Bool) :=
  (law35_awake N).bind fun r2 =>
  if r2 = true then
  (((law35_loads N a0).bind fun r3 =>
  if ((r3.length : Nat) : Int) = 0 then
  ((balance_Least N r3).bind fun r6 =>
  if r6 = 0 then
  ((balance_Most N r3).bind fun r7 =>
  if r7 = 0 then
  ((balance_Spread N r3).bind fun r8 =>
  (some (decide (r8 = 0))))
  else
  ((some false)))
  else
  ((some false)))
  else
  ((gx r3 0 fun x10 =>
  (law35_BalanceExtremes_L1 (law35_BalanceExtremes_J2 N r3) r3 (r3.length - 1) 1 (x10.Member, x10.Actors, x10.Member, x10.Actors))))))
  else
  (some false)
end Go.Proofs.Ytpbloecedgddlaa
