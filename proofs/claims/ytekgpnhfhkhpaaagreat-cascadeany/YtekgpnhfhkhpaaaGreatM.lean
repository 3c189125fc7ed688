/- The models of the functions. No statement. -/
import Derived.Test.YtekgpnhfhkhpaaaGreatT
/- The functions of the program as plain functions on plain data. -/
set_option maxHeartbeats 40000000
set_option synthInstance.maxHeartbeats 2000000
set_option synthInstance.maxSize 4000
set_option linter.unusedSimpArgs false
set_option linter.unusedVariables false
set_option maxRecDepth 100000
namespace Go.Proofs.YtekgpnhfhkhpaaaGreat
open Go Go.Proofs Go.Abs
def fY (N:Nat) (a0:Int):Option (Bool):=
 if 1<=a0 then
 ((some (decide (a0<=1099511627776))))
 else
 ((some false))
def gg (a1:Int):List Int->Nat->Unit->Option (Int)
 | [],v2,()=>
  (some (-1))
 | x5::xs,v2,()=>
  (if a1=x5 then
  (some ((v2:Nat):Int))
  else
  ((((gg a1 xs (v2+1)) ()))))
def gI (N:Nat) (a0:(List Int)) (a1:Int):Option (Int):=
 (gg a1 a0 0 ())
def aM (N:Nat) (a0:(List Int)) (a1:Int):Option (Bool):=
 (gI N a0 a1).bind fun r1=>
 some (decide (0<=r1))
def dy (N:Nat) (a0:af) (a1:Int):Option (Bool):=
 (aM N a0.committed a1).bind fun r2=>
 if r2=true then
 ((some true))
 else
 ((aM N a0.aborted a1).bind fun r3=>
 (some r3))
def ga (a1:Int):List ag->Nat->Unit->Option ((List Int))
 | [],v2,()=>
  (some [])
 | x5::xs,v2,()=>
  (if x5.actor=a1 then
  (some x5.txns)
  else
  ((((ga a1 xs (v2+1)) ()))))
def ju (N:Nat) (a0:af) (a1:Int):Option ((List Int)):=
 (ga a1 a0.stacks 0 ())
def gV (N:Nat) (a0:ae) (c0_0:Int):Option (Bool):=
 some (decide (a0.e0=c0_0))
def aW (N:Nat) (k1_0_0:Int):List ae->Nat->Unit->Option (Int)
 | [],v2,()=>
  (some (-1))
 | x5::xs,v2,()=>
  ((gV N x5 k1_0_0).bind fun r8=>
  if r8=true then
  (some ((v2:Nat):Int))
  else
  ((((aW N k1_0_0 xs (v2+1)) ()))))
def bD (N:Nat) (a0:(List ae)) (k1_0_0:Int):Option (Int):=
 (aW N k1_0_0 a0 0 ())
def bk (N:Nat) (a0:(List ae)) (k1_0_0:Int):Option (Bool):=
 (bD N a0 k1_0_0).bind fun r1=>
 some (decide (0<=r1))
def ge (N:Nat) (a0:af) (a1:Int):Option (Bool):=
 (bk N a0.prepared a1).bind fun r1=>
 some r1
def fO (a1:ae):List ae->Nat->Unit->Option (Int)
 | [],v2,()=>
  (some (-1))
 | x5::xs,v2,()=>
  (if (decide (a1.e0=x5.e0) && decide (a1.e1=x5.e1))=true then
  (some ((v2:Nat):Int))
  else
  ((((fO a1 xs (v2+1)) ()))))
def j7 (N:Nat) (a0:(List ae)) (a1:ae):Option (Int):=
 (fO a1 a0 0 ())
def fM (N:Nat) (a0:(List ae)) (a1:ae):Option (Bool):=
 (j7 N a0 a1).bind fun r1=>
 some (decide (0<=r1))
def fa (N:Nat) (a0:af) (a1:Int) (a2:Int):Option (Bool):=
 (fM N a0.prepared (ae.mk a1 a2)).bind fun r1=>
 some r1
def dH (N:Nat) (a1:Int) (a0:af):List ag->Nat->Bool->Option (Bool)
 | [],v3,c2=>
  (some c2)
 | x6::xs,v3,c2=>
  ((aM N x6.txns a1).bind fun r9=>
  if r9=true then
  ((fa N a0 a1 x6.actor).bind fun r11=>
  if r11=true then
  (((((dH N a1 a0 xs (v3+1)) true))))
  else
  (some false))
  else
  ((((dH N a1 a0 xs (v3+1)) c2))))
def fc (N:Nat) (a0:af) (a1:Int):Option (Bool):=
 (dH N a1 a0 a0.stacks 0 false)
def en (N:Nat) (a0:ag) (c0_0:Int):Option (Bool):=
 (gI N a0.txns c0_0).bind fun r1=>
 some (decide (0 < r1))
def aS (N:Nat) (k1_0_0:Int):List ag->Nat->Unit->Option (Int)
 | [],v2,()=>
  (some (-1))
 | x5::xs,v2,()=>
  ((en N x5 k1_0_0).bind fun r8=>
  if r8=true then
  (some ((v2:Nat):Int))
  else
  ((((aS N k1_0_0 xs (v2+1)) ()))))
def bo (N:Nat) (a0:(List ag)) (k1_0_0:Int):Option (Int):=
 (aS N k1_0_0 a0 0 ())
def bf (N:Nat) (a0:(List ag)) (k1_0_0:Int):Option (Bool):=
 (bo N a0 k1_0_0).bind fun r1=>
 some (decide (0<=r1))
def ee (N:Nat) (a0:af) (a1:Int):Option (Bool):=
 (bf N a0.stacks a1).bind fun r1=>
 some (!r1)
def eB (kx1:Option (Bool)) (c5:Bool):Option (Bool):=
 if c5=true then
 (some false)
 else
 (kx1)
def eC (kx8:Option (Bool)) (c12:Bool):Option (Bool):=
 if c12=true then
 (some false)
 else
 (kx8)
def fF (r6:(List Int)) (a1:ah) (N:Nat) (a0:af):Option (Bool):=
 if ((r6.length:Nat):Int)=0 then
 ((some true))
 else
 (gx r6 (IntKind.i64.wrap (((r6.length:Nat):Int) - 1)) fun x14=>
 if x14=a1.Txn then
 ((some true))
 else
 ((fa N a0 x14 a1.Actor).bind fun r15=>
 (some r15)))
def iJ (N:Nat) (a0:af) (a1:ah):Option (Bool):=
 (ju N a0 a1.Actor).bind fun r6=>
 if a1.Kind=1 then
 ((fY N a1.Actor).bind fun r10=>
 if r10=true then
 ((ge N a0 a1.Txn).bind fun r11=>
 ((eC (fF r6 a1 N a0)) r11))
 else
 (((eC (fF r6 a1 N a0)) true)))
 else
 (if a1.Kind=2 then
 ((fY N a1.Actor).bind fun r18=>
 if r18=true then
 ((aM N r6 a1.Txn).bind fun r19=>
 if r19=true then
 ((fa N a0 a1.Txn a1.Actor).bind fun r20=>
 (some (!r20)))
 else
 ((some false)))
 else
 ((some false)))
 else
 (if a1.Kind=3 then
 (if a1.Actor=0 then
 ((fc N a0 a1.Txn).bind fun r23=>
 if r23=true then
 ((ee N a0 a1.Txn).bind fun r24=>
 (some r24))
 else
 ((some false)))
 else
 ((some false)))
 else
 (if a1.Kind=4 then
 (some (decide (a1.Actor=0)))
 else
 ((some false)))))
def dt (N:Nat) (a0:af) (a1:ah):Option (Bool):=
 (fY N a1.Txn).bind fun r3=>
 if r3=true then
 ((dy N a0 a1.Txn).bind fun r4=>
 ((eB (iJ N a0 a1)) r4))
 else
 (((eB (iJ N a0 a1)) true))
def iI (N:Nat) (a0:ag) (c0_0:Int) (c0_1:Int) (c0_2:Int):Option (Bool):=
 some (decide (a0.actor=c0_2))
def bm (N:Nat) (k1_0_0:Int) (k1_0_1:Int) (k1_0_2:Int):List ag->Nat->Unit->Option (Int)
 | [],v2,()=>
  (some (-1))
 | x5::xs,v2,()=>
  ((iI N x5 k1_0_0 k1_0_1 k1_0_2).bind fun r8=>
  if r8=true then
  (some ((v2:Nat):Int))
  else
  ((((bm N k1_0_0 k1_0_1 k1_0_2 xs (v2+1)) ()))))
def bC (N:Nat) (a0:(List ag)) (k1_0_0:Int) (k1_0_1:Int) (k1_0_2:Int):Option (Int):=
 (bm N k1_0_0 k1_0_1 k1_0_2 a0 0 ())
def iu (x6:ag) (a1:ah) (l4:List ag) (v5:Int) (a0:af) (l12:List ae):Option (af):=
 apx 7 x6.txns [a1.Txn] fun l13=>
 gx l4 v5 fun x14=>
 some (af.mk (l4.set ((v5).toNat) (ag.mk x6.actor l13)) a0.prepared a0.known a0.committed a0.aborted l12)
def gZ (N:Nat) (a1:ah) (a0:af) (l4:List ag) (v5:Int):Option (af):=
 gx l4 v5 fun x6=>
 (aM N x6.txns a1.Txn).bind fun r8=>
 if r8=true then
 (some (af.mk l4 a0.prepared a0.known a0.committed a0.aborted a0.deps))
 else
 ((if 0 < ((x6.txns.length:Nat):Int) then
 (gx x6.txns (IntKind.i64.wrap (((x6.txns.length:Nat):Int) - 1)) fun x10=>
 apx 15 a0.deps [(ae.mk a1.Txn x10)] fun l11=>
 ((iu x6 a1 l4 v5 a0) l11))
 else
 (((iu x6 a1 l4 v5 a0) a0.deps))))
def ic (N:Nat) (a0:af) (a1:ah):Option (af):=
 (bC N a0.stacks a1.Kind a1.Txn a1.Actor).bind fun r1=>
 if r1 < 0 then
 (apx 31 a0.stacks [(ag.mk a1.Actor [])] fun l3=>
 ((gZ N a1 a0) l3 ((a0.stacks.length:Nat):Int)))
 else
 (((gZ N a1 a0) a0.stacks r1))
def bX (N:Nat) (a0:Int) (c0_0:(List Int)):Option (Bool):=
 (aM N c0_0 a0).bind fun r1=>
 some r1
def bj (N:Nat) (k1_0_0:(List Int)):List Int->Nat->Unit->Option (Int)
 | [],v2,()=>
  (some (-1))
 | x5::xs,v2,()=>
  ((bX N x5 k1_0_0).bind fun r8=>
  if r8=true then
  (some ((v2:Nat):Int))
  else
  ((((bj N k1_0_0 xs (v2+1)) ()))))
def bB (N:Nat) (a0:(List Int)) (k1_0_0:(List Int)):Option (Int):=
 (bj N k1_0_0 a0 0 ())
def aU (N:Nat) (k1_0_0:(List Int)) (kx3:(List Int)->Int->Option ((List Int))):Nat->List Int × Int × Int->Option ((List Int))
 | 0,_=>none
 | n+1,(l4,v5,v6)=>
  if v6 < ((l4.length:Nat):Int) then
  ((gx l4 v6 fun x10=>
  (bX N x10 k1_0_0).bind fun r11=>
  if r11=true then
  ((((aU N k1_0_0 kx3 n) (l4,v5,IntKind.i64.wrap (v6+1)))))
  else
  (gx l4 v5 fun x12=>
  (((aU N k1_0_0 kx3 n) ((l4.set ((v5).toNat) x10),(IntKind.i64.wrap (v5+1)),IntKind.i64.wrap (v6+1)))))))
  else
  ((kx3 l4 v5))
def dU (l15:List Int) (v16:Int):Option ((List Int)):=
 slx l15 v16 ((l15.length:Nat):Int) fun l17=>
 slx (clrL 0 (v16).toNat l15) 0 v16 fun l18=>
 some ((clrL 0 (v16).toNat l15).take ((v16).toNat))
def a7 (N:Nat) (a0:(List Int)) (k1_0_0:(List Int)):Option ((List Int)):=
 (bB N a0 k1_0_0).bind fun r1=>
 if r1=(-1) then
 (some a0)
 else
 (((aU N k1_0_0 dU N (a0,r1,IntKind.i64.wrap (r1+1)))))
def dX (a0:af) (N:Nat) (a1:(List Int)):Nat->Nat->List ag->Option (af)
 | 0,v2,l1=>
  some (af.mk l1 a0.prepared a0.known a0.committed a0.aborted a0.deps)
 | m+1,v2,l1=>
  (gx l1 ((v2:Nat):Int) fun x7=>
  (a7 N x7.txns a1).bind fun r8=>
  (((dX a0 N a1 m (v2+1)) (l1.set v2 (ag.mk x7.actor r8)))))
def bY (N:Nat) (a0:af) (a1:(List Int)):Option (af):=
 (dX a0 N a1 (a0.stacks.length - 0) 0 a0.stacks)
def eK (N:Nat) (a0:(List Int)):Option ((List Int)):=
 (apn 7 a0 <|
 some a0)
def lG (v8:Int) (v9:Int):Option (Int):=
 gxs (⟨((([0,1,2,2,3,3,3,3,4,4,4,4,4,4,4,4,5,5,5,5,5,5,5,5,5,5,5,5,5,5,5,5,6,6,6,6,6,6,6,6,6,6,6,6,6,6,6,6,6,6,6,6,6,6,6,6,6,6,6,6,6,6,6,6]:List UInt8).append ([7,7,7,7,7,7,7,7,7,7,7,7,7,7,7,7,7,7,7,7,7,7,7,7,7,7,7,7,7,7,7,7,7,7,7,7,7,7,7,7,7,7,7,7,7,7,7,7,7,7,7,7,7,7,7,7,7,7,7,7,7,7,7,7]:List UInt8)).append (([8,8,8,8,8,8,8,8,8,8,8,8,8,8,8,8,8,8,8,8,8,8,8,8,8,8,8,8,8,8,8,8,8,8,8,8,8,8,8,8,8,8,8,8,8,8,8,8,8,8,8,8,8,8,8,8,8,8,8,8,8,8,8,8]:List UInt8).append ([8,8,8,8,8,8,8,8,8,8,8,8,8,8,8,8,8,8,8,8,8,8,8,8,8,8,8,8,8,8,8,8,8,8,8,8,8,8,8,8,8,8,8,8,8,8,8,8,8,8,8,8,8,8,8,8,8,8,8,8,8,8,8,8]:List UInt8))).toArray⟩:ByteArray) (IntKind.u8.wrap v8) fun b10=>
 some (IntKind.i64.wrap (v9+(IntKind.i64.wrap (b10.toNat:Int))))
def lx (v5:Int) (v6:Int):Option (Int):=
 if 256<=v5 then
 ((lG (shrI .u64 v5 8) (IntKind.i64.wrap (v6+8))))
 else
 ((lG v5 v6))
def lS (v2:Int) (v3:Int):Option (Int):=
 if 65536<=v2 then
 ((lx (shrI .u64 v2 16) (IntKind.i64.wrap (v3+16))))
 else
 ((lx v2 v3))
def lO (N:Nat) (a0:Int):Option (Int):=
 if 4294967296<=a0 then
 ((lS (shrI .u64 a0 32) 32))
 else
 ((lS a0 0))
def j6 (N:Nat) (a0:Int):Option (Int):=
 ((lO N a0).bind fun r2=>
 some r2)
def i6 (N:Nat) (a0:Int):Option (Bool):=
 some (!decide (a0=a0))
def pV (N:Nat) (a0:Int) (a1:Int):Option (Bool):=
 (i6 N a0).bind fun r2=>
 if r2=true then
 ((i6 N a1).bind fun r3=>
 if r3=true then
 ((some (decide (a0 < a1))))
 else
 ((some true)))
 else
 ((some (decide (a0 < a1))))
def ff (kx6:Option ((List Int))) (rec2:Int->Option ((List Int))) (v1:Int) (c11:Bool):Option ((List Int)):=
 if c11=true then
 (kx6)
 else
 (((rec2 (IntKind.i64.wrap (v1+1)))))
def fg (a0:(List Int)) (v1:Int):Option ((List Int)):=
 gx a0 (IntKind.i64.wrap (v1 - 1)) fun x13=>
 gx a0 v1 fun x14=>
 none
def fh (a1:Int) (v1:Int) (a0:(List Int)) (N:Nat) (rec2:Int->Option ((List Int))):Nat->Unit->Option ((List Int))
 | 0,_=>none
 | n+1,()=>
  if a1 < v1 then
  (gx a0 v1 fun x8=>
  gx a0 (IntKind.i64.wrap (v1 - 1)) fun x9=>
  (pV N x8 x9).bind fun r10=>
  ((ff (fg a0 v1) rec2 v1) r10))
  else
  (((ff (fg a0 v1) rec2 v1) false))
def bT (a2:Int) (a1:Int) (a0:(List Int)) (N:Nat):Nat->Int->Option ((List Int))
 | 0,_=>none
 | n+1,v1=>
  if v1 < a2 then
  (((fh a1 v1 a0 N (bT a2 a1 a0 N n) N ())))
  else
  (some a0)
def aX (N:Nat) (a0:(List Int)) (a1:Int) (a2:Int):Option ((List Int)):=
 lenM (fun r=>r) a0 (
 (bT a2 a1 a0 N N (IntKind.i64.wrap (a1+1))))
def eN (a2:Int) (a1:Int) (N:Nat) (a0:(List Int)) (a3:Int):Nat->Unit->Option ((List Int))
 | 0,_=>none
 | n+1,()=>
  if (IntKind.i64.wrap (a2 - a1))<=12 then
  ((aX N a0 a1 a2).bind fun r3=>
  some r3)
  else
  ((if a3=0 then
  (none)
  else
  (((none)))))
def bv (N:Nat) (a0:(List Int)) (a1:Int) (a2:Int) (a3:Int):Option ((List Int)):=
 lenM (fun r=>r) a0 (
 (eN a2 a1 N a0 a3 N ()))
def dS (N:Nat) (a0:(List Int)):Option ((List Int)):=
 lenM (fun r=>r) a0 (
 (j6 N (IntKind.u64.wrap ((a0.length:Nat):Int))).bind fun r1=>
 (bv N a0 0 ((a0.length:Nat):Int) r1).bind fun r2=>
 some r2)
def slices_Sort_int (N:Nat) (a0:(List Int)):Option (List Int):=if a0.isEmpty=true then dS N a0 else sortI a0
def eD (a0:(List Int)) (v3:Nat) (kx11:(List Int)->Int->Option ((List Int))):Nat->List Int × Int × Int->Option ((List Int))
 | 0,_=>none
 | n+1,(l12,v13,v14)=>
  if v14 < (((a0.length - v3):Nat):Int) then
  ((gx ((l12.drop v3).take (a0.length - v3)) v14 fun x18=>
  gx ((l12.drop v3).take (a0.length - v3)) (IntKind.i64.wrap (v14 - 1)) fun x19=>
  if x18=x19 then
  ((((eD a0 v3 kx11 n) (l12,v13,IntKind.i64.wrap (v14+1)))))
  else
  (gx l12 v13 fun x20=>
  (((eD a0 v3 kx11 n) ((l12.set ((v13).toNat) x18),(IntKind.i64.wrap (v13+1)),IntKind.i64.wrap (v14+1)))))))
  else
  ((kx11 l12 v13))
def gR (l23:List Int) (v24:Int):Option ((List Int)):=
 slx l23 v24 ((l23.length:Nat):Int) fun l25=>
 slx (clrL 0 (v24).toNat l23) 0 v24 fun l26=>
 some ((clrL 0 (v24).toNat l23).take ((v24).toNat))
def fp (a0:(List Int)) (N:Nat):Nat->Nat->Unit->Option ((List Int))
 | 0,v3,()=>
  (some a0)
 | m+1,v3,()=>
  (gx a0 ((v3:Nat):Int) fun x8=>
  gx a0 (IntKind.i64.wrap (((v3:Nat):Int) - 1)) fun x9=>
  if x8=x9 then
  (slx a0 ((v3:Nat):Int) ((a0.length:Nat):Int) fun l10=>
  (eD a0 v3 gR N (a0,((v3:Nat):Int),1)))
  else
  ((((fp a0 N m (v3+1)) ()))))
def gT (N:Nat) (a0:(List Int)):Option ((List Int)):=
 if ((a0.length:Nat):Int) < 2 then
 (some a0)
 else
 (((fp a0 N (a0.length - 1) 1 ())))
def gN (l9:List Int) (x14:ae) (rec12:(List Int × Bool)->Option ((List Int))) (c10:Bool) (c20:Bool):Option ((List Int)):=
 if c20=true then
 (apx 7 l9 [x14.e0] fun l21=>
 ((rec12 (l21,true))))
 else
 (((rec12 (l9,c10))))
def eG (rec7:(List Int × Bool)->Option ((List Int))) (N:Nat):List ae->Nat->List Int × Bool->Option ((List Int))
 | [],v11,(l9,c10)=>
  (rec7 (l9,c10))
 | x14::xs,v11,(l9,c10)=>
  ((aM N l9 x14.e1).bind fun r18=>
  if r18=true then
  ((aM N l9 x14.e0).bind fun r19=>
  ((gN l9 x14 (eG rec7 N xs (v11+1)) c10) (!r19)))
  else
  (((gN l9 x14 (eG rec7 N xs (v11+1)) c10) false)))
def eI (N:Nat) (a0:(List ae)) (kx4:(List Int)->Option ((List Int))):Nat->List Int × Bool->Option ((List Int))
 | 0,_=>none
 | n+1,(l5,c6)=>
  if c6=true then
  (((eG (eI N a0 kx4 n) N a0 0 (l5,false))))
  else
  ((kx4 l5))
def lR (N:Nat) (l24:List Int):Option ((List Int)):=
 (slices_Sort_int N l24).bind fun r25=>
 some r25
def bU (N:Nat) (a0:(List ae)) (a1:(List Int)):Option ((List Int)):=
 (eK N a1).bind fun r1=>
 (slices_Sort_int N r1).bind fun r2=>
 (gT N r2).bind fun r3=>
 (eI N a0 (lR N) N (r3,true))
def bA (N:Nat) (k1_0_0:(List ag)) (k1_0_1:(List ae)) (k1_0_2:(List Int)) (k1_0_3:(List Int)) (k1_0_4:(List Int)) (k1_0_5:(List ae)):List Int->Nat->Unit->Option (Int)
 | [],v2,()=>
  (some (-1))
 | x5::xs,v2,()=>
  ((dy N (af.mk k1_0_0 k1_0_1 k1_0_2 k1_0_3 k1_0_4 k1_0_5) x5).bind fun r8=>
  if r8=true then
  (some ((v2:Nat):Int))
  else
  ((((bA N k1_0_0 k1_0_1 k1_0_2 k1_0_3 k1_0_4 k1_0_5 xs (v2+1)) ()))))
def bN (N:Nat) (a0:(List Int)) (k1_0_0:(List ag)) (k1_0_1:(List ae)) (k1_0_2:(List Int)) (k1_0_3:(List Int)) (k1_0_4:(List Int)) (k1_0_5:(List ae)):Option (Int):=
 (bA N k1_0_0 k1_0_1 k1_0_2 k1_0_3 k1_0_4 k1_0_5 a0 0 ())
def a6 (N:Nat) (k1_0_0:(List ag)) (k1_0_1:(List ae)) (k1_0_2:(List Int)) (k1_0_3:(List Int)) (k1_0_4:(List Int)) (k1_0_5:(List ae)) (kx3:(List Int)->Int->Option ((List Int))):Nat->List Int × Int × Int->Option ((List Int))
 | 0,_=>none
 | n+1,(l4,v5,v6)=>
  if v6 < ((l4.length:Nat):Int) then
  ((gx l4 v6 fun x10=>
  (dy N (af.mk k1_0_0 k1_0_1 k1_0_2 k1_0_3 k1_0_4 k1_0_5) x10).bind fun r11=>
  if r11=true then
  ((((a6 N k1_0_0 k1_0_1 k1_0_2 k1_0_3 k1_0_4 k1_0_5 kx3 n) (l4,v5,IntKind.i64.wrap (v6+1)))))
  else
  (gx l4 v5 fun x12=>
  (((a6 N k1_0_0 k1_0_1 k1_0_2 k1_0_3 k1_0_4 k1_0_5 kx3 n) ((l4.set ((v5).toNat) x10),(IntKind.i64.wrap (v5+1)),IntKind.i64.wrap (v6+1)))))))
  else
  ((kx3 l4 v5))
def eh (l15:List Int) (v16:Int):Option ((List Int)):=
 slx l15 v16 ((l15.length:Nat):Int) fun l17=>
 slx (clrL 0 (v16).toNat l15) 0 v16 fun l18=>
 some ((clrL 0 (v16).toNat l15).take ((v16).toNat))
def aL (N:Nat) (a0:(List Int)) (k1_0_0:(List ag)) (k1_0_1:(List ae)) (k1_0_2:(List Int)) (k1_0_3:(List Int)) (k1_0_4:(List Int)) (k1_0_5:(List ae)):Option ((List Int)):=
 (bN N a0 k1_0_0 k1_0_1 k1_0_2 k1_0_3 k1_0_4 k1_0_5).bind fun r1=>
 if r1=(-1) then
 (some a0)
 else
 (((a6 N k1_0_0 k1_0_1 k1_0_2 k1_0_3 k1_0_4 k1_0_5 eh N (a0,r1,IntKind.i64.wrap (r1+1)))))
def gm (a1:ah) (N:Nat) (a0:af) (l4:List Int):Option (af):=
 if a1.Kind=1 then
 ((ic N (af.mk a0.stacks a0.prepared l4 a0.committed a0.aborted a0.deps) a1).bind fun r5=>
 some r5)
 else
 (if a1.Kind=2 then
 (apx 15 a0.prepared [(ae.mk a1.Txn a1.Actor)] fun l6=>
 some (af.mk a0.stacks l6 l4 a0.committed a0.aborted a0.deps))
 else
 (if a1.Kind=3 then
 (apx 7 a0.committed [a1.Txn] fun l7=>
 (bY N (af.mk a0.stacks a0.prepared l4 l7 a0.aborted a0.deps) [a1.Txn]).bind fun r8=>
 some r8)
 else
 (if a1.Kind=4 then
 ((bU N a0.deps [a1.Txn]).bind fun r9=>
 (aL N r9 a0.stacks a0.prepared l4 a0.committed a0.aborted a0.deps).bind fun r10=>
 apx 7 a0.aborted r10 fun l11=>
 (bY N (af.mk a0.stacks a0.prepared l4 a0.committed l11 a0.deps) r10).bind fun r12=>
 some r12)
 else
 (some (af.mk a0.stacks a0.prepared l4 a0.committed a0.aborted a0.deps)))))
def dO (N:Nat) (a0:af) (a1:ah):Option (af):=
 (aM N a0.known a1.Txn).bind fun r2=>
 if r2=true then
 (((gm a1 N a0) a0.known))
 else
 (apx 7 a0.known [a1.Txn] fun l3=>
 ((gm a1 N a0) l3))
def d7 (N:Nat):List ah->Nat->List ag × List ae × List Int × List Int × List Int × List ae->Option (af × Int)
 | [],v8,(l2,l3,l4,l5,l6,l7)=>
  (some ((af.mk l2 l3 l4 l5 l6 l7),(-1)))
 | x11::xs,v8,(l2,l3,l4,l5,l6,l7)=>
  ((dt N (af.mk l2 l3 l4 l5 l6 l7) x11).bind fun r15=>
  if r15=true then
  (((dO N (af.mk l2 l3 l4 l5 l6 l7) x11).bind fun r16=>
  (((d7 N xs (v8+1)) (r16.stacks,r16.prepared,r16.known,r16.committed,r16.aborted,r16.deps)))))
  else
  (some ((af.mk l2 l3 l4 l5 l6 l7),((v8:Nat):Int))))
def dw (N:Nat) (a0:(List ah)):Option (af × Int):=
 (d7 N a0 0 ([],[],[],[],[],[]))
def iO (N:Nat) (a0:Int) (a1:Int):Option (Int):=
 (i6 N a0).bind fun r1=>
 (i6 N a1).bind fun r2=>
 if r1=true then
 (if r2=true then
 (some 0)
 else
 ((some (-1))))
 else
 ((if r2=true then
 (some 1)
 else
 ((if a0 < a1 then
 (some (-1))
 else
 ((if a1 < a0 then
 (some 1)
 else
 ((some 0))))))))
def mK  : List Int->Nat->Unit->Option (Int)
 | [],v2,()=>
  (some 0)
 | x5::xs,v2,()=>
  (if x5=0 then
  ((((mK xs (v2+1)) ())))
  else
  (some x5))
def pQ (N:Nat) (a0:(List Int)):Option (Int):=
 (mK a0 0 ())
def dI (N:Nat) (a0:ae) (a1:ae):Option (Int):=
 (iO N a0.e0 a1.e0).bind fun r1=>
 (iO N a0.e1 a1.e1).bind fun r2=>
 (pQ N [r1,r2]).bind fun r3=>
 some r3
def bG (kx6:Option ((List ae))) (rec2:Int->Option ((List ae))) (v1:Int) (c11:Bool):Option ((List ae)):=
 if c11=true then
 (kx6)
 else
 (((rec2 (IntKind.i64.wrap (v1+1)))))
def bH (a0:(List ae)) (v1:Int):Option ((List ae)):=
 gx a0 (IntKind.i64.wrap (v1 - 1)) fun x13=>
 gx a0 v1 fun x14=>
 none
def bF (a1:Int) (v1:Int) (a0:(List ae)) (N:Nat) (rec2:Int->Option ((List ae))):Nat->Unit->Option ((List ae))
 | 0,_=>none
 | n+1,()=>
  if a1 < v1 then
  (gx a0 v1 fun x8=>
  gx a0 (IntKind.i64.wrap (v1 - 1)) fun x9=>
  (dI N x8 x9).bind fun r10=>
  ((bG (bH a0 v1) rec2 v1) (decide (r10 < 0))))
  else
  (((bG (bH a0 v1) rec2 v1) false))
def aI (a2:Int) (a1:Int) (a0:(List ae)) (N:Nat):Nat->Int->Option ((List ae))
 | 0,_=>none
 | n+1,v1=>
  if v1 < a2 then
  (((bF a1 v1 a0 N (aI a2 a1 a0 N n) N ())))
  else
  (some a0)
def av (N:Nat) (a0:(List ae)) (a1:Int) (a2:Int):Option ((List ae)):=
 lenM (fun r=>r) a0 (
 (aI a2 a1 a0 N N (IntKind.i64.wrap (a1+1))))
def bi (a2:Int) (a1:Int) (N:Nat) (a0:(List ae)) (a3:Int):Nat->Unit->Option ((List ae))
 | 0,_=>none
 | n+1,()=>
  if (IntKind.i64.wrap (a2 - a1))<=12 then
  ((av N a0 a1 a2).bind fun r3=>
  some r3)
  else
  ((if a3=0 then
  (none)
  else
  (((none)))))
def ay (N:Nat) (a0:(List ae)) (a1:Int) (a2:Int) (a3:Int):Option ((List ae)):=
 lenM (fun r=>r) a0 (
 (bi a2 a1 N a0 a3 N ()))
def aA (N:Nat) (a0:(List ae)):Option ((List ae)):=
 lenM (fun r=>r) a0 (
 (j6 N (IntKind.u64.wrap ((a0.length:Nat):Int))).bind fun r1=>
 (ay N a0 0 ((a0.length:Nat):Int) r1).bind fun r2=>
 some r2)
noncomputable def aF (N:Nat) (a0:(List ae)):Option (List ae):=if a0.isEmpty=true then aA N a0  else sortM (fun x y=>dI N x y ) a0
def eo (a0:(List ae)) (v3:Nat) (kx11:(List ae)->Int->Option ((List ae))):Nat->List ae × Int × Int->Option ((List ae))
 | 0,_=>none
 | n+1,(l12,v13,v14)=>
  if v14 < (((a0.length - v3):Nat):Int) then
  ((gx ((l12.drop v3).take (a0.length - v3)) v14 fun x18=>
  gx ((l12.drop v3).take (a0.length - v3)) (IntKind.i64.wrap (v14 - 1)) fun x19=>
  if (decide (x18.e0=x19.e0) && decide (x18.e1=x19.e1))=true then
  ((((eo a0 v3 kx11 n) (l12,v13,IntKind.i64.wrap (v14+1)))))
  else
  (gx l12 v13 fun x20=>
  (((eo a0 v3 kx11 n) ((l12.set ((v13).toNat) x18),(IntKind.i64.wrap (v13+1)),IntKind.i64.wrap (v14+1)))))))
  else
  ((kx11 l12 v13))
def gl (l23:List ae) (v24:Int):Option ((List ae)):=
 slx l23 v24 ((l23.length:Nat):Int) fun l25=>
 slx (clrL (ae.mk 0 0) (v24).toNat l23) 0 v24 fun l26=>
 some ((clrL (ae.mk 0 0) (v24).toNat l23).take ((v24).toNat))
def eW (a0:(List ae)) (N:Nat):Nat->Nat->Unit->Option ((List ae))
 | 0,v3,()=>
  (some a0)
 | m+1,v3,()=>
  (gx a0 ((v3:Nat):Int) fun x8=>
  gx a0 (IntKind.i64.wrap (((v3:Nat):Int) - 1)) fun x9=>
  if (decide (x8.e0=x9.e0) && decide (x8.e1=x9.e1))=true then
  (slx a0 ((v3:Nat):Int) ((a0.length:Nat):Int) fun l10=>
  (eo a0 v3 gl N (a0,((v3:Nat):Int),1)))
  else
  ((((eW a0 N m (v3+1)) ()))))
def gj (N:Nat) (a0:(List ae)):Option ((List ae)):=
 if ((a0.length:Nat):Int) < 2 then
 (some a0)
 else
 (((eW a0 N (a0.length - 1) 1 ())))
noncomputable def bZ (N:Nat) (a0:(List ah)):Option ((List ae)):=
 (dw N a0).bind fun r1=>
 if 0<=r1.2 then
 (some [])
 else
 (((aF N r1.1.deps).bind fun r3=>
 (gj N r3).bind fun r4=>
 some r4))
def eb (N:Nat) (a0:af) (a1:Int):Option (Int):=
 (aM N a0.aborted a1).bind fun r2=>
 if r2=true then
 (some 4)
 else
 ((aM N a0.committed a1).bind fun r3=>
 if r3=true then
 (some 3)
 else
 ((fc N a0 a1).bind fun r4=>
 if r4=true then
 (some 2)
 else
 ((aM N a0.known a1).bind fun r5=>
 if r5=true then
 (some 1)
 else
 ((some 0)))))
def d6 (N:Nat) (a0:(List ah)) (a1:Int):Option (Int):=
 (dw N a0).bind fun r1=>
 if 0<=r1.2 then
 (some 0)
 else
 (((eb N r1.1 a1).bind fun r3=>
 some r3))
def eT (N:Nat) (a0:(List ah)) (a1:Int):Option ((List Int)):=
 (dw N a0).bind fun r1=>
 if 0<=r1.2 then
 (some [])
 else
 (((ju N r1.1 a1).bind fun r3=>
 some r3))
def bq (N:Nat) (k1_0_0:(List ag)) (k1_0_1:(List ae)) (k1_0_2:(List Int)) (k1_0_3:(List Int)) (k1_0_4:(List Int)) (k1_0_5:(List ae)):List Int->Nat->Unit->Option (Int)
 | [],v2,()=>
  (some (-1))
 | x5::xs,v2,()=>
  ((ee N (af.mk k1_0_0 k1_0_1 k1_0_2 k1_0_3 k1_0_4 k1_0_5) x5).bind fun r8=>
  if r8=true then
  (some ((v2:Nat):Int))
  else
  ((((bq N k1_0_0 k1_0_1 k1_0_2 k1_0_3 k1_0_4 k1_0_5 xs (v2+1)) ()))))
def bJ (N:Nat) (a0:(List Int)) (k1_0_0:(List ag)) (k1_0_1:(List ae)) (k1_0_2:(List Int)) (k1_0_3:(List Int)) (k1_0_4:(List Int)) (k1_0_5:(List ae)):Option (Int):=
 (bq N k1_0_0 k1_0_1 k1_0_2 k1_0_3 k1_0_4 k1_0_5 a0 0 ())
def j8 (N:Nat) (a0:List Int) (a1:Int) (a2:Int):Option (List Int):=delM a0 a1 a2 fun l=>some l
def d8 (kx3:(List Int)->Option ((List Int) × (List Int))) (N:Nat) (r1:af × Int):List Int->Nat->List Int->Option ((List Int) × (List Int))
 | [],v5,l4=>
  (kx3 l4)
 | x8::xs,v5,l4=>
  ((eb N r1.1 x8).bind fun r11=>
  if r11=1 then
  (apx 7 l4 [x8] fun l12=>
  (((d8 kx3 N r1 xs (v5+1)) l12)))
  else
  ((((d8 kx3 N r1 xs (v5+1)) l4))))
def lH (l19:List Int) (x23:Int) (rec21:List Int->Option ((List Int) × (List Int))) (c29:Bool):Option ((List Int) × (List Int)):=
 if c29=true then
 (apx 7 l19 [x23] fun l30=>
 ((rec21 l30)))
 else
 (((rec21 l19)))
def dJ (kx18:(List Int)->Option ((List Int) × (List Int))) (N:Nat) (r16:(List Int)) (r17:af):List Int->Nat->List Int->Option ((List Int) × (List Int))
 | [],v20,l19=>
  (kx18 l19)
 | x23::xs,v20,l19=>
  ((aM N r16 x23).bind fun r27=>
  if r27=true then
  (((lH l19 x23 (dJ kx18 N r16 r17 xs (v20+1))) false))
  else
  ((eb N r17 x23).bind fun r28=>
  ((lH l19 x23 (dJ kx18 N r16 r17 xs (v20+1))) (decide (r28=2)))))
def gP (N:Nat) (r16:(List Int)):Nat->List ag × List ae × List Int × List Int × List Int × List ae × List Int × List Int->Option ((List Int) × (List Int))
 | 0,_=>none
 | n+1,(l35,l36,l37,l38,l39,l40,l41,l42)=>
  if 0 < ((l42.length:Nat):Int) then
  (((bJ N l42 l35 l36 l37 l38 l39 l40).bind fun r45=>
  if r45 < 0 then
  ((some (l41,r16)))
  else
  ((gx l42 r45 fun x47=>
  apx 7 l41 [x47] fun l48=>
  slx l42 r45 (IntKind.i64.wrap (r45+1)) fun l49=>
  (bY N (af.mk l35 l36 l37 l38 l39 l40) ((l42.drop ((r45).toNat)).take ((IntKind.i64.wrap (r45+1)).toNat - (r45).toNat))).bind fun r50=>
  (j8 N l42 r45 (IntKind.i64.wrap (r45+1))).bind fun r51=>
  ((gP N r16 n) (r50.stacks,r50.prepared,r50.known,r50.committed,r50.aborted,r50.deps,l48,r51))))))
  else
  ((some (l41,r16)))
def gW (N:Nat) (r16:(List Int)) (r17:af) (l32:List Int):Option ((List Int) × (List Int)):=
 (slices_Sort_int N l32).bind fun r33=>
 (gP N r16 N (r17.stacks,r17.prepared,r17.known,r17.committed,r17.aborted,r17.deps,[],r33))
def lP (N:Nat) (r1:af × Int) (l14:List Int):Option ((List Int) × (List Int)):=
 (bU N r1.1.deps l14).bind fun r15=>
 (aL N r15 r1.1.stacks r1.1.prepared r1.1.known r1.1.committed r1.1.aborted r1.1.deps).bind fun r16=>
 (bY N r1.1 r16).bind fun r17=>
 (dJ (gW N r16 r17) N r16 r17 r17.known 0 [])
def du (N:Nat) (a0:(List ah)):Option ((List Int) × (List Int)):=
 (dw N a0).bind fun r1=>
 if 0<=r1.2 then
 (some ([],[]))
 else
 (((d8 (lP N r1) N r1 r1.1.known 0 [])))
def gu (N:Nat) (a0:(List ah)):Option (Int × Bool):=
 (dw N a0).bind fun r2=>
 if 0<=r2.2 then
 (some (r2.2,false))
 else
 ((some (0,true)))
def eU (N:Nat) (a0:(List ah)):Option ((List Int)):=
 (dw N a0).bind fun r1=>
 if 0<=r1.2 then
 (some [])
 else
 ((some r1.1.committed))
noncomputable def jn (kx2:Option (Bool)) (c8:Bool):Option (Bool):=
 if c8=true then
 (some false)
 else
 (kx2)
noncomputable def kE (kx10:Option (Bool)) (c14:Bool):Option (Bool):=
 if c14=true then
 (some false)
 else
 (kx10)
noncomputable def oH (kx15:Option (Bool)) (c19:Bool):Option (Bool):=
 if c19=true then
 (some false)
 else
 (kx15)
noncomputable def ow (N:Nat):Option (Bool):=
 apx 23 [(ah.mk 1 1 1),(ah.mk 2 1 1),(ah.mk 1 2 1)] [(ah.mk 3 1 0)] fun l20=>
 (eU N l20).bind fun r21=>
 if ((r21.length:Nat):Int)=1 then
 (gx r21 0 fun x23=>
 if x23=1 then
 (apx 23 [(ah.mk 1 1 1),(ah.mk 2 1 1),(ah.mk 1 2 1)] [(ah.mk 4 1 0)] fun l24=>
 (d6 N l24 2).bind fun r25=>
 (some (decide (r25=4))))
 else
 ((some false)))
 else
 ((some false))
noncomputable def kF (N:Nat) (r1:(List ae)):Option (Bool):=
 (gu N [(ah.mk 1 1 1),(ah.mk 2 1 1),(ah.mk 1 2 1)]).bind fun r16=>
 if r16.2=true then
 ((bU N r1 [1]).bind fun r18=>
 ((oH (ow N)) (!decide (((r18.length:Nat):Int)=2))))
 else
 (((oH (ow N)) true))
noncomputable def jx (N:Nat) (r1:(List ae)):Option (Bool):=
 (du N [(ah.mk 1 1 1),(ah.mk 2 1 1),(ah.mk 1 2 1)]).bind fun r9=>
 if ((r9.1.length:Nat):Int)=1 then
 (gx r9.1 0 fun x12=>
 if x12=1 then
 (if ((r9.2.length:Nat):Int)=1 then
 (gx r9.2 0 fun x13=>
 ((kE (kF N r1)) (!decide (x13=2))))
 else
 (((kE (kF N r1)) true)))
 else
 (((kE (kF N r1)) true)))
 else
 (((kE (kF N r1)) true))
noncomputable def mR (N:Nat)  : Option (Bool):=
 (bZ N [(ah.mk 1 1 1),(ah.mk 2 1 1),(ah.mk 1 2 1)]).bind fun r1=>
 if ((r1.length:Nat):Int)=1 then
 (gx r1 0 fun x4=>
 if (decide (x4.e0=2) && decide (x4.e1=1))=true then
 ((d6 N [(ah.mk 1 1 1),(ah.mk 2 1 1),(ah.mk 1 2 1)] 1).bind fun r5=>
 if r5=2 then
 ((d6 N [(ah.mk 1 1 1),(ah.mk 2 1 1),(ah.mk 1 2 1)] 2).bind fun r6=>
 if r6=1 then
 ((eT N [(ah.mk 1 1 1),(ah.mk 2 1 1),(ah.mk 1 2 1)] 1).bind fun r7=>
 ((jn (jx N r1)) (!decide (((r7.length:Nat):Int)=2))))
 else
 (((jn (jx N r1)) true)))
 else
 (((jn (jx N r1)) true)))
 else
 (((jn (jx N r1)) true)))
 else
 (((jn (jx N r1)) true))
def i5 (N:Nat) (a0:Int):Option (Bool):=
 if 1<=a0 then
 ((some (decide (a0<=1099511627776))))
 else
 ((some false))
def fV (a1:Int):List Int->Nat->Unit->Option (Bool)
 | [],v2,()=>
  (some false)
 | x5::xs,v2,()=>
  (if x5=a1 then
  (some true)
  else
  ((((fV a1 xs (v2+1)) ()))))
def bc (N:Nat) (a0:(List Int)) (a1:Int):Option (Bool):=
 (fV a1 a0 0 ())
def fw (a0:ac) (a1:Int):Nat->Int->Option (Int)
 | 0,_=>none
 | n+1,v2=>
  if v2 < ((a0.piles.length:Nat):Int) then
  ((gx a0.piles v2 fun x6=>
  if x6.actor=a1 then
  (some v2)
  else
  ((((fw a0 a1 n) (IntKind.i64.wrap (v2+1)))))))
  else
  ((some (-1)))
def eH (N:Nat) (a0:ac) (a1:Int):Option (Int):=
 (fw a0 a1 N 0)
def jQ (rec3:Int->Option ((List ae))) (v2:Int) (kx1:Int->Option ((List ae))) (c7:Bool):Option ((List ae)):=
 if c7=true then
 (((rec3 (IntKind.i64.wrap (v2 - 1)))))
 else
 ((kx1 v2))
def eF (a0:(List ae)) (a1:ae) (kx1:Int->Option ((List ae))):Nat->Int->Option ((List ae))
 | 0,_=>none
 | n+1,v2=>
  if 0 < v2 then
  (gx a0 (IntKind.i64.wrap (v2 - 1)) fun x6=>
  if a1.e0 < x6.e0 then
  (((jQ (eF a0 a1 kx1 n) v2 kx1) true))
  else
  (if x6.e0=a1.e0 then
  (((jQ (eF a0 a1 kx1 n) v2 kx1) (decide (a1.e1<=x6.e1))))
  else
  (((jQ (eF a0 a1 kx1 n) v2 kx1) false))))
  else
  (((jQ (eF a0 a1 kx1 n) v2 kx1) false))
def lA (a0:(List ae)) (kx9:Option ((List ae))) (c12:Bool):Option ((List ae)):=
 if c12=true then
 (some a0)
 else
 (kx9)
def lD (a0:(List ae)) (v8:Int) (a1:ae):Option ((List ae)):=
 slx a0 v8 ((a0.length:Nat):Int) fun l13=>
 apn 15 ((a0.drop ((v8).toNat)).take (a0.length - (v8).toNat)) <|
 slt a0 v8 fun l14=>
 apx 15 (a0.take ((v8).toNat)) [a1] fun l15=>
 apx 15 l15 ((a0.drop ((v8).toNat)).take (a0.length - (v8).toNat)) fun l16=>
 some l16
def mX (a0:(List ae)) (a1:ae) (v8:Int):Option ((List ae)):=
 if v8 < ((a0.length:Nat):Int) then
 (gx a0 v8 fun x11=>
 ((lA a0 (lD a0 v8 a1)) (decide (x11.e0=a1.e0) && decide (x11.e1=a1.e1))))
 else
 (((lA a0 (lD a0 v8 a1)) false))
def l8 (N:Nat) (a0:(List ae)) (a1:ae):Option ((List ae)):=
 (eF a0 a1 (mX a0 a1) N ((a0.length:Nat):Int))
def iw (l6:List aa) (a0:ac) (kx9:Option (Bool × ac)) (c12:Bool):Option (Bool × ac):=
 if c12=true then
 (some (true,(ac.mk l6 a0.seen a0.deps a0.committed a0.aborted a0.prepared)))
 else
 (kx9)
def ig (l6:List aa) (a0:ac) (kx13:Option (Bool × ac)) (c16:Bool):Option (Bool × ac):=
 if c16=true then
 (some (false,(ac.mk l6 a0.seen a0.deps a0.committed a0.aborted a0.prepared)))
 else
 (kx13)
def iz (x8:aa) (a1:ah) (l6:List aa) (v7:Int) (a0:ac) (l20:List ae):Option (Bool × ac):=
 apx 7 x8.txns [a1.Txn] fun l21=>
 apx 0 x8.prepared [false] fun l22=>
 some (true,(ac.mk (l6.set ((v7).toNat) (aa.mk x8.actor l21 l22)) a0.seen l20 a0.committed a0.aborted a0.prepared))
def iy (x8:aa) (N:Nat) (a0:ac) (a1:ah) (l6:List aa) (v7:Int):Option (Bool × ac):=
 if 0 < ((x8.txns.length:Nat):Int) then
 (gx x8.txns (IntKind.i64.wrap (((x8.txns.length:Nat):Int) - 1)) fun x18=>
 (l8 N a0.deps (ae.mk a1.Txn x18)).bind fun r19=>
 ((iz x8 a1 l6 v7 a0) r19))
 else
 (((iz x8 a1 l6 v7 a0) a0.deps))
def ir (x8:aa) (l6:List aa) (a0:ac) (N:Nat) (a1:ah) (v7:Int):Option (Bool × ac):=
 if 0 < ((x8.txns.length:Nat):Int) then
 (gx x8.prepared (IntKind.i64.wrap (((x8.txns.length:Nat):Int) - 1)) fun x15=>
 ((ig l6 a0 (iy x8 N a0 a1 l6 v7)) (!x15)))
 else
 (((ig l6 a0 (iy x8 N a0 a1 l6 v7)) false))
def fu (a0:ac) (N:Nat) (a1:ah) (l6:List aa) (v7:Int):Option (Bool × ac):=
 gx l6 v7 fun x8=>
 if 0 < ((x8.txns.length:Nat):Int) then
 (gx x8.txns (IntKind.i64.wrap (((x8.txns.length:Nat):Int) - 1)) fun x11=>
 ((iw l6 a0 (ir x8 l6 a0 N a1 v7)) (decide (x11=a1.Txn))))
 else
 (((iw l6 a0 (ir x8 l6 a0 N a1 v7)) false))
def gQ (N:Nat) (a0:ac) (a1:ah):Option (Bool × ac):=
 (bc N a0.prepared a1.Txn).bind fun r2=>
 if r2=true then
 (some (false,a0))
 else
 (((eH N a0 a1.Actor).bind fun r3=>
 if r3 < 0 then
 (apx 55 a0.piles [(aa.mk a1.Actor [] [])] fun l5=>
 ((fu a0 N a1) l5 (IntKind.i64.wrap (((l5.length:Nat):Int) - 1))))
 else
 (((fu a0 N a1) a0.piles r3))))
def jm (a1:Int):List Int->Nat->Unit->Option (Int)
 | [],v2,()=>
  (some (-1))
 | x5::xs,v2,()=>
  (if x5=a1 then
  (some ((v2:Nat):Int))
  else
  ((((jm a1 xs (v2+1)) ()))))
def j4 (N:Nat) (a0:aa) (a1:Int):Option (Int):=
 (jm a1 a0.txns 0 ())
def fI (a0:ac) (kx5:Option (Bool × ac)) (c8:Bool):Option (Bool × ac):=
 if c8=true then
 (some (false,a0))
 else
 (kx5)
def iT (a0:ac) (r1:Int) (x3:aa) (r4:Int) (N:Nat) (a1:ah):Option (Bool × ac):=
 gx a0.piles r1 fun x9=>
 gx x3.prepared r4 fun x10=>
 (bc N a0.prepared a1.Txn).bind fun r12=>
 if r12=true then
 ((some (true,(ac.mk (a0.piles.set ((r1).toNat) (aa.mk x3.actor x3.txns (x3.prepared.set ((r4).toNat) true))) a0.seen a0.deps a0.committed a0.aborted a0.prepared))))
 else
 (apx 7 a0.prepared [a1.Txn] fun l13=>
 (some (true,(ac.mk (a0.piles.set ((r1).toNat) (aa.mk x3.actor x3.txns (x3.prepared.set ((r4).toNat) true))) a0.seen a0.deps a0.committed a0.aborted l13))))
def fo (N:Nat) (a0:ac) (a1:ah):Option (Bool × ac):=
 (eH N a0 a1.Actor).bind fun r1=>
 if r1 < 0 then
 (some (false,a0))
 else
 ((gx a0.piles r1 fun x3=>
 (j4 N x3 a1.Txn).bind fun r4=>
 if r4 < 0 then
 (((fI a0 (iT a0 r1 x3 r4 N a1)) true))
 else
 (gx x3.prepared r4 fun x7=>
 ((fI a0 (iT a0 r1 x3 r4 N a1)) x7))))
def iE (rec5:(Bool × Bool × Int)->Option (Bool)) (v4:Int) (c13:Bool) (c14:Bool):Option (Bool):=
 if c14=true then
 (some false)
 else
 (((rec5 (c13,true,IntKind.i64.wrap (v4+1)))))
def dF (a0:ac) (N:Nat) (a1:Int):Nat->Bool × Bool × Int->Option (Bool)
 | 0,_=>none
 | n+1,(c2,c3,v4)=>
  if v4 < ((a0.piles.length:Nat):Int) then
  ((gx a0.piles v4 fun x8=>
  (j4 N x8 a1).bind fun r9=>
  if r9 < 0 then
  ((((dF a0 N a1 n) (c2,c3,IntKind.i64.wrap (v4+1)))))
  else
  ((gx x8.prepared r9 fun x12=>
  if x12=true then
  (if c2=true then
  (((iE (dF a0 N a1 n) v4) true (decide (0 < r9))))
  else
  (((iE (dF a0 N a1 n) v4) false false)))
  else
  (((iE (dF a0 N a1 n) v4) c2 true))))))
  else
  ((some c3))
def eY (N:Nat) (a0:ac) (a1:Int) (a2:Bool):Option (Bool):=
 (dF a0 N a1 N (a2,false,0))
def eA (N:Nat) (a1:Int) (a0:ac):Nat->List aa × Int->Option (ac)
 | 0,_=>none
 | n+1,(l1,v2)=>
  if v2 < ((l1.length:Nat):Int) then
  ((gx l1 v2 fun x6=>
  (j4 N x6 a1).bind fun r7=>
  if r7 < 0 then
  ((((eA N a1 a0 n) (l1,IntKind.i64.wrap (v2+1)))))
  else
  ((slt x6.txns r7 fun l9=>
  slx x6.txns (IntKind.i64.wrap (r7+1)) ((x6.txns.length:Nat):Int) fun l10=>
  apx 7 (x6.txns.take ((r7).toNat)) ((x6.txns.drop ((IntKind.i64.wrap (r7+1)).toNat)).take (x6.txns.length - (IntKind.i64.wrap (r7+1)).toNat)) fun l11=>
  slt x6.prepared r7 fun l12=>
  slx x6.prepared (IntKind.i64.wrap (r7+1)) ((x6.prepared.length:Nat):Int) fun l13=>
  apx 0 (x6.prepared.take ((r7).toNat)) ((x6.prepared.drop ((IntKind.i64.wrap (r7+1)).toNat)).take (x6.prepared.length - (IntKind.i64.wrap (r7+1)).toNat)) fun l14=>
  (((eA N a1 a0 n) ((l1.set ((v2).toNat) (aa.mk x6.actor l11 l14)),IntKind.i64.wrap (v2+1))))))))
  else
  (some (ac.mk l1 a0.seen a0.deps a0.committed a0.aborted a0.prepared))
def dG (N:Nat) (a0:ac) (a1:Int):Option (ac):=
 (eA N a1 a0 N (a0.piles,0))
def fP (N:Nat) (a0:ac) (a1:Int):Option (Bool × ac):=
 (eY N a0 a1 true).bind fun r2=>
 if r2=true then
 (((dG N a0 a1).bind fun r3=>
 apx 7 r3.committed [a1] fun l4=>
 some (true,(ac.mk r3.piles r3.seen r3.deps l4 r3.aborted r3.prepared))))
 else
 (some (false,a0))
def mZ (rec3:Int->Option ((List Int))) (v2:Int) (kx1:Int->Option ((List Int))) (c7:Bool):Option ((List Int)):=
 if c7=true then
 (((rec3 (IntKind.i64.wrap (v2 - 1)))))
 else
 ((kx1 v2))
def iL (a0:(List Int)) (kx1:Int->Option ((List Int))) (a1:Int):Nat->Int->Option ((List Int))
 | 0,_=>none
 | n+1,v2=>
  if 0 < v2 then
  (gx a0 (IntKind.i64.wrap (v2 - 1)) fun x6=>
  ((mZ (iL a0 kx1 a1 n) v2 kx1) (decide (a1<=x6))))
  else
  (((mZ (iL a0 kx1 a1 n) v2 kx1) false))
def lI (a0:(List Int)) (kx9:Option ((List Int))) (c12:Bool):Option ((List Int)):=
 if c12=true then
 (some a0)
 else
 (kx9)
def lK (a0:(List Int)) (v8:Int) (a1:Int):Option ((List Int)):=
 slx a0 v8 ((a0.length:Nat):Int) fun l13=>
 apn 7 ((a0.drop ((v8).toNat)).take (a0.length - (v8).toNat)) <|
 slt a0 v8 fun l14=>
 apx 7 (a0.take ((v8).toNat)) [a1] fun l15=>
 apx 7 l15 ((a0.drop ((v8).toNat)).take (a0.length - (v8).toNat)) fun l16=>
 some l16
def mV (a0:(List Int)) (a1:Int) (v8:Int):Option ((List Int)):=
 if v8 < ((a0.length:Nat):Int) then
 (gx a0 v8 fun x11=>
 ((lI a0 (lK a0 v8 a1)) (decide (x11=a1))))
 else
 (((lI a0 (lK a0 v8 a1)) false))
def iK (N:Nat) (a0:(List Int)) (a1:Int):Option ((List Int)):=
 (iL a0 (mV a0 a1) a1 N ((a0.length:Nat):Int))
def jk (kx1:(List Int)->Option ((List Int))) (N:Nat):List Int->Nat->List Int->Option ((List Int))
 | [],v3,l2=>
  (kx1 l2)
 | x6::xs,v3,l2=>
  ((iK N l2 x6).bind fun r9=>
  (((jk kx1 N xs (v3+1)) r9)))
def jo (N:Nat) (l16:List Int) (x21:ae) (rec19:(List Int × Bool)->Option ((List Int))) (c17:Bool) (c27:Bool):Option ((List Int)):=
 if c27=true then
 ((iK N l16 x21.e0).bind fun r28=>
 ((rec19 (r28,true))))
 else
 (((rec19 (l16,c17))))
def fy (rec14:(List Int × Bool)->Option ((List Int))) (N:Nat):List ae->Nat->List Int × Bool->Option ((List Int))
 | [],v18,(l16,c17)=>
  (rec14 (l16,c17))
 | x21::xs,v18,(l16,c17)=>
  ((bc N l16 x21.e1).bind fun r25=>
  if r25=true then
  ((bc N l16 x21.e0).bind fun r26=>
  ((jo N l16 x21 (fy rec14 N xs (v18+1)) c17) (!r26)))
  else
  (((jo N l16 x21 (fy rec14 N xs (v18+1)) c17) false)))
def fB (N:Nat) (a0:(List ae)):Nat->List Int × Bool->Option ((List Int))
 | 0,_=>none
 | n+1,(l12,c13)=>
  if c13=true then
  (((fy (fB N a0 n) N a0 0 (l12,false))))
  else
  ((some l12))
def mD (N:Nat) (a0:(List ae)) (l10:List Int):Option ((List Int)):=
 (fB N a0 N (l10,true))
def eS (N:Nat) (a0:(List ae)) (a1:(List Int)):Option ((List Int)):=
 (jk (mD N a0) N a1 0 [])
def jE (N:Nat) (l2:List aa) (l3:List Int) (l4:List ae) (l5:List Int) (l6:List Int) (l7:List Int) (x11:Int) (rec9:(List aa × List Int × List ae × List Int × List Int × List Int)->Option (ac)) (c17:Bool):Option (ac):=
 if c17=true then
 ((dG N (ac.mk l2 l3 l4 l5 l6 l7) x11).bind fun r18=>
 apx 7 r18.aborted [x11] fun l19=>
 ((rec9 (r18.piles,r18.seen,r18.deps,r18.committed,l19,r18.prepared))))
 else
 (((rec9 (l2,l3,l4,l5,l6,l7))))
def b8 (N:Nat):List Int->Nat->List aa × List Int × List ae × List Int × List Int × List Int->Option (ac)
 | [],v8,(l2,l3,l4,l5,l6,l7)=>
  some (ac.mk l2 l3 l4 l5 l6 l7)
 | x11::xs,v8,(l2,l3,l4,l5,l6,l7)=>
  ((bc N l5 x11).bind fun r15=>
  if r15=true then
  (((jE N l2 l3 l4 l5 l6 l7 x11 (b8 N xs (v8+1))) false))
  else
  ((bc N l6 x11).bind fun r16=>
  ((jE N l2 l3 l4 l5 l6 l7 x11 (b8 N xs (v8+1))) (!r16))))
def gh (N:Nat) (a0:ac) (a1:Int):Option (ac):=
 (eS N a0.deps [a1]).bind fun r1=>
 (b8 N r1 0 (a0.piles,a0.seen,a0.deps,a0.committed,a0.aborted,a0.prepared))
def dQ (a0:ac) (kx1:Option (Bool × ac)) (c6:Bool):Option (Bool × ac):=
 if c6=true then
 (some (false,a0))
 else
 (kx1)
def im (l15:List Int) (a1:ah) (l14:List aa) (l16:List ae) (l17:List Int) (l18:List Int) (l19:List Int) (c24:Bool) (c25:Bool):Option (Bool × ac):=
 if c25=true then
 (apx 7 l15 [a1.Txn] fun l26=>
 (some (c24,(ac.mk l14 l26 l16 l17 l18 l19))))
 else
 ((some (c24,(ac.mk l14 l15 l16 l17 l18 l19))))
def aN (N:Nat) (a1:ah) (l14:List aa) (l15:List Int) (l16:List ae) (l17:List Int) (l18:List Int) (l19:List Int) (c20:Bool):Option (Bool × ac):=
 if c20=true then
 ((bc N l15 a1.Txn).bind fun r23=>
 ((im l15 a1 l14 l16 l17 l18 l19) true (!r23)))
 else
 (((im l15 a1 l14 l16 l17 l18 l19) false false))
def iq (a1:ah) (N:Nat) (a0:ac):Option (Bool × ac):=
 if a1.Kind=1 then
 ((i5 N a1.Actor).bind fun r8=>
 if r8=true then
 ((gQ N a0 a1).bind fun r9=>
 ((aN N a1) r9.2.piles r9.2.seen r9.2.deps r9.2.committed r9.2.aborted r9.2.prepared r9.1))
 else
 (((aN N a1) a0.piles a0.seen a0.deps a0.committed a0.aborted a0.prepared false)))
 else
 (if a1.Kind=2 then
 ((i5 N a1.Actor).bind fun r10=>
 if r10=true then
 ((fo N a0 a1).bind fun r11=>
 ((aN N a1) r11.2.piles r11.2.seen r11.2.deps r11.2.committed r11.2.aborted r11.2.prepared r11.1))
 else
 (((aN N a1) a0.piles a0.seen a0.deps a0.committed a0.aborted a0.prepared false)))
 else
 (if a1.Kind=3 then
 (if a1.Actor=0 then
 ((fP N a0 a1.Txn).bind fun r12=>
 ((aN N a1) r12.2.piles r12.2.seen r12.2.deps r12.2.committed r12.2.aborted r12.2.prepared r12.1))
 else
 (((aN N a1) a0.piles a0.seen a0.deps a0.committed a0.aborted a0.prepared false)))
 else
 (if a1.Kind=4 then
 (if a1.Actor=0 then
 ((gh N a0 a1.Txn).bind fun r13=>
 ((aN N a1) r13.piles r13.seen r13.deps r13.committed r13.aborted r13.prepared true))
 else
 (((aN N a1) a0.piles a0.seen a0.deps a0.committed a0.aborted a0.prepared false)))
 else
 (((aN N a1) a0.piles a0.seen a0.deps a0.committed a0.aborted a0.prepared false)))))
def fG (N:Nat) (a0:ac) (a1:ah):Option (Bool × ac):=
 (i5 N a1.Txn).bind fun r3=>
 if r3=true then
 ((bc N a0.committed a1.Txn).bind fun r4=>
 if r4=true then
 (((dQ a0 (iq a1 N a0)) true))
 else
 ((bc N a0.aborted a1.Txn).bind fun r5=>
 ((dQ a0 (iq a1 N a0)) r5)))
 else
 (((dQ a0 (iq a1 N a0)) true))
def gK (N:Nat):List ah->Nat->List aa × List Int × List ae × List Int × List Int × List Int->Option (ac × Int × Bool)
 | [],v8,(l2,l3,l4,l5,l6,l7)=>
  (some ((ac.mk l2 l3 l4 l5 l6 l7),0,true))
 | x11::xs,v8,(l2,l3,l4,l5,l6,l7)=>
  ((fG N (ac.mk l2 l3 l4 l5 l6 l7) x11).bind fun r14=>
  if r14.1=true then
  ((((gK N xs (v8+1)) (r14.2.piles,r14.2.seen,r14.2.deps,r14.2.committed,r14.2.aborted,r14.2.prepared))))
  else
  (some (r14.2,((v8:Nat):Int),false)))
def eu (N:Nat) (a0:(List ah)):Option (ac × Int × Bool):=
 (gK N a0 0 ([],[],[],[],[],[]))
def ky (N:Nat) (a0:(List ah)):Option (Int × Bool):=
 (eu N a0).bind fun r1=>
 some (r1.2.1,r1.2.2)
def eL (N:Nat) (a0:ac) (a1:Int):Option (Int):=
 (bc N a0.aborted a1).bind fun r2=>
 if r2=true then
 (some 4)
 else
 (((bc N a0.committed a1).bind fun r4=>
 if r4=true then
 (some 3)
 else
 (((eY N a0 a1 false).bind fun r6=>
 if r6=true then
 (some 2)
 else
 (((bc N a0.seen a1).bind fun r8=>
 if r8=true then
 (some 1)
 else
 ((some 0))))))))
def ei (kx3:(List Int)->(List Int)->Option ((List Int) × (List Int))) (N:Nat) (r1:ac × Int × Bool):List Int->Nat->List Int × List Int->Option ((List Int) × (List Int))
 | [],v6,(l4,l5)=>
  (kx3 l4 l5)
 | x9::xs,v6,(l4,l5)=>
  ((eL N r1.1 x9).bind fun r12=>
  if r12=1 then
  ((iK N l4 x9).bind fun r13=>
  (((ei kx3 N r1 xs (v6+1)) (r13,l5))))
  else
  (if r12=2 then
  ((iK N l5 x9).bind fun r14=>
  (((ei kx3 N r1 xs (v6+1)) (l4,r14))))
  else
  ((((ei kx3 N r1 xs (v6+1)) (l4,l5))))))
def jq (l27:List Int) (x31:Int) (N:Nat) (l21:List aa) (l22:List Int) (l23:List ae) (l24:List Int) (l25:List Int) (l26:List Int) (rec29:(List aa × List Int × List ae × List Int × List Int × List Int × List Int)->Option ((List Int) × (List Int))) (c37:Bool):Option ((List Int) × (List Int)):=
 if c37=true then
 (apx 7 l27 [x31] fun l38=>
 (dG N (ac.mk l21 l22 l23 l24 l25 l26) x31).bind fun r39=>
 ((rec29 (r39.piles,r39.seen,r39.deps,r39.committed,r39.aborted,r39.prepared,l38))))
 else
 (((rec29 (l21,l22,l23,l24,l25,l26,l27))))
def ek (kx20:(List aa)->(List Int)->(List ae)->(List Int)->(List Int)->(List Int)->(List Int)->Option ((List Int) × (List Int))) (N:Nat) (l17:List Int) (l18:List Int):List Int->Nat->List aa × List Int × List ae × List Int × List Int × List Int × List Int->Option ((List Int) × (List Int))
 | [],v28,(l21,l22,l23,l24,l25,l26,l27)=>
  (kx20 l21 l22 l23 l24 l25 l26 l27)
 | x31::xs,v28,(l21,l22,l23,l24,l25,l26,l27)=>
  ((bc N l17 x31).bind fun r35=>
  if r35=true then
  (((jq l27 x31 N l21 l22 l23 l24 l25 l26 (ek kx20 N l17 l18 xs (v28+1))) true))
  else
  ((bc N l18 x31).bind fun r36=>
  ((jq l27 x31 N l21 l22 l23 l24 l25 l26 (ek kx20 N l17 l18 xs (v28+1))) r36)))
def gF (rec63:(List aa × List Int × List ae × List Int × List Int × List Int × List Int × Int)->Option ((List Int) × (List Int))) (l55:List aa) (l56:List Int) (l57:List ae) (l58:List Int) (l59:List Int) (l60:List Int) (l61:List Int) (v62:Int) (kx66:Option ((List Int) × (List Int))) (c71:Bool):Option ((List Int) × (List Int)):=
 if c71=true then
 ((rec63 (l55,l56,l57,l58,l59,l60,l61,IntKind.i64.wrap (v62+1))))
 else
 (kx66)
def kR (l61:List Int) (x65:Int) (N:Nat) (l55:List aa) (l56:List Int) (l57:List ae) (l58:List Int) (l59:List Int) (l60:List Int) (rec63:(List aa × List Int × List ae × List Int × List Int × List Int × List Int × Int)->Option ((List Int) × (List Int))):Option ((List Int) × (List Int)):=
 apx 7 l61 [x65] fun l72=>
 (dG N (ac.mk l55 l56 l57 l58 l59 l60) x65).bind fun r73=>
 (rec63 (r73.piles,r73.seen,r73.deps,r73.committed,r73.aborted,r73.prepared,l72,0))
def dA (l18:List Int) (N:Nat) (l53:List Int):Nat->List aa × List Int × List ae × List Int × List Int × List Int × List Int × Int->Option ((List Int) × (List Int))
 | 0,_=>none
 | n+1,(l55,l56,l57,l58,l59,l60,l61,v62)=>
  if v62 < ((l18.length:Nat):Int) then
  ((gx l18 v62 fun x65=>
  (bc N l53 x65).bind fun r68=>
  if r68=true then
  (((gF (dA l18 N l53 n) l55 l56 l57 l58 l59 l60 l61 v62 (kR l61 x65 N l55 l56 l57 l58 l59 l60 (dA l18 N l53 n))) true))
  else
  ((bc N l61 x65).bind fun r69=>
  if r69=true then
  (((gF (dA l18 N l53 n) l55 l56 l57 l58 l59 l60 l61 v62 (kR l61 x65 N l55 l56 l57 l58 l59 l60 (dA l18 N l53 n))) true))
  else
  ((eY N (ac.mk l55 l56 l57 l58 l59 l60) x65 true).bind fun r70=>
  ((gF (dA l18 N l53 n) l55 l56 l57 l58 l59 l60 l61 v62 (kR l61 x65 N l55 l56 l57 l58 l59 l60 (dA l18 N l53 n))) (!r70))))))
  else
  ((some (l61,l53)))
def mE (l18:List Int) (N:Nat) (l47:List aa) (l48:List Int) (l49:List ae) (l50:List Int) (l51:List Int) (l52:List Int) (l53:List Int):Option ((List Int) × (List Int)):=
 (dA l18 N l53 N (l47,l48,l49,l50,l51,l52,[],0))
def gE (N:Nat) (r1:ac × Int × Bool) (l17:List Int) (l18:List Int):Option ((List Int) × (List Int)):=
 (eS N r1.1.deps l17).bind fun r19=>
 (ek (mE l18 N) N l17 l18 r19 0 (r1.1.piles,r1.1.seen,r1.1.deps,r1.1.committed,r1.1.aborted,r1.1.prepared,[]))
def gr (N:Nat) (a0:(List ah)):Option ((List Int) × (List Int)):=
 (eu N a0).bind fun r1=>
 if r1.2.2=true then
 (((ei (gE N r1) N r1 r1.1.seen 0 ([],[]))))
 else
 (some ([],[]))
def jr (a1:(List Int)):List Int->Nat->Unit->Option (Bool)
 | [],v3,()=>
  (some true)
 | x6::xs,v3,()=>
  (gx a1 ((v3:Nat):Int) fun x9=>
  if x6=x9 then
  ((((jr a1 xs (v3+1)) ())))
  else
  (some false))
def eQ (N:Nat) (a0:(List Int)) (a1:(List Int)):Option (Bool):=
 if ((a0.length:Nat):Int)=((a1.length:Nat):Int) then
 (((jr a1 a0 0 ())))
 else
 (some false)
def jJ (N:Nat) (a0:(List ah)) (a1:Int):Option (Int):=
 (eu N a0).bind fun r1=>
 if r1.2.2=true then
 (((eL N r1.1 a1).bind fun r3=>
 some r3))
 else
 (some 0)
def kq (N:Nat) (a0:(List ah)) (a1:Int):Option ((List Int)):=
 (eu N a0).bind fun r1=>
 if r1.2.2=true then
 (((eH N r1.1 a1).bind fun r3=>
 if r3 < 0 then
 (some [])
 else
 ((gx r1.1.piles r3 fun x5=>
 apn 7 x5.txns <|
 some x5.txns))))
 else
 (some [])
def d9 (N:Nat) (a0:(List ah)):Option ((List ae)):=
 (eu N a0).bind fun r1=>
 if r1.2.2=true then
 ((some r1.1.deps))
 else
 (some [])
def gS (a1:(List ae)):List ae->Nat->Unit->Option (Bool)
 | [],v3,()=>
  (some true)
 | x6::xs,v3,()=>
  (gx a1 ((v3:Nat):Int) fun x9=>
  if (decide (x6.e0=x9.e0) && decide (x6.e1=x9.e1))=true then
  ((((gS a1 xs (v3+1)) ())))
  else
  (some false))
def iN (N:Nat) (a0:(List ae)) (a1:(List ae)):Option (Bool):=
 if ((a0.length:Nat):Int)=((a1.length:Nat):Int) then
 (((gS a1 a0 0 ())))
 else
 (some false)
def jG (N:Nat) (a0:(List ah)):Option ((List Int)):=
 (eu N a0).bind fun r1=>
 if r1.2.2=true then
 ((some r1.1.committed))
 else
 (some [])
noncomputable def jv (kx5:Option (Bool)) (c9:Bool):Option (Bool):=
 if c9=true then
 (some false)
 else
 (kx5)
noncomputable def jh (N:Nat) (a0:(List ah)) (a1:Int) (a2:Int):Option (Bool):=
 (d6 N a0 a1).bind fun r11=>
 (jJ N a0 a1).bind fun r12=>
 if r11=r12 then
 ((eT N a0 a2).bind fun r13=>
 (kq N a0 a2).bind fun r14=>
 (eQ N r13 r14).bind fun r15=>
 if r15=true then
 ((bZ N a0).bind fun r16=>
 (d9 N a0).bind fun r17=>
 (iN N r16 r17).bind fun r18=>
 if r18=true then
 ((eU N a0).bind fun r19=>
 (jG N a0).bind fun r20=>
 (eQ N r19 r20).bind fun r21=>
 (some r21))
 else
 ((some false)))
 else
 ((some false)))
 else
 ((some false))
noncomputable def mP (N:Nat) (a0:(List ah)) (a1:Int) (a2:Int):Option (Bool):=
 (gu N a0).bind fun r1=>
 (ky N a0).bind fun r2=>
 (du N a0).bind fun r3=>
 (gr N a0).bind fun r4=>
 if r1.1=r2.1 then
 (if r1.2=r2.2 then
 ((eQ N r3.1 r4.1).bind fun r7=>
 if r7=true then
 ((eQ N r3.2 r4.2).bind fun r8=>
 ((jv (jh N a0 a1 a2)) (!r8)))
 else
 (((jv (jh N a0 a1 a2)) true)))
 else
 (((jv (jh N a0 a1 a2)) true)))
 else
 (((jv (jh N a0 a1 a2)) true))
noncomputable def jf (kx3:Option (Bool)) (c5:Bool):Option (Bool):=
 if c5=true then
 (some true)
 else
 (kx3)
noncomputable def jd (N:Nat) (a0:(List ah)) (a1:Int) (a2:Int) (a3:(List ae)) (a4:(List Int)):Option (Bool):=
 (mP N a0 a1 a2).bind fun r7=>
 if r7=true then
 ((bU N a3 a4).bind fun r8=>
 (eS N a3 a4).bind fun r9=>
 (eQ N r8 r9).bind fun r10=>
 (some r10))
 else
 ((some false))
noncomputable def jt (N:Nat) (a0:(List ah)) (a1:Int) (a2:Int) (a3:(List ae)) (a4:(List Int)):Option (Bool):=
 (mR N).bind fun r2=>
 if r2=true then
 ((if 150 < ((a0.length:Nat):Int) then
 (((jf (jd N a0 a1 a2 a3 a4)) true))
 else
 (if 60 < ((a3.length:Nat):Int) then
 (((jf (jd N a0 a1 a2 a3 a4)) true))
 else
 (((jf (jd N a0 a1 a2 a3 a4)) (decide (60 < ((a4.length:Nat):Int))))))))
 else
 (some false)
end Go.Proofs.YtekgpnhfhkhpaaaGreat
