/- The models of the functions. No statement. -/
import Derived.Test.YtekgpnhfhkhpaaaGreatT
/- The functions of the program as plain functions on plain data. -/
set_option maxHeartbeats 40000000
set_option synthInstance.maxHeartbeats 2000000
set_option synthInstance.maxSize 4000
set_option linter.unusedSimpArgs false
set_option linter.unusedVariables false
set_option maxRecDepth 100000
namespace Go.Proofs.YtekgpnhfhkhpaaaGreat
open Go Go.Proofs Go.Abs
def gm (N:Nat) (a0:Int):Option (Bool):=
 if 1<=a0 then
 ((some (decide (a0<=1099511627776))))
 else
 ((some false))
def gr (a1:Int):List Int->Nat->Unit->Option (Int)
 | [],v2,()=>
  (some (-1))
 | x5::xs,v2,()=>
  (if a1=x5 then
  (some ((v2:Nat):Int))
  else
  ((((gr a1 xs (v2+1)) ()))))
def gN (N:Nat) (a0:(List Int)) (a1:Int):Option (Int):=
 (gr a1 a0 0 ())
def aN (N:Nat) (a0:(List Int)) (a1:Int):Option (Bool):=
 (gN N a0 a1).bind fun r1=>
 some (decide (0<=r1))
def dC (N:Nat) (a0:af) (a1:Int):Option (Bool):=
 (aN N a0.committed a1).bind fun r2=>
 if r2=true then
 ((some true))
 else
 ((aN N a0.aborted a1).bind fun r3=>
 (some r3))
def gu (a1:Int):List ag->Nat->Unit->Option ((List Int))
 | [],v2,()=>
  (some [])
 | x5::xs,v2,()=>
  (if x5.actor=a1 then
  (some x5.txns)
  else
  ((((gu a1 xs (v2+1)) ()))))
def jB (N:Nat) (a0:af) (a1:Int):Option ((List Int)):=
 (gu a1 a0.stacks 0 ())
def io (N:Nat) (a0:ae) (c0_0:Int):Option (Bool):=
 some (decide (a0.e0=c0_0))
def aY (N:Nat) (k1_0_0:Int):List ae->Nat->Unit->Option (Int)
 | [],v2,()=>
  (some (-1))
 | x5::xs,v2,()=>
  ((io N x5 k1_0_0).bind fun r8=>
  if r8=true then
  (some ((v2:Nat):Int))
  else
  ((((aY N k1_0_0 xs (v2+1)) ()))))
def bB (N:Nat) (a0:(List ae)) (k1_0_0:Int):Option (Int):=
 (aY N k1_0_0 a0 0 ())
def bo (N:Nat) (a0:(List ae)) (k1_0_0:Int):Option (Bool):=
 (bB N a0 k1_0_0).bind fun r1=>
 some (decide (0<=r1))
def gv (N:Nat) (a0:af) (a1:Int):Option (Bool):=
 (bo N a0.prepared a1).bind fun r1=>
 some r1
def fS (a1:ae):List ae->Nat->Unit->Option (Int)
 | [],v2,()=>
  (some (-1))
 | x5::xs,v2,()=>
  (if (decide (a1.e0=x5.e0) && decide (a1.e1=x5.e1))=true then
  (some ((v2:Nat):Int))
  else
  ((((fS a1 xs (v2+1)) ()))))
def kg (N:Nat) (a0:(List ae)) (a1:ae):Option (Int):=
 (fS a1 a0 0 ())
def fU (N:Nat) (a0:(List ae)) (a1:ae):Option (Bool):=
 (kg N a0 a1).bind fun r1=>
 some (decide (0<=r1))
def fb (N:Nat) (a0:af) (a1:Int) (a2:Int):Option (Bool):=
 (fU N a0.prepared (ae.mk a1 a2)).bind fun r1=>
 some r1
def dL (N:Nat) (a1:Int) (a0:af):List ag->Nat->Bool->Option (Bool)
 | [],v3,c2=>
  (some c2)
 | x6::xs,v3,c2=>
  ((aN N x6.txns a1).bind fun r9=>
  if r9=true then
  ((fb N a0 a1 x6.actor).bind fun r11=>
  if r11=true then
  (((((dL N a1 a0 xs (v3+1)) true))))
  else
  (some false))
  else
  ((((dL N a1 a0 xs (v3+1)) c2))))
def fh (N:Nat) (a0:af) (a1:Int):Option (Bool):=
 (dL N a1 a0 a0.stacks 0 false)
def en (N:Nat) (a0:ag) (c0_0:Int):Option (Bool):=
 (gN N a0.txns c0_0).bind fun r1=>
 some (decide (0 < r1))
def aU (N:Nat) (k1_0_0:Int):List ag->Nat->Unit->Option (Int)
 | [],v2,()=>
  (some (-1))
 | x5::xs,v2,()=>
  ((en N x5 k1_0_0).bind fun r8=>
  if r8=true then
  (some ((v2:Nat):Int))
  else
  ((((aU N k1_0_0 xs (v2+1)) ()))))
def br (N:Nat) (a0:(List ag)) (k1_0_0:Int):Option (Int):=
 (aU N k1_0_0 a0 0 ())
def bg (N:Nat) (a0:(List ag)) (k1_0_0:Int):Option (Bool):=
 (br N a0 k1_0_0).bind fun r1=>
 some (decide (0<=r1))
def eh (N:Nat) (a0:af) (a1:Int):Option (Bool):=
 (bg N a0.stacks a1).bind fun r1=>
 some (!r1)
def eB (kx1:Option (Bool)) (c5:Bool):Option (Bool):=
 if c5=true then
 (some false)
 else
 (kx1)
def eE (kx8:Option (Bool)) (c12:Bool):Option (Bool):=
 if c12=true then
 (some false)
 else
 (kx8)
def fK (r6:(List Int)) (a1:ah) (N:Nat) (a0:af):Option (Bool):=
 if ((r6.length:Nat):Int)=0 then
 ((some true))
 else
 (gx r6 (IntKind.i64.wrap (((r6.length:Nat):Int) - 1)) fun x14=>
 if x14=a1.Txn then
 ((some true))
 else
 ((fb N a0 x14 a1.Actor).bind fun r15=>
 (some r15)))
def iV (N:Nat) (a0:af) (a1:ah):Option (Bool):=
 (jB N a0 a1.Actor).bind fun r6=>
 if a1.Kind=1 then
 ((gm N a1.Actor).bind fun r10=>
 if r10=true then
 ((gv N a0 a1.Txn).bind fun r11=>
 ((eE (fK r6 a1 N a0)) r11))
 else
 (((eE (fK r6 a1 N a0)) true)))
 else
 (if a1.Kind=2 then
 ((gm N a1.Actor).bind fun r18=>
 if r18=true then
 ((aN N r6 a1.Txn).bind fun r19=>
 if r19=true then
 ((fb N a0 a1.Txn a1.Actor).bind fun r20=>
 (some (!r20)))
 else
 ((some false)))
 else
 ((some false)))
 else
 (if a1.Kind=3 then
 (if a1.Actor=0 then
 ((fh N a0 a1.Txn).bind fun r23=>
 if r23=true then
 ((eh N a0 a1.Txn).bind fun r24=>
 (some r24))
 else
 ((some false)))
 else
 ((some false)))
 else
 (if a1.Kind=4 then
 (some (decide (a1.Actor=0)))
 else
 ((some false)))))
def dB (N:Nat) (a0:af) (a1:ah):Option (Bool):=
 (gm N a1.Txn).bind fun r3=>
 if r3=true then
 ((dC N a0 a1.Txn).bind fun r4=>
 ((eB (iV N a0 a1)) r4))
 else
 (((eB (iV N a0 a1)) true))
def iO (N:Nat) (a0:ag) (c0_0:Int) (c0_1:Int) (c0_2:Int):Option (Bool):=
 some (decide (a0.actor=c0_2))
def bn (N:Nat) (k1_0_0:Int) (k1_0_1:Int) (k1_0_2:Int):List ag->Nat->Unit->Option (Int)
 | [],v2,()=>
  (some (-1))
 | x5::xs,v2,()=>
  ((iO N x5 k1_0_0 k1_0_1 k1_0_2).bind fun r8=>
  if r8=true then
  (some ((v2:Nat):Int))
  else
  ((((bn N k1_0_0 k1_0_1 k1_0_2 xs (v2+1)) ()))))
def bA (N:Nat) (a0:(List ag)) (k1_0_0:Int) (k1_0_1:Int) (k1_0_2:Int):Option (Int):=
 (bn N k1_0_0 k1_0_1 k1_0_2 a0 0 ())
def ic (x6:ag) (a1:ah) (l4:List ag) (v5:Int) (a0:af) (l12:List ae):Option (af):=
 apx 7 x6.txns [a1.Txn] fun l13=>
 gx l4 v5 fun x14=>
 some (af.mk (l4.set ((v5).toNat) (ag.mk x6.actor l13)) a0.prepared a0.known a0.committed a0.aborted l12)
def ig (N:Nat) (a1:ah) (a0:af) (l4:List ag) (v5:Int):Option (af):=
 gx l4 v5 fun x6=>
 (aN N x6.txns a1.Txn).bind fun r8=>
 if r8=true then
 (some (af.mk l4 a0.prepared a0.known a0.committed a0.aborted a0.deps))
 else
 ((if 0 < ((x6.txns.length:Nat):Int) then
 (gx x6.txns (IntKind.i64.wrap (((x6.txns.length:Nat):Int) - 1)) fun x10=>
 apx 15 a0.deps [(ae.mk a1.Txn x10)] fun l11=>
 ((ic x6 a1 l4 v5 a0) l11))
 else
 (((ic x6 a1 l4 v5 a0) a0.deps))))
def iu (N:Nat) (a0:af) (a1:ah):Option (af):=
 (bA N a0.stacks a1.Kind a1.Txn a1.Actor).bind fun r1=>
 if r1 < 0 then
 (apx 31 a0.stacks [(ag.mk a1.Actor [])] fun l3=>
 ((ig N a1 a0) l3 ((a0.stacks.length:Nat):Int)))
 else
 (((ig N a1 a0) a0.stacks r1))
def dc (N:Nat) (a0:Int) (c0_0:(List Int)):Option (Bool):=
 (aN N c0_0 a0).bind fun r1=>
 some r1
def bp (N:Nat) (k1_0_0:(List Int)):List Int->Nat->Unit->Option (Int)
 | [],v2,()=>
  (some (-1))
 | x5::xs,v2,()=>
  ((dc N x5 k1_0_0).bind fun r8=>
  if r8=true then
  (some ((v2:Nat):Int))
  else
  ((((bp N k1_0_0 xs (v2+1)) ()))))
def bC (N:Nat) (a0:(List Int)) (k1_0_0:(List Int)):Option (Int):=
 (bp N k1_0_0 a0 0 ())
def aW (N:Nat) (k1_0_0:(List Int)) (kx3:(List Int)->Int->Option ((List Int))):Nat->List Int × Int × Int->Option ((List Int))
 | 0,_=>none
 | n+1,(l4,v5,v6)=>
  if v6 < ((l4.length:Nat):Int) then
  ((gx l4 v6 fun x10=>
  (dc N x10 k1_0_0).bind fun r11=>
  if r11=true then
  ((((aW N k1_0_0 kx3 n) (l4,v5,IntKind.i64.wrap (v6+1)))))
  else
  (gx l4 v5 fun x12=>
  (((aW N k1_0_0 kx3 n) ((l4.set ((v5).toNat) x10),(IntKind.i64.wrap (v5+1)),IntKind.i64.wrap (v6+1)))))))
  else
  ((kx3 l4 v5))
def dX (l15:List Int) (v16:Int):Option ((List Int)):=
 slx l15 v16 ((l15.length:Nat):Int) fun l17=>
 slx (clrL 0 (v16).toNat l15) 0 v16 fun l18=>
 some ((clrL 0 (v16).toNat l15).take ((v16).toNat))
def a8 (N:Nat) (a0:(List Int)) (k1_0_0:(List Int)):Option ((List Int)):=
 (bC N a0 k1_0_0).bind fun r1=>
 if r1=(-1) then
 (some a0)
 else
 (((aW N k1_0_0 dX N (a0,r1,IntKind.i64.wrap (r1+1)))))
def d6 (a0:af) (N:Nat) (a1:(List Int)):Nat->Nat->List ag->Option (af)
 | 0,v2,l1=>
  some (af.mk l1 a0.prepared a0.known a0.committed a0.aborted a0.deps)
 | m+1,v2,l1=>
  (gx l1 ((v2:Nat):Int) fun x7=>
  (a8 N x7.txns a1).bind fun r8=>
  (((d6 a0 N a1 m (v2+1)) (l1.set v2 (ag.mk x7.actor r8)))))
def da (N:Nat) (a0:af) (a1:(List Int)):Option (af):=
 (d6 a0 N a1 (a0.stacks.length - 0) 0 a0.stacks)
def eT (N:Nat) (a0:(List Int)):Option ((List Int)):=
 (apn 7 a0 <|
 some a0)
def lQ (v8:Int) (v9:Int):Option (Int):=
 gxs (⟨((([0,1,2,2,3,3,3,3,4,4,4,4,4,4,4,4,5,5,5,5,5,5,5,5,5,5,5,5,5,5,5,5,6,6,6,6,6,6,6,6,6,6,6,6,6,6,6,6,6,6,6,6,6,6,6,6,6,6,6,6,6,6,6,6]:List UInt8).append ([7,7,7,7,7,7,7,7,7,7,7,7,7,7,7,7,7,7,7,7,7,7,7,7,7,7,7,7,7,7,7,7,7,7,7,7,7,7,7,7,7,7,7,7,7,7,7,7,7,7,7,7,7,7,7,7,7,7,7,7,7,7,7,7]:List UInt8)).append (([8,8,8,8,8,8,8,8,8,8,8,8,8,8,8,8,8,8,8,8,8,8,8,8,8,8,8,8,8,8,8,8,8,8,8,8,8,8,8,8,8,8,8,8,8,8,8,8,8,8,8,8,8,8,8,8,8,8,8,8,8,8,8,8]:List UInt8).append ([8,8,8,8,8,8,8,8,8,8,8,8,8,8,8,8,8,8,8,8,8,8,8,8,8,8,8,8,8,8,8,8,8,8,8,8,8,8,8,8,8,8,8,8,8,8,8,8,8,8,8,8,8,8,8,8,8,8,8,8,8,8,8,8]:List UInt8))).toArray⟩:ByteArray) (IntKind.u8.wrap v8) fun b10=>
 some (IntKind.i64.wrap (v9+(IntKind.i64.wrap (b10.toNat:Int))))
def lI (v5:Int) (v6:Int):Option (Int):=
 if 256<=v5 then
 ((lQ (shrI .u64 v5 8) (IntKind.i64.wrap (v6+8))))
 else
 ((lQ v5 v6))
def lS (v2:Int) (v3:Int):Option (Int):=
 if 65536<=v2 then
 ((lI (shrI .u64 v2 16) (IntKind.i64.wrap (v3+16))))
 else
 ((lI v2 v3))
def lO (N:Nat) (a0:Int):Option (Int):=
 if 4294967296<=a0 then
 ((lS (shrI .u64 a0 32) 32))
 else
 ((lS a0 0))
def j9 (N:Nat) (a0:Int):Option (Int):=
 ((lO N a0).bind fun r2=>
 some r2)
def ja (N:Nat) (a0:Int):Option (Bool):=
 some (!decide (a0=a0))
def pW (N:Nat) (a0:Int) (a1:Int):Option (Bool):=
 (ja N a0).bind fun r2=>
 if r2=true then
 ((ja N a1).bind fun r3=>
 if r3=true then
 ((some (decide (a0 < a1))))
 else
 ((some true)))
 else
 ((some (decide (a0 < a1))))
def fg (kx6:Option ((List Int))) (rec2:Int->Option ((List Int))) (v1:Int) (c11:Bool):Option ((List Int)):=
 if c11=true then
 (kx6)
 else
 (((rec2 (IntKind.i64.wrap (v1+1)))))
def fj (a0:(List Int)) (v1:Int):Option ((List Int)):=
 gx a0 (IntKind.i64.wrap (v1 - 1)) fun x13=>
 gx a0 v1 fun x14=>
 none
def ff (a1:Int) (v1:Int) (a0:(List Int)) (N:Nat) (rec2:Int->Option ((List Int))):Nat->Unit->Option ((List Int))
 | 0,_=>none
 | n+1,()=>
  if a1 < v1 then
  (gx a0 v1 fun x8=>
  gx a0 (IntKind.i64.wrap (v1 - 1)) fun x9=>
  (pW N x8 x9).bind fun r10=>
  ((fg (fj a0 v1) rec2 v1) r10))
  else
  (((fg (fj a0 v1) rec2 v1) false))
def bY (a2:Int) (a1:Int) (a0:(List Int)) (N:Nat):Nat->Int->Option ((List Int))
 | 0,_=>none
 | n+1,v1=>
  if v1 < a2 then
  (((ff a1 v1 a0 N (bY a2 a1 a0 N n) N ())))
  else
  (some a0)
def a6 (N:Nat) (a0:(List Int)) (a1:Int) (a2:Int):Option ((List Int)):=
 lenM (fun r=>r) a0 (
 (bY a2 a1 a0 N N (IntKind.i64.wrap (a1+1))))
def eP (a2:Int) (a1:Int) (N:Nat) (a0:(List Int)) (a3:Int):Nat->Unit->Option ((List Int))
 | 0,_=>none
 | n+1,()=>
  if (IntKind.i64.wrap (a2 - a1))<=12 then
  ((a6 N a0 a1 a2).bind fun r3=>
  some r3)
  else
  ((if a3=0 then
  (none)
  else
  (((none)))))
def bx (N:Nat) (a0:(List Int)) (a1:Int) (a2:Int) (a3:Int):Option ((List Int)):=
 lenM (fun r=>r) a0 (
 (eP a2 a1 N a0 a3 N ()))
def dV (N:Nat) (a0:(List Int)):Option ((List Int)):=
 lenM (fun r=>r) a0 (
 (j9 N (IntKind.u64.wrap ((a0.length:Nat):Int))).bind fun r1=>
 (bx N a0 0 ((a0.length:Nat):Int) r1).bind fun r2=>
 some r2)
def slices_Sort_int (N:Nat) (a0:(List Int)):Option (List Int):=if a0.isEmpty=true then dV N a0 else sortI a0
def eF (a0:(List Int)) (v3:Nat) (kx11:(List Int)->Int->Option ((List Int))):Nat->List Int × Int × Int->Option ((List Int))
 | 0,_=>none
 | n+1,(l12,v13,v14)=>
  if v14 < (((a0.length - v3):Nat):Int) then
  ((gx ((l12.drop v3).take (a0.length - v3)) v14 fun x18=>
  gx ((l12.drop v3).take (a0.length - v3)) (IntKind.i64.wrap (v14 - 1)) fun x19=>
  if x18=x19 then
  ((((eF a0 v3 kx11 n) (l12,v13,IntKind.i64.wrap (v14+1)))))
  else
  (gx l12 v13 fun x20=>
  (((eF a0 v3 kx11 n) ((l12.set ((v13).toNat) x18),(IntKind.i64.wrap (v13+1)),IntKind.i64.wrap (v14+1)))))))
  else
  ((kx11 l12 v13))
def ir (l23:List Int) (v24:Int):Option ((List Int)):=
 slx l23 v24 ((l23.length:Nat):Int) fun l25=>
 slx (clrL 0 (v24).toNat l23) 0 v24 fun l26=>
 some ((clrL 0 (v24).toNat l23).take ((v24).toNat))
def fB (a0:(List Int)) (N:Nat):Nat->Nat->Unit->Option ((List Int))
 | 0,v3,()=>
  (some a0)
 | m+1,v3,()=>
  (gx a0 ((v3:Nat):Int) fun x8=>
  gx a0 (IntKind.i64.wrap (((v3:Nat):Int) - 1)) fun x9=>
  if x8=x9 then
  (slx a0 ((v3:Nat):Int) ((a0.length:Nat):Int) fun l10=>
  (eF a0 v3 ir N (a0,((v3:Nat):Int),1)))
  else
  ((((fB a0 N m (v3+1)) ()))))
def im (N:Nat) (a0:(List Int)):Option ((List Int)):=
 if ((a0.length:Nat):Int) < 2 then
 (some a0)
 else
 (((fB a0 N (a0.length - 1) 1 ())))
def iD (l9:List Int) (x14:ae) (rec12:(List Int × Bool)->Option ((List Int))) (c10:Bool) (c20:Bool):Option ((List Int)):=
 if c20=true then
 (apx 7 l9 [x14.e0] fun l21=>
 ((rec12 (l21,true))))
 else
 (((rec12 (l9,c10))))
def eL (rec7:(List Int × Bool)->Option ((List Int))) (N:Nat):List ae->Nat->List Int × Bool->Option ((List Int))
 | [],v11,(l9,c10)=>
  (rec7 (l9,c10))
 | x14::xs,v11,(l9,c10)=>
  ((aN N l9 x14.e1).bind fun r18=>
  if r18=true then
  ((aN N l9 x14.e0).bind fun r19=>
  ((iD l9 x14 (eL rec7 N xs (v11+1)) c10) (!r19)))
  else
  (((iD l9 x14 (eL rec7 N xs (v11+1)) c10) false)))
def eM (N:Nat) (a0:(List ae)) (kx4:(List Int)->Option ((List Int))):Nat->List Int × Bool->Option ((List Int))
 | 0,_=>none
 | n+1,(l5,c6)=>
  if c6=true then
  (((eL (eM N a0 kx4 n) N a0 0 (l5,false))))
  else
  ((kx4 l5))
def lL (N:Nat) (l24:List Int):Option ((List Int)):=
 (slices_Sort_int N l24).bind fun r25=>
 some r25
def dw (N:Nat) (a0:(List ae)) (a1:(List Int)):Option ((List Int)):=
 (eT N a1).bind fun r1=>
 (slices_Sort_int N r1).bind fun r2=>
 (im N r2).bind fun r3=>
 (eM N a0 (lL N) N (r3,true))
def bD (N:Nat) (k1_0_0:(List ag)) (k1_0_1:(List ae)) (k1_0_2:(List Int)) (k1_0_3:(List Int)) (k1_0_4:(List Int)) (k1_0_5:(List ae)):List Int->Nat->Unit->Option (Int)
 | [],v2,()=>
  (some (-1))
 | x5::xs,v2,()=>
  ((dC N (af.mk k1_0_0 k1_0_1 k1_0_2 k1_0_3 k1_0_4 k1_0_5) x5).bind fun r8=>
  if r8=true then
  (some ((v2:Nat):Int))
  else
  ((((bD N k1_0_0 k1_0_1 k1_0_2 k1_0_3 k1_0_4 k1_0_5 xs (v2+1)) ()))))
def bO (N:Nat) (a0:(List Int)) (k1_0_0:(List ag)) (k1_0_1:(List ae)) (k1_0_2:(List Int)) (k1_0_3:(List Int)) (k1_0_4:(List Int)) (k1_0_5:(List ae)):Option (Int):=
 (bD N k1_0_0 k1_0_1 k1_0_2 k1_0_3 k1_0_4 k1_0_5 a0 0 ())
def ba (N:Nat) (k1_0_0:(List ag)) (k1_0_1:(List ae)) (k1_0_2:(List Int)) (k1_0_3:(List Int)) (k1_0_4:(List Int)) (k1_0_5:(List ae)) (kx3:(List Int)->Int->Option ((List Int))):Nat->List Int × Int × Int->Option ((List Int))
 | 0,_=>none
 | n+1,(l4,v5,v6)=>
  if v6 < ((l4.length:Nat):Int) then
  ((gx l4 v6 fun x10=>
  (dC N (af.mk k1_0_0 k1_0_1 k1_0_2 k1_0_3 k1_0_4 k1_0_5) x10).bind fun r11=>
  if r11=true then
  ((((ba N k1_0_0 k1_0_1 k1_0_2 k1_0_3 k1_0_4 k1_0_5 kx3 n) (l4,v5,IntKind.i64.wrap (v6+1)))))
  else
  (gx l4 v5 fun x12=>
  (((ba N k1_0_0 k1_0_1 k1_0_2 k1_0_3 k1_0_4 k1_0_5 kx3 n) ((l4.set ((v5).toNat) x10),(IntKind.i64.wrap (v5+1)),IntKind.i64.wrap (v6+1)))))))
  else
  ((kx3 l4 v5))
def et (l15:List Int) (v16:Int):Option ((List Int)):=
 slx l15 v16 ((l15.length:Nat):Int) fun l17=>
 slx (clrL 0 (v16).toNat l15) 0 v16 fun l18=>
 some ((clrL 0 (v16).toNat l15).take ((v16).toNat))
def aM (N:Nat) (a0:(List Int)) (k1_0_0:(List ag)) (k1_0_1:(List ae)) (k1_0_2:(List Int)) (k1_0_3:(List Int)) (k1_0_4:(List Int)) (k1_0_5:(List ae)):Option ((List Int)):=
 (bO N a0 k1_0_0 k1_0_1 k1_0_2 k1_0_3 k1_0_4 k1_0_5).bind fun r1=>
 if r1=(-1) then
 (some a0)
 else
 (((ba N k1_0_0 k1_0_1 k1_0_2 k1_0_3 k1_0_4 k1_0_5 et N (a0,r1,IntKind.i64.wrap (r1+1)))))
def gB (a1:ah) (N:Nat) (a0:af) (l4:List Int):Option (af):=
 if a1.Kind=1 then
 ((iu N (af.mk a0.stacks a0.prepared l4 a0.committed a0.aborted a0.deps) a1).bind fun r5=>
 some r5)
 else
 (if a1.Kind=2 then
 (apx 15 a0.prepared [(ae.mk a1.Txn a1.Actor)] fun l6=>
 some (af.mk a0.stacks l6 l4 a0.committed a0.aborted a0.deps))
 else
 (if a1.Kind=3 then
 (apx 7 a0.committed [a1.Txn] fun l7=>
 (da N (af.mk a0.stacks a0.prepared l4 l7 a0.aborted a0.deps) [a1.Txn]).bind fun r8=>
 some r8)
 else
 (if a1.Kind=4 then
 ((dw N a0.deps [a1.Txn]).bind fun r9=>
 (aM N r9 a0.stacks a0.prepared l4 a0.committed a0.aborted a0.deps).bind fun r10=>
 apx 7 a0.aborted r10 fun l11=>
 (da N (af.mk a0.stacks a0.prepared l4 a0.committed l11 a0.deps) r10).bind fun r12=>
 some r12)
 else
 (some (af.mk a0.stacks a0.prepared l4 a0.committed a0.aborted a0.deps)))))
def dQ (N:Nat) (a0:af) (a1:ah):Option (af):=
 (aN N a0.known a1.Txn).bind fun r2=>
 if r2=true then
 (((gB a1 N a0) a0.known))
 else
 (apx 7 a0.known [a1.Txn] fun l3=>
 ((gB a1 N a0) l3))
def d9 (N:Nat):List ah->Nat->List ag × List ae × List Int × List Int × List Int × List ae->Option (af × Int)
 | [],v8,(l2,l3,l4,l5,l6,l7)=>
  (some ((af.mk l2 l3 l4 l5 l6 l7),(-1)))
 | x11::xs,v8,(l2,l3,l4,l5,l6,l7)=>
  ((dB N (af.mk l2 l3 l4 l5 l6 l7) x11).bind fun r15=>
  if r15=true then
  (((dQ N (af.mk l2 l3 l4 l5 l6 l7) x11).bind fun r16=>
  (((d9 N xs (v8+1)) (r16.stacks,r16.prepared,r16.known,r16.committed,r16.aborted,r16.deps)))))
  else
  (some ((af.mk l2 l3 l4 l5 l6 l7),((v8:Nat):Int))))
def dD (N:Nat) (a0:(List ah)):Option (af × Int):=
 (d9 N a0 0 ([],[],[],[],[],[]))
def iL (N:Nat) (a0:Int) (a1:Int):Option (Int):=
 (ja N a0).bind fun r1=>
 (ja N a1).bind fun r2=>
 if r1=true then
 (if r2=true then
 (some 0)
 else
 ((some (-1))))
 else
 ((if r2=true then
 (some 1)
 else
 ((if a0 < a1 then
 (some (-1))
 else
 ((if a1 < a0 then
 (some 1)
 else
 ((some 0))))))))
def mP  : List Int->Nat->Unit->Option (Int)
 | [],v2,()=>
  (some 0)
 | x5::xs,v2,()=>
  (if x5=0 then
  ((((mP xs (v2+1)) ())))
  else
  (some x5))
def qg (N:Nat) (a0:(List Int)):Option (Int):=
 (mP a0 0 ())
def dK (N:Nat) (a0:ae) (a1:ae):Option (Int):=
 (iL N a0.e0 a1.e0).bind fun r1=>
 (iL N a0.e1 a1.e1).bind fun r2=>
 (qg N [r1,r2]).bind fun r3=>
 some r3
def bJ (kx6:Option ((List ae))) (rec2:Int->Option ((List ae))) (v1:Int) (c11:Bool):Option ((List ae)):=
 if c11=true then
 (kx6)
 else
 (((rec2 (IntKind.i64.wrap (v1+1)))))
def bI (a0:(List ae)) (v1:Int):Option ((List ae)):=
 gx a0 (IntKind.i64.wrap (v1 - 1)) fun x13=>
 gx a0 v1 fun x14=>
 none
def bK (a1:Int) (v1:Int) (a0:(List ae)) (N:Nat) (rec2:Int->Option ((List ae))):Nat->Unit->Option ((List ae))
 | 0,_=>none
 | n+1,()=>
  if a1 < v1 then
  (gx a0 v1 fun x8=>
  gx a0 (IntKind.i64.wrap (v1 - 1)) fun x9=>
  (dK N x8 x9).bind fun r10=>
  ((bJ (bI a0 v1) rec2 v1) (decide (r10 < 0))))
  else
  (((bJ (bI a0 v1) rec2 v1) false))
def aK (a2:Int) (a1:Int) (a0:(List ae)) (N:Nat):Nat->Int->Option ((List ae))
 | 0,_=>none
 | n+1,v1=>
  if v1 < a2 then
  (((bK a1 v1 a0 N (aK a2 a1 a0 N n) N ())))
  else
  (some a0)
def aw (N:Nat) (a0:(List ae)) (a1:Int) (a2:Int):Option ((List ae)):=
 lenM (fun r=>r) a0 (
 (aK a2 a1 a0 N N (IntKind.i64.wrap (a1+1))))
def bj (a2:Int) (a1:Int) (N:Nat) (a0:(List ae)) (a3:Int):Nat->Unit->Option ((List ae))
 | 0,_=>none
 | n+1,()=>
  if (IntKind.i64.wrap (a2 - a1))<=12 then
  ((aw N a0 a1 a2).bind fun r3=>
  some r3)
  else
  ((if a3=0 then
  (none)
  else
  (((none)))))
def az (N:Nat) (a0:(List ae)) (a1:Int) (a2:Int) (a3:Int):Option ((List ae)):=
 lenM (fun r=>r) a0 (
 (bj a2 a1 N a0 a3 N ()))
def aB (N:Nat) (a0:(List ae)):Option ((List ae)):=
 lenM (fun r=>r) a0 (
 (j9 N (IntKind.u64.wrap ((a0.length:Nat):Int))).bind fun r1=>
 (az N a0 0 ((a0.length:Nat):Int) r1).bind fun r2=>
 some r2)
noncomputable def aG (N:Nat) (a0:(List ae)):Option (List ae):=if a0.isEmpty=true then aB N a0  else sortM (fun x y=>dK N x y ) a0
def ej (a0:(List ae)) (v3:Nat) (kx11:(List ae)->Int->Option ((List ae))):Nat->List ae × Int × Int->Option ((List ae))
 | 0,_=>none
 | n+1,(l12,v13,v14)=>
  if v14 < (((a0.length - v3):Nat):Int) then
  ((gx ((l12.drop v3).take (a0.length - v3)) v14 fun x18=>
  gx ((l12.drop v3).take (a0.length - v3)) (IntKind.i64.wrap (v14 - 1)) fun x19=>
  if (decide (x18.e0=x19.e0) && decide (x18.e1=x19.e1))=true then
  ((((ej a0 v3 kx11 n) (l12,v13,IntKind.i64.wrap (v14+1)))))
  else
  (gx l12 v13 fun x20=>
  (((ej a0 v3 kx11 n) ((l12.set ((v13).toNat) x18),(IntKind.i64.wrap (v13+1)),IntKind.i64.wrap (v14+1)))))))
  else
  ((kx11 l12 v13))
def gC (l23:List ae) (v24:Int):Option ((List ae)):=
 slx l23 v24 ((l23.length:Nat):Int) fun l25=>
 slx (clrL (ae.mk 0 0) (v24).toNat l23) 0 v24 fun l26=>
 some ((clrL (ae.mk 0 0) (v24).toNat l23).take ((v24).toNat))
def eZ (a0:(List ae)) (N:Nat):Nat->Nat->Unit->Option ((List ae))
 | 0,v3,()=>
  (some a0)
 | m+1,v3,()=>
  (gx a0 ((v3:Nat):Int) fun x8=>
  gx a0 (IntKind.i64.wrap (((v3:Nat):Int) - 1)) fun x9=>
  if (decide (x8.e0=x9.e0) && decide (x8.e1=x9.e1))=true then
  (slx a0 ((v3:Nat):Int) ((a0.length:Nat):Int) fun l10=>
  (ej a0 v3 gC N (a0,((v3:Nat):Int),1)))
  else
  ((((eZ a0 N m (v3+1)) ()))))
def gA (N:Nat) (a0:(List ae)):Option ((List ae)):=
 if ((a0.length:Nat):Int) < 2 then
 (some a0)
 else
 (((eZ a0 N (a0.length - 1) 1 ())))
noncomputable def db (N:Nat) (a0:(List ah)):Option ((List ae)):=
 (dD N a0).bind fun r1=>
 if 0<=r1.2 then
 (some [])
 else
 (((aG N r1.1.deps).bind fun r3=>
 (gA N r3).bind fun r4=>
 some r4))
def ee (N:Nat) (a0:af) (a1:Int):Option (Int):=
 (aN N a0.aborted a1).bind fun r2=>
 if r2=true then
 (some 4)
 else
 ((aN N a0.committed a1).bind fun r3=>
 if r3=true then
 (some 3)
 else
 ((fh N a0 a1).bind fun r4=>
 if r4=true then
 (some 2)
 else
 ((aN N a0.known a1).bind fun r5=>
 if r5=true then
 (some 1)
 else
 ((some 0)))))
def d8 (N:Nat) (a0:(List ah)) (a1:Int):Option (Int):=
 (dD N a0).bind fun r1=>
 if 0<=r1.2 then
 (some 0)
 else
 (((ee N r1.1 a1).bind fun r3=>
 some r3))
def eV (N:Nat) (a0:(List ah)) (a1:Int):Option ((List Int)):=
 (dD N a0).bind fun r1=>
 if 0<=r1.2 then
 (some [])
 else
 (((jB N r1.1 a1).bind fun r3=>
 some r3))
def bw (N:Nat) (k1_0_0:(List ag)) (k1_0_1:(List ae)) (k1_0_2:(List Int)) (k1_0_3:(List Int)) (k1_0_4:(List Int)) (k1_0_5:(List ae)):List Int->Nat->Unit->Option (Int)
 | [],v2,()=>
  (some (-1))
 | x5::xs,v2,()=>
  ((eh N (af.mk k1_0_0 k1_0_1 k1_0_2 k1_0_3 k1_0_4 k1_0_5) x5).bind fun r8=>
  if r8=true then
  (some ((v2:Nat):Int))
  else
  ((((bw N k1_0_0 k1_0_1 k1_0_2 k1_0_3 k1_0_4 k1_0_5 xs (v2+1)) ()))))
def bL (N:Nat) (a0:(List Int)) (k1_0_0:(List ag)) (k1_0_1:(List ae)) (k1_0_2:(List Int)) (k1_0_3:(List Int)) (k1_0_4:(List Int)) (k1_0_5:(List ae)):Option (Int):=
 (bw N k1_0_0 k1_0_1 k1_0_2 k1_0_3 k1_0_4 k1_0_5 a0 0 ())
def ke (N:Nat) (a0:List Int) (a1:Int) (a2:Int):Option (List Int):=delM a0 a1 a2 fun l=>some l
def ed (kx3:(List Int)->Option ((List Int) × (List Int))) (N:Nat) (r1:af × Int):List Int->Nat->List Int->Option ((List Int) × (List Int))
 | [],v5,l4=>
  (kx3 l4)
 | x8::xs,v5,l4=>
  ((ee N r1.1 x8).bind fun r11=>
  if r11=1 then
  (apx 7 l4 [x8] fun l12=>
  (((ed kx3 N r1 xs (v5+1)) l12)))
  else
  ((((ed kx3 N r1 xs (v5+1)) l4))))
def lG (l19:List Int) (x23:Int) (rec21:List Int->Option ((List Int) × (List Int))) (c29:Bool):Option ((List Int) × (List Int)):=
 if c29=true then
 (apx 7 l19 [x23] fun l30=>
 ((rec21 l30)))
 else
 (((rec21 l19)))
def dI (kx18:(List Int)->Option ((List Int) × (List Int))) (N:Nat) (r16:(List Int)) (r17:af):List Int->Nat->List Int->Option ((List Int) × (List Int))
 | [],v20,l19=>
  (kx18 l19)
 | x23::xs,v20,l19=>
  ((aN N r16 x23).bind fun r27=>
  if r27=true then
  (((lG l19 x23 (dI kx18 N r16 r17 xs (v20+1))) false))
  else
  ((ee N r17 x23).bind fun r28=>
  ((lG l19 x23 (dI kx18 N r16 r17 xs (v20+1))) (decide (r28=2)))))
def iy (N:Nat) (r16:(List Int)):Nat->List ag × List ae × List Int × List Int × List Int × List ae × List Int × List Int->Option ((List Int) × (List Int))
 | 0,_=>none
 | n+1,(l35,l36,l37,l38,l39,l40,l41,l42)=>
  if 0 < ((l42.length:Nat):Int) then
  (((bL N l42 l35 l36 l37 l38 l39 l40).bind fun r45=>
  if r45 < 0 then
  ((some (l41,r16)))
  else
  ((gx l42 r45 fun x47=>
  apx 7 l41 [x47] fun l48=>
  slx l42 r45 (IntKind.i64.wrap (r45+1)) fun l49=>
  (da N (af.mk l35 l36 l37 l38 l39 l40) ((l42.drop ((r45).toNat)).take ((IntKind.i64.wrap (r45+1)).toNat - (r45).toNat))).bind fun r50=>
  (ke N l42 r45 (IntKind.i64.wrap (r45+1))).bind fun r51=>
  ((iy N r16 n) (r50.stacks,r50.prepared,r50.known,r50.committed,r50.aborted,r50.deps,l48,r51))))))
  else
  ((some (l41,r16)))
def iB (N:Nat) (r16:(List Int)) (r17:af) (l32:List Int):Option ((List Int) × (List Int)):=
 (slices_Sort_int N l32).bind fun r33=>
 (iy N r16 N (r17.stacks,r17.prepared,r17.known,r17.committed,r17.aborted,r17.deps,[],r33))
def lW (N:Nat) (r1:af × Int) (l14:List Int):Option ((List Int) × (List Int)):=
 (dw N r1.1.deps l14).bind fun r15=>
 (aM N r15 r1.1.stacks r1.1.prepared r1.1.known r1.1.committed r1.1.aborted r1.1.deps).bind fun r16=>
 (da N r1.1 r16).bind fun r17=>
 (dI (iB N r16 r17) N r16 r17 r17.known 0 [])
def dz (N:Nat) (a0:(List ah)):Option ((List Int) × (List Int)):=
 (dD N a0).bind fun r1=>
 if 0<=r1.2 then
 (some ([],[]))
 else
 (((ed (lW N r1) N r1 r1.1.known 0 [])))
def eb (N:Nat) (a0:(List ah)):Option (Int × Bool):=
 (dD N a0).bind fun r2=>
 if 0<=r2.2 then
 (some (r2.2,false))
 else
 ((some (0,true)))
def eW (N:Nat) (a0:(List ah)):Option ((List Int)):=
 (dD N a0).bind fun r1=>
 if 0<=r1.2 then
 (some [])
 else
 ((some r1.1.committed))
noncomputable def jm (kx2:Option (Bool)) (c8:Bool):Option (Bool):=
 if c8=true then
 (some false)
 else
 (kx2)
noncomputable def kF (kx10:Option (Bool)) (c14:Bool):Option (Bool):=
 if c14=true then
 (some false)
 else
 (kx10)
noncomputable def oH (kx15:Option (Bool)) (c19:Bool):Option (Bool):=
 if c19=true then
 (some false)
 else
 (kx15)
noncomputable def oU (N:Nat):Option (Bool):=
 apx 23 [(ah.mk 1 1 1),(ah.mk 2 1 1),(ah.mk 1 2 1)] [(ah.mk 3 1 0)] fun l20=>
 (eW N l20).bind fun r21=>
 if ((r21.length:Nat):Int)=1 then
 (gx r21 0 fun x23=>
 if x23=1 then
 (apx 23 [(ah.mk 1 1 1),(ah.mk 2 1 1),(ah.mk 1 2 1)] [(ah.mk 4 1 0)] fun l24=>
 (d8 N l24 2).bind fun r25=>
 (some (decide (r25=4))))
 else
 ((some false)))
 else
 ((some false))
noncomputable def kH (N:Nat) (r1:(List ae)):Option (Bool):=
 (eb N [(ah.mk 1 1 1),(ah.mk 2 1 1),(ah.mk 1 2 1)]).bind fun r16=>
 if r16.2=true then
 ((dw N r1 [1]).bind fun r18=>
 ((oH (oU N)) (!decide (((r18.length:Nat):Int)=2))))
 else
 (((oH (oU N)) true))
noncomputable def jp (N:Nat) (r1:(List ae)):Option (Bool):=
 (dz N [(ah.mk 1 1 1),(ah.mk 2 1 1),(ah.mk 1 2 1)]).bind fun r9=>
 if ((r9.1.length:Nat):Int)=1 then
 (gx r9.1 0 fun x12=>
 if x12=1 then
 (if ((r9.2.length:Nat):Int)=1 then
 (gx r9.2 0 fun x13=>
 ((kF (kH N r1)) (!decide (x13=2))))
 else
 (((kF (kH N r1)) true)))
 else
 (((kF (kH N r1)) true)))
 else
 (((kF (kH N r1)) true))
noncomputable def mT (N:Nat)  : Option (Bool):=
 (db N [(ah.mk 1 1 1),(ah.mk 2 1 1),(ah.mk 1 2 1)]).bind fun r1=>
 if ((r1.length:Nat):Int)=1 then
 (gx r1 0 fun x4=>
 if (decide (x4.e0=2) && decide (x4.e1=1))=true then
 ((d8 N [(ah.mk 1 1 1),(ah.mk 2 1 1),(ah.mk 1 2 1)] 1).bind fun r5=>
 if r5=2 then
 ((d8 N [(ah.mk 1 1 1),(ah.mk 2 1 1),(ah.mk 1 2 1)] 2).bind fun r6=>
 if r6=1 then
 ((eV N [(ah.mk 1 1 1),(ah.mk 2 1 1),(ah.mk 1 2 1)] 1).bind fun r7=>
 ((jm (jp N r1)) (!decide (((r7.length:Nat):Int)=2))))
 else
 (((jm (jp N r1)) true)))
 else
 (((jm (jp N r1)) true)))
 else
 (((jm (jp N r1)) true)))
 else
 (((jm (jp N r1)) true))
def i8 (N:Nat) (a0:Int):Option (Bool):=
 if 1<=a0 then
 ((some (decide (a0<=1099511627776))))
 else
 ((some false))
def gh (a1:Int):List Int->Nat->Unit->Option (Bool)
 | [],v2,()=>
  (some false)
 | x5::xs,v2,()=>
  (if x5=a1 then
  (some true)
  else
  ((((gh a1 xs (v2+1)) ()))))
def be (N:Nat) (a0:(List Int)) (a1:Int):Option (Bool):=
 (gh a1 a0 0 ())
def fx (a0:ac) (a1:Int):Nat->Int->Option (Int)
 | 0,_=>none
 | n+1,v2=>
  if v2 < ((a0.piles.length:Nat):Int) then
  ((gx a0.piles v2 fun x6=>
  if x6.actor=a1 then
  (some v2)
  else
  ((((fx a0 a1 n) (IntKind.i64.wrap (v2+1)))))))
  else
  ((some (-1)))
def eK (N:Nat) (a0:ac) (a1:Int):Option (Int):=
 (fx a0 a1 N 0)
def jV (rec3:Int->Option ((List ae))) (v2:Int) (kx1:Int->Option ((List ae))) (c7:Bool):Option ((List ae)):=
 if c7=true then
 (((rec3 (IntKind.i64.wrap (v2 - 1)))))
 else
 ((kx1 v2))
def eJ (a0:(List ae)) (a1:ae) (kx1:Int->Option ((List ae))):Nat->Int->Option ((List ae))
 | 0,_=>none
 | n+1,v2=>
  if 0 < v2 then
  (gx a0 (IntKind.i64.wrap (v2 - 1)) fun x6=>
  if a1.e0 < x6.e0 then
  (((jV (eJ a0 a1 kx1 n) v2 kx1) true))
  else
  (if x6.e0=a1.e0 then
  (((jV (eJ a0 a1 kx1 n) v2 kx1) (decide (a1.e1<=x6.e1))))
  else
  (((jV (eJ a0 a1 kx1 n) v2 kx1) false))))
  else
  (((jV (eJ a0 a1 kx1 n) v2 kx1) false))
def lU (a0:(List ae)) (kx9:Option ((List ae))) (c12:Bool):Option ((List ae)):=
 if c12=true then
 (some a0)
 else
 (kx9)
def lN (a0:(List ae)) (v8:Int) (a1:ae):Option ((List ae)):=
 slx a0 v8 ((a0.length:Nat):Int) fun l13=>
 apn 15 ((a0.drop ((v8).toNat)).take (a0.length - (v8).toNat)) <|
 slt a0 v8 fun l14=>
 apx 15 (a0.take ((v8).toNat)) [a1] fun l15=>
 apx 15 l15 ((a0.drop ((v8).toNat)).take (a0.length - (v8).toNat)) fun l16=>
 some l16
def m7 (a0:(List ae)) (a1:ae) (v8:Int):Option ((List ae)):=
 if v8 < ((a0.length:Nat):Int) then
 (gx a0 v8 fun x11=>
 ((lU a0 (lN a0 v8 a1)) (decide (x11.e0=a1.e0) && decide (x11.e1=a1.e1))))
 else
 (((lU a0 (lN a0 v8 a1)) false))
def mo (N:Nat) (a0:(List ae)) (a1:ae):Option ((List ae)):=
 (eJ a0 a1 (m7 a0 a1) N ((a0.length:Nat):Int))
def ip (l6:List aa) (a0:ac) (kx9:Option (Bool × ac)) (c12:Bool):Option (Bool × ac):=
 if c12=true then
 (some (true,(ac.mk l6 a0.seen a0.deps a0.committed a0.aborted a0.prepared)))
 else
 (kx9)
def gV (l6:List aa) (a0:ac) (kx13:Option (Bool × ac)) (c16:Bool):Option (Bool × ac):=
 if c16=true then
 (some (false,(ac.mk l6 a0.seen a0.deps a0.committed a0.aborted a0.prepared)))
 else
 (kx13)
def ia (x8:aa) (a1:ah) (l6:List aa) (v7:Int) (a0:ac) (l20:List ae):Option (Bool × ac):=
 apx 7 x8.txns [a1.Txn] fun l21=>
 apx 0 x8.prepared [false] fun l22=>
 some (true,(ac.mk (l6.set ((v7).toNat) (aa.mk x8.actor l21 l22)) a0.seen l20 a0.committed a0.aborted a0.prepared))
def iC (x8:aa) (N:Nat) (a0:ac) (a1:ah) (l6:List aa) (v7:Int):Option (Bool × ac):=
 if 0 < ((x8.txns.length:Nat):Int) then
 (gx x8.txns (IntKind.i64.wrap (((x8.txns.length:Nat):Int) - 1)) fun x18=>
 (mo N a0.deps (ae.mk a1.Txn x18)).bind fun r19=>
 ((ia x8 a1 l6 v7 a0) r19))
 else
 (((ia x8 a1 l6 v7 a0) a0.deps))
def iF (x8:aa) (l6:List aa) (a0:ac) (N:Nat) (a1:ah) (v7:Int):Option (Bool × ac):=
 if 0 < ((x8.txns.length:Nat):Int) then
 (gx x8.prepared (IntKind.i64.wrap (((x8.txns.length:Nat):Int) - 1)) fun x15=>
 ((gV l6 a0 (iC x8 N a0 a1 l6 v7)) (!x15)))
 else
 (((gV l6 a0 (iC x8 N a0 a1 l6 v7)) false))
def fw (a0:ac) (N:Nat) (a1:ah) (l6:List aa) (v7:Int):Option (Bool × ac):=
 gx l6 v7 fun x8=>
 if 0 < ((x8.txns.length:Nat):Int) then
 (gx x8.txns (IntKind.i64.wrap (((x8.txns.length:Nat):Int) - 1)) fun x11=>
 ((ip l6 a0 (iF x8 l6 a0 N a1 v7)) (decide (x11=a1.Txn))))
 else
 (((ip l6 a0 (iF x8 l6 a0 N a1 v7)) false))
def iz (N:Nat) (a0:ac) (a1:ah):Option (Bool × ac):=
 (be N a0.prepared a1.Txn).bind fun r2=>
 if r2=true then
 (some (false,a0))
 else
 (((eK N a0 a1.Actor).bind fun r3=>
 if r3 < 0 then
 (apx 55 a0.piles [(aa.mk a1.Actor [] [])] fun l5=>
 ((fw a0 N a1) l5 (IntKind.i64.wrap (((l5.length:Nat):Int) - 1))))
 else
 (((fw a0 N a1) a0.piles r3))))
def jA (a1:Int):List Int->Nat->Unit->Option (Int)
 | [],v2,()=>
  (some (-1))
 | x5::xs,v2,()=>
  (if x5=a1 then
  (some ((v2:Nat):Int))
  else
  ((((jA a1 xs (v2+1)) ()))))
def j7 (N:Nat) (a0:aa) (a1:Int):Option (Int):=
 (jA a1 a0.txns 0 ())
def fC (a0:ac) (kx5:Option (Bool × ac)) (c8:Bool):Option (Bool × ac):=
 if c8=true then
 (some (false,a0))
 else
 (kx5)
def iY (a0:ac) (r1:Int) (x3:aa) (r4:Int) (N:Nat) (a1:ah):Option (Bool × ac):=
 gx a0.piles r1 fun x9=>
 gx x3.prepared r4 fun x10=>
 (be N a0.prepared a1.Txn).bind fun r12=>
 if r12=true then
 ((some (true,(ac.mk (a0.piles.set ((r1).toNat) (aa.mk x3.actor x3.txns (x3.prepared.set ((r4).toNat) true))) a0.seen a0.deps a0.committed a0.aborted a0.prepared))))
 else
 (apx 7 a0.prepared [a1.Txn] fun l13=>
 (some (true,(ac.mk (a0.piles.set ((r1).toNat) (aa.mk x3.actor x3.txns (x3.prepared.set ((r4).toNat) true))) a0.seen a0.deps a0.committed a0.aborted l13))))
def fA (N:Nat) (a0:ac) (a1:ah):Option (Bool × ac):=
 (eK N a0 a1.Actor).bind fun r1=>
 if r1 < 0 then
 (some (false,a0))
 else
 ((gx a0.piles r1 fun x3=>
 (j7 N x3 a1.Txn).bind fun r4=>
 if r4 < 0 then
 (((fC a0 (iY a0 r1 x3 r4 N a1)) true))
 else
 (gx x3.prepared r4 fun x7=>
 ((fC a0 (iY a0 r1 x3 r4 N a1)) x7))))
def iQ (rec5:(Bool × Bool × Int)->Option (Bool)) (v4:Int) (c13:Bool) (c14:Bool):Option (Bool):=
 if c14=true then
 (some false)
 else
 (((rec5 (c13,true,IntKind.i64.wrap (v4+1)))))
def dH (a0:ac) (N:Nat) (a1:Int):Nat->Bool × Bool × Int->Option (Bool)
 | 0,_=>none
 | n+1,(c2,c3,v4)=>
  if v4 < ((a0.piles.length:Nat):Int) then
  ((gx a0.piles v4 fun x8=>
  (j7 N x8 a1).bind fun r9=>
  if r9 < 0 then
  ((((dH a0 N a1 n) (c2,c3,IntKind.i64.wrap (v4+1)))))
  else
  ((gx x8.prepared r9 fun x12=>
  if x12=true then
  (if c2=true then
  (((iQ (dH a0 N a1 n) v4) true (decide (0 < r9))))
  else
  (((iQ (dH a0 N a1 n) v4) false false)))
  else
  (((iQ (dH a0 N a1 n) v4) c2 true))))))
  else
  ((some c3))
def fc (N:Nat) (a0:ac) (a1:Int) (a2:Bool):Option (Bool):=
 (dH a0 N a1 N (a2,false,0))
def eG (N:Nat) (a1:Int) (a0:ac):Nat->List aa × Int->Option (ac)
 | 0,_=>none
 | n+1,(l1,v2)=>
  if v2 < ((l1.length:Nat):Int) then
  ((gx l1 v2 fun x6=>
  (j7 N x6 a1).bind fun r7=>
  if r7 < 0 then
  ((((eG N a1 a0 n) (l1,IntKind.i64.wrap (v2+1)))))
  else
  ((slt x6.txns r7 fun l9=>
  slx x6.txns (IntKind.i64.wrap (r7+1)) ((x6.txns.length:Nat):Int) fun l10=>
  apx 7 (x6.txns.take ((r7).toNat)) ((x6.txns.drop ((IntKind.i64.wrap (r7+1)).toNat)).take (x6.txns.length - (IntKind.i64.wrap (r7+1)).toNat)) fun l11=>
  slt x6.prepared r7 fun l12=>
  slx x6.prepared (IntKind.i64.wrap (r7+1)) ((x6.prepared.length:Nat):Int) fun l13=>
  apx 0 (x6.prepared.take ((r7).toNat)) ((x6.prepared.drop ((IntKind.i64.wrap (r7+1)).toNat)).take (x6.prepared.length - (IntKind.i64.wrap (r7+1)).toNat)) fun l14=>
  (((eG N a1 a0 n) ((l1.set ((v2).toNat) (aa.mk x6.actor l11 l14)),IntKind.i64.wrap (v2+1))))))))
  else
  (some (ac.mk l1 a0.seen a0.deps a0.committed a0.aborted a0.prepared))
def dJ (N:Nat) (a0:ac) (a1:Int):Option (ac):=
 (eG N a1 a0 N (a0.piles,0))
def fT (N:Nat) (a0:ac) (a1:Int):Option (Bool × ac):=
 (fc N a0 a1 true).bind fun r2=>
 if r2=true then
 (((dJ N a0 a1).bind fun r3=>
 apx 7 r3.committed [a1] fun l4=>
 some (true,(ac.mk r3.piles r3.seen r3.deps l4 r3.aborted r3.prepared))))
 else
 (some (false,a0))
def m8 (rec3:Int->Option ((List Int))) (v2:Int) (kx1:Int->Option ((List Int))) (c7:Bool):Option ((List Int)):=
 if c7=true then
 (((rec3 (IntKind.i64.wrap (v2 - 1)))))
 else
 ((kx1 v2))
def iX (a0:(List Int)) (kx1:Int->Option ((List Int))) (a1:Int):Nat->Int->Option ((List Int))
 | 0,_=>none
 | n+1,v2=>
  if 0 < v2 then
  (gx a0 (IntKind.i64.wrap (v2 - 1)) fun x6=>
  ((m8 (iX a0 kx1 a1 n) v2 kx1) (decide (a1<=x6))))
  else
  (((m8 (iX a0 kx1 a1 n) v2 kx1) false))
def lV (a0:(List Int)) (kx9:Option ((List Int))) (c12:Bool):Option ((List Int)):=
 if c12=true then
 (some a0)
 else
 (kx9)
def lE (a0:(List Int)) (v8:Int) (a1:Int):Option ((List Int)):=
 slx a0 v8 ((a0.length:Nat):Int) fun l13=>
 apn 7 ((a0.drop ((v8).toNat)).take (a0.length - (v8).toNat)) <|
 slt a0 v8 fun l14=>
 apx 7 (a0.take ((v8).toNat)) [a1] fun l15=>
 apx 7 l15 ((a0.drop ((v8).toNat)).take (a0.length - (v8).toNat)) fun l16=>
 some l16
def m5 (a0:(List Int)) (a1:Int) (v8:Int):Option ((List Int)):=
 if v8 < ((a0.length:Nat):Int) then
 (gx a0 v8 fun x11=>
 ((lV a0 (lE a0 v8 a1)) (decide (x11=a1))))
 else
 (((lV a0 (lE a0 v8 a1)) false))
def iS (N:Nat) (a0:(List Int)) (a1:Int):Option ((List Int)):=
 (iX a0 (m5 a0 a1) a1 N ((a0.length:Nat):Int))
def jo (kx1:(List Int)->Option ((List Int))) (N:Nat):List Int->Nat->List Int->Option ((List Int))
 | [],v3,l2=>
  (kx1 l2)
 | x6::xs,v3,l2=>
  ((iS N l2 x6).bind fun r9=>
  (((jo kx1 N xs (v3+1)) r9)))
def jk (N:Nat) (l16:List Int) (x21:ae) (rec19:(List Int × Bool)->Option ((List Int))) (c17:Bool) (c27:Bool):Option ((List Int)):=
 if c27=true then
 ((iS N l16 x21.e0).bind fun r28=>
 ((rec19 (r28,true))))
 else
 (((rec19 (l16,c17))))
def fD (rec14:(List Int × Bool)->Option ((List Int))) (N:Nat):List ae->Nat->List Int × Bool->Option ((List Int))
 | [],v18,(l16,c17)=>
  (rec14 (l16,c17))
 | x21::xs,v18,(l16,c17)=>
  ((be N l16 x21.e1).bind fun r25=>
  if r25=true then
  ((be N l16 x21.e0).bind fun r26=>
  ((jk N l16 x21 (fD rec14 N xs (v18+1)) c17) (!r26)))
  else
  (((jk N l16 x21 (fD rec14 N xs (v18+1)) c17) false)))
def fE (N:Nat) (a0:(List ae)):Nat->List Int × Bool->Option ((List Int))
 | 0,_=>none
 | n+1,(l12,c13)=>
  if c13=true then
  (((fD (fE N a0 n) N a0 0 (l12,false))))
  else
  ((some l12))
def mL (N:Nat) (a0:(List ae)) (l10:List Int):Option ((List Int)):=
 (fE N a0 N (l10,true))
def fO (N:Nat) (a0:(List ae)) (a1:(List Int)):Option ((List Int)):=
 (jo (mL N a0) N a1 0 [])
def jJ (N:Nat) (l2:List aa) (l3:List Int) (l4:List ae) (l5:List Int) (l6:List Int) (l7:List Int) (x11:Int) (rec9:(List aa × List Int × List ae × List Int × List Int × List Int)->Option (ac)) (c17:Bool):Option (ac):=
 if c17=true then
 ((dJ N (ac.mk l2 l3 l4 l5 l6 l7) x11).bind fun r18=>
 apx 7 r18.aborted [x11] fun l19=>
 ((rec9 (r18.piles,r18.seen,r18.deps,r18.committed,l19,r18.prepared))))
 else
 (((rec9 (l2,l3,l4,l5,l6,l7))))
def b9 (N:Nat):List Int->Nat->List aa × List Int × List ae × List Int × List Int × List Int->Option (ac)
 | [],v8,(l2,l3,l4,l5,l6,l7)=>
  some (ac.mk l2 l3 l4 l5 l6 l7)
 | x11::xs,v8,(l2,l3,l4,l5,l6,l7)=>
  ((be N l5 x11).bind fun r15=>
  if r15=true then
  (((jJ N l2 l3 l4 l5 l6 l7 x11 (b9 N xs (v8+1))) false))
  else
  ((be N l6 x11).bind fun r16=>
  ((jJ N l2 l3 l4 l5 l6 l7 x11 (b9 N xs (v8+1))) (!r16))))
def gy (N:Nat) (a0:ac) (a1:Int):Option (ac):=
 (fO N a0.deps [a1]).bind fun r1=>
 (b9 N r1 0 (a0.piles,a0.seen,a0.deps,a0.committed,a0.aborted,a0.prepared))
def dT (a0:ac) (kx1:Option (Bool × ac)) (c6:Bool):Option (Bool × ac):=
 if c6=true then
 (some (false,a0))
 else
 (kx1)
def gT (l15:List Int) (a1:ah) (l14:List aa) (l16:List ae) (l17:List Int) (l18:List Int) (l19:List Int) (c24:Bool) (c25:Bool):Option (Bool × ac):=
 if c25=true then
 (apx 7 l15 [a1.Txn] fun l26=>
 (some (c24,(ac.mk l14 l26 l16 l17 l18 l19))))
 else
 ((some (c24,(ac.mk l14 l15 l16 l17 l18 l19))))
def aO (N:Nat) (a1:ah) (l14:List aa) (l15:List Int) (l16:List ae) (l17:List Int) (l18:List Int) (l19:List Int) (c20:Bool):Option (Bool × ac):=
 if c20=true then
 ((be N l15 a1.Txn).bind fun r23=>
 ((gT l15 a1 l14 l16 l17 l18 l19) true (!r23)))
 else
 (((gT l15 a1 l14 l16 l17 l18 l19) false false))
def gX (a1:ah) (N:Nat) (a0:ac):Option (Bool × ac):=
 if a1.Kind=1 then
 ((i8 N a1.Actor).bind fun r8=>
 if r8=true then
 ((iz N a0 a1).bind fun r9=>
 ((aO N a1) r9.2.piles r9.2.seen r9.2.deps r9.2.committed r9.2.aborted r9.2.prepared r9.1))
 else
 (((aO N a1) a0.piles a0.seen a0.deps a0.committed a0.aborted a0.prepared false)))
 else
 (if a1.Kind=2 then
 ((i8 N a1.Actor).bind fun r10=>
 if r10=true then
 ((fA N a0 a1).bind fun r11=>
 ((aO N a1) r11.2.piles r11.2.seen r11.2.deps r11.2.committed r11.2.aborted r11.2.prepared r11.1))
 else
 (((aO N a1) a0.piles a0.seen a0.deps a0.committed a0.aborted a0.prepared false)))
 else
 (if a1.Kind=3 then
 (if a1.Actor=0 then
 ((fT N a0 a1.Txn).bind fun r12=>
 ((aO N a1) r12.2.piles r12.2.seen r12.2.deps r12.2.committed r12.2.aborted r12.2.prepared r12.1))
 else
 (((aO N a1) a0.piles a0.seen a0.deps a0.committed a0.aborted a0.prepared false)))
 else
 (if a1.Kind=4 then
 (if a1.Actor=0 then
 ((gy N a0 a1.Txn).bind fun r13=>
 ((aO N a1) r13.piles r13.seen r13.deps r13.committed r13.aborted r13.prepared true))
 else
 (((aO N a1) a0.piles a0.seen a0.deps a0.committed a0.aborted a0.prepared false)))
 else
 (((aO N a1) a0.piles a0.seen a0.deps a0.committed a0.aborted a0.prepared false)))))
def fG (N:Nat) (a0:ac) (a1:ah):Option (Bool × ac):=
 (i8 N a1.Txn).bind fun r3=>
 if r3=true then
 ((be N a0.committed a1.Txn).bind fun r4=>
 if r4=true then
 (((dT a0 (gX a1 N a0)) true))
 else
 ((be N a0.aborted a1.Txn).bind fun r5=>
 ((dT a0 (gX a1 N a0)) r5)))
 else
 (((dT a0 (gX a1 N a0)) true))
def gP (N:Nat):List ah->Nat->List aa × List Int × List ae × List Int × List Int × List Int->Option (ac × Int × Bool)
 | [],v8,(l2,l3,l4,l5,l6,l7)=>
  (some ((ac.mk l2 l3 l4 l5 l6 l7),0,true))
 | x11::xs,v8,(l2,l3,l4,l5,l6,l7)=>
  ((fG N (ac.mk l2 l3 l4 l5 l6 l7) x11).bind fun r14=>
  if r14.1=true then
  ((((gP N xs (v8+1)) (r14.2.piles,r14.2.seen,r14.2.deps,r14.2.committed,r14.2.aborted,r14.2.prepared))))
  else
  (some (r14.2,((v8:Nat):Int),false)))
def eA (N:Nat) (a0:(List ah)):Option (ac × Int × Bool):=
 (gP N a0 0 ([],[],[],[],[],[]))
def kD (N:Nat) (a0:(List ah)):Option (Int × Bool):=
 (eA N a0).bind fun r1=>
 some (r1.2.1,r1.2.2)
def eU (N:Nat) (a0:ac) (a1:Int):Option (Int):=
 (be N a0.aborted a1).bind fun r2=>
 if r2=true then
 (some 4)
 else
 (((be N a0.committed a1).bind fun r4=>
 if r4=true then
 (some 3)
 else
 (((fc N a0 a1 false).bind fun r6=>
 if r6=true then
 (some 2)
 else
 (((be N a0.seen a1).bind fun r8=>
 if r8=true then
 (some 1)
 else
 ((some 0))))))))
def ek (kx3:(List Int)->(List Int)->Option ((List Int) × (List Int))) (N:Nat) (r1:ac × Int × Bool):List Int->Nat->List Int × List Int->Option ((List Int) × (List Int))
 | [],v6,(l4,l5)=>
  (kx3 l4 l5)
 | x9::xs,v6,(l4,l5)=>
  ((eU N r1.1 x9).bind fun r12=>
  if r12=1 then
  ((iS N l4 x9).bind fun r13=>
  (((ek kx3 N r1 xs (v6+1)) (r13,l5))))
  else
  (if r12=2 then
  ((iS N l5 x9).bind fun r14=>
  (((ek kx3 N r1 xs (v6+1)) (l4,r14))))
  else
  ((((ek kx3 N r1 xs (v6+1)) (l4,l5))))))
def jz (l27:List Int) (x31:Int) (N:Nat) (l21:List aa) (l22:List Int) (l23:List ae) (l24:List Int) (l25:List Int) (l26:List Int) (rec29:(List aa × List Int × List ae × List Int × List Int × List Int × List Int)->Option ((List Int) × (List Int))) (c37:Bool):Option ((List Int) × (List Int)):=
 if c37=true then
 (apx 7 l27 [x31] fun l38=>
 (dJ N (ac.mk l21 l22 l23 l24 l25 l26) x31).bind fun r39=>
 ((rec29 (r39.piles,r39.seen,r39.deps,r39.committed,r39.aborted,r39.prepared,l38))))
 else
 (((rec29 (l21,l22,l23,l24,l25,l26,l27))))
def ew (kx20:(List aa)->(List Int)->(List ae)->(List Int)->(List Int)->(List Int)->(List Int)->Option ((List Int) × (List Int))) (N:Nat) (l17:List Int) (l18:List Int):List Int->Nat->List aa × List Int × List ae × List Int × List Int × List Int × List Int->Option ((List Int) × (List Int))
 | [],v28,(l21,l22,l23,l24,l25,l26,l27)=>
  (kx20 l21 l22 l23 l24 l25 l26 l27)
 | x31::xs,v28,(l21,l22,l23,l24,l25,l26,l27)=>
  ((be N l17 x31).bind fun r35=>
  if r35=true then
  (((jz l27 x31 N l21 l22 l23 l24 l25 l26 (ew kx20 N l17 l18 xs (v28+1))) true))
  else
  ((be N l18 x31).bind fun r36=>
  ((jz l27 x31 N l21 l22 l23 l24 l25 l26 (ew kx20 N l17 l18 xs (v28+1))) r36)))
def gQ (rec63:(List aa × List Int × List ae × List Int × List Int × List Int × List Int × Int)->Option ((List Int) × (List Int))) (l55:List aa) (l56:List Int) (l57:List ae) (l58:List Int) (l59:List Int) (l60:List Int) (l61:List Int) (v62:Int) (kx66:Option ((List Int) × (List Int))) (c71:Bool):Option ((List Int) × (List Int)):=
 if c71=true then
 ((rec63 (l55,l56,l57,l58,l59,l60,l61,IntKind.i64.wrap (v62+1))))
 else
 (kx66)
def kQ (l61:List Int) (x65:Int) (N:Nat) (l55:List aa) (l56:List Int) (l57:List ae) (l58:List Int) (l59:List Int) (l60:List Int) (rec63:(List aa × List Int × List ae × List Int × List Int × List Int × List Int × Int)->Option ((List Int) × (List Int))):Option ((List Int) × (List Int)):=
 apx 7 l61 [x65] fun l72=>
 (dJ N (ac.mk l55 l56 l57 l58 l59 l60) x65).bind fun r73=>
 (rec63 (r73.piles,r73.seen,r73.deps,r73.committed,r73.aborted,r73.prepared,l72,0))
def dE (l18:List Int) (N:Nat) (l53:List Int):Nat->List aa × List Int × List ae × List Int × List Int × List Int × List Int × Int->Option ((List Int) × (List Int))
 | 0,_=>none
 | n+1,(l55,l56,l57,l58,l59,l60,l61,v62)=>
  if v62 < ((l18.length:Nat):Int) then
  ((gx l18 v62 fun x65=>
  (be N l53 x65).bind fun r68=>
  if r68=true then
  (((gQ (dE l18 N l53 n) l55 l56 l57 l58 l59 l60 l61 v62 (kQ l61 x65 N l55 l56 l57 l58 l59 l60 (dE l18 N l53 n))) true))
  else
  ((be N l61 x65).bind fun r69=>
  if r69=true then
  (((gQ (dE l18 N l53 n) l55 l56 l57 l58 l59 l60 l61 v62 (kQ l61 x65 N l55 l56 l57 l58 l59 l60 (dE l18 N l53 n))) true))
  else
  ((fc N (ac.mk l55 l56 l57 l58 l59 l60) x65 true).bind fun r70=>
  ((gQ (dE l18 N l53 n) l55 l56 l57 l58 l59 l60 l61 v62 (kQ l61 x65 N l55 l56 l57 l58 l59 l60 (dE l18 N l53 n))) (!r70))))))
  else
  ((some (l61,l53)))
def mI (l18:List Int) (N:Nat) (l47:List aa) (l48:List Int) (l49:List ae) (l50:List Int) (l51:List Int) (l52:List Int) (l53:List Int):Option ((List Int) × (List Int)):=
 (dE l18 N l53 N (l47,l48,l49,l50,l51,l52,[],0))
def gO (N:Nat) (r1:ac × Int × Bool) (l17:List Int) (l18:List Int):Option ((List Int) × (List Int)):=
 (fO N r1.1.deps l17).bind fun r19=>
 (ew (mI l18 N) N l17 l18 r19 0 (r1.1.piles,r1.1.seen,r1.1.deps,r1.1.committed,r1.1.aborted,r1.1.prepared,[]))
def gE (N:Nat) (a0:(List ah)):Option ((List Int) × (List Int)):=
 (eA N a0).bind fun r1=>
 if r1.2.2=true then
 (((ek (gO N r1) N r1 r1.1.seen 0 ([],[]))))
 else
 (some ([],[]))
def jt (a1:(List Int)):List Int->Nat->Unit->Option (Bool)
 | [],v3,()=>
  (some true)
 | x6::xs,v3,()=>
  (gx a1 ((v3:Nat):Int) fun x9=>
  if x6=x9 then
  ((((jt a1 xs (v3+1)) ())))
  else
  (some false))
def fN (N:Nat) (a0:(List Int)) (a1:(List Int)):Option (Bool):=
 if ((a0.length:Nat):Int)=((a1.length:Nat):Int) then
 (((jt a1 a0 0 ())))
 else
 (some false)
def jM (N:Nat) (a0:(List ah)) (a1:Int):Option (Int):=
 (eA N a0).bind fun r1=>
 if r1.2.2=true then
 (((eU N r1.1 a1).bind fun r3=>
 some r3))
 else
 (some 0)
def km (N:Nat) (a0:(List ah)) (a1:Int):Option ((List Int)):=
 (eA N a0).bind fun r1=>
 if r1.2.2=true then
 (((eK N r1.1 a1).bind fun r3=>
 if r3 < 0 then
 (some [])
 else
 ((gx r1.1.piles r3 fun x5=>
 apn 7 x5.txns <|
 some x5.txns))))
 else
 (some [])
def ei (N:Nat) (a0:(List ah)):Option ((List ae)):=
 (eA N a0).bind fun r1=>
 if r1.2.2=true then
 ((some r1.1.deps))
 else
 (some [])
def gU (a1:(List ae)):List ae->Nat->Unit->Option (Bool)
 | [],v3,()=>
  (some true)
 | x6::xs,v3,()=>
  (gx a1 ((v3:Nat):Int) fun x9=>
  if (decide (x6.e0=x9.e0) && decide (x6.e1=x9.e1))=true then
  ((((gU a1 xs (v3+1)) ())))
  else
  (some false))
def iN (N:Nat) (a0:(List ae)) (a1:(List ae)):Option (Bool):=
 if ((a0.length:Nat):Int)=((a1.length:Nat):Int) then
 (((gU a1 a0 0 ())))
 else
 (some false)
def jG (N:Nat) (a0:(List ah)):Option ((List Int)):=
 (eA N a0).bind fun r1=>
 if r1.2.2=true then
 ((some r1.1.committed))
 else
 (some [])
noncomputable def jn (kx5:Option (Bool)) (c9:Bool):Option (Bool):=
 if c9=true then
 (some false)
 else
 (kx5)
noncomputable def js (N:Nat) (a0:(List ah)) (a1:Int) (a2:Int):Option (Bool):=
 (d8 N a0 a1).bind fun r11=>
 (jM N a0 a1).bind fun r12=>
 if r11=r12 then
 ((eV N a0 a2).bind fun r13=>
 (km N a0 a2).bind fun r14=>
 (fN N r13 r14).bind fun r15=>
 if r15=true then
 ((db N a0).bind fun r16=>
 (ei N a0).bind fun r17=>
 (iN N r16 r17).bind fun r18=>
 if r18=true then
 ((eW N a0).bind fun r19=>
 (jG N a0).bind fun r20=>
 (fN N r19 r20).bind fun r21=>
 (some r21))
 else
 ((some false)))
 else
 ((some false)))
 else
 ((some false))
noncomputable def l8 (N:Nat) (a0:(List ah)) (a1:Int) (a2:Int):Option (Bool):=
 (eb N a0).bind fun r1=>
 (kD N a0).bind fun r2=>
 (dz N a0).bind fun r3=>
 (gE N a0).bind fun r4=>
 if r1.1=r2.1 then
 (if r1.2=r2.2 then
 ((fN N r3.1 r4.1).bind fun r7=>
 if r7=true then
 ((fN N r3.2 r4.2).bind fun r8=>
 ((jn (js N a0 a1 a2)) (!r8)))
 else
 (((jn (js N a0 a1 a2)) true)))
 else
 (((jn (js N a0 a1 a2)) true)))
 else
 (((jn (js N a0 a1 a2)) true))
def kX (kx9:Int->Int->Option ((List ah))) (x6:aj) (c13:Bool):Option ((List ah)):=
 if c13=true then
 ((kx9 3 0))
 else
 (if (Int.tmod x6.Kind 8)=7 then
 (if (Int.tmod x6.Actor 3)=0 then
 ((kx9 4 0))
 else
 ((kx9 1 (IntKind.i64.wrap ((IntKind.i64.wrap (Int.tmod x6.Actor 4))+1)))))
 else
 ((kx9 1 (IntKind.i64.wrap ((IntKind.i64.wrap (Int.tmod x6.Actor 4))+1)))))
def jy (kx9:Int->Int->Option ((List ah))) (x6:aj) (c11:Bool):Option ((List ah)):=
 if c11=true then
 ((kx9 2 (IntKind.i64.wrap ((IntKind.i64.wrap (Int.tmod x6.Actor 4))+1))))
 else
 (if (Int.tmod x6.Kind 8)=5 then
 (((kX kx9 x6) true))
 else
 (((kX kx9 x6) (decide ((Int.tmod x6.Kind 8)=6)))))
def gS (l2:List ah) (x6:aj) (v3:Nat) (N:Nat) (rec4:List ah->Option ((List ah))) (v14:Int) (v15:Int):Option ((List ah)):=
 apn 23 l2 <|
 apx 23 l2 [(ah.mk v14 (IntKind.i64.wrap ((IntKind.i64.wrap ((IntKind.i64.wrap (Int.tmod x6.Txn 8))+1))+(IntKind.i64.wrap (8 * (IntKind.i64.wrap (Int.tdiv ((v3:Nat):Int) 30)))))) v15)] fun l16=>
 (eb N l16).bind fun r17=>
 if r17.2=true then
 (((rec4 l16)))
 else
 (((rec4 l2)))
def eu (N:Nat):List aj->Nat->List ah->Option ((List ah))
 | [],v3,l2=>
  (some l2)
 | x6::xs,v3,l2=>
  (if (Int.tmod x6.Kind 8)=3 then
  (((jy (gS l2 x6 v3 N (eu N xs (v3+1))) x6) true))
  else
  (((jy (gS l2 x6 v3 N (eu N xs (v3+1))) x6) (decide ((Int.tmod x6.Kind 8)=4)))))
def lB (N:Nat) (a0:(List aj)):Option ((List ah)):=
 (eu N a0 0 [])
noncomputable def fq (N:Nat) (a1:Int) (l9:List ah):Option (Bool):=
 (l8 N l9 (IntKind.i64.wrap (Int.tmod a1 10)) (IntKind.i64.wrap (Int.tmod a1 5))).bind fun r10=>
 some r10
noncomputable def eX (N:Nat) (a0:(List aj)) (a1:Int):Option (Bool):=
 (mT N).bind fun r2=>
 if r2=true then
 ((if 100 < ((a0.length:Nat):Int) then
 (some true)
 else
 (((lB N a0).bind fun r4=>
 (l8 N r4 (IntKind.i64.wrap (Int.tmod a1 10)) (IntKind.i64.wrap (Int.tmod a1 5))).bind fun r6=>
 if r6=true then
 ((if 0 < ((r4.length:Nat):Int) then
 (dvx ((r4.length:Nat):Int) <|
 gx r4 (Int.tmod (IntKind.i64.wrap a1) ((r4.length:Nat):Int)) fun x8=>
 ((fq N a1) (r4.set ((Int.tmod (IntKind.i64.wrap a1) ((r4.length:Nat):Int)).toNat) (ah.mk (IntKind.i64.wrap (Int.tmod a1 6)) x8.Txn x8.Actor))))
 else
 (((fq N a1) r4))))
 else
 (some false)))))
 else
 (some false)
end Go.Proofs.YtekgpnhfhkhpaaaGreat
