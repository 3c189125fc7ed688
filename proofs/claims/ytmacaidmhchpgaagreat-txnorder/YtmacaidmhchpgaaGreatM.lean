/- The models of the functions. No statement. -/
import Derived.Test.YtmacaidmhchpgaaGreatT
/- The functions of the program as plain functions on plain data. -/
set_option maxHeartbeats 40000000
set_option synthInstance.maxHeartbeats 2000000
set_option synthInstance.maxSize 4000
set_option linter.unusedSimpArgs false
set_option linter.unusedVariables false
set_option maxRecDepth 100000
namespace Go.Proofs.YtmacaidmhchpgaaGreat
open Go Go.Proofs Go.Abs
noncomputable section
def rG (kx1:Option Bool) (c3:Bool):Option Bool:=
 if c3=true then
 some false
 else
 kx1
def rr (kx7:Bool->Option Bool) (a0:Value) (c11:Bool):Option Bool:=
 if c11=true then
 kx7 true
 else
 if 0 < (a0.L.length:Int) then
 kx7 (!decide (a0.Kind=5))
 else
 kx7 false
def rC (kx7:Bool->Option Bool) (a0:Value) (c9:Bool):Option Bool:=
 if c9=true then
 kx7 true
 else
 if 0 < (a0.I.length:Int) then
 (rr kx7 a0) (!decide (a0.Kind=4))
 else
 (rr kx7 a0) false
def qQ (kx4:Option Bool) (c12:Bool):Option Bool:=
 if c12=true then
 some false
 else
 kx4
def jY (a0:Value) (kx4:Option Bool) (c6:Bool):Option Bool:=
 if c6=true then
 some false
 else
 if (sEq a0.S (⟨#[]⟩))=true then
 (rC (qQ kx4) a0) false
 else
 (rC (qQ kx4) a0) (!decide (a0.Kind=3))
def mJ (kx13:Option Bool) (c15:Bool):Option Bool:=
 if c15=true then
 some false
 else
 kx13
def ki  : List ByteArray->Nat->Unit->Option Bool
 | [],v17,()=>
  some true
 | x20::xs,v17,()=>
  if 64 < (x20.size:Int) then
  some false
  else
  (ki xs (v17+1)) ()
def mD (a0:Value):Option Bool:=
 ki a0.L 0 ()
def kn (a0:Value):Option Bool:=
 if 64 < (a0.S.size:Int) then
 (mJ (mD a0)) true
 else
 if 16 < (a0.I.length:Int) then
 (mJ (mD a0)) true
 else
 (mJ (mD a0)) (decide (16 < (a0.L.length:Int)))
def rb (a0:Value) (N:Nat):Option Bool:=
 if a0.N=0 then
 (jY a0 (kn a0)) false
 else
 if a0.Kind=1 then
 (jY a0 (kn a0)) false
 else
 if a0.Kind=2 then
 (jY a0 (kn a0)) (!decide (a0.N=1))
 else
 (jY a0 (kn a0)) true
def iL (N:Nat) (a0:Value):Option Bool:=
 if a0.Kind < 0 then
 (rG (rb a0 N)) true
 else
 (rG (rb a0 N)) (decide (5 < a0.Kind))
def mU (N:Nat) (a0:Value):Option Bool:=
 if a0.Kind=0 then
 some true
 else
 (iL N a0).bind fun r2=>
 some (!r2)
def dy (N:Nat):List Value->Nat->Unit->Option Int
 | [],v2,()=>
  some (-1)
 | x5::xs,v2,()=>
  (mU N x5).bind fun r8=>
  if r8=true then
  some (v2:Int)
  else
  (dy N xs (v2+1)) ()
def dM (N:Nat) (a0:List Value):Option Int:=
 dy N a0 0 ()
def bF (N:Nat) (a0:List Value):Option Bool:=
 (dM N a0).bind fun r1=>
 some (decide (0<=r1))
def iY (kx1:Option Bool) (c3:Bool):Option Bool:=
 if c3=true then
 some false
 else
 kx1
def jf (N:Nat) (a0:ah):Option Bool:=
 (bF N a0.Args).bind fun r4=>
 some (!r4)
def qu (N:Nat) (a0:ah):Option Bool:=
 if (a0.Target.Type_.size:Int) < 1 then
 (iY (jf N a0)) true
 else
 if 32 < (a0.Target.Type_.size:Int) then
 (iY (jf N a0)) true
 else
 if 32 < (a0.Target.Key.size:Int) then
 (iY (jf N a0)) true
 else
 if (a0.Method.size:Int) < 1 then
 (iY (jf N a0)) true
 else
 if 32 < (a0.Method.size:Int) then
 (iY (jf N a0)) true
 else
 (iY (jf N a0)) (decide (4 < (a0.Args.length:Int)))
def oU (N:Nat) (a0:ah):Option Bool:=
 (qu N a0).bind fun r1=>
 some (!r1)
def bR (N:Nat):List ah->Nat->Unit->Option Int
 | [],v2,()=>
  some (-1)
 | x5::xs,v2,()=>
  (oU N x5).bind fun r8=>
  if r8=true then
  some (v2:Int)
  else
  (bR N xs (v2+1)) ()
def dw (N:Nat) (a0:List ah):Option Int:=
 bR N a0 0 ()
def bx (N:Nat) (a0:List ah):Option Bool:=
 (dw N a0).bind fun r1=>
 some (decide (0<=r1))
def gJ (kx1:Option Bool) (c3:Bool):Option Bool:=
 if c3=true then
 some false
 else
 kx1
def iM (kx4:Option Bool) (c7:Bool):Option Bool:=
 if c7=true then
 some false
 else
 kx4
def iK (N:Nat) (a0:Txn):Option Bool:=
 (bx N a0.Calls).bind fun r8=>
 some (!r8)
def gF (a0:Txn) (N:Nat):Option Bool:=
 if (a0.Calls.length:Int) < 1 then
 (iM (iK N a0)) true
 else
 if 4 < (a0.Calls.length:Int) then
 (iM (iK N a0)) true
 else
 if a0.Done < 0 then
 (iM (iK N a0)) true
 else
 if (a0.Calls.length:Int) < a0.Done then
 (iM (iK N a0)) true
 else
 (iL N a0.Last).bind fun r6=>
 if r6=true then
 if a0.Done=0 then
 (iM (iK N a0)) (!decide (a0.Last.Kind=0))
 else
 (iM (iK N a0)) false
 else
 (iM (iK N a0)) true
def pJ (N:Nat) (a0:Txn):Option Bool:=
 if a0.ID < 1 then
 (gJ (gF a0 N)) true
 else
 if 1099511627776 < a0.ID then
 (gJ (gF a0 N)) true
 else
 if a0.Born < 0 then
 (gJ (gF a0 N)) true
 else
 if 1099511627776 < a0.Born then
 (gJ (gF a0 N)) true
 else
 if (a0.Client.size:Int) < 1 then
 (gJ (gF a0 N)) true
 else
 if 32 < (a0.Client.size:Int) then
 (gJ (gF a0 N)) true
 else
 if a0.Seq < 1 then
 (gJ (gF a0 N)) true
 else
 ((gJ (gF a0 N)) (decide (1099511627776 < a0.Seq)))
def lV (rec3:Unit->Option Bool) (c11:Bool):Option Bool:=
 if c11=true then
 some false
 else
 rec3 ()
def gY (a0:ae) (N:Nat):List Txn->Nat->Unit->Option Bool
 | [],v2,()=>
  some (decide ((a0.Txns.length:Int)<=32))
 | x5::xs,v2,()=>
  (pJ N x5).bind fun r9=>
  if r9=true then
  if 0 < (v2:Int) then
  gx a0.Txns (IntKind.i64.wrap ((v2:Int) - 1)) fun x10=>
  (lV (gY a0 N xs (v2+1))) (decide (x5.ID<=x10.ID))
  else
  (lV (gY a0 N xs (v2+1))) false
  else
  (lV (gY a0 N xs (v2+1))) true
def uE (N:Nat) (a0:ae):Option Bool:=
 gY a0 N a0.Txns 0 ()
def jb (N:Nat) (a0:Ref):Option Bool:=
 if 1<=(a0.Type_.size:Int) then
 if (a0.Type_.size:Int)<=32 then
 some (decide ((a0.Key.size:Int)<=32))
 else
 some false
 else
 some false
def kt (N:Nat) (a0:Int):Option Bool:=
 if 1<=a0 then
 some (decide (a0<=1099511627776))
 else
 some false
def mK (kx1:Option Bool) (c5:Bool):Option Bool:=
 if c5=true then
 some false
 else
 kx1
def jc (rec8:Unit->Option Bool) (c15:Bool):Option Bool:=
 if c15=true then
 some false
 else
 rec8 ()
def fJ (a0:ai):List Int->Nat->Unit->Option Bool
 | [],v7,()=>
  some true
 | x10::xs,v7,()=>
  if x10 < 1 then
  (jc (fJ a0 xs (v7+1))) true
  else
  if a0.Owner<=x10 then
  (jc (fJ a0 xs (v7+1))) true
  else
  if 0 < (v7:Int) then
  gx a0.Waiters (IntKind.i64.wrap ((v7:Int) - 1)) fun x14=>
  (jc (fJ a0 xs (v7+1))) (decide (x10<=x14))
  else
  (jc (fJ a0 xs (v7+1))) false
def mF (a0:ai):Option Bool:=
 fJ a0 a0.Waiters 0 ()
def mY (N:Nat) (a0:ai):Option Bool:=
 (jb N a0.Actor).bind fun r3=>
 if r3=true then
 (kt N a0.Owner).bind fun r4=>
 if r4=true then
 (mK (mF a0)) (decide (32 < (a0.Waiters.length:Int)))
 else
 (mK (mF a0)) true
 else
 (mK (mF a0)) true
def lM (N:Nat) (a0:ByteArray):Option Bool:=
 some (!(sEq a0 a0))
def fI (N:Nat) (a0:ByteArray) (a1:ByteArray):Option Int:=
 (lM N a0).bind fun r1=>
 (lM N a1).bind fun r2=>
 if r1=true then
 if r2=true then
 some 0
 else
 some (-1)
 else
 if r2=true then
 some 1
 else
 if (sLt a0 a1)=true then
 some (-1)
 else
 if (sLt a0 a1 || sEq a0 a1)=true then
 some 0
 else
 some 1
def qx  : List Int->Nat->Unit->Option Int
 | [],v2,()=>
  some 0
 | x5::xs,v2,()=>
  if x5=0 then
  (qx xs (v2+1)) ()
  else
  some x5
def tY (N:Nat) (a0:List Int):Option Int:=
 qx a0 0 ()
def mZ (N:Nat) (a0:Ref) (a1:Ref):Option Int:=
 (fI N a0.Type_ a1.Type_).bind fun r1=>
 (fI N a0.Key a1.Key).bind fun r2=>
 (tY N [r1,r2]).bind fun r3=>
 some r3
def oT (rec4:Unit->Option Bool) (c13:Bool):Option Bool:=
 if c13=true then
 some false
 else
 rec4 ()
def kh (N:Nat) (a0:List ai):List ai->Nat->Unit->Option Bool
 | [],v3,()=>
  some true
 | x6::xs,v3,()=>
  (mY N x6).bind fun r10=>
  if r10=true then
  if 0 < (v3:Int) then
  gx a0 (IntKind.i64.wrap ((v3:Int) - 1)) fun x11=>
  (mZ N x11.Actor x6.Actor).bind fun r12=>
  (oT (kh N a0 xs (v3+1))) (decide (0<=r12))
  else
  (oT (kh N a0 xs (v3+1))) false
  else
  (oT (kh N a0 xs (v3+1))) true
def jN (N:Nat) (a0:List ai):Option Bool:=
 if 128 < (a0.length:Int) then
 some false
 else
 kh N a0 a0 0 ()
def yx (N:Nat) (a0:Txn) (c0_0:Int):Option Bool:=
 some (decide (a0.ID=c0_0))
def eu (N:Nat) (k1_0_0:Int):List Txn->Nat->Unit->Option Int
 | [],v2,()=>
  some (-1)
 | x5::xs,v2,()=>
  (yx N x5 k1_0_0).bind fun r8=>
  if r8=true then
  some (v2:Int)
  else
  (eu N k1_0_0 xs (v2+1)) ()
def ff (N:Nat) (a0:List Txn) (k1_0_0:Int):Option Int:=
 eu N k1_0_0 a0 0 ()
def fF (N:Nat) (a0:ae) (a1:Int):Option Int:=
 (ff N a0.Txns a1).bind fun r1=>
 some r1
def lU (N:Nat) (a0:Int) (c0_0:List Txn) (c0_1:List ai) (c0_2:List aa):Option Bool:=
 (fF N (ae.mk c0_0 c0_1 c0_2) a0).bind fun r1=>
 some (decide (r1 < 0))
def dJ (N:Nat) (k1_0_0:List Txn) (k1_0_1:List ai) (k1_0_2:List aa):List Int->Nat->Unit->Option Int
 | [],v2,()=>
  some (-1)
 | x5::xs,v2,()=>
  (lU N x5 k1_0_0 k1_0_1 k1_0_2).bind fun r8=>
  if r8=true then
  some (v2:Int)
  else
  (dJ N k1_0_0 k1_0_1 k1_0_2 xs (v2+1)) ()
def dV (N:Nat) (a0:List Int) (k1_0_0:List Txn) (k1_0_1:List ai) (k1_0_2:List aa):Option Int:=
 dJ N k1_0_0 k1_0_1 k1_0_2 a0 0 ()
def dI (N:Nat) (a0:List Int) (k1_0_0:List Txn) (k1_0_1:List ai) (k1_0_2:List aa):Option Bool:=
 (dV N a0 k1_0_0 k1_0_1 k1_0_2).bind fun r1=>
 some (decide (0<=r1))
def w6 (rec5:Unit->Option Bool) (c13:Bool):Option Bool:=
 if c13=true then
 some false
 else
 rec5 ()
def jt (N:Nat) (a0:ae):List ai->Nat->Unit->Option Bool
 | [],v4,()=>
  some true
 | x7::xs,v4,()=>
  (fF N a0 x7.Owner).bind fun r11=>
  if r11 < 0 then
  (w6 (jt N a0 xs (v4+1))) true
  else
  (dI N x7.Waiters a0.Txns a0.Locks a0.Stacks).bind fun r12=>
  (w6 (jt N a0 xs (v4+1))) r12
def o5 (N:Nat) (a0:ae):Option Bool:=
 (jN N a0.Locks).bind fun r2=>
 if r2=true then
 jt N a0 a0.Locks 0 ()
 else
 some false
def kV (N:Nat) (a0:Value):Option Bool:=
 (iL N a0).bind fun r1=>
 some (!r1)
def bZ (N:Nat):List Value->Nat->Unit->Option Int
 | [],v2,()=>
  some (-1)
 | x5::xs,v2,()=>
  (kV N x5).bind fun r8=>
  if r8=true then
  some (v2:Int)
  else
  (bZ N xs (v2+1)) ()
def dF (N:Nat) (a0:List Value):Option Int:=
 bZ N a0 0 ()
def b9 (N:Nat) (a0:List Value):Option Bool:=
 (dF N a0).bind fun r1=>
 some (decide (0<=r1))
def kL (N:Nat) (a0:List Value):Option Bool:=
 if (a0.length:Int)<=8 then
 (b9 N a0).bind fun r2=>
 some (!r2)
 else
 some false
def k8 (N:Nat) (a0:al) (c0_0:Int) (c0_1:List Value) (c0_2:Bool):Option Bool:=
 some (decide (a0.Txn_=c0_0))
def da (N:Nat) (k1_0_0:Int) (k1_0_1:List Value) (k1_0_2:Bool):List al->Nat->Unit->Option Int
 | [],v2,()=>
  some (-1)
 | x5::xs,v2,()=>
  (k8 N x5 k1_0_0 k1_0_1 k1_0_2).bind fun r8=>
  if r8=true then
  some (v2:Int)
  else
  (da N k1_0_0 k1_0_1 k1_0_2 xs (v2+1)) ()
def dE (N:Nat) (a0:List al) (k1_0_0:Int) (k1_0_1:List Value) (k1_0_2:Bool):Option Int:=
 da N k1_0_0 k1_0_1 k1_0_2 a0 0 ()
def be (N:Nat) (a0:List al) (k1_0_0:Int) (k1_0_1:List Value) (k1_0_2:Bool):Option Bool:=
 (dE N a0 k1_0_0 k1_0_1 k1_0_2).bind fun r1=>
 some (decide (0<=r1))
def kv (rec3:Unit->Option Bool) (c15:Bool):Option Bool:=
 if c15=true then
 some false
 else
 rec3 ()
def eX (a1:List al) (N:Nat) (a0:ae):List al->Nat->Unit->Option Bool
 | [],v2,()=>
  some (decide (0 < (a1.length:Int)))
 | x5::xs,v2,()=>
  (fF N a0 x5.Txn_).bind fun r9=>
  if r9 < 0 then
  (kv (eX a1 N a0 xs (v2+1))) true
  else
  (kL N x5.Fields).bind fun r10=>
  if r10=true then
  if x5.Prepared=true then
  slx a1 0 (v2:Int) fun l11=>
  (be N l11 x5.Txn_ x5.Fields x5.Prepared).bind fun r12=>
  (kv (eX a1 N a0 xs (v2+1))) r12
  else
  if (v2:Int) < (IntKind.i64.wrap ((a1.length:Int) - 1)) then
  (kv (eX a1 N a0 xs (v2+1))) true
  else
  slx a1 0 (v2:Int) fun l13=>
  (be N l13 x5.Txn_ x5.Fields x5.Prepared).bind fun r14=>
  (kv (eX a1 N a0 xs (v2+1))) r14
  else
  (kv (eX a1 N a0 xs (v2+1))) true
def kU (N:Nat) (a0:ae) (a1:List al):Option Bool:=
 eX a1 N a0 a1 0 ()
def pO (N:Nat) (a0:ai) (a1:Ref):Option Int:=
 (mZ N a0.Actor a1).bind fun r1=>
 some r1
def bf (a0:List ai) (N:Nat) (a1:Ref) (kx1:Int->Option (Int × Bool)):Nat->Int × Int->Option (Int × Bool)
 | 0,_=>none
 | n+1,(v2,v3)=>
  if v2 < v3 then
  gx a0 (IntKind.i64.wrap (kR .u64 (IntKind.u64.wrap (IntKind.i64.wrap (v2+v3))) 1)) fun x6=>
  (pO N x6 a1).bind fun r7=>
  if r7 < 0 then
  (bf a0 N a1 kx1 n) (IntKind.i64.wrap ((IntKind.i64.wrap (kR .u64 (IntKind.u64.wrap (IntKind.i64.wrap (v2+v3))) 1))+1),v3)
  else
  (bf a0 N a1 kx1 n) (v2,IntKind.i64.wrap (kR .u64 (IntKind.u64.wrap (IntKind.i64.wrap (v2+v3))) 1))
  else
  kx1 v2
def ei (a0:List ai) (N:Nat) (a1:Ref) (v8:Int):Option (Int × Bool):=
 if v8 < (a0.length:Int) then
 gx a0 v8 fun x10=>
 (pO N x10 a1).bind fun r11=>
 some (v8,(decide (r11=0)))
 else
 some (v8,false)
def dH (N:Nat) (a0:List ai) (a1:Ref):Option (Int × Bool):=
 bf a0 N a1 (ei a0 N a1) N (0,(a0.length:Int))
def qS (N:Nat) (a0:List ai) (a1:Ref):Option (Int × Bool):=
 (dH N a0 a1).bind fun r1=>
 some (r1.1,r1.2)
def oM (N:Nat) (a0:List ai) (a1:Ref):Option Int:=
 (jN N a0).bind fun r2=>
 if r2=true then
 (qS N a0 a1).bind fun r4=>
 if r4.2=true then
 gx a0 r4.1 fun x5=>
 some x5.Owner
 else
 some 0
 else
 some 0
def uJ (N:Nat) (a0:ah) (c0_0:ByteArray) (c0_1:ByteArray):Option Bool:=
 some (sEq a0.Target.Type_ c0_0 && sEq a0.Target.Key c0_1)
def db (N:Nat) (k1_0_0:ByteArray) (k1_0_1:ByteArray):List ah->Nat->Unit->Option Int
 | [],v2,()=>
  some (-1)
 | x5::xs,v2,()=>
  (uJ N x5 k1_0_0 k1_0_1).bind fun r8=>
  if r8=true then
  some (v2:Int)
  else
  (db N k1_0_0 k1_0_1 xs (v2+1)) ()
def dG (N:Nat) (a0:List ah) (k1_0_0:ByteArray) (k1_0_1:ByteArray):Option Int:=
 db N k1_0_0 k1_0_1 a0 0 ()
def dc (N:Nat) (a0:List ah) (k1_0_0:ByteArray) (k1_0_1:ByteArray):Option Bool:=
 (dG N a0 k1_0_0 k1_0_1).bind fun r1=>
 some (decide (0<=r1))
def oI (N:Nat) (a0:List ah) (a1:Ref):Option Bool:=
 (dc N a0 a1.Type_ a1.Key).bind fun r1=>
 some r1
def il (N:Nat) (a0:Ref) (a1:Ref):Option Int:=
 (fI N a0.Type_ a1.Type_).bind fun r1=>
 (fI N a0.Key a1.Key).bind fun r2=>
 (tY N [r1,r2]).bind fun r3=>
 some r3
def kz (kx8:Option Bool) (c14:Bool):Option Bool:=
 if c14=true then
 some false
 else
 kx8
def mH (kx16:Option Bool) (c19:Bool):Option Bool:=
 if c19=true then
 some false
 else
 kx16
def j7 (rec21:Unit->Option Bool) (c31:Bool):Option Bool:=
 if c31=true then
 some false
 else
 rec21 ()
def fG (rec3:Unit->Option Bool) (N:Nat) (a0:ae) (x5:aa):List al->Nat->Unit->Option Bool
 | [],v20,()=>
  rec3 ()
 | x23::xs,v20,()=>
  (fF N a0 x23.Txn_).bind fun r26=>
  gx a0.Txns r26 fun x27=>
  slx x27.Calls 0 x27.Done fun l29=>
  (oI N l29 x5.Actor).bind fun r30=>
  if r30=true then
  if x23.Prepared=true then
  (j7 (fG rec3 N a0 x5 xs (v20+1))) (decide (x27.Done < (x27.Calls.length:Int)))
  else
  (j7 (fG rec3 N a0 x5 xs (v20+1))) false
  else
  (j7 (fG rec3 N a0 x5 xs (v20+1))) true
def mu (rec3:Unit->Option Bool) (N:Nat) (a0:ae) (x5:aa):Option Bool:=
 fG rec3 N a0 x5 x5.Layers 0 ()
def kg (x5:aa) (rec3:Unit->Option Bool) (N:Nat) (a0:ae):Option Bool:=
 gx x5.Layers (IntKind.i64.wrap ((x5.Layers.length:Int) - 1)) fun x15=>
 if x15.Prepared=true then
 (mH (mu rec3 N a0 x5)) false
 else
 (oM N a0.Locks x5.Actor).bind fun r18=>
 (mH (mu rec3 N a0 x5)) (!decide (r18=x15.Txn_))
def eY (a0:ae) (N:Nat):List aa->Nat->Unit->Option Bool
 | [],v2,()=>
  some true
 | x5::xs,v2,()=>
  if 0 < (v2:Int) then
  gx a0.Stacks (IntKind.i64.wrap ((v2:Int) - 1)) fun x10=>
  (il N x10.Actor x5.Actor).bind fun r11=>
  if 0<=r11 then
  (kz (kg x5 (eY a0 N xs (v2+1)) N a0)) true
  else
  (kU N a0 x5.Layers).bind fun r12=>
  (kz (kg x5 (eY a0 N xs (v2+1)) N a0)) (!r12)
  else
  (kU N a0 x5.Layers).bind fun r13=>
  (kz (kg x5 (eY a0 N xs (v2+1)) N a0)) (!r13)
def mW (N:Nat) (a0:ae):Option Bool:=
 eY a0 N a0.Stacks 0 ()
def yr (N:Nat) (a0:aa) (c0_0:ByteArray) (c0_1:ByteArray):Option Bool:=
 some (sEq a0.Actor.Type_ c0_0 && sEq a0.Actor.Key c0_1)
def dg (N:Nat) (k1_0_0:ByteArray) (k1_0_1:ByteArray):List aa->Nat->Unit->Option Int
 | [],v2,()=>
  some (-1)
 | x5::xs,v2,()=>
  (yr N x5 k1_0_0 k1_0_1).bind fun r8=>
  if r8=true then
  some (v2:Int)
  else
  (dg N k1_0_0 k1_0_1 xs (v2+1)) ()
def dK (N:Nat) (a0:List aa) (k1_0_0:ByteArray) (k1_0_1:ByteArray):Option Int:=
 dg N k1_0_0 k1_0_1 a0 0 ()
def mw (N:Nat) (a0:ae) (a1:Ref):Option Int:=
 (dK N a0.Stacks a1.Type_ a1.Key).bind fun r1=>
 some r1
def sV (a2:Int):List al->Nat->Unit->Option (al × Bool)
 | [],v4,()=>
  some ((al.mk 0 [] false),false)
 | x7::xs,v4,()=>
  if x7.Txn_=a2 then
  some (x7,true)
  else
  (sV a2 xs (v4+1)) ()
def jE (N:Nat) (a0:ae) (a1:Ref) (a2:Int):Option (al × Bool):=
 (mw N a0 a1).bind fun r2=>
 if 0<=r2 then
 gx a0.Stacks r2 fun x3=>
 sV a2 x3.Layers 0 ()
 else
 some ((al.mk 0 [] false),false)
def gV (rec3:Unit->Option Bool) (N:Nat) (a0:ae) (x5:Txn):List ah->Nat->Unit->Option Bool
 | [],v9,()=>
  rec3 ()
 | x12::xs,v9,()=>
  (jE N a0 x12.Target x5.ID).bind fun r15=>
  if r15.2=true then
  (gV rec3 N a0 x5 xs (v9+1)) ()
  else
  some false
def jo (kx1:Option Bool) (N:Nat) (a0:ae):List Txn->Nat->Unit->Option Bool
 | [],v2,()=>
  kx1
 | x5::xs,v2,()=>
  slx x5.Calls 0 x5.Done fun l8=>
  gV (jo kx1 N a0 xs (v2+1)) N a0 x5 l8 0 ()
def fL (kx26:Option Bool) (c29:Bool):Option Bool:=
 if c29=true then
 some false
 else
 kx26
def ot (rec31:Unit->Option Bool) (c40:Bool):Option Bool:=
 if c40=true then
 some false
 else
 rec31 ()
def fK (rec18:Unit->Option Bool) (N:Nat) (a0:ae) (x20:ai):List Int->Nat->Unit->Option Bool
 | [],v30,()=>
  rec18 ()
 | x33::xs,v30,()=>
  (fF N a0 x33).bind fun r36=>
  gx a0.Txns r36 fun x37=>
  if x37.Done=(x37.Calls.length:Int) then
  (ot (fK rec18 N a0 x20 xs (v30+1))) true
  else
  gx x37.Calls x37.Done fun x39=>
  (ot (fK rec18 N a0 x20 xs (v30+1))) (!(sEq x39.Target.Type_ x20.Actor.Type_ && sEq x39.Target.Key x20.Actor.Key))
def fM (rec18:Unit->Option Bool) (N:Nat) (a0:ae) (x20:ai):Option Bool:=
 fK rec18 N a0 x20 x20.Waiters 0 ()
def bW (N:Nat) (a0:ae):List ai->Nat->Unit->Option Bool
 | [],v17,()=>
  some true
 | x20::xs,v17,()=>
  (fF N a0 x20.Owner).bind fun r23=>
  gx a0.Txns r23 fun x24=>
  (jE N a0 x20.Actor x24.ID).bind fun r25=>
  if x24.Done < (x24.Calls.length:Int) then
  if r25.2=true then
  (fL (fM (bW N a0 xs (v17+1)) N a0 x20)) false
  else
  gx x24.Calls x24.Done fun x28=>
  (fL (fM (bW N a0 xs (v17+1)) N a0 x20)) (!(sEq x28.Target.Type_ x20.Actor.Type_ && sEq x28.Target.Key x20.Actor.Key))
  else
  if r25.2=true then
  if r25.1.Prepared=true then
  (fL (fM (bW N a0 xs (v17+1)) N a0 x20)) true
  else
  (fL (fM (bW N a0 xs (v17+1)) N a0 x20)) false
  else
  (fL (fM (bW N a0 xs (v17+1)) N a0 x20)) true
def oE (N:Nat) (a0:ae):Option Bool:=
 bW N a0 a0.Locks 0 ()
def lf (N:Nat) (a0:ae):Option Bool:=
 jo (oE N a0) N a0 a0.Txns 0 ()
def jK (a1:Int):List Int->Nat->Unit->Option Int
 | [],v2,()=>
  some (-1)
 | x5::xs,v2,()=>
  if a1=x5 then
  some (v2:Int)
  else
  (jK a1 xs (v2+1)) ()
def pX (N:Nat) (a0:List Int) (a1:Int):Option Int:=
 jK a1 a0 0 ()
def dL (N:Nat) (a0:List Int) (a1:Int):Option Bool:=
 (pX N a0 a1).bind fun r1=>
 some (decide (0<=r1))
def Ai (kx15:Option Bool) (c17:Bool):Option Bool:=
 if c17=true then
 some false
 else
 kx15
def vQ (c8:Bool) (rec10:Bool->Option Bool) (N:Nat) (a2:List Int) (x12:al):Option Bool:=
 if c8=true then
 rec10 true
 else
 (dL N a2 x12.Txn_).bind fun r18=>
 rec10 (!r18)
def kP (rec3:Unit->Option Bool) (a1:Int) (N:Nat) (a2:List Int):List al->Nat->Bool->Option Bool
 | [],v9,c8=>
  rec3 ()
 | x12::xs,v9,c8=>
  if x12.Txn_=a1 then
  (Ai (vQ c8 (kP rec3 a1 N a2 xs (v9+1)) N a2 x12)) c8
  else
  (Ai (vQ c8 (kP rec3 a1 N a2 xs (v9+1)) N a2 x12)) false
def pN (a1:Int) (N:Nat) (a2:List Int):List aa->Nat->Unit->Option Bool
 | [],v2,()=>
  some true
 | x5::xs,v2,()=>
  kP (pN a1 N a2 xs (v2+1)) a1 N a2 x5.Layers 0 false
def vC (N:Nat) (a0:ae) (a1:Int) (a2:List Int):Option Bool:=
 pN a1 N a2 a0.Stacks 0 ()
def sE (l8:List Int) (x12:Txn) (rec10:List Int->Option Bool) (c18:Bool):Option Bool:=
 if c18=true then
 apx 7 l8 [x12.ID] fun l19=>
 rec10 l19
 else
 rec10 l8
def ke (rec4:List Int->Option Bool) (N:Nat) (a0:ae):List Txn->Nat->List Int->Option Bool
 | [],v9,l8=>
  rec4 l8
 | x12::xs,v9,l8=>
  (dL N l8 x12.ID).bind fun r16=>
  if r16=true then
  (sE l8 x12 (ke rec4 N a0 xs (v9+1))) false
  else
  (vC N a0 x12.ID l8).bind fun r17=>
  (sE l8 x12 (ke rec4 N a0 xs (v9+1))) r17
def lK (a0:ae) (N:Nat):Nat->Nat->List Int->Option Bool
 | 0,v3,l2=>
  some (decide ((l2.length:Int)=(a0.Txns.length:Int)))
 | m+1,v3,l2=>
  ke (lK a0 N m (v3+1)) N a0 a0.Txns 0 l2
def uS (N:Nat) (a0:ae):Option Bool:=
 lK a0 N (a0.Txns.length - 0) 0 []
def jW (N:Nat) (a0:ae):Option Bool:=
 (uE N a0).bind fun r2=>
 if r2=true then
 (o5 N a0).bind fun r3=>
 if r3=true then
 (mW N a0).bind fun r4=>
 if r4=true then
 (lf N a0).bind fun r5=>
 if r5=true then
 (uS N a0).bind fun r6=>
 some r6
 else
 some false
 else
 some false
 else
 some false
 else
 some false
def jd (N:Nat) (a0:List Txn):Option (List Txn):=
 apn 151 a0 <|
 some a0
def fp (N:Nat) (a0:List ai):Option (List ai):=
 apn 63 a0 <|
 some a0
def eF (N:Nat) (a0:List aa):Option (List aa):=
 apn 55 a0 <|
 some a0
def eZ (N:Nat) (a0:List ah):Option (List ah):=
 apn 71 a0 <|
 some a0
def gO (N:Nat) (a0:List Value):Option (List Value):=
 apn 79 a0 <|
 some a0
def eB (N:Nat) (a0:List Int):Option (List Int):=
 apn 7 a0 <|
 some a0
def gl (N:Nat) (a0:List ByteArray):Option (List ByteArray):=
 apn 15 a0 <|
 some a0
def ig (N:Nat) (a0:Value):Option Value:=
 (eB N a0.I).bind fun r1=>
 (gl N a0.L).bind fun r2=>
 some (Value.mk a0.Kind a0.N a0.S r1 r2)
def jk (N:Nat):Nat->Nat->List Value->Option (List Value)
 | 0,v4,l3=>
  some l3
 | m+1,v4,l3=>
  gx l3 (v4:Int) fun x9=>
  (ig N x9).bind fun r10=>
  (jk N m (v4+1)) (l3.set v4 r10)
def fc (N:Nat) (a0:List Value):Option (List Value):=
 (gO N a0).bind fun r1=>
 jk N (r1.length - 0) 0 r1
def lv (N:Nat) (a0:ah):Option ah:=
 (fc N a0.Args).bind fun r1=>
 some (ah.mk a0.Target a0.Method r1)
def kT (kx2:(List ah)->Option Txn) (N:Nat):Nat->Nat->List ah->Option Txn
 | 0,v4,l3=>
  kx2 l3
 | m+1,v4,l3=>
  gx l3 (v4:Int) fun x9=>
  (lv N x9).bind fun r10=>
  (kT kx2 N m (v4+1)) (l3.set v4 r10)
def vm (N:Nat) (a0:Txn) (l11:List ah):Option Txn:=
 (ig N a0.Last).bind fun r12=>
 some (Txn.mk a0.ID a0.Born a0.Client a0.Seq l11 a0.Done r12)
def kN (N:Nat) (a0:Txn):Option Txn:=
 (eZ N a0.Calls).bind fun r1=>
 kT (vm N a0) N (r1.length - 0) 0 r1
def gN (N:Nat) (a0:List al):Option (List al):=
 apn 39 a0 <|
 some a0
def ja (N:Nat):Nat->Nat->List al->Option (List al)
 | 0,v4,l3=>
  some l3
 | m+1,v4,l3=>
  gx l3 (v4:Int) fun x9=>
  (fc N x9.Fields).bind fun r10=>
  (ja N m (v4+1)) (l3.set v4 (al.mk x9.Txn_ r10 x9.Prepared))
def kF (N:Nat) (a0:List al):Option (List al):=
 (gN N a0).bind fun r1=>
 ja N (r1.length - 0) 0 r1
def pM (kx4:(List Txn)->Option ae) (N:Nat):Nat->Nat->List Txn->Option ae
 | 0,v6,l5=>
  kx4 l5
 | m+1,v6,l5=>
  gx l5 (v6:Int) fun x11=>
  (kN N x11).bind fun r12=>
  (pM kx4 N m (v6+1)) (l5.set v6 r12)
def pR (kx14:(List ai)->Option ae) (N:Nat):Nat->Nat->List ai->Option ae
 | 0,v16,l15=>
  kx14 l15
 | m+1,v16,l15=>
  gx l15 (v16:Int) fun x21=>
  (eB N x21.Waiters).bind fun r22=>
  (pR kx14 N m (v16+1)) (l15.set v16 (ai.mk x21.Actor x21.Owner r22))
def pH (l13:List Txn) (l23:List ai) (N:Nat):Nat->Nat->List aa->Option ae
 | 0,v26,l25=>
  NB l25 v26 <|
  (some (ae.mk l13 l23 l25))
 | m+1,v26,l25=>
  gx l25 (v26:Int) fun x31=>
  (kF N x31.Layers).bind fun r32=>
  (pH l13 l23 N m (v26+1)) (l25.set v26 (aa.mk x31.Actor r32))
def zD (l13:List Txn) (N:Nat) (r3:List aa) (l23:List ai):Option ae:=
 pH l13 l23 N (r3.length - 0) 0 r3
def zF (N:Nat) (r3:List aa) (r2:List ai) (l13:List Txn):Option ae:=
 pR (zD l13 N r3) N (r2.length - 0) 0 r2
def lq (N:Nat) (a0:ae):Option ae:=
 (jd N a0.Txns).bind fun r1=>
 (fp N a0.Locks).bind fun r2=>
 (eF N a0.Stacks).bind fun r3=>
 pM (zF N r3 r2) N (r1.length - 0) 0 r1
def pT (a0:ae) (kx1:Option (ae × Int)) (c8:Bool):Option (ae × Int):=
 if c8=true then
 some ((ae.mk [] [] []),8)
 else
 if (a0.Txns.length:Int)=32 then
 some ((ae.mk [] [] []),5)
 else
 kx1
def zw (a0:ae) (kx1:Option (ae × Int)) (a1:Int) (c5:Bool):Option (ae × Int):=
 if c5=true then
 some ((ae.mk [] [] []),1)
 else
 if 0 < (a0.Txns.length:Int) then
 gx a0.Txns (IntKind.i64.wrap ((a0.Txns.length:Int) - 1)) fun x7=>
 (pT a0 kx1) (decide (a1<=x7.ID))
 else
 (pT a0 kx1) false
def pD (N:Nat) (a0:ae) (a1:Int) (a2:Int) (a3:ByteArray) (a4:Int) (a5:List ah):Option (ae × Int):=
 (lq N a0).bind fun r9=>
 (kN N (Txn.mk a1 a2 a3 a4 a5 0 (Value.mk 0 0 (⟨#[]⟩) [] []))).bind fun r10=>
 apx 151 r9.Txns [r10] fun l11=>
 some ((ae.mk l11 r9.Locks r9.Stacks),0)
def jX (N:Nat) (a0:ae) (a1:Int) (a2:Int) (a3:ByteArray) (a4:Int) (a5:List ah):Option (ae × Int):=
 (jW N a0).bind fun r3=>
 if r3=true then
 (pJ N (Txn.mk a1 a2 a3 a4 a5 0 (Value.mk 0 0 (⟨#[]⟩) [] []))).bind fun r4=>
 (zw a0 (pD N a0 a1 a2 a3 a4 a5) a1) (!r4)
 else
 (zw a0 (pD N a0 a1 a2 a3 a4 a5) a1) true
def rR (kx2:Option (ah × Bool)) (c5:Bool):Option (ah × Bool):=
 if c5=true then
 some ((ah.mk (Ref.mk (⟨#[]⟩) (⟨#[]⟩)) (⟨#[]⟩) []),false)
 else
 kx2
def ya (a0:ae) (r1:Int) (N:Nat):Option (ah × Bool):=
 gx a0.Txns r1 fun x6=>
 gx x6.Calls x6.Done fun x7=>
 (lv N x7).bind fun r8=>
 some (r8,true)
def pE (N:Nat) (a0:ae) (a1:Int):Option (ah × Bool):=
 (fF N a0 a1).bind fun r1=>
 if r1 < 0 then
 (rR (ya a0 r1 N)) true
 else
 gx a0.Txns r1 fun x4=>
 if x4.Done < 0 then
 (rR (ya a0 r1 N)) true
 else
 (rR (ya a0 r1 N)) (decide ((x4.Calls.length:Int)<=x4.Done))
def lI (N:Nat):Nat->Nat->List ai->Option (List ai)
 | 0,v4,l3=>
  NB l3 v4 <|
  (some l3)
 | m+1,v4,l3=>
  gx l3 (v4:Int) fun x9=>
  (eB N x9.Waiters).bind fun r10=>
  (lI N m (v4+1)) (l3.set v4 (ai.mk x9.Actor x9.Owner r10))
def gC (N:Nat) (a0:List ai):Option (List ai):=
 (fp N a0).bind fun r1=>
 lI N (r1.length - 0) 0 r1
def mI (N:Nat) (a0:List ai) (a1:Int) (a2:List ai):Option (List ai):=Iz 63 a0 a1 a2 fun l=>some l
def qB (N:Nat) (a0:Int):Option Bool:=
 some (!decide (a0=a0))
def pW (N:Nat) (a0:Int) (a1:Int):Option Bool:=
 (qB N a0).bind fun r2=>
 if r2=true then
 (qB N a1).bind fun r3=>
 if r3=true then
 some (decide (a0 < a1))
 else
 some true
 else
 some (decide (a0 < a1))
def lZ (N:Nat) (a0:Int):Option Bool:=
 some (!decide (a0=a0))
def eE (a0:List Int) (N:Nat) (a1:Int) (kx1:Int->Option (Int × Bool)):Nat->Int × Int->Option (Int × Bool)
 | 0,_=>none
 | n+1,(v2,v3)=>
  if v2 < v3 then
  gx a0 (IntKind.i64.wrap (kR .u64 (IntKind.u64.wrap (IntKind.i64.wrap (v2+v3))) 1)) fun x6=>
  (pW N x6 a1).bind fun r7=>
  if r7=true then
  (eE a0 N a1 kx1 n) (IntKind.i64.wrap ((IntKind.i64.wrap (kR .u64 (IntKind.u64.wrap (IntKind.i64.wrap (v2+v3))) 1))+1),v3)
  else
  (eE a0 N a1 kx1 n) (v2,IntKind.i64.wrap (kR .u64 (IntKind.u64.wrap (IntKind.i64.wrap (v2+v3))) 1))
  else
  kx1 v2
def jP (a0:List Int) (a1:Int) (N:Nat) (v8:Int):Option (Int × Bool):=
 if v8 < (a0.length:Int) then
 gx a0 v8 fun x10=>
 if x10=a1 then
 some (v8,true)
 else
 (lZ N x10).bind fun r11=>
 if r11=true then
 (lZ N a1).bind fun r12=>
 some (v8,r12)
 else
 some (v8,false)
 else
 some (v8,false)
def gR (N:Nat) (a0:List Int) (a1:Int):Option (Int × Bool):=
 eE a0 N a1 (jP a0 a1 N) N (0,(a0.length:Int))
def om (N:Nat) (a0:List Int) (a1:Int) (a2:List Int):Option (List Int):=Iz 7 a0 a1 a2 fun l=>some l
def pt (kx1:Option ((List ai) × Int × Int)) (c6:Bool):Option ((List ai) × Int × Int):=
 if c6=true then
 some ([],0,1)
 else
 kx1
def pB (N:Nat) (a0:List ai) (a1:Ref) (a2:Int):Option ((List ai) × Int × Int):=
 (qS N a0 a1).bind fun r7=>
 if r7.2=true then
 gx a0 r7.1 fun x12=>
 (gR N x12.Waiters a2).bind fun r13=>
 if x12.Owner=a2 then
 (gC N a0).bind fun r15=>
 some (r15,1,0)
 else
 if x12.Owner < a2 then
 (gC N a0).bind fun r16=>
 some (r16,3,0)
 else
 if r13.2=true then
 (gC N a0).bind fun r17=>
 some (r17,2,0)
 else
 if (x12.Waiters.length:Int)=32 then
 some ([],0,5)
 else
 (gC N a0).bind fun r18=>
 gx r18 r7.1 fun x19=>
 (om N x19.Waiters r13.1 [a2]).bind fun r20=>
 some ((r18.set ((r7.1).toNat) (ai.mk x19.Actor x19.Owner r20)),2,0)
 else
 if (a0.length:Int)=128 then
 some ([],0,5)
 else
 (gC N a0).bind fun r10=>
 (mI N r10 r7.1 [(ai.mk a1 a2 [])]).bind fun r11=>
 some (r11,1,0)
def qv (N:Nat) (a0:List ai) (a1:Ref) (a2:Int):Option ((List ai) × Int × Int):=
 (jN N a0).bind fun r3=>
 if r3=true then
 (jb N a1).bind fun r4=>
 if r4=true then
 (kt N a2).bind fun r5=>
 (pt (pB N a0 a1 a2)) (!r5)
 else
 (pt (pB N a0 a1 a2)) true
 else
 (pt (pB N a0 a1 a2)) true
def vG (v8:Int) (v9:Int):Option Int:=
 gxs (⟨((([0,1,2,2,3,3,3,3,4,4,4,4,4,4,4,4,5,5,5,5,5,5,5,5,5,5,5,5,5,5,5,5,6,6,6,6,6,6,6,6,6,6,6,6,6,6,6,6,6,6,6,6,6,6,6,6,6,6,6,6,6,6,6,6]:List UInt8).append ([7,7,7,7,7,7,7,7,7,7,7,7,7,7,7,7,7,7,7,7,7,7,7,7,7,7,7,7,7,7,7,7,7,7,7,7,7,7,7,7,7,7,7,7,7,7,7,7,7,7,7,7,7,7,7,7,7,7,7,7,7,7,7,7]:List UInt8)).append (([8,8,8,8,8,8,8,8,8,8,8,8,8,8,8,8,8,8,8,8,8,8,8,8,8,8,8,8,8,8,8,8,8,8,8,8,8,8,8,8,8,8,8,8,8,8,8,8,8,8,8,8,8,8,8,8,8,8,8,8,8,8,8,8]:List UInt8).append ([8,8,8,8,8,8,8,8,8,8,8,8,8,8,8,8,8,8,8,8,8,8,8,8,8,8,8,8,8,8,8,8,8,8,8,8,8,8,8,8,8,8,8,8,8,8,8,8,8,8,8,8,8,8,8,8,8,8,8,8,8,8,8,8]:List UInt8))).toArray⟩:ByteArray) (IntKind.u8.wrap v8) fun b10=>
 some (IntKind.i64.wrap (v9+(IntKind.i64.wrap (b10.toNat:Int))))
def vL (v5:Int) (v6:Int):Option Int:=
 if 256<=v5 then
 vG (kR .u64 v5 8) (IntKind.i64.wrap (v6+8))
 else
 vG v5 v6
def vT (v2:Int) (v3:Int):Option Int:=
 if 65536<=v2 then
 vL (kR .u64 v2 16) (IntKind.i64.wrap (v3+16))
 else
 vL v2 v3
def ve (N:Nat) (a0:Int):Option Int:=
 if 4294967296<=a0 then
 vT (kR .u64 a0 32) 32
 else
 vT a0 0
def uA (N:Nat) (a0:Int):Option Int:=
 (ve N a0).bind fun r2=>
 some r2
def iy (kx6:Option (List Int)) (rec2:Int->Option (List Int)) (v1:Int) (c11:Bool):Option (List Int):=
 if c11=true then
 kx6
 else
 rec2 (IntKind.i64.wrap (v1+1))
def iw (a0:List Int) (v1:Int):Option (List Int):=
 gx a0 (IntKind.i64.wrap (v1 - 1)) fun x13=>
 gx a0 v1 fun x14=>
 none
def iH (a1:Int) (v1:Int) (a0:List Int) (N:Nat) (rec2:Int->Option (List Int)):Nat->Unit->Option (List Int)
 | 0,_=>none
 | n+1,()=>
  if a1 < v1 then
  gx a0 v1 fun x8=>
  gx a0 (IntKind.i64.wrap (v1 - 1)) fun x9=>
  (pW N x8 x9).bind fun r10=>
  (iy (iw a0 v1) rec2 v1) r10
  else
  (iy (iw a0 v1) rec2 v1) false
def fh (a2:Int) (a1:Int) (a0:List Int) (N:Nat):Nat->Int->Option (List Int)
 | 0,_=>none
 | n+1,v1=>
  if v1 < a2 then
  iH a1 v1 a0 N (fh a2 a1 a0 N n) N ()
  else
  some a0
def dB (N:Nat) (a0:List Int) (a1:Int) (a2:Int):Option (List Int):=
 Ie (fun r=>r) a0 (
 (fh a2 a1 a0 N N (IntKind.i64.wrap (a1+1))))
def jR (a2:Int) (a1:Int) (N:Nat) (a0:List Int) (a3:Int):Nat->Unit->Option (List Int)
 | 0,_=>none
 | n+1,()=>
  if (IntKind.i64.wrap (a2 - a1))<=12 then
  (dB N a0 a1 a2).bind fun r3=>
  some r3
  else
  if a3=0 then
  none
  else
  none
def eL (N:Nat) (a0:List Int) (a1:Int) (a2:Int) (a3:Int):Option (List Int):=
 Ie (fun r=>r) a0 (
 (jR a2 a1 N a0 a3 N ()))
def iT (N:Nat) (a0:List Int):Option (List Int):=
 Ie (fun r=>r) a0 (
 (uA N (IntKind.u64.wrap (a0.length:Int))).bind fun r1=>
 (eL N a0 0 (a0.length:Int) r1).bind fun r2=>
 some r2)
def slices_Sort_int (N:Nat) (a0:List Int):Option (List Int):=if a0.isEmpty=true then iT N a0 else DV a0
def oq (l1:List Int) (x14:al) (rec2:List Int->Option (List Int)) (kx17:Bool->Option (List Int)) (c20:Bool) (c21:Bool):Option (List Int):=
 if c21=true then
 apx 7 l1 [x14.Txn_] fun l22=>
 rec2 l22
 else
 kx17 c20
def og (rec12:Bool->Option (List Int)) (N:Nat) (l1:List Int) (x14:al) (c23:Bool):Option (List Int):=
 if c23=true then
 rec12 true
 else
 (dL N l1 x14.Txn_).bind fun r24=>
 rec12 r24
def gm (rec5:Unit->Option (List Int)) (N:Nat) (l1:List Int) (rec2:List Int->Option (List Int)):List al->Nat->Bool->Option (List Int)
 | [],v11,c10=>
  rec5 ()
 | x14::xs,v11,c10=>
  if c10=true then
  (dL N l1 x14.Txn_).bind fun r19=>
  (oq l1 x14 rec2 (og (gm rec5 N l1 rec2 xs (v11+1)) N l1 x14)) true (!r19)
  else
  (oq l1 x14 rec2 (og (gm rec5 N l1 rec2 xs (v11+1)) N l1 x14)) false false
def jC (kx3:Option (List Int)) (N:Nat) (l1:List Int) (rec2:List Int->Option (List Int)):List aa->Nat->Unit->Option (List Int)
 | [],v4,()=>
  kx3
 | x7::xs,v4,()=>
  gm (jC kx3 N l1 rec2 xs (v4+1)) N l1 rec2 x7.Layers 0 false
def w4 (N:Nat) (l1:List Int):Option (List Int):=
 (slices_Sort_int N l1).bind fun r26=>
 some r26
def kX (N:Nat) (a0:ae):Nat->List Int->Option (List Int)
 | 0,_=>none
 | n+1,l1=>
  jC (w4 N l1) N l1 (kX N a0 n) a0.Stacks 0 ()
def oZ (N:Nat) (a0:ae) (a1:Int):Option (List Int):=
 kX N a0 N [a1]
def py (N:Nat) (a0:Txn) (c0_0:List Int):Option Bool:=
 (dL N c0_0 a0.ID).bind fun r1=>
 some r1
def ee (N:Nat) (k1_0_0:List Int):List Txn->Nat->Unit->Option Int
 | [],v2,()=>
  some (-1)
 | x5::xs,v2,()=>
  (py N x5 k1_0_0).bind fun r8=>
  if r8=true then
  some (v2:Int)
  else
  (ee N k1_0_0 xs (v2+1)) ()
def gB (N:Nat) (a0:List Txn) (k1_0_0:List Int):Option Int:=
 ee N k1_0_0 a0 0 ()
def bC (N:Nat) (k1_0_0:List Int) (kx3:(List Txn)->Int->Option (List Txn)):Nat->List Txn × Int × Int->Option (List Txn)
 | 0,_=>none
 | n+1,(l4,v5,v6)=>
  if v6 < (l4.length:Int) then
  gx l4 v6 fun x10=>
  (py N x10 k1_0_0).bind fun r11=>
  if r11=true then
  (bC N k1_0_0 kx3 n) (l4,v5,IntKind.i64.wrap (v6+1))
  else
  gx l4 v5 fun x12=>
  (bC N k1_0_0 kx3 n) ((l4.set ((v5).toNat) x10),(IntKind.i64.wrap (v5+1)),IntKind.i64.wrap (v6+1))
  else
  kx3 l4 v5
def fv (l15:List Txn) (v16:Int):Option (List Txn):=
 slx l15 v16 (l15.length:Int) fun l17=>
 slx (ui (Txn.mk 0 0 (⟨#[]⟩) 0 [] 0 (Value.mk 0 0 (⟨#[]⟩) [] [])) (v16).toNat l15) 0 v16 fun l18=>
 some ((ui (Txn.mk 0 0 (⟨#[]⟩) 0 [] 0 (Value.mk 0 0 (⟨#[]⟩) [] [])) (v16).toNat l15).take ((v16).toNat))
def eH (N:Nat) (a0:List Txn) (k1_0_0:List Int):Option (List Txn):=
 (gB N a0 k1_0_0).bind fun r1=>
 if r1=(-1) then
 some a0
 else
 bC N k1_0_0 fv N (a0,r1,IntKind.i64.wrap (r1+1))
def po (N:Nat) (a0:al) (c0_0:List Int):Option Bool:=
 (dL N c0_0 a0.Txn_).bind fun r1=>
 some r1
def dO (N:Nat) (k1_0_0:List Int):List al->Nat->Unit->Option Int
 | [],v2,()=>
  some (-1)
 | x5::xs,v2,()=>
  (po N x5 k1_0_0).bind fun r8=>
  if r8=true then
  some (v2:Int)
  else
  (dO N k1_0_0 xs (v2+1)) ()
def fX (N:Nat) (a0:List al) (k1_0_0:List Int):Option Int:=
 dO N k1_0_0 a0 0 ()
def bu (N:Nat) (k1_0_0:List Int) (kx3:(List al)->Int->Option (List al)):Nat->List al × Int × Int->Option (List al)
 | 0,_=>none
 | n+1,(l4,v5,v6)=>
  if v6 < (l4.length:Int) then
  gx l4 v6 fun x10=>
  (po N x10 k1_0_0).bind fun r11=>
  if r11=true then
  (bu N k1_0_0 kx3 n) (l4,v5,IntKind.i64.wrap (v6+1))
  else
  gx l4 v5 fun x12=>
  (bu N k1_0_0 kx3 n) ((l4.set ((v5).toNat) x10),(IntKind.i64.wrap (v5+1)),IntKind.i64.wrap (v6+1))
  else
  kx3 l4 v5
def fe (l15:List al) (v16:Int):Option (List al):=
 slx l15 v16 (l15.length:Int) fun l17=>
 slx (ui (al.mk 0 [] false) (v16).toNat l15) 0 v16 fun l18=>
 some ((ui (al.mk 0 [] false) (v16).toNat l15).take ((v16).toNat))
def ed (N:Nat) (a0:List al) (k1_0_0:List Int):Option (List al):=
 (fX N a0 k1_0_0).bind fun r1=>
 if r1=(-1) then
 some a0
 else
 bu N k1_0_0 fe N (a0,r1,IntKind.i64.wrap (r1+1))
def pL (N:Nat) (a0:aa):Option Bool:=
 some (decide ((a0.Layers.length:Int)=0))
def b8 (N:Nat):List aa->Nat->Unit->Option Int
 | [],v2,()=>
  some (-1)
 | x5::xs,v2,()=>
  (pL N x5).bind fun r8=>
  if r8=true then
  some (v2:Int)
  else
  (b8 N xs (v2+1)) ()
def eV (N:Nat) (a0:List aa):Option Int:=
 b8 N a0 0 ()
def aZ (N:Nat) (kx3:(List aa)->Int->Option (List aa)):Nat->List aa × Int × Int->Option (List aa)
 | 0,_=>none
 | n+1,(l4,v5,v6)=>
  if v6 < (l4.length:Int) then
  gx l4 v6 fun x10=>
  (pL N x10).bind fun r11=>
  if r11=true then
  (aZ N kx3 n) (l4,v5,IntKind.i64.wrap (v6+1))
  else
  gx l4 v5 fun x12=>
  (aZ N kx3 n) ((l4.set ((v5).toNat) x10),(IntKind.i64.wrap (v5+1)),IntKind.i64.wrap (v6+1))
  else
  kx3 l4 v5
def eb (l15:List aa) (v16:Int):Option (List aa):=
 slx l15 v16 (l15.length:Int) fun l17=>
 slx (ui (aa.mk (Ref.mk (⟨#[]⟩) (⟨#[]⟩)) []) (v16).toNat l15) 0 v16 fun l18=>
 some ((ui (aa.mk (Ref.mk (⟨#[]⟩) (⟨#[]⟩)) []) (v16).toNat l15).take ((v16).toNat))
def dz (N:Nat) (a0:List aa):Option (List aa):=
 (eV N a0).bind fun r1=>
 if r1=(-1) then
 some a0
 else
 aZ N eb N (a0,r1,IntKind.i64.wrap (r1+1))
def m7 (kx3:(List aa)->Option ae) (N:Nat) (a1:List Int):Nat->Nat->List aa->Option ae
 | 0,v5,l4=>
  kx3 l4
 | m+1,v5,l4=>
  gx l4 (v5:Int) fun x10=>
  (ed N x10.Layers a1).bind fun r11=>
  (m7 kx3 N a1 m (v5+1)) (l4.set v5 (aa.mk x10.Actor r11))
def yL (N:Nat) (r2:List Txn) (r1:ae) (l12:List aa):Option ae:=
 (dz N l12).bind fun r13=>
 some (ae.mk r2 r1.Locks r13)
def tV (N:Nat) (a0:ae) (a1:List Int):Option ae:=
 (lq N a0).bind fun r1=>
 (eH N r1.Txns a1).bind fun r2=>
 m7 (yL N r2 r1) N a1 (r1.Stacks.length - 0) 0 r1.Stacks
def lP (N:Nat) (a0:Int) (c0_0:Int):Option Bool:=
 some (decide (a0=c0_0))
def bt (N:Nat) (k1_0_0:Int):List Int->Nat->Unit->Option Int
 | [],v2,()=>
  some (-1)
 | x5::xs,v2,()=>
  (lP N x5 k1_0_0).bind fun r8=>
  if r8=true then
  some (v2:Int)
  else
  (bt N k1_0_0 xs (v2+1)) ()
def dU (N:Nat) (a0:List Int) (k1_0_0:Int):Option Int:=
 bt N k1_0_0 a0 0 ()
def bp (N:Nat) (k1_0_0:Int) (kx3:(List Int)->Int->Option (List Int)):Nat->List Int × Int × Int->Option (List Int)
 | 0,_=>none
 | n+1,(l4,v5,v6)=>
  if v6 < (l4.length:Int) then
  gx l4 v6 fun x10=>
  (lP N x10 k1_0_0).bind fun r11=>
  if r11=true then
  (bp N k1_0_0 kx3 n) (l4,v5,IntKind.i64.wrap (v6+1))
  else
  gx l4 v5 fun x12=>
  (bp N k1_0_0 kx3 n) ((l4.set ((v5).toNat) x10),(IntKind.i64.wrap (v5+1)),IntKind.i64.wrap (v6+1))
  else
  kx3 l4 v5
def eG (l15:List Int) (v16:Int):Option (List Int):=
 slx l15 v16 (l15.length:Int) fun l17=>
 slx (ui 0 (v16).toNat l15) 0 v16 fun l18=>
 some ((ui 0 (v16).toNat l15).take ((v16).toNat))
def bP (N:Nat) (a0:List Int) (k1_0_0:Int):Option (List Int):=
 (dU N a0 k1_0_0).bind fun r1=>
 if r1=(-1) then
 some a0
 else
 bp N k1_0_0 eG N (a0,r1,IntKind.i64.wrap (r1+1))
def jw (N:Nat) (a1:Int):Nat->Nat->List ai->Option (List ai)
 | 0,v6,l5=>
  some l5
 | m+1,v6,l5=>
  gx l5 (v6:Int) fun x11=>
  (bP N x11.Waiters a1).bind fun r12=>
  (jw N a1 m (v6+1)) (l5.set v6 (ai.mk x11.Actor x11.Owner r12))
def oY (N:Nat) (a0:List ai) (a1:Int):Option (List ai):=
 (jN N a0).bind fun r2=>
 if r2=true then
 (gC N a0).bind fun r3=>
 jw N a1 (r3.length - 0) 0 r3
 else
 some []
def mG (N:Nat) (a0:List ai) (a1:Int) (a2:Int):Option (List ai):=TD a0 a1 a2 fun l=>some l
def tU (N:Nat) (a0:List ai) (a1:Int):Option ((List ai) × Int):=
 gx a0 a1 fun x1=>
 if (x1.Waiters.length:Int)=0 then
 (mG N a0 a1 (IntKind.i64.wrap (a1+1))).bind fun r3=>
 some (r3,0)
 else
 gx x1.Waiters (IntKind.i64.wrap ((x1.Waiters.length:Int) - 1)) fun x4=>
 slt x1.Waiters (IntKind.i64.wrap ((x1.Waiters.length:Int) - 1)) fun l5=>
 some (((a0.set ((a1).toNat) (ai.mk x1.Actor x4 x1.Waiters)).set ((a1).toNat) (ai.mk x1.Actor x4 l5)),x4)
def fj (a1:Int) (N:Nat):Nat->List ai × List az × Int->Option ((List ai) × (List az))
 | 0,_=>none
 | n+1,(l5,l6,v7)=>
  if v7 < (l5.length:Int) then
  gx l5 v7 fun x11=>
  if x11.Owner=a1 then
  (tU N l5 v7).bind fun r12=>
  if r12.2=0 then
  (fj a1 N n) (r12.1,l6,v7)
  else
  apx 39 l6 [(az.mk x11.Actor r12.2)] fun l13=>
  (fj a1 N n) (r12.1,l13,IntKind.i64.wrap (v7+1))
  else
  (fj a1 N n) (l5,l6,IntKind.i64.wrap (v7+1))
  else
  some (l5,l6)
def mg (N:Nat) (a0:List ai) (a1:Int):Option ((List ai) × (List az)):=
 (jN N a0).bind fun r2=>
 if r2=true then
 (gC N a0).bind fun r3=>
 fj a1 N N (r3,[],0)
 else
 some ([],[])
def ph (kx6:(List ai)->Option (ae × (List Int) × Int)) (N:Nat):List Int->Nat->List ai->Option (ae × (List Int) × Int)
 | [],v8,l7=>
  kx6 l7
 | x11::xs,v8,l7=>
  (oY N l7 x11).bind fun r14=>
  (ph kx6 N xs (v8+1)) r14
def pq (r5:ae) (r4:List Int) (N:Nat):List Int->Nat->List ai->Option (ae × (List Int) × Int)
 | [],v18,l17=>
  some ((ae.mk r5.Txns l17 r5.Stacks),r4,0)
 | x21::xs,v18,l17=>
  (mg N l17 x21).bind fun r24=>
  (pq r5 r4 N xs (v18+1)) r24.1
def DA (r5:ae) (r4:List Int) (N:Nat) (l15:List ai):Option (ae × (List Int) × Int):=
 pq r5 r4 N r4 0 l15
def ll (N:Nat) (a0:ae) (a1:Int):Option (ae × (List Int) × Int):=
 (jW N a0).bind fun r2=>
 if r2=true then
 (fF N a0 a1).bind fun r3=>
 if r3 < 0 then
 some ((ae.mk [] [] []),[],6)
 else
 (oZ N a0 a1).bind fun r4=>
 (tV N a0 r4).bind fun r5=>
 ph (DA r5 r4 N) N r4 0 r5.Locks
 else
 some ((ae.mk [] [] []),[],1)
def iZ (N:Nat) (a0:ae) (a1:Int):Option (ae × Int × (List Int) × Int):=
 (jW N a0).bind fun r2=>
 if r2=true then
 (pE N a0 a1).bind fun r3=>
 if r3.2=true then
 (qv N a0.Locks r3.1.Target a1).bind fun r5=>
 if r5.2.2=0 then
 if r5.2.1=3 then
 (ll N a0 a1).bind fun r8=>
 some (r8.1,r5.2.1,r8.2.1,r8.2.2)
 else
 (lq N a0).bind fun r9=>
 some ((ae.mk r9.Txns r5.1 r9.Stacks),r5.2.1,[],0)
 else
 some ((ae.mk [] [] []),0,[],r5.2.2)
 else
 some ((ae.mk [] [] []),0,[],6)
 else
 some ((ae.mk [] [] []),0,[],1)
def lN (N:Nat) (a0:Int):Option Value:=
 some (Value.mk 1 a0 (⟨#[]⟩) [] [])
def qR (N:Nat) (a0:aa) (a1:Ref):Option Int:=
 (il N a0.Actor a1).bind fun r1=>
 some r1
def bq (a0:List aa) (N:Nat) (a1:Ref) (kx1:Int->Option (Int × Bool)):Nat->Int × Int->Option (Int × Bool)
 | 0,_=>none
 | n+1,(v2,v3)=>
  if v2 < v3 then
  gx a0 (IntKind.i64.wrap (kR .u64 (IntKind.u64.wrap (IntKind.i64.wrap (v2+v3))) 1)) fun x6=>
  (qR N x6 a1).bind fun r7=>
  if r7 < 0 then
  (bq a0 N a1 kx1 n) (IntKind.i64.wrap ((IntKind.i64.wrap (kR .u64 (IntKind.u64.wrap (IntKind.i64.wrap (v2+v3))) 1))+1),v3)
  else
  (bq a0 N a1 kx1 n) (v2,IntKind.i64.wrap (kR .u64 (IntKind.u64.wrap (IntKind.i64.wrap (v2+v3))) 1))
  else
  kx1 v2
def bE (a0:List aa) (N:Nat) (a1:Ref) (v8:Int):Option (Int × Bool):=
 if v8 < (a0.length:Int) then
 gx a0 v8 fun x10=>
 (qR N x10 a1).bind fun r11=>
 some (v8,(decide (r11=0)))
 else
 some (v8,false)
def bg (N:Nat) (a0:List aa) (a1:Ref):Option (Int × Bool):=
 bq a0 N a1 (bE a0 N a1) N (0,(a0.length:Int))
def bT (N:Nat) (a0:List aa) (a1:Int) (a2:List aa):Option (List aa):=Iz 55 a0 a1 a2 fun l=>some l
def yz (kx1:Option (ae × Int)) (c6:Bool):Option (ae × Int):=
 if c6=true then
 some ((ae.mk [] [] []),1)
 else
 kx1
def uV (x18:aa) (a1:Int) (kx19:(List aa)->Int->Option (ae × Int)) (l17:List aa) (r14:Int × Bool) (c22:Bool):Option (ae × Int):=
 if c22=true then
 apx 39 x18.Layers [(al.mk a1 [] false)] fun l23=>
 kx19 (l17.set ((r14.1).toNat) (aa.mk x18.Actor l23)) (IntKind.i64.wrap ((x18.Layers.length:Int)+1))
 else
 kx19 l17 (x18.Layers.length:Int)
def yq (r14:Int × Bool) (N:Nat) (a2:List Value) (r10:ae) (r11:Int) (x12:Txn) (r13:Value) (l24:List aa) (v25:Int):Option (ae × Int):=
 gx l24 r14.1 fun x26=>
 (fc N a2).bind fun r27=>
 gx x26.Layers (IntKind.i64.wrap (v25 - 1)) fun x28=>
 some ((ae.mk (r10.Txns.set ((r11).toNat) (Txn.mk x12.ID x12.Born x12.Client x12.Seq x12.Calls (IntKind.i64.wrap (x12.Done+1)) r13)) r10.Locks (l24.set ((r14.1).toNat) (aa.mk x26.Actor (x26.Layers.set ((IntKind.i64.wrap (v25 - 1)).toNat) (al.mk x28.Txn_ r27 x28.Prepared))))),0)
def rK (r14:Int × Bool) (a1:Int) (N:Nat) (a2:List Value) (r10:ae) (r11:Int) (x12:Txn) (r13:Value) (l17:List aa):Option (ae × Int):=
 gx l17 r14.1 fun x18=>
 if (x18.Layers.length:Int)=0 then
 (uV x18 a1 (yq r14 N a2 r10 r11 x12 r13) l17 r14) true
 else
 gx x18.Layers (IntKind.i64.wrap ((x18.Layers.length:Int) - 1)) fun x21=>
 (uV x18 a1 (yq r14 N a2 r10 r11 x12 r13) l17 r14) (!decide (x21.Txn_=a1))
def rV (N:Nat) (a0:ae) (a1:Int) (a3:Value) (a2:List Value):Option (ae × Int):=
 (pE N a0 a1).bind fun r7=>
 if r7.2=true then
 (oM N a0.Locks r7.1.Target).bind fun r9=>
 if r9=a1 then
 (lq N a0).bind fun r10=>
 (fF N r10 a1).bind fun r11=>
 gx r10.Txns r11 fun x12=>
 (ig N a3).bind fun r13=>
 (bg N r10.Stacks r7.1.Target).bind fun r14=>
 if r14.2=true then
 (rK r14 a1 N a2 r10 r11 x12 r13) r10.Stacks
 else
 (bT N r10.Stacks r14.1 [(aa.mk r7.1.Target [])]).bind fun r16=>
 (rK r14 a1 N a2 r10 r11 x12 r13) r16
 else
 some ((ae.mk [] [] []),10)
 else
 some ((ae.mk [] [] []),6)
def lO (N:Nat) (a0:ae) (a1:Int) (a2:List Value) (a3:Value):Option (ae × Int):=
 (jW N a0).bind fun r3=>
 if r3=true then
 (kL N a2).bind fun r4=>
 if r4=true then
 (iL N a3).bind fun r5=>
 (yz (rV N a0 a1 a3 a2)) (!r5)
 else
 (yz (rV N a0 a1 a3 a2)) true
 else
 (yz (rV N a0 a1 a3 a2)) true
def pj (kx1:Option ((List ai) × Int × Int)) (c6:Bool):Option ((List ai) × Int × Int):=
 if c6=true then
 some ([],0,1)
 else
 kx1
def lW (kx8:Option ((List ai) × Int × Int)) (c11:Bool):Option ((List ai) × Int × Int):=
 if c11=true then
 some ([],0,10)
 else
 kx8
def tP (N:Nat) (a0:List ai) (r7:Int × Bool):Option ((List ai) × Int × Int):=
 (gC N a0).bind fun r12=>
 (tU N r12 r7.1).bind fun r13=>
 some (r13.1,r13.2,0)
def pg (N:Nat) (a0:List ai) (a1:Ref) (a2:Int):Option ((List ai) × Int × Int):=
 (qS N a0 a1).bind fun r7=>
 if r7.2=true then
 gx a0 r7.1 fun x10=>
 (lW (tP N a0 r7)) (!decide (x10.Owner=a2))
 else
 (lW (tP N a0 r7)) true
def m9 (N:Nat) (a0:List ai) (a1:Ref) (a2:Int):Option ((List ai) × Int × Int):=
 (jN N a0).bind fun r3=>
 if r3=true then
 (jb N a1).bind fun r4=>
 if r4=true then
 (kt N a2).bind fun r5=>
 (pj (pg N a0 a1 a2)) (!r5)
 else
 (pj (pg N a0 a1 a2)) true
 else
 (pj (pg N a0 a1 a2)) true
def js (kx4:Option (ae × Int)) (c8:Bool):Option (ae × Int):=
 if c8=true then
 some ((ae.mk [] [] []),6)
 else
 kx4
def lF (a0:ae) (r3:Int) (N:Nat) (a2:Ref) (a1:Int):Option (ae × Int):=
 gx a0.Txns r3 fun x10=>
 if x10.Done < (x10.Calls.length:Int) then
 some ((ae.mk [] [] []),12)
 else
 (jE N a0 a2 a1).bind fun r12=>
 if r12.1.Prepared=true then
 some ((ae.mk [] [] []),7)
 else
 (lq N a0).bind fun r13=>
 (mw N r13 a2).bind fun r14=>
 gx r13.Stacks r14 fun x15=>
 gx x15.Layers (IntKind.i64.wrap ((x15.Layers.length:Int) - 1)) fun x16=>
 (m9 N r13.Locks a2 a1).bind fun r17=>
 some ((ae.mk r13.Txns r17.1 (r13.Stacks.set ((r14).toNat) (aa.mk x15.Actor (x15.Layers.set ((IntKind.i64.wrap ((x15.Layers.length:Int) - 1)).toNat) (al.mk x16.Txn_ x16.Fields true))))),0)
def gE (N:Nat) (a0:ae) (a1:Int) (a2:Ref):Option (ae × Int):=
 (jW N a0).bind fun r2=>
 if r2=true then
 (fF N a0 a1).bind fun r3=>
 if r3 < 0 then
 (js (lF a0 r3 N a2 a1)) true
 else
 gx a0.Txns r3 fun x6=>
 (oI N x6.Calls a2).bind fun r7=>
 (js (lF a0 r3 N a2 a1)) (!r7)
 else
 some ((ae.mk [] [] []),1)
def tW (N:Nat) (a0:ae) (a1:Ref):Option (List al):=
 (mw N a0 a1).bind fun r2=>
 if 0<=r2 then
 gx a0.Stacks r2 fun x3=>
 (kF N x3.Layers).bind fun r4=>
 some r4
 else
 some []
def lX (N:Nat) (a0:ah) (c0_0:List Txn) (c0_1:List ai) (c0_2:List aa) (c1_0:Int) (c1_1:Int) (c1_2:ByteArray) (c1_3:Int) (c1_4:List ah) (c1_5:Int) (c1_6:Int) (c1_7:Int) (c1_8:ByteArray) (c1_9:List Int) (c1_10:List ByteArray):Option Bool:=
 (jE N (ae.mk c0_0 c0_1 c0_2) a0.Target c1_0).bind fun r1=>
 if r1.2=true then
 some (!r1.1.Prepared)
 else
 some true
def bS (N:Nat) (k1_0_0:List Txn) (k1_0_1:List ai) (k1_0_2:List aa) (k1_1_0:Int) (k1_1_1:Int) (k1_1_2:ByteArray) (k1_1_3:Int) (k1_1_4:List ah) (k1_1_5:Int) (k1_1_6:Int) (k1_1_7:Int) (k1_1_8:ByteArray) (k1_1_9:List Int) (k1_1_10:List ByteArray):List ah->Nat->Unit->Option Int
 | [],v2,()=>
  some (-1)
 | x5::xs,v2,()=>
  (lX N x5 k1_0_0 k1_0_1 k1_0_2 k1_1_0 k1_1_1 k1_1_2 k1_1_3 k1_1_4 k1_1_5 k1_1_6 k1_1_7 k1_1_8 k1_1_9 k1_1_10).bind fun r8=>
  if r8=true then
  some (v2:Int)
  else
  (bS N k1_0_0 k1_0_1 k1_0_2 k1_1_0 k1_1_1 k1_1_2 k1_1_3 k1_1_4 k1_1_5 k1_1_6 k1_1_7 k1_1_8 k1_1_9 k1_1_10 xs (v2+1)) ()
def dA (N:Nat) (a0:List ah) (k1_0_0:List Txn) (k1_0_1:List ai) (k1_0_2:List aa) (k1_1_0:Int) (k1_1_1:Int) (k1_1_2:ByteArray) (k1_1_3:Int) (k1_1_4:List ah) (k1_1_5:Int) (k1_1_6:Int) (k1_1_7:Int) (k1_1_8:ByteArray) (k1_1_9:List Int) (k1_1_10:List ByteArray):Option Int:=
 bS N k1_0_0 k1_0_1 k1_0_2 k1_1_0 k1_1_1 k1_1_2 k1_1_3 k1_1_4 k1_1_5 k1_1_6 k1_1_7 k1_1_8 k1_1_9 k1_1_10 a0 0 ()
def bU (N:Nat) (a0:List ah) (k1_0_0:List Txn) (k1_0_1:List ai) (k1_0_2:List aa) (k1_1_0:Int) (k1_1_1:Int) (k1_1_2:ByteArray) (k1_1_3:Int) (k1_1_4:List ah) (k1_1_5:Int) (k1_1_6:Int) (k1_1_7:Int) (k1_1_8:ByteArray) (k1_1_9:List Int) (k1_1_10:List ByteArray):Option Bool:=
 (dA N a0 k1_0_0 k1_0_1 k1_0_2 k1_1_0 k1_1_1 k1_1_2 k1_1_3 k1_1_4 k1_1_5 k1_1_6 k1_1_7 k1_1_8 k1_1_9 k1_1_10).bind fun r1=>
 some (decide (0<=r1))
def tf (N:Nat) (a0:ae) (a1:Txn):Option Bool:=
 (bU N a1.Calls a0.Txns a0.Locks a0.Stacks a1.ID a1.Born a1.Client a1.Seq a1.Calls a1.Done a1.Last.Kind a1.Last.N a1.Last.S a1.Last.I a1.Last.L).bind fun r1=>
 some (!r1)
def oc (N:Nat) (a0:Txn) (c0_0:List Txn) (c0_1:List ai) (c0_2:List aa):Option Bool:=
 if a0.Done=(a0.Calls.length:Int) then
 (tf N (ae.mk c0_0 c0_1 c0_2) a0).bind fun r2=>
 if r2=true then
 (vC N (ae.mk c0_0 c0_1 c0_2) a0.ID []).bind fun r3=>
 some r3
 else
 some false
 else
 some false
def dS (N:Nat) (k1_0_0:List Txn) (k1_0_1:List ai) (k1_0_2:List aa):List Txn->Nat->Unit->Option Int
 | [],v2,()=>
  some (-1)
 | x5::xs,v2,()=>
  (oc N x5 k1_0_0 k1_0_1 k1_0_2).bind fun r8=>
  if r8=true then
  some (v2:Int)
  else
  (dS N k1_0_0 k1_0_1 k1_0_2 xs (v2+1)) ()
def eI (N:Nat) (a0:List Txn) (k1_0_0:List Txn) (k1_0_1:List ai) (k1_0_2:List aa):Option Int:=
 dS N k1_0_0 k1_0_1 k1_0_2 a0 0 ()
def eS (kx6:Option (List Ref)) (rec2:Int->Option (List Ref)) (v1:Int) (c11:Bool):Option (List Ref):=
 if c11=true then
 kx6
 else
 rec2 (IntKind.i64.wrap (v1+1))
def eU (a0:List Ref) (v1:Int):Option (List Ref):=
 gx a0 (IntKind.i64.wrap (v1 - 1)) fun x13=>
 gx a0 v1 fun x14=>
 none
def eQ (a1:Int) (v1:Int) (a0:List Ref) (N:Nat) (rec2:Int->Option (List Ref)):Nat->Unit->Option (List Ref)
 | 0,_=>none
 | n+1,()=>
  if a1 < v1 then
  gx a0 v1 fun x8=>
  gx a0 (IntKind.i64.wrap (v1 - 1)) fun x9=>
  (il N x8 x9).bind fun r10=>
  (eS (eU a0 v1) rec2 v1) (decide (r10 < 0))
  else
  (eS (eU a0 v1) rec2 v1) false
def dp (a2:Int) (a1:Int) (a0:List Ref) (N:Nat):Nat->Int->Option (List Ref)
 | 0,_=>none
 | n+1,v1=>
  if v1 < a2 then
  eQ a1 v1 a0 N (dp a2 a1 a0 N n) N ()
  else
  some a0
def bo (N:Nat) (a0:List Ref) (a1:Int) (a2:Int):Option (List Ref):=
 Ie (fun r=>r) a0 (
 (dp a2 a1 a0 N N (IntKind.i64.wrap (a1+1))))
def fV (a2:Int) (a1:Int) (N:Nat) (a0:List Ref) (a3:Int):Nat->Unit->Option (List Ref)
 | 0,_=>none
 | n+1,()=>
  if (IntKind.i64.wrap (a2 - a1))<=12 then
  (bo N a0 a1 a2).bind fun r3=>
  some r3
  else
  if a3=0 then
  none
  else
  none
def bG (N:Nat) (a0:List Ref) (a1:Int) (a2:Int) (a3:Int):Option (List Ref):=
 Ie (fun r=>r) a0 (
 (fV a2 a1 N a0 a3 N ()))
def bX (N:Nat) (a0:List Ref):Option (List Ref):=
 Ie (fun r=>r) a0 (
 (uA N (IntKind.u64.wrap (a0.length:Int))).bind fun r1=>
 (bG N a0 0 (a0.length:Int) r1).bind fun r2=>
 some r2)
def dq (N:Nat) (a0:List Ref):Option (List Ref):=if a0.isEmpty=true then bX N a0  else DX (fun x y=>il N x y ) a0
def gw (a0:List Ref) (v3:Nat) (kx11:(List Ref)->Int->Option (List Ref)):Nat->List Ref × Int × Int->Option (List Ref)
 | 0,_=>none
 | n+1,(l12,v13,v14)=>
  if v14 < (((a0.length - v3):Nat):Int) then
  gx ((l12.drop v3).take (a0.length - v3)) v14 fun x18=>
  gx ((l12.drop v3).take (a0.length - v3)) (IntKind.i64.wrap (v14 - 1)) fun x19=>
  if (sEq x18.Type_ x19.Type_ && sEq x18.Key x19.Key)=true then
  (gw a0 v3 kx11 n) (l12,v13,IntKind.i64.wrap (v14+1))
  else
  gx l12 v13 fun x20=>
  (gw a0 v3 kx11 n) ((l12.set ((v13).toNat) x18),(IntKind.i64.wrap (v13+1)),IntKind.i64.wrap (v14+1))
  else
  kx11 l12 v13
def kf (l23:List Ref) (v24:Int):Option (List Ref):=
 slx l23 v24 (l23.length:Int) fun l25=>
 slx (ui (Ref.mk (⟨#[]⟩) (⟨#[]⟩)) (v24).toNat l23) 0 v24 fun l26=>
 some ((ui (Ref.mk (⟨#[]⟩) (⟨#[]⟩)) (v24).toNat l23).take ((v24).toNat))
def iR (a0:List Ref) (N:Nat):Nat->Nat->Unit->Option (List Ref)
 | 0,v3,()=>
  some a0
 | m+1,v3,()=>
  gx a0 (v3:Int) fun x8=>
  gx a0 (IntKind.i64.wrap ((v3:Int) - 1)) fun x9=>
  if (sEq x8.Type_ x9.Type_ && sEq x8.Key x9.Key)=true then
  slx a0 (v3:Int) (a0.length:Int) fun l10=>
  gw a0 v3 kf N (a0,(v3:Int),1)
  else
  (iR a0 N m (v3+1)) ()
def j5 (N:Nat) (a0:List Ref):Option (List Ref):=
 if (a0.length:Int) < 2 then
 some a0
 else
 iR a0 N (a0.length - 1) 1 ()
def iI (kx1:(List Ref)->Option (List Ref)):List ah->Nat->List Ref->Option (List Ref)
 | [],v3,l2=>
  kx1 l2
 | x6::xs,v3,l2=>
  apx 31 l2 [x6.Target] fun l9=>
  (iI kx1 xs (v3+1)) l9
def lE (N:Nat) (l10:List Ref):Option (List Ref):=
 (dq N l10).bind fun r11=>
 (j5 N r11).bind fun r12=>
 some r12
def je (N:Nat) (a0:Txn):Option (List Ref):=
 iI (lE N) a0.Calls 0 []
def lJ (kx13:(List aU)->Option (ae × (List aF))) (N:Nat) (l4:List Txn) (l5:List ai) (l6:List aa) (x11:Txn):List Ref->Nat->List aU->Option (ae × (List aF))
 | [],v16,l15=>
  kx13 l15
 | x19::xs,v16,l15=>
  (jE N (ae.mk l4 l5 l6) x19 x11.ID).bind fun r22=>
  (fc N r22.1.Fields).bind fun r23=>
  apx 55 l15 [(aU.mk x19 r23)] fun l24=>
  (lJ kx13 N l4 l5 l6 x11 xs (v16+1)) l24
def wm (N:Nat) (l4:List Txn) (l5:List ai) (l6:List aa) (x11:Txn) (l7:List aF) (r12:Value) (rec8:(List Txn × List ai × List aa × List aF)->Option (ae × (List aF))) (l25:List aU):Option (ae × (List aF)):=
 (tV N (ae.mk l4 l5 l6) [x11.ID]).bind fun r26=>
 apx 135 l7 [(aF.mk x11.ID x11.Client x11.Seq r12 l25)] fun l27=>
 rec8 (r26.Txns,r26.Locks,r26.Stacks,l27)
def lH (N:Nat):Nat->List Txn × List ai × List aa × List aF->Option (ae × (List aF))
 | 0,_=>none
 | n+1,(l4,l5,l6,l7)=>
  (eI N l4 l4 l5 l6).bind fun r9=>
  if r9 < 0 then
  some ((ae.mk l4 l5 l6),l7)
  else
  gx l4 r9 fun x11=>
  (ig N x11.Last).bind fun r12=>
  (je N x11).bind fun r14=>
  lJ (wm N l4 l5 l6 x11 l7 r12 (lH N n)) N l4 l5 l6 x11 r14 0 []
def oN (N:Nat) (a0:ae):Option (ae × (List aF)):=
 (jW N a0).bind fun r2=>
 if r2=true then
 (lq N a0).bind fun r3=>
 lH N N (r3.Txns,r3.Locks,r3.Stacks,[])
 else
 some ((ae.mk [] [] []),[])
def AD (N:Nat) (a0:ae) (a1:Int):Option (Txn × Bool):=
 (fF N a0 a1).bind fun r2=>
 if 0<=r2 then
 gx a0.Txns r2 fun x3=>
 (kN N x3).bind fun r4=>
 some (r4,true)
 else
 some ((Txn.mk 0 0 (⟨#[]⟩) 0 [] 0 (Value.mk 0 0 (⟨#[]⟩) [] [])),false)
def yE (a0:ae) (r2:Int) (N:Nat) (kx1:Option (List Value)) (c5:Bool):Option (List Value):=
 if c5=true then
 gx a0.Stacks r2 fun x6=>
 gx x6.Layers (IntKind.i64.wrap ((x6.Layers.length:Int) - 1)) fun x7=>
 (fc N x7.Fields).bind fun r8=>
 some r8
 else
 kx1
def yD (N:Nat) (a2:List Value):Option (List Value):=
 (fc N a2).bind fun r9=>
 some r9
def tI (N:Nat) (a0:ae) (a1:Ref) (a2:List Value):Option (List Value):=
 (mw N a0 a1).bind fun r2=>
 if 0<=r2 then
 gx a0.Stacks r2 fun x4=>
 (yE a0 r2 N (yD N a2)) (decide (0 < (x4.Layers.length:Int)))
 else
 (yE a0 r2 N (yD N a2)) false
def tk (kx14:Option Bool) (c16:Bool):Option Bool:=
 if c16=true then
 some false
 else
 kx14
def sL (N:Nat) (v9:Int) (r13:ae × Int × (List Int) × Int) (rec10:(List Txn × List ai × List aa × Int)->Option Bool):Option Bool:=
 (lN N v9).bind fun r17=>
 (lN N v9).bind fun r18=>
 (lO N r13.1 3 [r17] r18).bind fun r19=>
 if r19.2=0 then
 rec10 (r19.1.Txns,r19.1.Locks,r19.1.Stacks,IntKind.i64.wrap (v9+1))
 else
 some false
def gA (N:Nat) (kx5:(List Txn)->(List ai)->(List aa)->Option Bool):Nat->List Txn × List ai × List aa × Int->Option Bool
 | 0,_=>none
 | n+1,(l6,l7,l8,v9)=>
  if v9 < 2 then
  (iZ N (ae.mk l6 l7 l8) 3).bind fun r13=>
  if r13.2.2.2=0 then
  (tk (sL N v9 r13 (gA N kx5 n))) (!decide (r13.2.1=1))
  else
  (tk (sL N v9 r13 (gA N kx5 n))) true
  else
  kx5 l6 l7 l8
def wJ (kx29:Option Bool) (c31:Bool):Option Bool:=
 if c31=true then
 some false
 else
 kx29
def sP (kx35:Option Bool) (c39:Bool):Option Bool:=
 if c39=true then
 some false
 else
 kx35
def wC (kx41:Option Bool) (c43:Bool):Option Bool:=
 if c43=true then
 some false
 else
 kx41
def sY (kx47:Option Bool) (c50:Bool):Option Bool:=
 if c50=true then
 some false
 else
 kx47
def sN (N:Nat) (r46:ae × (List aF)):Option Bool:=
 (AD N r46.1 5).bind fun r51=>
 if r51.2=true then
 (je N r51.1).bind fun r53=>
 if (r53.length:Int)=1 then
 (tI N r46.1 (Ref.mk (⟨#[65]⟩) (⟨#[97]⟩)) []).bind fun r54=>
 some (decide ((r54.length:Int)=1))
 else
 some false
 else
 some false
def wK (N:Nat) (r34:ae × Int):Option Bool:=
 (gE N r34.1 3 (Ref.mk (⟨#[65]⟩) (⟨#[98]⟩))).bind fun r44=>
 if r44.2=0 then
 (oN N r44.1).bind fun r46=>
 if (r46.2.length:Int)=1 then
 gx r46.2 0 fun x49=>
 if x49.ID=3 then
 (sY (sN N r46)) (!decide ((x49.Writes.length:Int)=2))
 else
 (sY (sN N r46)) true
 else
 (sY (sN N r46)) true
 else
 some false
def s3 (N:Nat) (r34:ae × Int):Option Bool:=
 (ll N r34.1 3).bind fun r40=>
 if r40.2.2=0 then
 (wC (wK N r34)) (!decide ((r40.2.1.length:Int)=2))
 else
 (wC (wK N r34)) true
def vl (N:Nat) (r28:ae × Int × (List Int) × Int):Option Bool:=
 (lN N 9).bind fun r32=>
 (lN N 9).bind fun r33=>
 (lO N r28.1 5 [r32] r33).bind fun r34=>
 if r34.2=0 then
 (tW N r34.1 (Ref.mk (⟨#[65]⟩) (⟨#[97]⟩))).bind fun r37=>
 if (r37.length:Int)=2 then
 (jW N r34.1).bind fun r38=>
 (sP (s3 N r34)) (!r38)
 else
 (sP (s3 N r34)) true
 else
 (sP (s3 N r34)) true
def rH (N:Nat) (l23:List Txn) (l24:List ai) (l25:List aa):Option Bool:=
 (gE N (ae.mk l23 l24 l25) 3 (Ref.mk (⟨#[65]⟩) (⟨#[97]⟩))).bind fun r26=>
 if r26.2=0 then
 (iZ N r26.1 5).bind fun r28=>
 if r28.2.2.2=0 then
 (wJ (vl N r28)) (!decide (r28.2.1=1))
 else
 (wJ (vl N r28)) true
 else
 some false
def uR (N:Nat)  : Option Bool:=
 (jX N (ae.mk [] [] []) 3 0 (⟨#[99]⟩) 1 [(ah.mk (Ref.mk (⟨#[65]⟩) (⟨#[97]⟩)) (⟨#[109]⟩) []),(ah.mk (Ref.mk (⟨#[65]⟩) (⟨#[98]⟩)) (⟨#[109]⟩) [])]).bind fun r1=>
 if r1.2=0 then
 (jX N r1.1 5 0 (⟨#[99]⟩) 2 [(ah.mk (Ref.mk (⟨#[65]⟩) (⟨#[97]⟩)) (⟨#[109]⟩) [])]).bind fun r3=>
 if r3.2=0 then
 gA N (rH N) N (r3.1.Txns,r3.1.Locks,r3.1.Stacks,0)
 else
 some false
 else
 some false
def wH (N:Nat) (a0:ae) (a1:Int):Option Int:=
 if (a0.Txns.length:Int)=0 then
 some 0
 else
 dvx (a0.Txns.length:Int) <|
 gx a0.Txns (Int.tmod (IntKind.i64.wrap a1) (a0.Txns.length:Int)) fun x2=>
 some x2.ID
def vO (N:Nat) (a0:Int):Option Ref:=
 sls (⟨#[97,98,99,100]⟩) (IntKind.i64.wrap (Int.tmod a0 4)) (IntKind.i64.wrap ((IntKind.i64.wrap (Int.tmod a0 4))+1)) fun s1=>
 some (Ref.mk (⟨#[65]⟩) s1)
def pe (a0:aj) (N:Nat):Nat->List ah × Int->Option (List ah)
 | 0,_=>none
 | n+1,(l2,v3)=>
  if v3<=(IntKind.i64.wrap (Int.tmod a0.Who 4)) then
  shx (IntKind.u64.wrap (2 * (IntKind.u64.wrap (Int.tmod v3 4)))) <|
  (vO N (kR .u8 a0.Arg (IntKind.u64.wrap (2 * (IntKind.u64.wrap (Int.tmod v3 4)))))).bind fun r7=>
  apx 71 l2 [(ah.mk r7 (⟨#[109]⟩) [])] fun l8=>
  (pe a0 N n) (l8,IntKind.i64.wrap (v3+1))
  else
  some l2
def yp (N:Nat) (a0:aj):Option (List ah):=
 pe a0 N N ([],0)
def jI (N:Nat) (a0:Value):Option Value:=
 apn 7 a0.I <|
 apn 15 a0.L <|
 some a0
def jJ (N:Nat):List Value->Nat->List Value->Option (List Value)
 | [],v3,l2=>
  some l2
 | x6::xs,v3,l2=>
  (jI N x6).bind fun r9=>
  apx 79 l2 [r9] fun l10=>
  (jJ N xs (v3+1)) l10
def lR (N:Nat) (a0:List Value):Option (List Value):=
 jJ N a0 0 []
def jZ (N:Nat):List ah->Nat->List ah->Option (List ah)
 | [],v3,l2=>
  some l2
 | x6::xs,v3,l2=>
  (lR N x6.Args).bind fun r9=>
  apx 71 l2 [(ah.mk x6.Target x6.Method r9)] fun l10=>
  (jZ N xs (v3+1)) l10
def mS (N:Nat) (a0:List ah):Option (List ah):=
 jZ N a0 0 []
def qC (N:Nat) (a0:Txn):Option Txn:=
 (mS N a0.Calls).bind fun r1=>
 (jI N a0.Last).bind fun r2=>
 some (Txn.mk a0.ID a0.Born a0.Client a0.Seq r1 a0.Done r2)
def qz (a1:Int) (N:Nat):List Txn->Nat->Unit->Option (Txn × Bool)
 | [],v2,()=>
  some ((Txn.mk 0 0 (⟨#[]⟩) 0 [] 0 (Value.mk 0 0 (⟨#[]⟩) [] [])),false)
 | x5::xs,v2,()=>
  if x5.ID=a1 then
  (qC N x5).bind fun r8=>
  some (r8,true)
  else
  (qz a1 N xs (v2+1)) ()
def zU (N:Nat) (a0:ae) (a1:Int):Option (Txn × Bool):=
 qz a1 N a0.Txns 0 ()
def wN (N:Nat) (a0:Ref) (a1:Ref):Option Bool:=
 if (sLt a0.Type_ a1.Type_)=true then
 some true
 else
 if (sEq a0.Type_ a1.Type_)=true then
 some (sLt a0.Key a1.Key)
 else
 some false
def pA (rec11:Int->Option (List Ref)) (v10:Int) (kx9:Int->Option (List Ref)) (c16:Bool):Option (List Ref):=
 if c16=true then
 rec11 (IntKind.i64.wrap (v10 - 1))
 else
 kx9 v10
def jU (l2:List Ref) (N:Nat) (x6:ah) (kx9:Int->Option (List Ref)):Nat->Int->Option (List Ref)
 | 0,_=>none
 | n+1,v10=>
  if 0 < v10 then
  gx l2 (IntKind.i64.wrap (v10 - 1)) fun x14=>
  (wN N x14 x6.Target).bind fun r15=>
  (pA (jU l2 N x6 kx9 n) v10 kx9) (!r15)
  else
  (pA (jU l2 N x6 kx9 n) v10 kx9) false
def pG (rec4:List Ref->Option (List Ref)) (l2:List Ref) (kx18:Option (List Ref)) (c21:Bool):Option (List Ref):=
 if c21=true then
 rec4 l2
 else
 kx18
def mj (l2:List Ref) (v17:Int) (x6:ah) (rec4:List Ref->Option (List Ref)):Option (List Ref):=
 slx l2 v17 (l2.length:Int) fun l22=>
 apn 31 ((l2.drop ((v17).toNat)).take (l2.length - (v17).toNat)) <|
 slt l2 v17 fun l23=>
 apx 31 (l2.take ((v17).toNat)) [x6.Target] fun l24=>
 apx 31 l24 ((l2.drop ((v17).toNat)).take (l2.length - (v17).toNat)) fun l25=>
 rec4 l25
def tL (l2:List Ref) (rec4:List Ref->Option (List Ref)) (x6:ah) (v17:Int):Option (List Ref):=
 if v17 < (l2.length:Int) then
 gx l2 v17 fun x20=>
 (pG rec4 l2 (mj l2 v17 x6 rec4)) (sEq x20.Type_ x6.Target.Type_ && sEq x20.Key x6.Target.Key)
 else
 (pG rec4 l2 (mj l2 v17 x6 rec4)) false
def fO (N:Nat):List ah->Nat->List Ref->Option (List Ref)
 | [],v3,l2=>
  some l2
 | x6::xs,v3,l2=>
  jU l2 N x6 (tL l2 (fO N xs (v3+1)) x6) N (l2.length:Int)
def uG (N:Nat) (a0:List ah):Option (List Ref):=
 fO N a0 0 []
def mA (N:Nat) (a0:Txn):Option (List Ref):=
 (uG N a0.Calls).bind fun r1=>
 some r1
def kW (N:Nat) (a0:ae) (a1:Int) (a2:Int):Option Ref:=
 (zU N a0 a1).bind fun r1=>
 (mA N r1.1).bind fun r2=>
 if (r2.length:Int)=0 then
 (vO N a2).bind fun r4=>
 some r4
 else
 dvx (r2.length:Int) <|
 gx r2 (Int.tmod (IntKind.i64.wrap a2) (r2.length:Int)) fun x5=>
 some x5
def uI (N:Nat) (a0:ae) (r1:Int) (a2:aj) (c17:Bool):Option (ae × (List aF)):=
 if c17=true then
 (kW N a0 r1 a2.Arg).bind fun r18=>
 (gE N a0 r1 r18).bind fun r19=>
 if r19.2=0 then
 some (r19.1,[])
 else
 some (a0,[])
 else
 if 0 < (Int.tmod a2.Arg 4) then
 (oN N a0).bind fun r21=>
 some (r21.1,r21.2)
 else
 (ll N a0 r1).bind fun r22=>
 if r22.2.2=0 then
 some (r22.1,[])
 else
 some (a0,[])
def qy (N:Nat) (a0:ae) (r1:Int) (a2:aj) (c8:Bool):Option (ae × (List aF)):=
 if c8=true then
 (iZ N a0 r1).bind fun r9=>
 if r9.2.2.2=0 then
 if r9.2.1=1 then
 (lN N a2.N).bind fun r13=>
 (lN N a2.N).bind fun r14=>
 (lO N r9.1 r1 [r13] r14).bind fun r15=>
 if r15.2=0 then
 some (r15.1,[])
 else
 some (r9.1,[])
 else
 some (r9.1,[])
 else
 some (a0,[])
 else
 if (Int.tmod a2.Kind 8)=5 then
 (uI N a0 r1 a2) true
 else
 (uI N a0 r1 a2) (decide ((Int.tmod a2.Kind 8)=6))
def uD (N:Nat) (a2:aj) (a0:ae) (a1:Int) (r1:Int) (c4:Bool):Option (ae × (List aF)):=
 if c4=true then
 (yp N a2).bind fun r5=>
 (jX N a0 (IntKind.i64.wrap (a1+1)) a1 (⟨#[99]⟩) (IntKind.i64.wrap (a1+1)) r5).bind fun r6=>
 if r6.2=0 then
 some (r6.1,[])
 else
 some (a0,[])
 else
 if (Int.tmod a2.Kind 8)=2 then
 (qy N a0 r1 a2) true
 else
 if (Int.tmod a2.Kind 8)=3 then
 (qy N a0 r1 a2) true
 else
 (qy N a0 r1 a2) (decide ((Int.tmod a2.Kind 8)=4))
def wq (N:Nat) (a0:ae) (a1:Int) (a2:aj):Option (ae × (List aF)):=
 (wH N a0 a2.Who).bind fun r1=>
 if (Int.tmod a2.Kind 8)=0 then
 (uD N a2 a0 a1 r1) true
 else
 (uD N a2 a0 a1 r1) (decide ((Int.tmod a2.Kind 8)=1))
def k7 (a1:Int):List Int->Nat->Unit->Option Bool
 | [],v2,()=>
  some false
 | x5::xs,v2,()=>
  if x5=a1 then
  some true
  else
  (k7 a1 xs (v2+1)) ()
def sM (N:Nat) (a0:List Int) (a1:Int):Option Bool:=
 k7 a1 a0 0 ()
def th (a1:Int):List al->Nat->Unit->Option Bool
 | [],v2,()=>
  some false
 | x5::xs,v2,()=>
  if x5.Txn_=a1 then
  some true
  else
  (th a1 xs (v2+1)) ()
def Bp (N:Nat) (a0:List al) (a1:Int):Option Bool:=
 th a1 a0 0 ()
def oh (rec30:Unit->Option Bool) (c39:Bool):Option Bool:=
 if c39=true then
 some false
 else
 rec30 ()
def im (rec24:Unit->Option Bool) (x19:aF) (N:Nat) (l15:List Int) (x26:aa):List al->Nat->Unit->Option Bool
 | [],v29,()=>
  rec24 ()
 | x32::xs,v29,()=>
  if x32.Txn_=x19.ID then
  rec24 ()
  else
  (sM N l15 x32.Txn_).bind fun r37=>
  if r37=true then
  (oh (im rec24 x19 N l15 x26 xs (v29+1))) false
  else
  (Bp N x26.Layers x19.ID).bind fun r38=>
  (oh (im rec24 x19 N l15 x26 xs (v29+1))) r38
def k9 (kx22:Option Bool) (x19:aF) (N:Nat) (l15:List Int):List aa->Nat->Unit->Option Bool
 | [],v23,()=>
  kx22
 | x26::xs,v23,()=>
  im (k9 kx22 x19 N l15 xs (v23+1)) x19 N l15 x26 x26.Layers 0 ()
def wY (l15:List Int) (x19:aF) (rec17:List Int->Option Bool):Option Bool:=
 apx 7 l15 [x19.ID] fun l40=>
 rec17 l40
def iq (rec9:(List Txn × List ai × List aa)->Option Bool) (r14:ae × (List aF)) (N:Nat) (l7:List aa):List aF->Nat->List Int->Option Bool
 | [],v16,l15=>
  rec9 (r14.1.Txns,r14.1.Locks,r14.1.Stacks)
 | x19::xs,v16,l15=>
  k9 (wY l15 x19 (iq rec9 r14 N l7 xs (v16+1))) x19 N l15 l7 0 ()
def jB (N:Nat):List aj->Nat->List Txn × List ai × List aa->Option Bool
 | [],v8,(l5,l6,l7)=>
  some true
 | x11::xs,v8,(l5,l6,l7)=>
  (wq N (ae.mk l5 l6 l7) (v8:Int) x11).bind fun r14=>
  iq (jB N xs (v8+1)) r14 N l7 r14.2 0 []
def pd (N:Nat) (a0:List aj):Option Bool:=
 (uR N).bind fun r2=>
 if r2=true then
 if 60 < (a0.length:Int) then
 some true
 else
 jB N a0 0 ([],[],[])
 else
 some false
end
end Go.Proofs.YtmacaidmhchpgaaGreat
