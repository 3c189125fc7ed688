/- The models of the functions. No statement. -/
import Derived.Test.YtmacaidmhchpgaaGreatT
/- The functions of the program as plain functions on plain data. -/
set_option maxHeartbeats 40000000
set_option synthInstance.maxHeartbeats 2000000
set_option synthInstance.maxSize 4000
set_option linter.unusedSimpArgs false
set_option linter.unusedVariables false
set_option maxRecDepth 100000
namespace Go.Proofs.YtmacaidmhchpgaaGreat
open Go Go.Proofs Go.Abs
noncomputable section
def qs (kx1:Option Bool) (c3:Bool):Option Bool:=
 if c3=true then
 some false
 else
 kx1
def qD (kx7:Bool->Option Bool) (a0:Value) (c11:Bool):Option Bool:=
 if c11=true then
 kx7 true
 else
 if 0 < (a0.L.length:Int) then
 kx7 (!decide (a0.Kind=5))
 else
 kx7 false
def qL (kx7:Bool->Option Bool) (a0:Value) (c9:Bool):Option Bool:=
 if c9=true then
 kx7 true
 else
 if 0 < (a0.I.length:Int) then
 (qD kx7 a0) (!decide (a0.Kind=4))
 else
 (qD kx7 a0) false
def qI (kx4:Option Bool) (c12:Bool):Option Bool:=
 if c12=true then
 some false
 else
 kx4
def jM (a0:Value) (kx4:Option Bool) (c6:Bool):Option Bool:=
 if c6=true then
 some false
 else
 if (sEq a0.S (⟨#[]⟩))=true then
 (qL (qI kx4) a0) false
 else
 (qL (qI kx4) a0) (!decide (a0.Kind=3))
def lR (kx13:Option Bool) (c15:Bool):Option Bool:=
 if c15=true then
 some false
 else
 kx13
def jE  : List ByteArray->Nat->Unit->Option Bool
 | [],v17,()=>
  some true
 | x20::xs,v17,()=>
  if 64 < (x20.size:Int) then
  some false
  else
  (jE xs (v17+1)) ()
def mg (a0:Value):Option Bool:=
 jE a0.L 0 ()
def jK (a0:Value):Option Bool:=
 if 64 < (a0.S.size:Int) then
 (lR (mg a0)) true
 else
 if 16 < (a0.I.length:Int) then
 (lR (mg a0)) true
 else
 (lR (mg a0)) (decide (16 < (a0.L.length:Int)))
def qJ (a0:Value) (N:Nat):Option Bool:=
 if a0.N=0 then
 (jM a0 (jK a0)) false
 else
 if a0.Kind=1 then
 (jM a0 (jK a0)) false
 else
 if a0.Kind=2 then
 (jM a0 (jK a0)) (!decide (a0.N=1))
 else
 (jM a0 (jK a0)) true
def gY (N:Nat) (a0:Value):Option Bool:=
 if a0.Kind < 0 then
 (qs (qJ a0 N)) true
 else
 (qs (qJ a0 N)) (decide (5 < a0.Kind))
def my (N:Nat) (a0:Value):Option Bool:=
 if a0.Kind=0 then
 some true
 else
 (gY N a0).bind fun r2=>
 some (!r2)
def bY (N:Nat):List Value->Nat->Unit->Option Int
 | [],v2,()=>
  some (-1)
 | x5::xs,v2,()=>
  (my N x5).bind fun r8=>
  if r8=true then
  some (v2:Int)
  else
  (bY N xs (v2+1)) ()
def dy (N:Nat) (a0:List Value):Option Int:=
 bY N a0 0 ()
def bw (N:Nat) (a0:List Value):Option Bool:=
 (dy N a0).bind fun r1=>
 some (decide (0<=r1))
def iA (kx1:Option Bool) (c3:Bool):Option Bool:=
 if c3=true then
 some false
 else
 kx1
def iF (N:Nat) (a0:ah):Option Bool:=
 (bw N a0.Args).bind fun r4=>
 some (!r4)
def qh (N:Nat) (a0:ah):Option Bool:=
 if (a0.Target.Type_.size:Int) < 1 then
 (iA (iF N a0)) true
 else
 if 32 < (a0.Target.Type_.size:Int) then
 (iA (iF N a0)) true
 else
 if 32 < (a0.Target.Key.size:Int) then
 (iA (iF N a0)) true
 else
 if (a0.Method.size:Int) < 1 then
 (iA (iF N a0)) true
 else
 if 32 < (a0.Method.size:Int) then
 (iA (iF N a0)) true
 else
 (iA (iF N a0)) (decide (4 < (a0.Args.length:Int)))
def oD (N:Nat) (a0:ah):Option Bool:=
 (qh N a0).bind fun r1=>
 some (!r1)
def bF (N:Nat):List ah->Nat->Unit->Option Int
 | [],v2,()=>
  some (-1)
 | x5::xs,v2,()=>
  (oD N x5).bind fun r8=>
  if r8=true then
  some (v2:Int)
  else
  (bF N xs (v2+1)) ()
def bZ (N:Nat) (a0:List ah):Option Int:=
 bF N a0 0 ()
def bn (N:Nat) (a0:List ah):Option Bool:=
 (bZ N a0).bind fun r1=>
 some (decide (0<=r1))
def fX (kx1:Option Bool) (c3:Bool):Option Bool:=
 if c3=true then
 some false
 else
 kx1
def ib (kx4:Option Bool) (c7:Bool):Option Bool:=
 if c7=true then
 some false
 else
 kx4
def ia (N:Nat) (a0:Txn):Option Bool:=
 (bn N a0.Calls).bind fun r8=>
 some (!r8)
def fV (a0:Txn) (N:Nat):Option Bool:=
 if (a0.Calls.length:Int) < 1 then
 (ib (ia N a0)) true
 else
 if 4 < (a0.Calls.length:Int) then
 (ib (ia N a0)) true
 else
 if a0.Done < 0 then
 (ib (ia N a0)) true
 else
 if (a0.Calls.length:Int) < a0.Done then
 (ib (ia N a0)) true
 else
 (gY N a0.Last).bind fun r6=>
 if r6=true then
 if a0.Done=0 then
 (ib (ia N a0)) (!decide (a0.Last.Kind=0))
 else
 (ib (ia N a0)) false
 else
 (ib (ia N a0)) true
def pg (N:Nat) (a0:Txn):Option Bool:=
 if a0.ID < 1 then
 (fX (fV a0 N)) true
 else
 if 1099511627776 < a0.ID then
 (fX (fV a0 N)) true
 else
 if a0.Born < 0 then
 (fX (fV a0 N)) true
 else
 if 1099511627776 < a0.Born then
 (fX (fV a0 N)) true
 else
 if (a0.Client.size:Int) < 1 then
 (fX (fV a0 N)) true
 else
 if 32 < (a0.Client.size:Int) then
 (fX (fV a0 N)) true
 else
 if a0.Seq < 1 then
 (fX (fV a0 N)) true
 else
 ((fX (fV a0 N)) (decide (1099511627776 < a0.Seq)))
def lh (rec3:Unit->Option Bool) (c11:Bool):Option Bool:=
 if c11=true then
 some false
 else
 rec3 ()
def gD (a0:ae) (N:Nat):List Txn->Nat->Unit->Option Bool
 | [],v2,()=>
  some (decide ((a0.Txns.length:Int)<=32))
 | x5::xs,v2,()=>
  (pg N x5).bind fun r9=>
  if r9=true then
  if 0 < (v2:Int) then
  gx a0.Txns (IntKind.i64.wrap ((v2:Int) - 1)) fun x10=>
  (lh (gD a0 N xs (v2+1))) (decide (x5.ID<=x10.ID))
  else
  (lh (gD a0 N xs (v2+1))) false
  else
  (lh (gD a0 N xs (v2+1))) true
def tY (N:Nat) (a0:ae):Option Bool:=
 gD a0 N a0.Txns 0 ()
def iO (N:Nat) (a0:Ref):Option Bool:=
 if 1<=(a0.Type_.size:Int) then
 if (a0.Type_.size:Int)<=32 then
 some (decide ((a0.Key.size:Int)<=32))
 else
 some false
 else
 some false
def jS (N:Nat) (a0:Int):Option Bool:=
 if 1<=a0 then
 some (decide (a0<=1099511627776))
 else
 some false
def lX (kx1:Option Bool) (c5:Bool):Option Bool:=
 if c5=true then
 some false
 else
 kx1
def iM (rec8:Unit->Option Bool) (c15:Bool):Option Bool:=
 if c15=true then
 some false
 else
 rec8 ()
def fh (a0:ai):List Int->Nat->Unit->Option Bool
 | [],v7,()=>
  some true
 | x10::xs,v7,()=>
  if x10 < 1 then
  (iM (fh a0 xs (v7+1))) true
  else
  if a0.Owner<=x10 then
  (iM (fh a0 xs (v7+1))) true
  else
  if 0 < (v7:Int) then
  gx a0.Waiters (IntKind.i64.wrap ((v7:Int) - 1)) fun x14=>
  (iM (fh a0 xs (v7+1))) (decide (x10<=x14))
  else
  (iM (fh a0 xs (v7+1))) false
def lQ (a0:ai):Option Bool:=
 fh a0 a0.Waiters 0 ()
def mu (N:Nat) (a0:ai):Option Bool:=
 (iO N a0.Actor).bind fun r3=>
 if r3=true then
 (jS N a0.Owner).bind fun r4=>
 if r4=true then
 (lX (lQ a0)) (decide (32 < (a0.Waiters.length:Int)))
 else
 (lX (lQ a0)) true
 else
 (lX (lQ a0)) true
def lv (N:Nat) (a0:ByteArray):Option Bool:=
 some (!(sEq a0 a0))
def fc (N:Nat) (a0:ByteArray) (a1:ByteArray):Option Int:=
 (lv N a0).bind fun r1=>
 (lv N a1).bind fun r2=>
 if r1=true then
 if r2=true then
 some 0
 else
 some (-1)
 else
 if r2=true then
 some 1
 else
 if (sLt a0 a1)=true then
 some (-1)
 else
 if (sLt a0 a1 || sEq a0 a1)=true then
 some 0
 else
 some 1
def p8  : List Int->Nat->Unit->Option Int
 | [],v2,()=>
  some 0
 | x5::xs,v2,()=>
  if x5=0 then
  (p8 xs (v2+1)) ()
  else
  some x5
def tj (N:Nat) (a0:List Int):Option Int:=
 p8 a0 0 ()
def mF (N:Nat) (a0:Ref) (a1:Ref):Option Int:=
 (fc N a0.Type_ a1.Type_).bind fun r1=>
 (fc N a0.Key a1.Key).bind fun r2=>
 (tj N [r1,r2]).bind fun r3=>
 some r3
def oB (rec4:Unit->Option Bool) (c13:Bool):Option Bool:=
 if c13=true then
 some false
 else
 rec4 ()
def jT (N:Nat) (a0:List ai):List ai->Nat->Unit->Option Bool
 | [],v3,()=>
  some true
 | x6::xs,v3,()=>
  (mu N x6).bind fun r10=>
  if r10=true then
  if 0 < (v3:Int) then
  gx a0 (IntKind.i64.wrap ((v3:Int) - 1)) fun x11=>
  (mF N x11.Actor x6.Actor).bind fun r12=>
  (oB (jT N a0 xs (v3+1))) (decide (0<=r12))
  else
  (oB (jT N a0 xs (v3+1))) false
  else
  (oB (jT N a0 xs (v3+1))) true
def jo (N:Nat) (a0:List ai):Option Bool:=
 if 128 < (a0.length:Int) then
 some false
 else
 jT N a0 a0 0 ()
def wU (N:Nat) (a0:Txn) (c0_0:Int):Option Bool:=
 some (decide (a0.ID=c0_0))
def dQ (N:Nat) (k1_0_0:Int):List Txn->Nat->Unit->Option Int
 | [],v2,()=>
  some (-1)
 | x5::xs,v2,()=>
  (wU N x5 k1_0_0).bind fun r8=>
  if r8=true then
  some (v2:Int)
  else
  (dQ N k1_0_0 xs (v2+1)) ()
def eE (N:Nat) (a0:List Txn) (k1_0_0:Int):Option Int:=
 dQ N k1_0_0 a0 0 ()
def fj (N:Nat) (a0:ae) (a1:Int):Option Int:=
 (eE N a0.Txns a1).bind fun r1=>
 some r1
def k9 (N:Nat) (a0:Int) (c0_0:List Txn) (c0_1:List ai) (c0_2:List aa):Option Bool:=
 (fj N (ae.mk c0_0 c0_1 c0_2) a0).bind fun r1=>
 some (decide (r1 < 0))
def dc (N:Nat) (k1_0_0:List Txn) (k1_0_1:List ai) (k1_0_2:List aa):List Int->Nat->Unit->Option Int
 | [],v2,()=>
  some (-1)
 | x5::xs,v2,()=>
  (k9 N x5 k1_0_0 k1_0_1 k1_0_2).bind fun r8=>
  if r8=true then
  some (v2:Int)
  else
  (dc N k1_0_0 k1_0_1 k1_0_2 xs (v2+1)) ()
def dG (N:Nat) (a0:List Int) (k1_0_0:List Txn) (k1_0_1:List ai) (k1_0_2:List aa):Option Int:=
 dc N k1_0_0 k1_0_1 k1_0_2 a0 0 ()
def dj (N:Nat) (a0:List Int) (k1_0_0:List Txn) (k1_0_1:List ai) (k1_0_2:List aa):Option Bool:=
 (dG N a0 k1_0_0 k1_0_1 k1_0_2).bind fun r1=>
 some (decide (0<=r1))
def wL (rec5:Unit->Option Bool) (c13:Bool):Option Bool:=
 if c13=true then
 some false
 else
 rec5 ()
def iW (N:Nat) (a0:ae):List ai->Nat->Unit->Option Bool
 | [],v4,()=>
  some true
 | x7::xs,v4,()=>
  (fj N a0 x7.Owner).bind fun r11=>
  if r11 < 0 then
  (wL (iW N a0 xs (v4+1))) true
  else
  (dj N x7.Waiters a0.Txns a0.Locks a0.Stacks).bind fun r12=>
  (wL (iW N a0 xs (v4+1))) r12
def oE (N:Nat) (a0:ae):Option Bool:=
 (jo N a0.Locks).bind fun r2=>
 if r2=true then
 iW N a0 a0.Locks 0 ()
 else
 some false
def kB (N:Nat) (a0:Value):Option Bool:=
 (gY N a0).bind fun r1=>
 some (!r1)
def bN (N:Nat):List Value->Nat->Unit->Option Int
 | [],v2,()=>
  some (-1)
 | x5::xs,v2,()=>
  (kB N x5).bind fun r8=>
  if r8=true then
  some (v2:Int)
  else
  (bN N xs (v2+1)) ()
def dp (N:Nat) (a0:List Value):Option Int:=
 bN N a0 0 ()
def bL (N:Nat) (a0:List Value):Option Bool:=
 (dp N a0).bind fun r1=>
 some (decide (0<=r1))
def j4 (N:Nat) (a0:List Value):Option Bool:=
 if (a0.length:Int)<=8 then
 (bL N a0).bind fun r2=>
 some (!r2)
 else
 some false
def ky (N:Nat) (a0:al) (c0_0:Int) (c0_1:List Value) (c0_2:Bool):Option Bool:=
 some (decide (a0.Txn_=c0_0))
def bQ (N:Nat) (k1_0_0:Int) (k1_0_1:List Value) (k1_0_2:Bool):List al->Nat->Unit->Option Int
 | [],v2,()=>
  some (-1)
 | x5::xs,v2,()=>
  (ky N x5 k1_0_0 k1_0_1 k1_0_2).bind fun r8=>
  if r8=true then
  some (v2:Int)
  else
  (bQ N k1_0_0 k1_0_1 k1_0_2 xs (v2+1)) ()
def dh (N:Nat) (a0:List al) (k1_0_0:Int) (k1_0_1:List Value) (k1_0_2:Bool):Option Int:=
 bQ N k1_0_0 k1_0_1 k1_0_2 a0 0 ()
def aZ (N:Nat) (a0:List al) (k1_0_0:Int) (k1_0_1:List Value) (k1_0_2:Bool):Option Bool:=
 (dh N a0 k1_0_0 k1_0_1 k1_0_2).bind fun r1=>
 some (decide (0<=r1))
def jN (rec3:Unit->Option Bool) (c15:Bool):Option Bool:=
 if c15=true then
 some false
 else
 rec3 ()
def eA (a1:List al) (N:Nat) (a0:ae):List al->Nat->Unit->Option Bool
 | [],v2,()=>
  some (decide (0 < (a1.length:Int)))
 | x5::xs,v2,()=>
  (fj N a0 x5.Txn_).bind fun r9=>
  if r9 < 0 then
  (jN (eA a1 N a0 xs (v2+1))) true
  else
  (j4 N x5.Fields).bind fun r10=>
  if r10=true then
  if x5.Prepared=true then
  slx a1 0 (v2:Int) fun l11=>
  (aZ N l11 x5.Txn_ x5.Fields x5.Prepared).bind fun r12=>
  (jN (eA a1 N a0 xs (v2+1))) r12
  else
  if (v2:Int) < (IntKind.i64.wrap ((a1.length:Int) - 1)) then
  (jN (eA a1 N a0 xs (v2+1))) true
  else
  slx a1 0 (v2:Int) fun l13=>
  (aZ N l13 x5.Txn_ x5.Fields x5.Prepared).bind fun r14=>
  (jN (eA a1 N a0 xs (v2+1))) r14
  else
  (jN (eA a1 N a0 xs (v2+1))) true
def ke (N:Nat) (a0:ae) (a1:List al):Option Bool:=
 eA a1 N a0 a1 0 ()
def pn (N:Nat) (a0:ai) (a1:Ref):Option Int:=
 (mF N a0.Actor a1).bind fun r1=>
 some r1
def aY (a0:List ai) (N:Nat) (a1:Ref) (kx1:Int->Option (Int × Bool)):Nat->Int × Int->Option (Int × Bool)
 | 0,_=>none
 | n+1,(v2,v3)=>
  if v2 < v3 then
  gx a0 (IntKind.i64.wrap (kt .u64 (IntKind.u64.wrap (IntKind.i64.wrap (v2+v3))) 1)) fun x6=>
  (pn N x6 a1).bind fun r7=>
  if r7 < 0 then
  (aY a0 N a1 kx1 n) (IntKind.i64.wrap ((IntKind.i64.wrap (kt .u64 (IntKind.u64.wrap (IntKind.i64.wrap (v2+v3))) 1))+1),v3)
  else
  (aY a0 N a1 kx1 n) (v2,IntKind.i64.wrap (kt .u64 (IntKind.u64.wrap (IntKind.i64.wrap (v2+v3))) 1))
  else
  kx1 v2
def dN (a0:List ai) (N:Nat) (a1:Ref) (v8:Int):Option (Int × Bool):=
 if v8 < (a0.length:Int) then
 gx a0 v8 fun x10=>
 (pn N x10 a1).bind fun r11=>
 some (v8,(decide (r11=0)))
 else
 some (v8,false)
def dg (N:Nat) (a0:List ai) (a1:Ref):Option (Int × Bool):=
 aY a0 N a1 (dN a0 N a1) N (0,(a0.length:Int))
def qn (N:Nat) (a0:List ai) (a1:Ref):Option (Int × Bool):=
 (dg N a0 a1).bind fun r1=>
 some (r1.1,r1.2)
def m9 (N:Nat) (a0:List ai) (a1:Ref):Option Int:=
 (jo N a0).bind fun r2=>
 if r2=true then
 (qn N a0 a1).bind fun r4=>
 if r4.2=true then
 gx a0 r4.1 fun x5=>
 some x5.Owner
 else
 some 0
 else
 some 0
def ug (N:Nat) (a0:ah) (c0_0:ByteArray) (c0_1:ByteArray):Option Bool:=
 some (sEq a0.Target.Type_ c0_0 && sEq a0.Target.Key c0_1)
def bO (N:Nat) (k1_0_0:ByteArray) (k1_0_1:ByteArray):List ah->Nat->Unit->Option Int
 | [],v2,()=>
  some (-1)
 | x5::xs,v2,()=>
  (ug N x5 k1_0_0 k1_0_1).bind fun r8=>
  if r8=true then
  some (v2:Int)
  else
  (bO N k1_0_0 k1_0_1 xs (v2+1)) ()
def de (N:Nat) (a0:List ah) (k1_0_0:ByteArray) (k1_0_1:ByteArray):Option Int:=
 bO N k1_0_0 k1_0_1 a0 0 ()
def bM (N:Nat) (a0:List ah) (k1_0_0:ByteArray) (k1_0_1:ByteArray):Option Bool:=
 (de N a0 k1_0_0 k1_0_1).bind fun r1=>
 some (decide (0<=r1))
def oh (N:Nat) (a0:List ah) (a1:Ref):Option Bool:=
 (bM N a0 a1.Type_ a1.Key).bind fun r1=>
 some r1
def gI (N:Nat) (a0:Ref) (a1:Ref):Option Int:=
 (fc N a0.Type_ a1.Type_).bind fun r1=>
 (fc N a0.Key a1.Key).bind fun r2=>
 (tj N [r1,r2]).bind fun r3=>
 some r3
def jH (kx8:Option Bool) (c14:Bool):Option Bool:=
 if c14=true then
 some false
 else
 kx8
def lS (kx16:Option Bool) (c19:Bool):Option Bool:=
 if c19=true then
 some false
 else
 kx16
def jL (rec21:Unit->Option Bool) (c31:Bool):Option Bool:=
 if c31=true then
 some false
 else
 rec21 ()
def fg (rec3:Unit->Option Bool) (N:Nat) (a0:ae) (x5:aa):List al->Nat->Unit->Option Bool
 | [],v20,()=>
  rec3 ()
 | x23::xs,v20,()=>
  (fj N a0 x23.Txn_).bind fun r26=>
  gx a0.Txns r26 fun x27=>
  slx x27.Calls 0 x27.Done fun l29=>
  (oh N l29 x5.Actor).bind fun r30=>
  if r30=true then
  if x23.Prepared=true then
  (jL (fg rec3 N a0 x5 xs (v20+1))) (decide (x27.Done < (x27.Calls.length:Int)))
  else
  (jL (fg rec3 N a0 x5 xs (v20+1))) false
  else
  (jL (fg rec3 N a0 x5 xs (v20+1))) true
def lV (rec3:Unit->Option Bool) (N:Nat) (a0:ae) (x5:aa):Option Bool:=
 fg rec3 N a0 x5 x5.Layers 0 ()
def jJ (x5:aa) (rec3:Unit->Option Bool) (N:Nat) (a0:ae):Option Bool:=
 gx x5.Layers (IntKind.i64.wrap ((x5.Layers.length:Int) - 1)) fun x15=>
 if x15.Prepared=true then
 (lS (lV rec3 N a0 x5)) false
 else
 (m9 N a0.Locks x5.Actor).bind fun r18=>
 (lS (lV rec3 N a0 x5)) (!decide (r18=x15.Txn_))
def ew (a0:ae) (N:Nat):List aa->Nat->Unit->Option Bool
 | [],v2,()=>
  some true
 | x5::xs,v2,()=>
  if 0 < (v2:Int) then
  gx a0.Stacks (IntKind.i64.wrap ((v2:Int) - 1)) fun x10=>
  (gI N x10.Actor x5.Actor).bind fun r11=>
  if 0<=r11 then
  (jH (jJ x5 (ew a0 N xs (v2+1)) N a0)) true
  else
  (ke N a0 x5.Layers).bind fun r12=>
  (jH (jJ x5 (ew a0 N xs (v2+1)) N a0)) (!r12)
  else
  (ke N a0 x5.Layers).bind fun r13=>
  (jH (jJ x5 (ew a0 N xs (v2+1)) N a0)) (!r13)
def mn (N:Nat) (a0:ae):Option Bool:=
 ew a0 N a0.Stacks 0 ()
def yp (N:Nat) (a0:aa) (c0_0:ByteArray) (c0_1:ByteArray):Option Bool:=
 some (sEq a0.Actor.Type_ c0_0 && sEq a0.Actor.Key c0_1)
def bS (N:Nat) (k1_0_0:ByteArray) (k1_0_1:ByteArray):List aa->Nat->Unit->Option Int
 | [],v2,()=>
  some (-1)
 | x5::xs,v2,()=>
  (yp N x5 k1_0_0 k1_0_1).bind fun r8=>
  if r8=true then
  some (v2:Int)
  else
  (bS N k1_0_0 k1_0_1 xs (v2+1)) ()
def dq (N:Nat) (a0:List aa) (k1_0_0:ByteArray) (k1_0_1:ByteArray):Option Int:=
 bS N k1_0_0 k1_0_1 a0 0 ()
def lY (N:Nat) (a0:ae) (a1:Ref):Option Int:=
 (dq N a0.Stacks a1.Type_ a1.Key).bind fun r1=>
 some r1
def sg (a2:Int):List al->Nat->Unit->Option (al × Bool)
 | [],v4,()=>
  some ((al.mk 0 [] false),false)
 | x7::xs,v4,()=>
  if x7.Txn_=a2 then
  some (x7,true)
  else
  (sg a2 xs (v4+1)) ()
def jh (N:Nat) (a0:ae) (a1:Ref) (a2:Int):Option (al × Bool):=
 (lY N a0 a1).bind fun r2=>
 if 0<=r2 then
 gx a0.Stacks r2 fun x3=>
 sg a2 x3.Layers 0 ()
 else
 some ((al.mk 0 [] false),false)
def gE (rec3:Unit->Option Bool) (N:Nat) (a0:ae) (x5:Txn):List ah->Nat->Unit->Option Bool
 | [],v9,()=>
  rec3 ()
 | x12::xs,v9,()=>
  (jh N a0 x12.Target x5.ID).bind fun r15=>
  if r15.2=true then
  (gE rec3 N a0 x5 xs (v9+1)) ()
  else
  some false
def iP (kx1:Option Bool) (N:Nat) (a0:ae):List Txn->Nat->Unit->Option Bool
 | [],v2,()=>
  kx1
 | x5::xs,v2,()=>
  slx x5.Calls 0 x5.Done fun l8=>
  gE (iP kx1 N a0 xs (v2+1)) N a0 x5 l8 0 ()
def eZ (kx26:Option Bool) (c29:Bool):Option Bool:=
 if c29=true then
 some false
 else
 kx26
def mU (rec31:Unit->Option Bool) (c40:Bool):Option Bool:=
 if c40=true then
 some false
 else
 rec31 ()
def eY (rec18:Unit->Option Bool) (N:Nat) (a0:ae) (x20:ai):List Int->Nat->Unit->Option Bool
 | [],v30,()=>
  rec18 ()
 | x33::xs,v30,()=>
  (fj N a0 x33).bind fun r36=>
  gx a0.Txns r36 fun x37=>
  if x37.Done=(x37.Calls.length:Int) then
  (mU (eY rec18 N a0 x20 xs (v30+1))) true
  else
  gx x37.Calls x37.Done fun x39=>
  (mU (eY rec18 N a0 x20 xs (v30+1))) (!(sEq x39.Target.Type_ x20.Actor.Type_ && sEq x39.Target.Key x20.Actor.Key))
def fe (rec18:Unit->Option Bool) (N:Nat) (a0:ae) (x20:ai):Option Bool:=
 eY rec18 N a0 x20 x20.Waiters 0 ()
def bH (N:Nat) (a0:ae):List ai->Nat->Unit->Option Bool
 | [],v17,()=>
  some true
 | x20::xs,v17,()=>
  (fj N a0 x20.Owner).bind fun r23=>
  gx a0.Txns r23 fun x24=>
  (jh N a0 x20.Actor x24.ID).bind fun r25=>
  if x24.Done < (x24.Calls.length:Int) then
  if r25.2=true then
  (eZ (fe (bH N a0 xs (v17+1)) N a0 x20)) false
  else
  gx x24.Calls x24.Done fun x28=>
  (eZ (fe (bH N a0 xs (v17+1)) N a0 x20)) (!(sEq x28.Target.Type_ x20.Actor.Type_ && sEq x28.Target.Key x20.Actor.Key))
  else
  if r25.2=true then
  if r25.1.Prepared=true then
  (eZ (fe (bH N a0 xs (v17+1)) N a0 x20)) true
  else
  (eZ (fe (bH N a0 xs (v17+1)) N a0 x20)) false
  else
  (eZ (fe (bH N a0 xs (v17+1)) N a0 x20)) true
def m7 (N:Nat) (a0:ae):Option Bool:=
 bH N a0 a0.Locks 0 ()
def kD (N:Nat) (a0:ae):Option Bool:=
 iP (m7 N a0) N a0 a0.Txns 0 ()
def jm (a1:Int):List Int->Nat->Unit->Option Int
 | [],v2,()=>
  some (-1)
 | x5::xs,v2,()=>
  if a1=x5 then
  some (v2:Int)
  else
  (jm a1 xs (v2+1)) ()
def pe (N:Nat) (a0:List Int) (a1:Int):Option Int:=
 jm a1 a0 0 ()
def dt (N:Nat) (a0:List Int) (a1:Int):Option Bool:=
 (pe N a0 a1).bind fun r1=>
 some (decide (0<=r1))
def z7 (kx15:Option Bool) (c17:Bool):Option Bool:=
 if c17=true then
 some false
 else
 kx15
def vh (c8:Bool) (rec10:Bool->Option Bool) (N:Nat) (a2:List Int) (x12:al):Option Bool:=
 if c8=true then
 rec10 true
 else
 (dt N a2 x12.Txn_).bind fun r18=>
 rec10 (!r18)
def kr (rec3:Unit->Option Bool) (a1:Int) (N:Nat) (a2:List Int):List al->Nat->Bool->Option Bool
 | [],v9,c8=>
  rec3 ()
 | x12::xs,v9,c8=>
  if x12.Txn_=a1 then
  (z7 (vh c8 (kr rec3 a1 N a2 xs (v9+1)) N a2 x12)) c8
  else
  (z7 (vh c8 (kr rec3 a1 N a2 xs (v9+1)) N a2 x12)) false
def po (a1:Int) (N:Nat) (a2:List Int):List aa->Nat->Unit->Option Bool
 | [],v2,()=>
  some true
 | x5::xs,v2,()=>
  kr (po a1 N a2 xs (v2+1)) a1 N a2 x5.Layers 0 false
def vv (N:Nat) (a0:ae) (a1:Int) (a2:List Int):Option Bool:=
 po a1 N a2 a0.Stacks 0 ()
def sD (l8:List Int) (x12:Txn) (rec10:List Int->Option Bool) (c18:Bool):Option Bool:=
 if c18=true then
 apx 7 l8 [x12.ID] fun l19=>
 rec10 l19
 else
 rec10 l8
def jz (rec4:List Int->Option Bool) (N:Nat) (a0:ae):List Txn->Nat->List Int->Option Bool
 | [],v9,l8=>
  rec4 l8
 | x12::xs,v9,l8=>
  (dt N l8 x12.ID).bind fun r16=>
  if r16=true then
  (sD l8 x12 (jz rec4 N a0 xs (v9+1))) false
  else
  (vv N a0 x12.ID l8).bind fun r17=>
  (sD l8 x12 (jz rec4 N a0 xs (v9+1))) r17
def lB (a0:ae) (N:Nat):Nat->Nat->List Int->Option Bool
 | 0,v3,l2=>
  some (decide ((l2.length:Int)=(a0.Txns.length:Int)))
 | m+1,v3,l2=>
  jz (lB a0 N m (v3+1)) N a0 a0.Txns 0 l2
def uy (N:Nat) (a0:ae):Option Bool:=
 lB a0 N (a0.Txns.length - 0) 0 []
def jk (N:Nat) (a0:ae):Option Bool:=
 (tY N a0).bind fun r2=>
 if r2=true then
 (oE N a0).bind fun r3=>
 if r3=true then
 (mn N a0).bind fun r4=>
 if r4=true then
 (kD N a0).bind fun r5=>
 if r5=true then
 (uy N a0).bind fun r6=>
 some r6
 else
 some false
 else
 some false
 else
 some false
 else
 some false
def iG (N:Nat) (a0:List Txn):Option (List Txn):=
 apn 151 a0 <|
 some a0
def eP (N:Nat) (a0:List ai):Option (List ai):=
 apn 63 a0 <|
 some a0
def dW (N:Nat) (a0:List aa):Option (List aa):=
 apn 55 a0 <|
 some a0
def ey (N:Nat) (a0:List ah):Option (List ah):=
 apn 71 a0 <|
 some a0
def gl (N:Nat) (a0:List Value):Option (List Value):=
 apn 79 a0 <|
 some a0
def dR (N:Nat) (a0:List Int):Option (List Int):=
 apn 7 a0 <|
 some a0
def fL (N:Nat) (a0:List ByteArray):Option (List ByteArray):=
 apn 15 a0 <|
 some a0
def gH (N:Nat) (a0:Value):Option Value:=
 (dR N a0.I).bind fun r1=>
 (fL N a0.L).bind fun r2=>
 some (Value.mk a0.Kind a0.N a0.S r1 r2)
def iH (N:Nat):Nat->Nat->List Value->Option (List Value)
 | 0,v4,l3=>
  some l3
 | m+1,v4,l3=>
  gx l3 (v4:Int) fun x9=>
  (gH N x9).bind fun r10=>
  (iH N m (v4+1)) (l3.set v4 r10)
def eC (N:Nat) (a0:List Value):Option (List Value):=
 (gl N a0).bind fun r1=>
 iH N (r1.length - 0) 0 r1
def kN (N:Nat) (a0:ah):Option ah:=
 (eC N a0.Args).bind fun r1=>
 some (ah.mk a0.Target a0.Method r1)
def j7 (kx2:(List ah)->Option Txn) (N:Nat):Nat->Nat->List ah->Option Txn
 | 0,v4,l3=>
  kx2 l3
 | m+1,v4,l3=>
  gx l3 (v4:Int) fun x9=>
  (kN N x9).bind fun r10=>
  (j7 kx2 N m (v4+1)) (l3.set v4 r10)
def u7 (N:Nat) (a0:Txn) (l11:List ah):Option Txn:=
 (gH N a0.Last).bind fun r12=>
 some (Txn.mk a0.ID a0.Born a0.Client a0.Seq l11 a0.Done r12)
def kv (N:Nat) (a0:Txn):Option Txn:=
 (ey N a0.Calls).bind fun r1=>
 j7 (u7 N a0) N (r1.length - 0) 0 r1
def gm (N:Nat) (a0:List al):Option (List al):=
 apn 39 a0 <|
 some a0
def iI (N:Nat):Nat->Nat->List al->Option (List al)
 | 0,v4,l3=>
  some l3
 | m+1,v4,l3=>
  gx l3 (v4:Int) fun x9=>
  (eC N x9.Fields).bind fun r10=>
  (iI N m (v4+1)) (l3.set v4 (al.mk x9.Txn_ r10 x9.Prepared))
def kf (N:Nat) (a0:List al):Option (List al):=
 (gm N a0).bind fun r1=>
 iI N (r1.length - 0) 0 r1
def oK (kx4:(List Txn)->Option ae) (N:Nat):Nat->Nat->List Txn->Option ae
 | 0,v6,l5=>
  kx4 l5
 | m+1,v6,l5=>
  gx l5 (v6:Int) fun x11=>
  (kv N x11).bind fun r12=>
  (oK kx4 N m (v6+1)) (l5.set v6 r12)
def pb (kx14:(List ai)->Option ae) (N:Nat):Nat->Nat->List ai->Option ae
 | 0,v16,l15=>
  kx14 l15
 | m+1,v16,l15=>
  gx l15 (v16:Int) fun x21=>
  (dR N x21.Waiters).bind fun r22=>
  (pb kx14 N m (v16+1)) (l15.set v16 (ai.mk x21.Actor x21.Owner r22))
def o9 (l13:List Txn) (l23:List ai) (N:Nat):Nat->Nat->List aa->Option ae
 | 0,v26,l25=>
  Nn l25 v26 <|
  (some (ae.mk l13 l23 l25))
 | m+1,v26,l25=>
  gx l25 (v26:Int) fun x31=>
  (kf N x31.Layers).bind fun r32=>
  (o9 l13 l23 N m (v26+1)) (l25.set v26 (aa.mk x31.Actor r32))
def zw (l13:List Txn) (N:Nat) (r3:List aa) (l23:List ai):Option ae:=
 o9 l13 l23 N (r3.length - 0) 0 r3
def zo (N:Nat) (r3:List aa) (r2:List ai) (l13:List Txn):Option ae:=
 pb (zw l13 N r3) N (r2.length - 0) 0 r2
def kJ (N:Nat) (a0:ae):Option ae:=
 (iG N a0.Txns).bind fun r1=>
 (eP N a0.Locks).bind fun r2=>
 (dW N a0.Stacks).bind fun r3=>
 oK (zo N r3 r2) N (r1.length - 0) 0 r1
def pj (a0:ae) (kx1:Option (ae × Int)) (c8:Bool):Option (ae × Int):=
 if c8=true then
 some ((ae.mk [] [] []),8)
 else
 if (a0.Txns.length:Int)=32 then
 some ((ae.mk [] [] []),5)
 else
 kx1
def zN (a0:ae) (kx1:Option (ae × Int)) (a1:Int) (c5:Bool):Option (ae × Int):=
 if c5=true then
 some ((ae.mk [] [] []),1)
 else
 if 0 < (a0.Txns.length:Int) then
 gx a0.Txns (IntKind.i64.wrap ((a0.Txns.length:Int) - 1)) fun x7=>
 (pj a0 kx1) (decide (a1<=x7.ID))
 else
 (pj a0 kx1) false
def oT (N:Nat) (a0:ae) (a1:Int) (a2:Int) (a3:ByteArray) (a4:Int) (a5:List ah):Option (ae × Int):=
 (kJ N a0).bind fun r9=>
 (kv N (Txn.mk a1 a2 a3 a4 a5 0 (Value.mk 0 0 (⟨#[]⟩) [] []))).bind fun r10=>
 apx 151 r9.Txns [r10] fun l11=>
 some ((ae.mk l11 r9.Locks r9.Stacks),0)
def jV (N:Nat) (a0:ae) (a1:Int) (a2:Int) (a3:ByteArray) (a4:Int) (a5:List ah):Option (ae × Int):=
 (jk N a0).bind fun r3=>
 if r3=true then
 (pg N (Txn.mk a1 a2 a3 a4 a5 0 (Value.mk 0 0 (⟨#[]⟩) [] []))).bind fun r4=>
 (zN a0 (oT N a0 a1 a2 a3 a4 a5) a1) (!r4)
 else
 (zN a0 (oT N a0 a1 a2 a3 a4 a5) a1) true
def rq (kx2:Option (ah × Bool)) (c5:Bool):Option (ah × Bool):=
 if c5=true then
 some ((ah.mk (Ref.mk (⟨#[]⟩) (⟨#[]⟩)) (⟨#[]⟩) []),false)
 else
 kx2
def wZ (a0:ae) (r1:Int) (N:Nat):Option (ah × Bool):=
 gx a0.Txns r1 fun x6=>
 gx x6.Calls x6.Done fun x7=>
 (kN N x7).bind fun r8=>
 some (r8,true)
def py (N:Nat) (a0:ae) (a1:Int):Option (ah × Bool):=
 (fj N a0 a1).bind fun r1=>
 if r1 < 0 then
 (rq (wZ a0 r1 N)) true
 else
 gx a0.Txns r1 fun x4=>
 if x4.Done < 0 then
 (rq (wZ a0 r1 N)) true
 else
 (rq (wZ a0 r1 N)) (decide ((x4.Calls.length:Int)<=x4.Done))
def ly (N:Nat):Nat->Nat->List ai->Option (List ai)
 | 0,v4,l3=>
  Nn l3 v4 <|
  (some l3)
 | m+1,v4,l3=>
  gx l3 (v4:Int) fun x9=>
  (dR N x9.Waiters).bind fun r10=>
  (ly N m (v4+1)) (l3.set v4 (ai.mk x9.Actor x9.Owner r10))
def gf (N:Nat) (a0:List ai):Option (List ai):=
 (eP N a0).bind fun r1=>
 ly N (r1.length - 0) 0 r1
def lO (N:Nat) (a0:List ai) (a1:Int) (a2:List ai):Option (List ai):=I0 63 a0 a1 a2 fun l=>some l
def qb (N:Nat) (a0:Int):Option Bool:=
 some (!decide (a0=a0))
def pq (N:Nat) (a0:Int) (a1:Int):Option Bool:=
 (qb N a0).bind fun r2=>
 if r2=true then
 (qb N a1).bind fun r3=>
 if r3=true then
 some (decide (a0 < a1))
 else
 some true
 else
 some (decide (a0 < a1))
def kX (N:Nat) (a0:Int):Option Bool:=
 some (!decide (a0=a0))
def dU (a0:List Int) (N:Nat) (a1:Int) (kx1:Int->Option (Int × Bool)):Nat->Int × Int->Option (Int × Bool)
 | 0,_=>none
 | n+1,(v2,v3)=>
  if v2 < v3 then
  gx a0 (IntKind.i64.wrap (kt .u64 (IntKind.u64.wrap (IntKind.i64.wrap (v2+v3))) 1)) fun x6=>
  (pq N x6 a1).bind fun r7=>
  if r7=true then
  (dU a0 N a1 kx1 n) (IntKind.i64.wrap ((IntKind.i64.wrap (kt .u64 (IntKind.u64.wrap (IntKind.i64.wrap (v2+v3))) 1))+1),v3)
  else
  (dU a0 N a1 kx1 n) (v2,IntKind.i64.wrap (kt .u64 (IntKind.u64.wrap (IntKind.i64.wrap (v2+v3))) 1))
  else
  kx1 v2
def js (a0:List Int) (a1:Int) (N:Nat) (v8:Int):Option (Int × Bool):=
 if v8 < (a0.length:Int) then
 gx a0 v8 fun x10=>
 if x10=a1 then
 some (v8,true)
 else
 (kX N x10).bind fun r11=>
 if r11=true then
 (kX N a1).bind fun r12=>
 some (v8,r12)
 else
 some (v8,false)
 else
 some (v8,false)
def gu (N:Nat) (a0:List Int) (a1:Int):Option (Int × Bool):=
 dU a0 N a1 (js a0 a1 N) N (0,(a0.length:Int))
def mN (N:Nat) (a0:List Int) (a1:Int) (a2:List Int):Option (List Int):=I0 7 a0 a1 a2 fun l=>some l
def pw (kx1:Option ((List ai) × Int × Int)) (c6:Bool):Option ((List ai) × Int × Int):=
 if c6=true then
 some ([],0,1)
 else
 kx1
def oP (N:Nat) (a0:List ai) (a1:Ref) (a2:Int):Option ((List ai) × Int × Int):=
 (qn N a0 a1).bind fun r7=>
 if r7.2=true then
 gx a0 r7.1 fun x12=>
 (gu N x12.Waiters a2).bind fun r13=>
 if x12.Owner=a2 then
 (gf N a0).bind fun r15=>
 some (r15,1,0)
 else
 if x12.Owner < a2 then
 (gf N a0).bind fun r16=>
 some (r16,3,0)
 else
 if r13.2=true then
 (gf N a0).bind fun r17=>
 some (r17,2,0)
 else
 if (x12.Waiters.length:Int)=32 then
 some ([],0,5)
 else
 (gf N a0).bind fun r18=>
 gx r18 r7.1 fun x19=>
 (mN N x19.Waiters r13.1 [a2]).bind fun r20=>
 some ((r18.set ((r7.1).toNat) (ai.mk x19.Actor x19.Owner r20)),2,0)
 else
 if (a0.length:Int)=128 then
 some ([],0,5)
 else
 (gf N a0).bind fun r10=>
 (lO N r10 r7.1 [(ai.mk a1 a2 [])]).bind fun r11=>
 some (r11,1,0)
def qd (N:Nat) (a0:List ai) (a1:Ref) (a2:Int):Option ((List ai) × Int × Int):=
 (jo N a0).bind fun r3=>
 if r3=true then
 (iO N a1).bind fun r4=>
 if r4=true then
 (jS N a2).bind fun r5=>
 (pw (oP N a0 a1 a2)) (!r5)
 else
 (pw (oP N a0 a1 a2)) true
 else
 (pw (oP N a0 a1 a2)) true
def vi (v8:Int) (v9:Int):Option Int:=
 gxs (⟨((([0,1,2,2,3,3,3,3,4,4,4,4,4,4,4,4,5,5,5,5,5,5,5,5,5,5,5,5,5,5,5,5,6,6,6,6,6,6,6,6,6,6,6,6,6,6,6,6,6,6,6,6,6,6,6,6,6,6,6,6,6,6,6,6]:List UInt8).append ([7,7,7,7,7,7,7,7,7,7,7,7,7,7,7,7,7,7,7,7,7,7,7,7,7,7,7,7,7,7,7,7,7,7,7,7,7,7,7,7,7,7,7,7,7,7,7,7,7,7,7,7,7,7,7,7,7,7,7,7,7,7,7,7]:List UInt8)).append (([8,8,8,8,8,8,8,8,8,8,8,8,8,8,8,8,8,8,8,8,8,8,8,8,8,8,8,8,8,8,8,8,8,8,8,8,8,8,8,8,8,8,8,8,8,8,8,8,8,8,8,8,8,8,8,8,8,8,8,8,8,8,8,8]:List UInt8).append ([8,8,8,8,8,8,8,8,8,8,8,8,8,8,8,8,8,8,8,8,8,8,8,8,8,8,8,8,8,8,8,8,8,8,8,8,8,8,8,8,8,8,8,8,8,8,8,8,8,8,8,8,8,8,8,8,8,8,8,8,8,8,8,8]:List UInt8))).toArray⟩:ByteArray) (IntKind.u8.wrap v8) fun b10=>
 some (IntKind.i64.wrap (v9+(IntKind.i64.wrap (b10.toNat:Int))))
def vL (v5:Int) (v6:Int):Option Int:=
 if 256<=v5 then
 vi (kt .u64 v5 8) (IntKind.i64.wrap (v6+8))
 else
 vi v5 v6
def vF (v2:Int) (v3:Int):Option Int:=
 if 65536<=v2 then
 vL (kt .u64 v2 16) (IntKind.i64.wrap (v3+16))
 else
 vL v2 v3
def uX (N:Nat) (a0:Int):Option Int:=
 if 4294967296<=a0 then
 vF (kt .u64 a0 32) 32
 else
 vF a0 0
def tW (N:Nat) (a0:Int):Option Int:=
 (uX N a0).bind fun r2=>
 some r2
def gP (kx6:Option (List Int)) (rec2:Int->Option (List Int)) (v1:Int) (c11:Bool):Option (List Int):=
 if c11=true then
 kx6
 else
 rec2 (IntKind.i64.wrap (v1+1))
def gK (a0:List Int) (v1:Int):Option (List Int):=
 gx a0 (IntKind.i64.wrap (v1 - 1)) fun x13=>
 gx a0 v1 fun x14=>
 none
def gN (a1:Int) (v1:Int) (a0:List Int) (N:Nat) (rec2:Int->Option (List Int)):Nat->Unit->Option (List Int)
 | 0,_=>none
 | n+1,()=>
  if a1 < v1 then
  gx a0 v1 fun x8=>
  gx a0 (IntKind.i64.wrap (v1 - 1)) fun x9=>
  (pq N x8 x9).bind fun r10=>
  (gP (gK a0 v1) rec2 v1) r10
  else
  (gP (gK a0 v1) rec2 v1) false
def eJ (a2:Int) (a1:Int) (a0:List Int) (N:Nat):Nat->Int->Option (List Int)
 | 0,_=>none
 | n+1,v1=>
  if v1 < a2 then
  gN a1 v1 a0 N (eJ a2 a1 a0 N n) N ()
  else
  some a0
def da (N:Nat) (a0:List Int) (a1:Int) (a2:Int):Option (List Int):=
 Iy (fun r=>r) a0 (
 (eJ a2 a1 a0 N N (IntKind.i64.wrap (a1+1))))
def jx (a2:Int) (a1:Int) (N:Nat) (a0:List Int) (a3:Int):Nat->Unit->Option (List Int)
 | 0,_=>none
 | n+1,()=>
  if (IntKind.i64.wrap (a2 - a1))<=12 then
  (da N a0 a1 a2).bind fun r3=>
  some r3
  else
  if a3=0 then
  none
  else
  none
def ee (N:Nat) (a0:List Int) (a1:Int) (a2:Int) (a3:Int):Option (List Int):=
 Iy (fun r=>r) a0 (
 (jx a2 a1 N a0 a3 N ()))
def ir (N:Nat) (a0:List Int):Option (List Int):=
 Iy (fun r=>r) a0 (
 (tW N (IntKind.u64.wrap (a0.length:Int))).bind fun r1=>
 (ee N a0 0 (a0.length:Int) r1).bind fun r2=>
 some r2)
def slices_Sort_int (N:Nat) (a0:List Int):Option (List Int):=if a0.isEmpty=true then ir N a0 else Ek a0
def mL (l1:List Int) (x14:al) (rec2:List Int->Option (List Int)) (kx17:Bool->Option (List Int)) (c20:Bool) (c21:Bool):Option (List Int):=
 if c21=true then
 apx 7 l1 [x14.Txn_] fun l22=>
 rec2 l22
 else
 kx17 c20
def mQ (rec12:Bool->Option (List Int)) (N:Nat) (l1:List Int) (x14:al) (c23:Bool):Option (List Int):=
 if c23=true then
 rec12 true
 else
 (dt N l1 x14.Txn_).bind fun r24=>
 rec12 r24
def fN (rec5:Unit->Option (List Int)) (N:Nat) (l1:List Int) (rec2:List Int->Option (List Int)):List al->Nat->Bool->Option (List Int)
 | [],v11,c10=>
  rec5 ()
 | x14::xs,v11,c10=>
  if c10=true then
  (dt N l1 x14.Txn_).bind fun r19=>
  (mL l1 x14 rec2 (mQ (fN rec5 N l1 rec2 xs (v11+1)) N l1 x14)) true (!r19)
  else
  (mL l1 x14 rec2 (mQ (fN rec5 N l1 rec2 xs (v11+1)) N l1 x14)) false false
def iY (kx3:Option (List Int)) (N:Nat) (l1:List Int) (rec2:List Int->Option (List Int)):List aa->Nat->Unit->Option (List Int)
 | [],v4,()=>
  kx3
 | x7::xs,v4,()=>
  fN (iY kx3 N l1 rec2 xs (v4+1)) N l1 rec2 x7.Layers 0 false
def wN (N:Nat) (l1:List Int):Option (List Int):=
 (slices_Sort_int N l1).bind fun r26=>
 some r26
def kA (N:Nat) (a0:ae):Nat->List Int->Option (List Int)
 | 0,_=>none
 | n+1,l1=>
  iY (wN N l1) N l1 (kA N a0 n) a0.Stacks 0 ()
def oI (N:Nat) (a0:ae) (a1:Int):Option (List Int):=
 kA N a0 N [a1]
def pt (N:Nat) (a0:Txn) (c0_0:List Int):Option Bool:=
 (dt N c0_0 a0.ID).bind fun r1=>
 some r1
def dL (N:Nat) (k1_0_0:List Int):List Txn->Nat->Unit->Option Int
 | [],v2,()=>
  some (-1)
 | x5::xs,v2,()=>
  (pt N x5 k1_0_0).bind fun r8=>
  if r8=true then
  some (v2:Int)
  else
  (dL N k1_0_0 xs (v2+1)) ()
def fZ (N:Nat) (a0:List Txn) (k1_0_0:List Int):Option Int:=
 dL N k1_0_0 a0 0 ()
def bq (N:Nat) (k1_0_0:List Int) (kx3:(List Txn)->Int->Option (List Txn)):Nat->List Txn × Int × Int->Option (List Txn)
 | 0,_=>none
 | n+1,(l4,v5,v6)=>
  if v6 < (l4.length:Int) then
  gx l4 v6 fun x10=>
  (pt N x10 k1_0_0).bind fun r11=>
  if r11=true then
  (bq N k1_0_0 kx3 n) (l4,v5,IntKind.i64.wrap (v6+1))
  else
  gx l4 v5 fun x12=>
  (bq N k1_0_0 kx3 n) ((l4.set ((v5).toNat) x10),(IntKind.i64.wrap (v5+1)),IntKind.i64.wrap (v6+1))
  else
  kx3 l4 v5
def eQ (l15:List Txn) (v16:Int):Option (List Txn):=
 slx l15 v16 (l15.length:Int) fun l17=>
 slx (tL (Txn.mk 0 0 (⟨#[]⟩) 0 [] 0 (Value.mk 0 0 (⟨#[]⟩) [] [])) (v16).toNat l15) 0 v16 fun l18=>
 some ((tL (Txn.mk 0 0 (⟨#[]⟩) 0 [] 0 (Value.mk 0 0 (⟨#[]⟩) [] [])) (v16).toNat l15).take ((v16).toNat))
def eb (N:Nat) (a0:List Txn) (k1_0_0:List Int):Option (List Txn):=
 (fZ N a0 k1_0_0).bind fun r1=>
 if r1=(-1) then
 some a0
 else
 bq N k1_0_0 eQ N (a0,r1,IntKind.i64.wrap (r1+1))
def oZ (N:Nat) (a0:al) (c0_0:List Int):Option Bool:=
 (dt N c0_0 a0.Txn_).bind fun r1=>
 some r1
def dA (N:Nat) (k1_0_0:List Int):List al->Nat->Unit->Option Int
 | [],v2,()=>
  some (-1)
 | x5::xs,v2,()=>
  (oZ N x5 k1_0_0).bind fun r8=>
  if r8=true then
  some (v2:Int)
  else
  (dA N k1_0_0 xs (v2+1)) ()
def fB (N:Nat) (a0:List al) (k1_0_0:List Int):Option Int:=
 dA N k1_0_0 a0 0 ()
def bk (N:Nat) (k1_0_0:List Int) (kx3:(List al)->Int->Option (List al)):Nat->List al × Int × Int->Option (List al)
 | 0,_=>none
 | n+1,(l4,v5,v6)=>
  if v6 < (l4.length:Int) then
  gx l4 v6 fun x10=>
  (oZ N x10 k1_0_0).bind fun r11=>
  if r11=true then
  (bk N k1_0_0 kx3 n) (l4,v5,IntKind.i64.wrap (v6+1))
  else
  gx l4 v5 fun x12=>
  (bk N k1_0_0 kx3 n) ((l4.set ((v5).toNat) x10),(IntKind.i64.wrap (v5+1)),IntKind.i64.wrap (v6+1))
  else
  kx3 l4 v5
def eD (l15:List al) (v16:Int):Option (List al):=
 slx l15 v16 (l15.length:Int) fun l17=>
 slx (tL (al.mk 0 [] false) (v16).toNat l15) 0 v16 fun l18=>
 some ((tL (al.mk 0 [] false) (v16).toNat l15).take ((v16).toNat))
def dM (N:Nat) (a0:List al) (k1_0_0:List Int):Option (List al):=
 (fB N a0 k1_0_0).bind fun r1=>
 if r1=(-1) then
 some a0
 else
 bk N k1_0_0 eD N (a0,r1,IntKind.i64.wrap (r1+1))
def oM (N:Nat) (a0:aa):Option Bool:=
 some (decide ((a0.Layers.length:Int)=0))
def bP (N:Nat):List aa->Nat->Unit->Option Int
 | [],v2,()=>
  some (-1)
 | x5::xs,v2,()=>
  (oM N x5).bind fun r8=>
  if r8=true then
  some (v2:Int)
  else
  (bP N xs (v2+1)) ()
def ej (N:Nat) (a0:List aa):Option Int:=
 bP N a0 0 ()
def aV (N:Nat) (kx3:(List aa)->Int->Option (List aa)):Nat->List aa × Int × Int->Option (List aa)
 | 0,_=>none
 | n+1,(l4,v5,v6)=>
  if v6 < (l4.length:Int) then
  gx l4 v6 fun x10=>
  (oM N x10).bind fun r11=>
  if r11=true then
  (aV N kx3 n) (l4,v5,IntKind.i64.wrap (v6+1))
  else
  gx l4 v5 fun x12=>
  (aV N kx3 n) ((l4.set ((v5).toNat) x10),(IntKind.i64.wrap (v5+1)),IntKind.i64.wrap (v6+1))
  else
  kx3 l4 v5
def dK (l15:List aa) (v16:Int):Option (List aa):=
 slx l15 v16 (l15.length:Int) fun l17=>
 slx (tL (aa.mk (Ref.mk (⟨#[]⟩) (⟨#[]⟩)) []) (v16).toNat l15) 0 v16 fun l18=>
 some ((tL (aa.mk (Ref.mk (⟨#[]⟩) (⟨#[]⟩)) []) (v16).toNat l15).take ((v16).toNat))
def b9 (N:Nat) (a0:List aa):Option (List aa):=
 (ej N a0).bind fun r1=>
 if r1=(-1) then
 some a0
 else
 aV N dK N (a0,r1,IntKind.i64.wrap (r1+1))
def mH (kx3:(List aa)->Option ae) (N:Nat) (a1:List Int):Nat->Nat->List aa->Option ae
 | 0,v5,l4=>
  kx3 l4
 | m+1,v5,l4=>
  gx l4 (v5:Int) fun x10=>
  (dM N x10.Layers a1).bind fun r11=>
  (mH kx3 N a1 m (v5+1)) (l4.set v5 (aa.mk x10.Actor r11))
def yy (N:Nat) (r2:List Txn) (r1:ae) (l12:List aa):Option ae:=
 (b9 N l12).bind fun r13=>
 some (ae.mk r2 r1.Locks r13)
def tw (N:Nat) (a0:ae) (a1:List Int):Option ae:=
 (kJ N a0).bind fun r1=>
 (eb N r1.Txns a1).bind fun r2=>
 mH (yy N r2 r1) N a1 (r1.Stacks.length - 0) 0 r1.Stacks
def ll (N:Nat) (a0:Int) (c0_0:Int):Option Bool:=
 some (decide (a0=c0_0))
def bj (N:Nat) (k1_0_0:Int):List Int->Nat->Unit->Option Int
 | [],v2,()=>
  some (-1)
 | x5::xs,v2,()=>
  (ll N x5 k1_0_0).bind fun r8=>
  if r8=true then
  some (v2:Int)
  else
  (bj N k1_0_0 xs (v2+1)) ()
def dJ (N:Nat) (a0:List Int) (k1_0_0:Int):Option Int:=
 bj N k1_0_0 a0 0 ()
def bg (N:Nat) (k1_0_0:Int) (kx3:(List Int)->Int->Option (List Int)):Nat->List Int × Int × Int->Option (List Int)
 | 0,_=>none
 | n+1,(l4,v5,v6)=>
  if v6 < (l4.length:Int) then
  gx l4 v6 fun x10=>
  (ll N x10 k1_0_0).bind fun r11=>
  if r11=true then
  (bg N k1_0_0 kx3 n) (l4,v5,IntKind.i64.wrap (v6+1))
  else
  gx l4 v5 fun x12=>
  (bg N k1_0_0 kx3 n) ((l4.set ((v5).toNat) x10),(IntKind.i64.wrap (v5+1)),IntKind.i64.wrap (v6+1))
  else
  kx3 l4 v5
def dY (l15:List Int) (v16:Int):Option (List Int):=
 slx l15 v16 (l15.length:Int) fun l17=>
 slx (tL 0 (v16).toNat l15) 0 v16 fun l18=>
 some ((tL 0 (v16).toNat l15).take ((v16).toNat))
def bA (N:Nat) (a0:List Int) (k1_0_0:Int):Option (List Int):=
 (dJ N a0 k1_0_0).bind fun r1=>
 if r1=(-1) then
 some a0
 else
 bg N k1_0_0 dY N (a0,r1,IntKind.i64.wrap (r1+1))
def iX (N:Nat) (a1:Int):Nat->Nat->List ai->Option (List ai)
 | 0,v6,l5=>
  some l5
 | m+1,v6,l5=>
  gx l5 (v6:Int) fun x11=>
  (bA N x11.Waiters a1).bind fun r12=>
  (iX N a1 m (v6+1)) (l5.set v6 (ai.mk x11.Actor x11.Owner r12))
def oz (N:Nat) (a0:List ai) (a1:Int):Option (List ai):=
 (jo N a0).bind fun r2=>
 if r2=true then
 (gf N a0).bind fun r3=>
 iX N a1 (r3.length - 0) 0 r3
 else
 some []
def mf (N:Nat) (a0:List ai) (a1:Int) (a2:Int):Option (List ai):=Uh a0 a1 a2 fun l=>some l
def tv (N:Nat) (a0:List ai) (a1:Int):Option ((List ai) × Int):=
 gx a0 a1 fun x1=>
 if (x1.Waiters.length:Int)=0 then
 (mf N a0 a1 (IntKind.i64.wrap (a1+1))).bind fun r3=>
 some (r3,0)
 else
 gx x1.Waiters (IntKind.i64.wrap ((x1.Waiters.length:Int) - 1)) fun x4=>
 slt x1.Waiters (IntKind.i64.wrap ((x1.Waiters.length:Int) - 1)) fun l5=>
 some (((a0.set ((a1).toNat) (ai.mk x1.Actor x4 x1.Waiters)).set ((a1).toNat) (ai.mk x1.Actor x4 l5)),x4)
def eH (a1:Int) (N:Nat):Nat->List ai × List az × Int->Option ((List ai) × (List az))
 | 0,_=>none
 | n+1,(l5,l6,v7)=>
  if v7 < (l5.length:Int) then
  gx l5 v7 fun x11=>
  if x11.Owner=a1 then
  (tv N l5 v7).bind fun r12=>
  if r12.2=0 then
  (eH a1 N n) (r12.1,l6,v7)
  else
  apx 39 l6 [(az.mk x11.Actor r12.2)] fun l13=>
  (eH a1 N n) (r12.1,l13,IntKind.i64.wrap (v7+1))
  else
  (eH a1 N n) (l5,l6,IntKind.i64.wrap (v7+1))
  else
  some (l5,l6)
def lH (N:Nat) (a0:List ai) (a1:Int):Option ((List ai) × (List az)):=
 (jo N a0).bind fun r2=>
 if r2=true then
 (gf N a0).bind fun r3=>
 eH a1 N N (r3,[],0)
 else
 some ([],[])
def oN (kx6:(List ai)->Option (ae × (List Int) × Int)) (N:Nat):List Int->Nat->List ai->Option (ae × (List Int) × Int)
 | [],v8,l7=>
  kx6 l7
 | x11::xs,v8,l7=>
  (oz N l7 x11).bind fun r14=>
  (oN kx6 N xs (v8+1)) r14
def oS (r5:ae) (r4:List Int) (N:Nat):List Int->Nat->List ai->Option (ae × (List Int) × Int)
 | [],v18,l17=>
  some ((ae.mk r5.Txns l17 r5.Stacks),r4,0)
 | x21::xs,v18,l17=>
  (lH N l17 x21).bind fun r24=>
  (oS r5 r4 N xs (v18+1)) r24.1
def Dk (r5:ae) (r4:List Int) (N:Nat) (l15:List ai):Option (ae × (List Int) × Int):=
 oS r5 r4 N r4 0 l15
def kL (N:Nat) (a0:ae) (a1:Int):Option (ae × (List Int) × Int):=
 (jk N a0).bind fun r2=>
 if r2=true then
 (fj N a0 a1).bind fun r3=>
 if r3 < 0 then
 some ((ae.mk [] [] []),[],6)
 else
 (oI N a0 a1).bind fun r4=>
 (tw N a0 r4).bind fun r5=>
 oN (Dk r5 r4 N) N r4 0 r5.Locks
 else
 some ((ae.mk [] [] []),[],1)
def iy (N:Nat) (a0:ae) (a1:Int):Option (ae × Int × (List Int) × Int):=
 (jk N a0).bind fun r2=>
 if r2=true then
 (py N a0 a1).bind fun r3=>
 if r3.2=true then
 (qd N a0.Locks r3.1.Target a1).bind fun r5=>
 if r5.2.2=0 then
 if r5.2.1=3 then
 (kL N a0 a1).bind fun r8=>
 some (r8.1,r5.2.1,r8.2.1,r8.2.2)
 else
 (kJ N a0).bind fun r9=>
 some ((ae.mk r9.Txns r5.1 r9.Stacks),r5.2.1,[],0)
 else
 some ((ae.mk [] [] []),0,[],r5.2.2)
 else
 some ((ae.mk [] [] []),0,[],6)
 else
 some ((ae.mk [] [] []),0,[],1)
def lr (N:Nat) (a0:Int):Option Value:=
 some (Value.mk 1 a0 (⟨#[]⟩) [] [])
def qN (N:Nat) (a0:aa) (a1:Ref):Option Int:=
 (gI N a0.Actor a1).bind fun r1=>
 some r1
def bf (a0:List aa) (N:Nat) (a1:Ref) (kx1:Int->Option (Int × Bool)):Nat->Int × Int->Option (Int × Bool)
 | 0,_=>none
 | n+1,(v2,v3)=>
  if v2 < v3 then
  gx a0 (IntKind.i64.wrap (kt .u64 (IntKind.u64.wrap (IntKind.i64.wrap (v2+v3))) 1)) fun x6=>
  (qN N x6 a1).bind fun r7=>
  if r7 < 0 then
  (bf a0 N a1 kx1 n) (IntKind.i64.wrap ((IntKind.i64.wrap (kt .u64 (IntKind.u64.wrap (IntKind.i64.wrap (v2+v3))) 1))+1),v3)
  else
  (bf a0 N a1 kx1 n) (v2,IntKind.i64.wrap (kt .u64 (IntKind.u64.wrap (IntKind.i64.wrap (v2+v3))) 1))
  else
  kx1 v2
def bu (a0:List aa) (N:Nat) (a1:Ref) (v8:Int):Option (Int × Bool):=
 if v8 < (a0.length:Int) then
 gx a0 v8 fun x10=>
 (qN N x10 a1).bind fun r11=>
 some (v8,(decide (r11=0)))
 else
 some (v8,false)
def ba (N:Nat) (a0:List aa) (a1:Ref):Option (Int × Bool):=
 bf a0 N a1 (bu a0 N a1) N (0,(a0.length:Int))
def bC (N:Nat) (a0:List aa) (a1:Int) (a2:List aa):Option (List aa):=I0 55 a0 a1 a2 fun l=>some l
def yf (kx1:Option (ae × Int)) (c6:Bool):Option (ae × Int):=
 if c6=true then
 some ((ae.mk [] [] []),1)
 else
 kx1
def uD (x18:aa) (a1:Int) (kx19:(List aa)->Int->Option (ae × Int)) (l17:List aa) (r14:Int × Bool) (c22:Bool):Option (ae × Int):=
 if c22=true then
 apx 39 x18.Layers [(al.mk a1 [] false)] fun l23=>
 kx19 (l17.set ((r14.1).toNat) (aa.mk x18.Actor l23)) (IntKind.i64.wrap ((x18.Layers.length:Int)+1))
 else
 kx19 l17 (x18.Layers.length:Int)
def ym (r14:Int × Bool) (N:Nat) (a2:List Value) (r10:ae) (r11:Int) (x12:Txn) (r13:Value) (l24:List aa) (v25:Int):Option (ae × Int):=
 gx l24 r14.1 fun x26=>
 (eC N a2).bind fun r27=>
 gx x26.Layers (IntKind.i64.wrap (v25 - 1)) fun x28=>
 some ((ae.mk (r10.Txns.set ((r11).toNat) (Txn.mk x12.ID x12.Born x12.Client x12.Seq x12.Calls (IntKind.i64.wrap (x12.Done+1)) r13)) r10.Locks (l24.set ((r14.1).toNat) (aa.mk x26.Actor (x26.Layers.set ((IntKind.i64.wrap (v25 - 1)).toNat) (al.mk x28.Txn_ r27 x28.Prepared))))),0)
def rm (r14:Int × Bool) (a1:Int) (N:Nat) (a2:List Value) (r10:ae) (r11:Int) (x12:Txn) (r13:Value) (l17:List aa):Option (ae × Int):=
 gx l17 r14.1 fun x18=>
 if (x18.Layers.length:Int)=0 then
 (uD x18 a1 (ym r14 N a2 r10 r11 x12 r13) l17 r14) true
 else
 gx x18.Layers (IntKind.i64.wrap ((x18.Layers.length:Int) - 1)) fun x21=>
 (uD x18 a1 (ym r14 N a2 r10 r11 x12 r13) l17 r14) (!decide (x21.Txn_=a1))
def rD (N:Nat) (a0:ae) (a1:Int) (a3:Value) (a2:List Value):Option (ae × Int):=
 (py N a0 a1).bind fun r7=>
 if r7.2=true then
 (m9 N a0.Locks r7.1.Target).bind fun r9=>
 if r9=a1 then
 (kJ N a0).bind fun r10=>
 (fj N r10 a1).bind fun r11=>
 gx r10.Txns r11 fun x12=>
 (gH N a3).bind fun r13=>
 (ba N r10.Stacks r7.1.Target).bind fun r14=>
 if r14.2=true then
 (rm r14 a1 N a2 r10 r11 x12 r13) r10.Stacks
 else
 (bC N r10.Stacks r14.1 [(aa.mk r7.1.Target [])]).bind fun r16=>
 (rm r14 a1 N a2 r10 r11 x12 r13) r16
 else
 some ((ae.mk [] [] []),10)
 else
 some ((ae.mk [] [] []),6)
def lu (N:Nat) (a0:ae) (a1:Int) (a2:List Value) (a3:Value):Option (ae × Int):=
 (jk N a0).bind fun r3=>
 if r3=true then
 (j4 N a2).bind fun r4=>
 if r4=true then
 (gY N a3).bind fun r5=>
 (yf (rD N a0 a1 a3 a2)) (!r5)
 else
 (yf (rD N a0 a1 a3 a2)) true
 else
 (yf (rD N a0 a1 a3 a2)) true
def pB (kx1:Option ((List ai) × Int × Int)) (c6:Bool):Option ((List ai) × Int × Int):=
 if c6=true then
 some ([],0,1)
 else
 kx1
def lq (kx8:Option ((List ai) × Int × Int)) (c11:Bool):Option ((List ai) × Int × Int):=
 if c11=true then
 some ([],0,10)
 else
 kx8
def tD (N:Nat) (a0:List ai) (r7:Int × Bool):Option ((List ai) × Int × Int):=
 (gf N a0).bind fun r12=>
 (tv N r12 r7.1).bind fun r13=>
 some (r13.1,r13.2,0)
def oQ (N:Nat) (a0:List ai) (a1:Ref) (a2:Int):Option ((List ai) × Int × Int):=
 (qn N a0 a1).bind fun r7=>
 if r7.2=true then
 gx a0 r7.1 fun x10=>
 (lq (tD N a0 r7)) (!decide (x10.Owner=a2))
 else
 (lq (tD N a0 r7)) true
def mE (N:Nat) (a0:List ai) (a1:Ref) (a2:Int):Option ((List ai) × Int × Int):=
 (jo N a0).bind fun r3=>
 if r3=true then
 (iO N a1).bind fun r4=>
 if r4=true then
 (jS N a2).bind fun r5=>
 (pB (oQ N a0 a1 a2)) (!r5)
 else
 (pB (oQ N a0 a1 a2)) true
 else
 (pB (oQ N a0 a1 a2)) true
def iS (kx4:Option (ae × Int)) (c8:Bool):Option (ae × Int):=
 if c8=true then
 some ((ae.mk [] [] []),6)
 else
 kx4
def kZ (a0:ae) (r3:Int) (N:Nat) (a2:Ref) (a1:Int):Option (ae × Int):=
 gx a0.Txns r3 fun x10=>
 if x10.Done < (x10.Calls.length:Int) then
 some ((ae.mk [] [] []),12)
 else
 (jh N a0 a2 a1).bind fun r12=>
 if r12.1.Prepared=true then
 some ((ae.mk [] [] []),7)
 else
 (kJ N a0).bind fun r13=>
 (lY N r13 a2).bind fun r14=>
 gx r13.Stacks r14 fun x15=>
 gx x15.Layers (IntKind.i64.wrap ((x15.Layers.length:Int) - 1)) fun x16=>
 (mE N r13.Locks a2 a1).bind fun r17=>
 some ((ae.mk r13.Txns r17.1 (r13.Stacks.set ((r14).toNat) (aa.mk x15.Actor (x15.Layers.set ((IntKind.i64.wrap ((x15.Layers.length:Int) - 1)).toNat) (al.mk x16.Txn_ x16.Fields true))))),0)
def fW (N:Nat) (a0:ae) (a1:Int) (a2:Ref):Option (ae × Int):=
 (jk N a0).bind fun r2=>
 if r2=true then
 (fj N a0 a1).bind fun r3=>
 if r3 < 0 then
 (iS (kZ a0 r3 N a2 a1)) true
 else
 gx a0.Txns r3 fun x6=>
 (oh N x6.Calls a2).bind fun r7=>
 (iS (kZ a0 r3 N a2 a1)) (!r7)
 else
 some ((ae.mk [] [] []),1)
def lL (N:Nat) (a0:ae) (a1:Ref):Option (List al):=
 (lY N a0 a1).bind fun r2=>
 if 0<=r2 then
 gx a0.Stacks r2 fun x3=>
 (kf N x3.Layers).bind fun r4=>
 some r4
 else
 some []
def kY (N:Nat) (a0:ah) (c0_0:List Txn) (c0_1:List ai) (c0_2:List aa) (c1_0:Int) (c1_1:Int) (c1_2:ByteArray) (c1_3:Int) (c1_4:List ah) (c1_5:Int) (c1_6:Int) (c1_7:Int) (c1_8:ByteArray) (c1_9:List Int) (c1_10:List ByteArray):Option Bool:=
 (jh N (ae.mk c0_0 c0_1 c0_2) a0.Target c1_0).bind fun r1=>
 if r1.2=true then
 some (!r1.1.Prepared)
 else
 some true
def bE (N:Nat) (k1_0_0:List Txn) (k1_0_1:List ai) (k1_0_2:List aa) (k1_1_0:Int) (k1_1_1:Int) (k1_1_2:ByteArray) (k1_1_3:Int) (k1_1_4:List ah) (k1_1_5:Int) (k1_1_6:Int) (k1_1_7:Int) (k1_1_8:ByteArray) (k1_1_9:List Int) (k1_1_10:List ByteArray):List ah->Nat->Unit->Option Int
 | [],v2,()=>
  some (-1)
 | x5::xs,v2,()=>
  (kY N x5 k1_0_0 k1_0_1 k1_0_2 k1_1_0 k1_1_1 k1_1_2 k1_1_3 k1_1_4 k1_1_5 k1_1_6 k1_1_7 k1_1_8 k1_1_9 k1_1_10).bind fun r8=>
  if r8=true then
  some (v2:Int)
  else
  (bE N k1_0_0 k1_0_1 k1_0_2 k1_1_0 k1_1_1 k1_1_2 k1_1_3 k1_1_4 k1_1_5 k1_1_6 k1_1_7 k1_1_8 k1_1_9 k1_1_10 xs (v2+1)) ()
def b8 (N:Nat) (a0:List ah) (k1_0_0:List Txn) (k1_0_1:List ai) (k1_0_2:List aa) (k1_1_0:Int) (k1_1_1:Int) (k1_1_2:ByteArray) (k1_1_3:Int) (k1_1_4:List ah) (k1_1_5:Int) (k1_1_6:Int) (k1_1_7:Int) (k1_1_8:ByteArray) (k1_1_9:List Int) (k1_1_10:List ByteArray):Option Int:=
 bE N k1_0_0 k1_0_1 k1_0_2 k1_1_0 k1_1_1 k1_1_2 k1_1_3 k1_1_4 k1_1_5 k1_1_6 k1_1_7 k1_1_8 k1_1_9 k1_1_10 a0 0 ()
def bD (N:Nat) (a0:List ah) (k1_0_0:List Txn) (k1_0_1:List ai) (k1_0_2:List aa) (k1_1_0:Int) (k1_1_1:Int) (k1_1_2:ByteArray) (k1_1_3:Int) (k1_1_4:List ah) (k1_1_5:Int) (k1_1_6:Int) (k1_1_7:Int) (k1_1_8:ByteArray) (k1_1_9:List Int) (k1_1_10:List ByteArray):Option Bool:=
 (b8 N a0 k1_0_0 k1_0_1 k1_0_2 k1_1_0 k1_1_1 k1_1_2 k1_1_3 k1_1_4 k1_1_5 k1_1_6 k1_1_7 k1_1_8 k1_1_9 k1_1_10).bind fun r1=>
 some (decide (0<=r1))
def oX (N:Nat) (a0:ae) (a1:Txn):Option Bool:=
 (bD N a1.Calls a0.Txns a0.Locks a0.Stacks a1.ID a1.Born a1.Client a1.Seq a1.Calls a1.Done a1.Last.Kind a1.Last.N a1.Last.S a1.Last.I a1.Last.L).bind fun r1=>
 some (!r1)
def mD (N:Nat) (a0:Txn) (c0_0:List Txn) (c0_1:List ai) (c0_2:List aa):Option Bool:=
 if a0.Done=(a0.Calls.length:Int) then
 (oX N (ae.mk c0_0 c0_1 c0_2) a0).bind fun r2=>
 if r2=true then
 (vv N (ae.mk c0_0 c0_1 c0_2) a0.ID []).bind fun r3=>
 some r3
 else
 some false
 else
 some false
def dH (N:Nat) (k1_0_0:List Txn) (k1_0_1:List ai) (k1_0_2:List aa):List Txn->Nat->Unit->Option Int
 | [],v2,()=>
  some (-1)
 | x5::xs,v2,()=>
  (mD N x5 k1_0_0 k1_0_1 k1_0_2).bind fun r8=>
  if r8=true then
  some (v2:Int)
  else
  (dH N k1_0_0 k1_0_1 k1_0_2 xs (v2+1)) ()
def ed (N:Nat) (a0:List Txn) (k1_0_0:List Txn) (k1_0_1:List ai) (k1_0_2:List aa):Option Int:=
 dH N k1_0_0 k1_0_1 k1_0_2 a0 0 ()
def et (kx6:Option (List Ref)) (rec2:Int->Option (List Ref)) (v1:Int) (c11:Bool):Option (List Ref):=
 if c11=true then
 kx6
 else
 rec2 (IntKind.i64.wrap (v1+1))
def eu (a0:List Ref) (v1:Int):Option (List Ref):=
 gx a0 (IntKind.i64.wrap (v1 - 1)) fun x13=>
 gx a0 v1 fun x14=>
 none
def eo (a1:Int) (v1:Int) (a0:List Ref) (N:Nat) (rec2:Int->Option (List Ref)):Nat->Unit->Option (List Ref)
 | 0,_=>none
 | n+1,()=>
  if a1 < v1 then
  gx a0 v1 fun x8=>
  gx a0 (IntKind.i64.wrap (v1 - 1)) fun x9=>
  (gI N x8 x9).bind fun r10=>
  (et (eu a0 v1) rec2 v1) (decide (r10 < 0))
  else
  (et (eu a0 v1) rec2 v1) false
def bU (a2:Int) (a1:Int) (a0:List Ref) (N:Nat):Nat->Int->Option (List Ref)
 | 0,_=>none
 | n+1,v1=>
  if v1 < a2 then
  eo a1 v1 a0 N (bU a2 a1 a0 N n) N ()
  else
  some a0
def be (N:Nat) (a0:List Ref) (a1:Int) (a2:Int):Option (List Ref):=
 Iy (fun r=>r) a0 (
 (bU a2 a1 a0 N N (IntKind.i64.wrap (a1+1))))
def fp (a2:Int) (a1:Int) (N:Nat) (a0:List Ref) (a3:Int):Nat->Unit->Option (List Ref)
 | 0,_=>none
 | n+1,()=>
  if (IntKind.i64.wrap (a2 - a1))<=12 then
  (be N a0 a1 a2).bind fun r3=>
  some r3
  else
  if a3=0 then
  none
  else
  none
def bt (N:Nat) (a0:List Ref) (a1:Int) (a2:Int) (a3:Int):Option (List Ref):=
 Iy (fun r=>r) a0 (
 (fp a2 a1 N a0 a3 N ()))
def bJ (N:Nat) (a0:List Ref):Option (List Ref):=
 Iy (fun r=>r) a0 (
 (tW N (IntKind.u64.wrap (a0.length:Int))).bind fun r1=>
 (bt N a0 0 (a0.length:Int) r1).bind fun r2=>
 some r2)
def bX (N:Nat) (a0:List Ref):Option (List Ref):=if a0.isEmpty=true then bJ N a0  else Et (fun x y=>gI N x y ) a0
def fU (a0:List Ref) (v3:Nat) (kx11:(List Ref)->Int->Option (List Ref)):Nat->List Ref × Int × Int->Option (List Ref)
 | 0,_=>none
 | n+1,(l12,v13,v14)=>
  if v14 < (((a0.length - v3):Nat):Int) then
  gx ((l12.drop v3).take (a0.length - v3)) v14 fun x18=>
  gx ((l12.drop v3).take (a0.length - v3)) (IntKind.i64.wrap (v14 - 1)) fun x19=>
  if (sEq x18.Type_ x19.Type_ && sEq x18.Key x19.Key)=true then
  (fU a0 v3 kx11 n) (l12,v13,IntKind.i64.wrap (v14+1))
  else
  gx l12 v13 fun x20=>
  (fU a0 v3 kx11 n) ((l12.set ((v13).toNat) x18),(IntKind.i64.wrap (v13+1)),IntKind.i64.wrap (v14+1))
  else
  kx11 l12 v13
def jF (l23:List Ref) (v24:Int):Option (List Ref):=
 slx l23 v24 (l23.length:Int) fun l25=>
 slx (tL (Ref.mk (⟨#[]⟩) (⟨#[]⟩)) (v24).toNat l23) 0 v24 fun l26=>
 some ((tL (Ref.mk (⟨#[]⟩) (⟨#[]⟩)) (v24).toNat l23).take ((v24).toNat))
def iv (a0:List Ref) (N:Nat):Nat->Nat->Unit->Option (List Ref)
 | 0,v3,()=>
  some a0
 | m+1,v3,()=>
  gx a0 (v3:Int) fun x8=>
  gx a0 (IntKind.i64.wrap ((v3:Int) - 1)) fun x9=>
  if (sEq x8.Type_ x9.Type_ && sEq x8.Key x9.Key)=true then
  slx a0 (v3:Int) (a0.length:Int) fun l10=>
  fU a0 v3 jF N (a0,(v3:Int),1)
  else
  (iv a0 N m (v3+1)) ()
def jI (N:Nat) (a0:List Ref):Option (List Ref):=
 if (a0.length:Int) < 2 then
 some a0
 else
 iv a0 N (a0.length - 1) 1 ()
def gU (kx1:(List Ref)->Option (List Ref)):List ah->Nat->List Ref->Option (List Ref)
 | [],v3,l2=>
  kx1 l2
 | x6::xs,v3,l2=>
  apx 31 l2 [x6.Target] fun l9=>
  (gU kx1 xs (v3+1)) l9
def kV (N:Nat) (l10:List Ref):Option (List Ref):=
 (bX N l10).bind fun r11=>
 (jI N r11).bind fun r12=>
 some r12
def gy (N:Nat) (a0:Txn):Option (List Ref):=
 gU (kV N) a0.Calls 0 []
def lz (kx13:(List aR)->Option (ae × (List aD))) (N:Nat) (l4:List Txn) (l5:List ai) (l6:List aa) (x11:Txn):List Ref->Nat->List aR->Option (ae × (List aD))
 | [],v16,l15=>
  kx13 l15
 | x19::xs,v16,l15=>
  (jh N (ae.mk l4 l5 l6) x19 x11.ID).bind fun r22=>
  (eC N r22.1.Fields).bind fun r23=>
  apx 55 l15 [(aR.mk x19 r23)] fun l24=>
  (lz kx13 N l4 l5 l6 x11 xs (v16+1)) l24
def wu (N:Nat) (l4:List Txn) (l5:List ai) (l6:List aa) (x11:Txn) (l7:List aD) (r12:Value) (rec8:(List Txn × List ai × List aa × List aD)->Option (ae × (List aD))) (l25:List aR):Option (ae × (List aD)):=
 (tw N (ae.mk l4 l5 l6) [x11.ID]).bind fun r26=>
 apx 135 l7 [(aD.mk x11.ID x11.Client x11.Seq r12 l25)] fun l27=>
 rec8 (r26.Txns,r26.Locks,r26.Stacks,l27)
def lx (N:Nat):Nat->List Txn × List ai × List aa × List aD->Option (ae × (List aD))
 | 0,_=>none
 | n+1,(l4,l5,l6,l7)=>
  (ed N l4 l4 l5 l6).bind fun r9=>
  if r9 < 0 then
  some ((ae.mk l4 l5 l6),l7)
  else
  gx l4 r9 fun x11=>
  (gH N x11.Last).bind fun r12=>
  (gy N x11).bind fun r14=>
  lz (wu N l4 l5 l6 x11 l7 r12 (lx N n)) N l4 l5 l6 x11 r14 0 []
def og (N:Nat) (a0:ae):Option (ae × (List aD)):=
 (jk N a0).bind fun r2=>
 if r2=true then
 (kJ N a0).bind fun r3=>
 lx N N (r3.Txns,r3.Locks,r3.Stacks,[])
 else
 some ((ae.mk [] [] []),[])
def AG (N:Nat) (a0:ae) (a1:Int):Option (Txn × Bool):=
 (fj N a0 a1).bind fun r2=>
 if 0<=r2 then
 gx a0.Txns r2 fun x3=>
 (kv N x3).bind fun r4=>
 some (r4,true)
 else
 some ((Txn.mk 0 0 (⟨#[]⟩) 0 [] 0 (Value.mk 0 0 (⟨#[]⟩) [] [])),false)
def yx (a0:ae) (r2:Int) (N:Nat) (kx1:Option (List Value)) (c5:Bool):Option (List Value):=
 if c5=true then
 gx a0.Stacks r2 fun x6=>
 gx x6.Layers (IntKind.i64.wrap ((x6.Layers.length:Int) - 1)) fun x7=>
 (eC N x7.Fields).bind fun r8=>
 some r8
 else
 kx1
def yz (N:Nat) (a2:List Value):Option (List Value):=
 (eC N a2).bind fun r9=>
 some r9
def tM (N:Nat) (a0:ae) (a1:Ref) (a2:List Value):Option (List Value):=
 (lY N a0 a1).bind fun r2=>
 if 0<=r2 then
 gx a0.Stacks r2 fun x4=>
 (yx a0 r2 N (yz N a2)) (decide (0 < (x4.Layers.length:Int)))
 else
 (yx a0 r2 N (yz N a2)) false
def sX (kx14:Option Bool) (c16:Bool):Option Bool:=
 if c16=true then
 some false
 else
 kx14
def sJ (N:Nat) (v9:Int) (r13:ae × Int × (List Int) × Int) (rec10:(List Txn × List ai × List aa × Int)->Option Bool):Option Bool:=
 (lr N v9).bind fun r17=>
 (lr N v9).bind fun r18=>
 (lu N r13.1 3 [r17] r18).bind fun r19=>
 if r19.2=0 then
 rec10 (r19.1.Txns,r19.1.Locks,r19.1.Stacks,IntKind.i64.wrap (v9+1))
 else
 some false
def fS (N:Nat) (kx5:(List Txn)->(List ai)->(List aa)->Option Bool):Nat->List Txn × List ai × List aa × Int->Option Bool
 | 0,_=>none
 | n+1,(l6,l7,l8,v9)=>
  if v9 < 2 then
  (iy N (ae.mk l6 l7 l8) 3).bind fun r13=>
  if r13.2.2.2=0 then
  (sX (sJ N v9 r13 (fS N kx5 n))) (!decide (r13.2.1=1))
  else
  (sX (sJ N v9 r13 (fS N kx5 n))) true
  else
  kx5 l6 l7 l8
def wk (kx29:Option Bool) (c31:Bool):Option Bool:=
 if c31=true then
 some false
 else
 kx29
def sE (kx35:Option Bool) (c39:Bool):Option Bool:=
 if c39=true then
 some false
 else
 kx35
def wC (kx41:Option Bool) (c43:Bool):Option Bool:=
 if c43=true then
 some false
 else
 kx41
def rX (kx47:Option Bool) (c50:Bool):Option Bool:=
 if c50=true then
 some false
 else
 kx47
def sB (N:Nat) (r46:ae × (List aD)):Option Bool:=
 (AG N r46.1 5).bind fun r51=>
 if r51.2=true then
 (gy N r51.1).bind fun r53=>
 if (r53.length:Int)=1 then
 (tM N r46.1 (Ref.mk (⟨#[65]⟩) (⟨#[97]⟩)) []).bind fun r54=>
 some (decide ((r54.length:Int)=1))
 else
 some false
 else
 some false
def vU (N:Nat) (r34:ae × Int):Option Bool:=
 (fW N r34.1 3 (Ref.mk (⟨#[65]⟩) (⟨#[98]⟩))).bind fun r44=>
 if r44.2=0 then
 (og N r44.1).bind fun r46=>
 if (r46.2.length:Int)=1 then
 gx r46.2 0 fun x49=>
 if x49.ID=3 then
 (rX (sB N r46)) (!decide ((x49.Writes.length:Int)=2))
 else
 (rX (sB N r46)) true
 else
 (rX (sB N r46)) true
 else
 some false
def sP (N:Nat) (r34:ae × Int):Option Bool:=
 (kL N r34.1 3).bind fun r40=>
 if r40.2.2=0 then
 (wC (vU N r34)) (!decide ((r40.2.1.length:Int)=2))
 else
 (wC (vU N r34)) true
def uZ (N:Nat) (r28:ae × Int × (List Int) × Int):Option Bool:=
 (lr N 9).bind fun r32=>
 (lr N 9).bind fun r33=>
 (lu N r28.1 5 [r32] r33).bind fun r34=>
 if r34.2=0 then
 (lL N r34.1 (Ref.mk (⟨#[65]⟩) (⟨#[97]⟩))).bind fun r37=>
 if (r37.length:Int)=2 then
 (jk N r34.1).bind fun r38=>
 (sE (sP N r34)) (!r38)
 else
 (sE (sP N r34)) true
 else
 (sE (sP N r34)) true
def qm (N:Nat) (l23:List Txn) (l24:List ai) (l25:List aa):Option Bool:=
 (fW N (ae.mk l23 l24 l25) 3 (Ref.mk (⟨#[65]⟩) (⟨#[97]⟩))).bind fun r26=>
 if r26.2=0 then
 (iy N r26.1 5).bind fun r28=>
 if r28.2.2.2=0 then
 (wk (uZ N r28)) (!decide (r28.2.1=1))
 else
 (wk (uZ N r28)) true
 else
 some false
def uz (N:Nat)  : Option Bool:=
 (jV N (ae.mk [] [] []) 3 0 (⟨#[99]⟩) 1 [(ah.mk (Ref.mk (⟨#[65]⟩) (⟨#[97]⟩)) (⟨#[109]⟩) []),(ah.mk (Ref.mk (⟨#[65]⟩) (⟨#[98]⟩)) (⟨#[109]⟩) [])]).bind fun r1=>
 if r1.2=0 then
 (jV N r1.1 5 0 (⟨#[99]⟩) 2 [(ah.mk (Ref.mk (⟨#[65]⟩) (⟨#[97]⟩)) (⟨#[109]⟩) [])]).bind fun r3=>
 if r3.2=0 then
 fS N (qm N) N (r3.1.Txns,r3.1.Locks,r3.1.Stacks,0)
 else
 some false
 else
 some false
def wc (N:Nat) (a0:ae) (a1:Int):Option Int:=
 if (a0.Txns.length:Int)=0 then
 some 0
 else
 dvx (a0.Txns.length:Int) <|
 gx a0.Txns (Int.tmod (IntKind.i64.wrap a1) (a0.Txns.length:Int)) fun x2=>
 some x2.ID
def vp (N:Nat) (a0:Int):Option Ref:=
 sls (⟨#[97,98,99,100]⟩) (IntKind.i64.wrap (Int.tmod a0 4)) (IntKind.i64.wrap ((IntKind.i64.wrap (Int.tmod a0 4))+1)) fun s1=>
 some (Ref.mk (⟨#[65]⟩) s1)
def oJ (a0:aj) (N:Nat):Nat->List ah × Int->Option (List ah)
 | 0,_=>none
 | n+1,(l2,v3)=>
  if v3<=(IntKind.i64.wrap (Int.tmod a0.Who 4)) then
  shx (IntKind.u64.wrap (2 * (IntKind.u64.wrap (Int.tmod v3 4)))) <|
  (vp N (kt .u8 a0.Arg (IntKind.u64.wrap (2 * (IntKind.u64.wrap (Int.tmod v3 4)))))).bind fun r7=>
  apx 71 l2 [(ah.mk r7 (⟨#[109]⟩) [])] fun l8=>
  (oJ a0 N n) (l8,IntKind.i64.wrap (v3+1))
  else
  some l2
def yc (N:Nat) (a0:aj):Option (List ah):=
 oJ a0 N N ([],0)
def jd (N:Nat) (a0:Value):Option Value:=
 apn 7 a0.I <|
 apn 15 a0.L <|
 some a0
def jn (N:Nat):List Value->Nat->List Value->Option (List Value)
 | [],v3,l2=>
  some l2
 | x6::xs,v3,l2=>
  (jd N x6).bind fun r9=>
  apx 79 l2 [r9] fun l10=>
  (jn N xs (v3+1)) l10
def lI (N:Nat) (a0:List Value):Option (List Value):=
 jn N a0 0 []
def jD (N:Nat):List ah->Nat->List ah->Option (List ah)
 | [],v3,l2=>
  some l2
 | x6::xs,v3,l2=>
  (lI N x6.Args).bind fun r9=>
  apx 71 l2 [(ah.mk x6.Target x6.Method r9)] fun l10=>
  (jD N xs (v3+1)) l10
def ml (N:Nat) (a0:List ah):Option (List ah):=
 jD N a0 0 []
def qg (N:Nat) (a0:Txn):Option Txn:=
 (ml N a0.Calls).bind fun r1=>
 (jd N a0.Last).bind fun r2=>
 some (Txn.mk a0.ID a0.Born a0.Client a0.Seq r1 a0.Done r2)
def p9 (a1:Int) (N:Nat):List Txn->Nat->Unit->Option (Txn × Bool)
 | [],v2,()=>
  some ((Txn.mk 0 0 (⟨#[]⟩) 0 [] 0 (Value.mk 0 0 (⟨#[]⟩) [] [])),false)
 | x5::xs,v2,()=>
  if x5.ID=a1 then
  (qg N x5).bind fun r8=>
  some (r8,true)
  else
  (p9 a1 N xs (v2+1)) ()
def zv (N:Nat) (a0:ae) (a1:Int):Option (Txn × Bool):=
 p9 a1 N a0.Txns 0 ()
def tK (N:Nat) (a0:Ref) (a1:Ref):Option Bool:=
 if (sLt a0.Type_ a1.Type_)=true then
 some true
 else
 if (sEq a0.Type_ a1.Type_)=true then
 some (sLt a0.Key a1.Key)
 else
 some false
def o6 (rec11:Int->Option (List Ref)) (v10:Int) (kx9:Int->Option (List Ref)) (c16:Bool):Option (List Ref):=
 if c16=true then
 rec11 (IntKind.i64.wrap (v10 - 1))
 else
 kx9 v10
def ju (l2:List Ref) (N:Nat) (x6:ah) (kx9:Int->Option (List Ref)):Nat->Int->Option (List Ref)
 | 0,_=>none
 | n+1,v10=>
  if 0 < v10 then
  gx l2 (IntKind.i64.wrap (v10 - 1)) fun x14=>
  (tK N x14 x6.Target).bind fun r15=>
  (o6 (ju l2 N x6 kx9 n) v10 kx9) (!r15)
  else
  (o6 (ju l2 N x6 kx9 n) v10 kx9) false
def px (rec4:List Ref->Option (List Ref)) (l2:List Ref) (kx18:Option (List Ref)) (c21:Bool):Option (List Ref):=
 if c21=true then
 rec4 l2
 else
 kx18
def lD (l2:List Ref) (v17:Int) (x6:ah) (rec4:List Ref->Option (List Ref)):Option (List Ref):=
 slx l2 v17 (l2.length:Int) fun l22=>
 apn 31 ((l2.drop ((v17).toNat)).take (l2.length - (v17).toNat)) <|
 slt l2 v17 fun l23=>
 apx 31 (l2.take ((v17).toNat)) [x6.Target] fun l24=>
 apx 31 l24 ((l2.drop ((v17).toNat)).take (l2.length - (v17).toNat)) fun l25=>
 rec4 l25
def tH (l2:List Ref) (rec4:List Ref->Option (List Ref)) (x6:ah) (v17:Int):Option (List Ref):=
 if v17 < (l2.length:Int) then
 gx l2 v17 fun x20=>
 (px rec4 l2 (lD l2 v17 x6 rec4)) (sEq x20.Type_ x6.Target.Type_ && sEq x20.Key x6.Target.Key)
 else
 (px rec4 l2 (lD l2 v17 x6 rec4)) false
def fA (N:Nat):List ah->Nat->List Ref->Option (List Ref)
 | [],v3,l2=>
  some l2
 | x6::xs,v3,l2=>
  ju l2 N x6 (tH l2 (fA N xs (v3+1)) x6) N (l2.length:Int)
def uj (N:Nat) (a0:List ah):Option (List Ref):=
 fA N a0 0 []
def lP (N:Nat) (a0:Txn):Option (List Ref):=
 (uj N a0.Calls).bind fun r1=>
 some r1
def kE (N:Nat) (a0:ae) (a1:Int) (a2:Int):Option Ref:=
 (zv N a0 a1).bind fun r1=>
 (lP N r1.1).bind fun r2=>
 if (r2.length:Int)=0 then
 (vp N a2).bind fun r4=>
 some r4
 else
 dvx (r2.length:Int) <|
 gx r2 (Int.tmod (IntKind.i64.wrap a2) (r2.length:Int)) fun x5=>
 some x5
def tT (N:Nat) (a0:ae) (r1:Int) (a2:aj) (c17:Bool):Option (ae × (List aD)):=
 if c17=true then
 (kE N a0 r1 a2.Arg).bind fun r18=>
 (fW N a0 r1 r18).bind fun r19=>
 if r19.2=0 then
 some (r19.1,[])
 else
 some (a0,[])
 else
 if 0 < (Int.tmod a2.Arg 4) then
 (og N a0).bind fun r21=>
 some (r21.1,r21.2)
 else
 (kL N a0 r1).bind fun r22=>
 if r22.2.2=0 then
 some (r22.1,[])
 else
 some (a0,[])
def qe (N:Nat) (a0:ae) (r1:Int) (a2:aj) (c8:Bool):Option (ae × (List aD)):=
 if c8=true then
 (iy N a0 r1).bind fun r9=>
 if r9.2.2.2=0 then
 if r9.2.1=1 then
 (lr N a2.N).bind fun r13=>
 (lr N a2.N).bind fun r14=>
 (lu N r9.1 r1 [r13] r14).bind fun r15=>
 if r15.2=0 then
 some (r15.1,[])
 else
 some (r9.1,[])
 else
 some (r9.1,[])
 else
 some (a0,[])
 else
 if (Int.tmod a2.Kind 8)=5 then
 (tT N a0 r1 a2) true
 else
 (tT N a0 r1 a2) (decide ((Int.tmod a2.Kind 8)=6))
def ua (N:Nat) (a2:aj) (a0:ae) (a1:Int) (r1:Int) (c4:Bool):Option (ae × (List aD)):=
 if c4=true then
 (yc N a2).bind fun r5=>
 (jV N a0 (IntKind.i64.wrap (a1+1)) a1 (⟨#[99]⟩) (IntKind.i64.wrap (a1+1)) r5).bind fun r6=>
 if r6.2=0 then
 some (r6.1,[])
 else
 some (a0,[])
 else
 if (Int.tmod a2.Kind 8)=2 then
 (qe N a0 r1 a2) true
 else
 if (Int.tmod a2.Kind 8)=3 then
 (qe N a0 r1 a2) true
 else
 (qe N a0 r1 a2) (decide ((Int.tmod a2.Kind 8)=4))
def vX (N:Nat) (a0:ae) (a1:Int) (a2:aj):Option (ae × (List aD)):=
 (wc N a0 a2.Who).bind fun r1=>
 if (Int.tmod a2.Kind 8)=0 then
 (ua N a2 a0 a1 r1) true
 else
 (ua N a2 a0 a1 r1) (decide ((Int.tmod a2.Kind 8)=1))
def lg (a1:List Int):List Int->Nat->Unit->Option Bool
 | [],v3,()=>
  some true
 | x6::xs,v3,()=>
  gx a1 (v3:Int) fun x9=>
  if x6=x9 then
  (lg a1 xs (v3+1)) ()
  else
  some false
def tZ (N:Nat) (a0:List Int) (a1:List Int):Option Bool:=
 if (a0.length:Int)=(a1.length:Int) then
 lg a1 a0 0 ()
 else
 some false
def lA (N:Nat):List aj->Nat->List Txn × List ai × List aa × List aD->Option (ae × (List aD))
 | [],v6,(l2,l3,l4,l5)=>
  some ((ae.mk l2 l3 l4),l5)
 | x9::xs,v6,(l2,l3,l4,l5)=>
  (vX N (ae.mk l2 l3 l4) (v6:Int) x9).bind fun r12=>
  apx 135 l5 r12.2 fun l13=>
  (lA N xs (v6+1)) (r12.1.Txns,r12.1.Locks,r12.1.Stacks,l13)
def uC (N:Nat) (a0:List aj):Option (ae × (List aD)):=
 lA N a0 0 ([],[],[],[])
def oq (N:Nat) (a0:Ref):Option Bool:=
 if 1<=(a0.Type_.size:Int) then
 if (a0.Type_.size:Int)<=32 then
 some (decide ((a0.Key.size:Int)<=32))
 else
 some false
 else
 some false
def uF (N:Nat) (a0:Int):Option Bool:=
 if 1<=a0 then
 some (decide (a0<=1099511627776))
 else
 some false
def fK (kx9:Option Bool) (c15:Bool):Option Bool:=
 if c15=true then
 some false
 else
 kx9
def gS (rec17:Unit->Option Bool) (c24:Bool):Option Bool:=
 if c24=true then
 some false
 else
 rec17 ()
def eG (rec4:Unit->Option Bool) (x6:ai):List Int->Nat->Unit->Option Bool
 | [],v16,()=>
  rec4 ()
 | x19::xs,v16,()=>
  if x19 < 1 then
  (gS (eG rec4 x6 xs (v16+1))) true
  else
  if x6.Owner<=x19 then
  (gS (eG rec4 x6 xs (v16+1))) true
  else
  if 0 < (v16:Int) then
  gx x6.Waiters (IntKind.i64.wrap ((v16:Int) - 1)) fun x23=>
  (gS (eG rec4 x6 xs (v16+1))) (decide (x19<=x23))
  else
  (gS (eG rec4 x6 xs (v16+1))) false
def fM (rec4:Unit->Option Bool) (x6:ai):Option Bool:=
 eG rec4 x6 x6.Waiters 0 ()
def dz (N:Nat) (a0:List ai):List ai->Nat->Unit->Option Bool
 | [],v3,()=>
  some true
 | x6::xs,v3,()=>
  (oq N x6.Actor).bind fun r11=>
  if r11=true then
  (uF N x6.Owner).bind fun r12=>
  if r12=true then
  if 32 < (x6.Waiters.length:Int) then
  (fK (fM (dz N a0 xs (v3+1)) x6)) true
  else
  if 0 < (v3:Int) then
  gx a0 (IntKind.i64.wrap ((v3:Int) - 1)) fun x13=>
  (tK N x13.Actor x6.Actor).bind fun r14=>
  (fK (fM (dz N a0 xs (v3+1)) x6)) (!r14)
  else
  (fK (fM (dz N a0 xs (v3+1)) x6)) false
  else
  (fK (fM (dz N a0 xs (v3+1)) x6)) true
  else
  (fK (fM (dz N a0 xs (v3+1)) x6)) true
def lf (N:Nat) (a0:List ai):Option Bool:=
 if 128 < (a0.length:Int) then
 some false
 else
 dz N a0 a0 0 ()
def sH (l4:List Int) (x8:Txn) (rec6:List Int->Option (List Int)) (c13:Bool):Option (List Int):=
 if c13=true then
 apx 7 l4 [x8.ID] fun l14=>
 rec6 l14
 else
 rec6 l4
def jC (N:Nat) (a0:ae) (a1:Int):List Txn->Nat->List Int->Option (List Int)
 | [],v5,l4=>
  some l4
 | x8::xs,v5,l4=>
  (oX N a0 x8).bind fun r12=>
  if r12=true then
  (sH l4 x8 (jC N a0 a1 xs (v5+1))) false
  else
  (sH l4 x8 (jC N a0 a1 xs (v5+1))) (decide ((IntKind.i64.wrap (x8.Born+40))<=a1))
def uH (N:Nat) (a0:ae) (a1:Int):Option (List Int):=
 (jk N a0).bind fun r2=>
 if r2=true then
 jC N a0 a1 a0.Txns 0 []
 else
 some []
def eI (kx23:Bool->Option Bool) (x11:Txn):List al->Nat->Bool->Option Bool
 | [],v26,c25=>
  kx23 c25
 | x29::xs,v26,c25=>
  if c25=true then
  (eI kx23 x11 xs (v26+1)) true
  else
  if x29.Txn_=x11.ID then
  (eI kx23 x11 xs (v26+1)) x29.Prepared
  else
  (eI kx23 x11 xs (v26+1)) false
def uP (c16:Bool) (rec18:Bool->Option Bool) (c33:Bool):Option Bool:=
 if c16=true then
 rec18 true
 else
 rec18 (!c33)
def gO (kx14:Bool->Option Bool) (N:Nat) (r4:ae × (List aD)) (x11:Txn):List Ref->Nat->Bool->Option Bool
 | [],v17,c16=>
  kx14 c16
 | x20::xs,v17,c16=>
  (lL N r4.1 x20).bind fun r24=>
  eI (uP c16 (gO kx14 N r4 x11 xs (v17+1))) x11 r24 0 false
def pI (l7:List Int) (x11:Txn) (rec9:List Int->Option Bool) (c37:Bool):Option Bool:=
 if c37=true then
 apx 7 l7 [x11.ID] fun l38=>
 rec9 l38
 else
 rec9 l7
def uS (l7:List Int) (x11:Txn) (rec9:List Int->Option Bool) (a1:Int) (c35:Bool):Option Bool:=
 if c35=true then
 (pI l7 x11 rec9) (decide ((IntKind.i64.wrap (x11.Born+40))<=(IntKind.i64.wrap a1)))
 else
 (pI l7 x11 rec9) false
def gW (kx6:(List Int)->Option Bool) (N:Nat) (a1:Int) (r4:ae × (List aD)):List Txn->Nat->List Int->Option Bool
 | [],v8,l7=>
  kx6 l7
 | x11::xs,v8,l7=>
  (gy N x11).bind fun r15=>
  gO (uS l7 x11 (gW kx6 N a1 r4 xs (v8+1)) a1) N r4 x11 r15 0 false
def uI (N:Nat) (r5:List Int) (r4:ae × (List aD)) (l40:List Int):Option Bool:=
 (tZ N r5 l40).bind fun r42=>
 if r42=true then
 (lf N r4.1.Locks).bind fun r43=>
 some r43
 else
 some false
def lJ (N:Nat) (a0:List aj) (a1:Int):Option Bool:=
 (uz N).bind fun r2=>
 if r2=true then
 if 60 < (a0.length:Int) then
 some true
 else
 (uC N a0).bind fun r4=>
 (uH N r4.1 (IntKind.i64.wrap a1)).bind fun r5=>
 gW (uI N r5 r4) N a1 r4 r4.1.Txns 0 []
 else
 some false
end
end Go.Proofs.YtmacaidmhchpgaaGreat
