/- The models of the functions. No statement. -/
import Derived.Test.YtmacaidmhchpgaaGreatT
/- The functions of the program as plain functions on plain data. -/
set_option maxHeartbeats 40000000
set_option synthInstance.maxHeartbeats 2000000
set_option synthInstance.maxSize 4000
set_option linter.unusedSimpArgs false
set_option linter.unusedVariables false
set_option maxRecDepth 100000
namespace Go.Proofs.YtmacaidmhchpgaaGreat
open Go Go.Proofs Go.Abs
noncomputable section
def qp (kx1:Option Bool) (c3:Bool):Option Bool:=
 if c3=true then
 some false
 else
 kx1
def qv (kx7:Bool->Option Bool) (a0:Value) (c11:Bool):Option Bool:=
 if c11=true then
 kx7 true
 else
 if 0 < (a0.L.length:Int) then
 kx7 (!decide (a0.Kind=5))
 else
 kx7 false
def qO (kx7:Bool->Option Bool) (a0:Value) (c9:Bool):Option Bool:=
 if c9=true then
 kx7 true
 else
 if 0 < (a0.I.length:Int) then
 (qv kx7 a0) (!decide (a0.Kind=4))
 else
 (qv kx7 a0) false
def qu (kx4:Option Bool) (c12:Bool):Option Bool:=
 if c12=true then
 some false
 else
 kx4
def jv (a0:Value) (kx4:Option Bool) (c6:Bool):Option Bool:=
 if c6=true then
 some false
 else
 if (sEq a0.S (⟨#[]⟩))=true then
 (qO (qu kx4) a0) false
 else
 (qO (qu kx4) a0) (!decide (a0.Kind=3))
def lQ (kx13:Option Bool) (c15:Bool):Option Bool:=
 if c15=true then
 some false
 else
 kx13
def jD  : List ByteArray->Nat->Unit->Option Bool
 | [],v17,()=>
  some true
 | x20::xs,v17,()=>
  if 64 < (x20.size:Int) then
  some false
  else
  (jD xs (v17+1)) ()
def lP (a0:Value):Option Bool:=
 jD a0.L 0 ()
def jx (a0:Value):Option Bool:=
 if 64 < (a0.S.size:Int) then
 (lQ (lP a0)) true
 else
 if 16 < (a0.I.length:Int) then
 (lQ (lP a0)) true
 else
 (lQ (lP a0)) (decide (16 < (a0.L.length:Int)))
def qc (a0:Value) (N:Nat):Option Bool:=
 if a0.N=0 then
 (jv a0 (jx a0)) false
 else
 if a0.Kind=1 then
 (jv a0 (jx a0)) false
 else
 if a0.Kind=2 then
 (jv a0 (jx a0)) (!decide (a0.N=1))
 else
 (jv a0 (jx a0)) true
def gU (N:Nat) (a0:Value):Option Bool:=
 if a0.Kind < 0 then
 (qp (qc a0 N)) true
 else
 (qp (qc a0 N)) (decide (5 < a0.Kind))
def mg (N:Nat) (a0:Value):Option Bool:=
 if a0.Kind=0 then
 some true
 else
 (gU N a0).bind fun r2=>
 some (!r2)
def bY (N:Nat):List Value->Nat->Unit->Option Int
 | [],v2,()=>
  some (-1)
 | x5::xs,v2,()=>
  (mg N x5).bind fun r8=>
  if r8=true then
  some (v2:Int)
  else
  (bY N xs (v2+1)) ()
def dw (N:Nat) (a0:List Value):Option Int:=
 bY N a0 0 ()
def bt (N:Nat) (a0:List Value):Option Bool:=
 (dw N a0).bind fun r1=>
 some (decide (0<=r1))
def iF (kx1:Option Bool) (c3:Bool):Option Bool:=
 if c3=true then
 some false
 else
 kx1
def iH (N:Nat) (a0:ah):Option Bool:=
 (bt N a0.Args).bind fun r4=>
 some (!r4)
def pS (N:Nat) (a0:ah):Option Bool:=
 if (a0.Target.Type_.size:Int) < 1 then
 (iF (iH N a0)) true
 else
 if 32 < (a0.Target.Type_.size:Int) then
 (iF (iH N a0)) true
 else
 if 32 < (a0.Target.Key.size:Int) then
 (iF (iH N a0)) true
 else
 if (a0.Method.size:Int) < 1 then
 (iF (iH N a0)) true
 else
 if 32 < (a0.Method.size:Int) then
 (iF (iH N a0)) true
 else
 (iF (iH N a0)) (decide (4 < (a0.Args.length:Int)))
def oD (N:Nat) (a0:ah):Option Bool:=
 (pS N a0).bind fun r1=>
 some (!r1)
def bC (N:Nat):List ah->Nat->Unit->Option Int
 | [],v2,()=>
  some (-1)
 | x5::xs,v2,()=>
  (oD N x5).bind fun r8=>
  if r8=true then
  some (v2:Int)
  else
  (bC N xs (v2+1)) ()
def b8 (N:Nat) (a0:List ah):Option Int:=
 bC N a0 0 ()
def bn (N:Nat) (a0:List ah):Option Bool:=
 (b8 N a0).bind fun r1=>
 some (decide (0<=r1))
def fR (kx1:Option Bool) (c3:Bool):Option Bool:=
 if c3=true then
 some false
 else
 kx1
def gW (kx4:Option Bool) (c7:Bool):Option Bool:=
 if c7=true then
 some false
 else
 kx4
def gV (N:Nat) (a0:Txn):Option Bool:=
 (bn N a0.Calls).bind fun r8=>
 some (!r8)
def fU (a0:Txn) (N:Nat):Option Bool:=
 if (a0.Calls.length:Int) < 1 then
 (gW (gV N a0)) true
 else
 if 4 < (a0.Calls.length:Int) then
 (gW (gV N a0)) true
 else
 if a0.Done < 0 then
 (gW (gV N a0)) true
 else
 if (a0.Calls.length:Int) < a0.Done then
 (gW (gV N a0)) true
 else
 (gU N a0.Last).bind fun r6=>
 if r6=true then
 if a0.Done=0 then
 (gW (gV N a0)) (!decide (a0.Last.Kind=0))
 else
 (gW (gV N a0)) false
 else
 (gW (gV N a0)) true
def o5 (N:Nat) (a0:Txn):Option Bool:=
 if a0.ID < 1 then
 (fR (fU a0 N)) true
 else
 if 1099511627776 < a0.ID then
 (fR (fU a0 N)) true
 else
 if a0.Born < 0 then
 (fR (fU a0 N)) true
 else
 if 1099511627776 < a0.Born then
 (fR (fU a0 N)) true
 else
 if (a0.Client.size:Int) < 1 then
 (fR (fU a0 N)) true
 else
 if 32 < (a0.Client.size:Int) then
 (fR (fU a0 N)) true
 else
 if a0.Seq < 1 then
 (fR (fU a0 N)) true
 else
 ((fR (fU a0 N)) (decide (1099511627776 < a0.Seq)))
def kR (rec3:Unit->Option Bool) (c11:Bool):Option Bool:=
 if c11=true then
 some false
 else
 rec3 ()
def gA (a0:ae) (N:Nat):List Txn->Nat->Unit->Option Bool
 | [],v2,()=>
  some (decide ((a0.Txns.length:Int)<=32))
 | x5::xs,v2,()=>
  (o5 N x5).bind fun r9=>
  if r9=true then
  if 0 < (v2:Int) then
  gx a0.Txns (IntKind.i64.wrap ((v2:Int) - 1)) fun x10=>
  (kR (gA a0 N xs (v2+1))) (decide (x5.ID<=x10.ID))
  else
  (kR (gA a0 N xs (v2+1))) false
  else
  (kR (gA a0 N xs (v2+1))) true
def tW (N:Nat) (a0:ae):Option Bool:=
 gA a0 N a0.Txns 0 ()
def iG (N:Nat) (a0:Ref):Option Bool:=
 if 1<=(a0.Type_.size:Int) then
 if (a0.Type_.size:Int)<=32 then
 some (decide ((a0.Key.size:Int)<=32))
 else
 some false
 else
 some false
def jG (N:Nat) (a0:Int):Option Bool:=
 if 1<=a0 then
 some (decide (a0<=1099511627776))
 else
 some false
def lI (kx1:Option Bool) (c5:Bool):Option Bool:=
 if c5=true then
 some false
 else
 kx1
def iE (rec8:Unit->Option Bool) (c15:Bool):Option Bool:=
 if c15=true then
 some false
 else
 rec8 ()
def eV (a0:ai):List Int->Nat->Unit->Option Bool
 | [],v7,()=>
  some true
 | x10::xs,v7,()=>
  if x10 < 1 then
  (iE (eV a0 xs (v7+1))) true
  else
  if a0.Owner<=x10 then
  (iE (eV a0 xs (v7+1))) true
  else
  if 0 < (v7:Int) then
  gx a0.Waiters (IntKind.i64.wrap ((v7:Int) - 1)) fun x14=>
  (iE (eV a0 xs (v7+1))) (decide (x10<=x14))
  else
  (iE (eV a0 xs (v7+1))) false
def lx (a0:ai):Option Bool:=
 eV a0 a0.Waiters 0 ()
def lY (N:Nat) (a0:ai):Option Bool:=
 (iG N a0.Actor).bind fun r3=>
 if r3=true then
 (jG N a0.Owner).bind fun r4=>
 if r4=true then
 (lI (lx a0)) (decide (32 < (a0.Waiters.length:Int)))
 else
 (lI (lx a0)) true
 else
 (lI (lx a0)) true
def lf (N:Nat) (a0:ByteArray):Option Bool:=
 some (!(sEq a0 a0))
def fe (N:Nat) (a0:ByteArray) (a1:ByteArray):Option Int:=
 (lf N a0).bind fun r1=>
 (lf N a1).bind fun r2=>
 if r1=true then
 if r2=true then
 some 0
 else
 some (-1)
 else
 if r2=true then
 some 1
 else
 if (sLt a0 a1)=true then
 some (-1)
 else
 if (sLt a0 a1 || sEq a0 a1)=true then
 some 0
 else
 some 1
def pW  : List Int->Nat->Unit->Option Int
 | [],v2,()=>
  some 0
 | x5::xs,v2,()=>
  if x5=0 then
  (pW xs (v2+1)) ()
  else
  some x5
def tF (N:Nat) (a0:List Int):Option Int:=
 pW a0 0 ()
def mC (N:Nat) (a0:Ref) (a1:Ref):Option Int:=
 (fe N a0.Type_ a1.Type_).bind fun r1=>
 (fe N a0.Key a1.Key).bind fun r2=>
 (tF N [r1,r2]).bind fun r3=>
 some r3
def om (rec4:Unit->Option Bool) (c13:Bool):Option Bool:=
 if c13=true then
 some false
 else
 rec4 ()
def jH (N:Nat) (a0:List ai):List ai->Nat->Unit->Option Bool
 | [],v3,()=>
  some true
 | x6::xs,v3,()=>
  (lY N x6).bind fun r10=>
  if r10=true then
  if 0 < (v3:Int) then
  gx a0 (IntKind.i64.wrap ((v3:Int) - 1)) fun x11=>
  (mC N x11.Actor x6.Actor).bind fun r12=>
  (om (jH N a0 xs (v3+1))) (decide (0<=r12))
  else
  (om (jH N a0 xs (v3+1))) false
  else
  (om (jH N a0 xs (v3+1))) true
def je (N:Nat) (a0:List ai):Option Bool:=
 if 128 < (a0.length:Int) then
 some false
 else
 jH N a0 a0 0 ()
def w7 (N:Nat) (a0:Txn) (c0_0:Int):Option Bool:=
 some (decide (a0.ID=c0_0))
def dP (N:Nat) (k1_0_0:Int):List Txn->Nat->Unit->Option Int
 | [],v2,()=>
  some (-1)
 | x5::xs,v2,()=>
  (w7 N x5 k1_0_0).bind fun r8=>
  if r8=true then
  some (v2:Int)
  else
  (dP N k1_0_0 xs (v2+1)) ()
def eD (N:Nat) (a0:List Txn) (k1_0_0:Int):Option Int:=
 dP N k1_0_0 a0 0 ()
def eT (N:Nat) (a0:ae) (a1:Int):Option Int:=
 (eD N a0.Txns a1).bind fun r1=>
 some r1
def lh (N:Nat) (a0:Int) (c0_0:List Txn) (c0_1:List ai) (c0_2:List aa):Option Bool:=
 (eT N (ae.mk c0_0 c0_1 c0_2) a0).bind fun r1=>
 some (decide (r1 < 0))
def dp (N:Nat) (k1_0_0:List Txn) (k1_0_1:List ai) (k1_0_2:List aa):List Int->Nat->Unit->Option Int
 | [],v2,()=>
  some (-1)
 | x5::xs,v2,()=>
  (lh N x5 k1_0_0 k1_0_1 k1_0_2).bind fun r8=>
  if r8=true then
  some (v2:Int)
  else
  (dp N k1_0_0 k1_0_1 k1_0_2 xs (v2+1)) ()
def dG (N:Nat) (a0:List Int) (k1_0_0:List Txn) (k1_0_1:List ai) (k1_0_2:List aa):Option Int:=
 dp N k1_0_0 k1_0_1 k1_0_2 a0 0 ()
def dj (N:Nat) (a0:List Int) (k1_0_0:List Txn) (k1_0_1:List ai) (k1_0_2:List aa):Option Bool:=
 (dG N a0 k1_0_0 k1_0_1 k1_0_2).bind fun r1=>
 some (decide (0<=r1))
def wH (rec5:Unit->Option Bool) (c13:Bool):Option Bool:=
 if c13=true then
 some false
 else
 rec5 ()
def iV (N:Nat) (a0:ae):List ai->Nat->Unit->Option Bool
 | [],v4,()=>
  some true
 | x7::xs,v4,()=>
  (eT N a0 x7.Owner).bind fun r11=>
  if r11 < 0 then
  (wH (iV N a0 xs (v4+1))) true
  else
  (dj N x7.Waiters a0.Txns a0.Locks a0.Stacks).bind fun r12=>
  (wH (iV N a0 xs (v4+1))) r12
def ov (N:Nat) (a0:ae):Option Bool:=
 (je N a0.Locks).bind fun r2=>
 if r2=true then
 iV N a0 a0.Locks 0 ()
 else
 some false
def kt (N:Nat) (a0:Value):Option Bool:=
 (gU N a0).bind fun r1=>
 some (!r1)
def bN (N:Nat):List Value->Nat->Unit->Option Int
 | [],v2,()=>
  some (-1)
 | x5::xs,v2,()=>
  (kt N x5).bind fun r8=>
  if r8=true then
  some (v2:Int)
  else
  (bN N xs (v2+1)) ()
def dg (N:Nat) (a0:List Value):Option Int:=
 bN N a0 0 ()
def bO (N:Nat) (a0:List Value):Option Bool:=
 (dg N a0).bind fun r1=>
 some (decide (0<=r1))
def j9 (N:Nat) (a0:List Value):Option Bool:=
 if (a0.length:Int)<=8 then
 (bO N a0).bind fun r2=>
 some (!r2)
 else
 some false
def kh (N:Nat) (a0:al) (c0_0:Int) (c0_1:List Value) (c0_2:Bool):Option Bool:=
 some (decide (a0.Txn_=c0_0))
def bP (N:Nat) (k1_0_0:Int) (k1_0_1:List Value) (k1_0_2:Bool):List al->Nat->Unit->Option Int
 | [],v2,()=>
  some (-1)
 | x5::xs,v2,()=>
  (kh N x5 k1_0_0 k1_0_1 k1_0_2).bind fun r8=>
  if r8=true then
  some (v2:Int)
  else
  (bP N k1_0_0 k1_0_1 k1_0_2 xs (v2+1)) ()
def dc (N:Nat) (a0:List al) (k1_0_0:Int) (k1_0_1:List Value) (k1_0_2:Bool):Option Int:=
 bP N k1_0_0 k1_0_1 k1_0_2 a0 0 ()
def aZ (N:Nat) (a0:List al) (k1_0_0:Int) (k1_0_1:List Value) (k1_0_2:Bool):Option Bool:=
 (dc N a0 k1_0_0 k1_0_1 k1_0_2).bind fun r1=>
 some (decide (0<=r1))
def jC (rec3:Unit->Option Bool) (c15:Bool):Option Bool:=
 if c15=true then
 some false
 else
 rec3 ()
def et (a1:List al) (N:Nat) (a0:ae):List al->Nat->Unit->Option Bool
 | [],v2,()=>
  some (decide (0 < (a1.length:Int)))
 | x5::xs,v2,()=>
  (eT N a0 x5.Txn_).bind fun r9=>
  if r9 < 0 then
  (jC (et a1 N a0 xs (v2+1))) true
  else
  (j9 N x5.Fields).bind fun r10=>
  if r10=true then
  if x5.Prepared=true then
  slx a1 0 (v2:Int) fun l11=>
  (aZ N l11 x5.Txn_ x5.Fields x5.Prepared).bind fun r12=>
  (jC (et a1 N a0 xs (v2+1))) r12
  else
  if (v2:Int) < (IntKind.i64.wrap ((a1.length:Int) - 1)) then
  (jC (et a1 N a0 xs (v2+1))) true
  else
  slx a1 0 (v2:Int) fun l13=>
  (aZ N l13 x5.Txn_ x5.Fields x5.Prepared).bind fun r14=>
  (jC (et a1 N a0 xs (v2+1))) r14
  else
  (jC (et a1 N a0 xs (v2+1))) true
def jX (N:Nat) (a0:ae) (a1:List al):Option Bool:=
 et a1 N a0 a1 0 ()
def pd (N:Nat) (a0:ai) (a1:Ref):Option Int:=
 (mC N a0.Actor a1).bind fun r1=>
 some r1
def aY (a0:List ai) (N:Nat) (a1:Ref) (kx1:Int->Option (Int × Bool)):Nat->Int × Int->Option (Int × Bool)
 | 0,_=>none
 | n+1,(v2,v3)=>
  if v2 < v3 then
  gx a0 (IntKind.i64.wrap (kd .u64 (IntKind.u64.wrap (IntKind.i64.wrap (v2+v3))) 1)) fun x6=>
  (pd N x6 a1).bind fun r7=>
  if r7 < 0 then
  (aY a0 N a1 kx1 n) (IntKind.i64.wrap ((IntKind.i64.wrap (kd .u64 (IntKind.u64.wrap (IntKind.i64.wrap (v2+v3))) 1))+1),v3)
  else
  (aY a0 N a1 kx1 n) (v2,IntKind.i64.wrap (kd .u64 (IntKind.u64.wrap (IntKind.i64.wrap (v2+v3))) 1))
  else
  kx1 v2
def dM (a0:List ai) (N:Nat) (a1:Ref) (v8:Int):Option (Int × Bool):=
 if v8 < (a0.length:Int) then
 gx a0 v8 fun x10=>
 (pd N x10 a1).bind fun r11=>
 some (v8,(decide (r11=0)))
 else
 some (v8,false)
def de (N:Nat) (a0:List ai) (a1:Ref):Option (Int × Bool):=
 aY a0 N a1 (dM a0 N a1) N (0,(a0.length:Int))
def qz (N:Nat) (a0:List ai) (a1:Ref):Option (Int × Bool):=
 (de N a0 a1).bind fun r1=>
 some (r1.1,r1.2)
def mX (N:Nat) (a0:List ai) (a1:Ref):Option Int:=
 (je N a0).bind fun r2=>
 if r2=true then
 (qz N a0 a1).bind fun r4=>
 if r4.2=true then
 gx a0 r4.1 fun x5=>
 some x5.Owner
 else
 some 0
 else
 some 0
def tQ (N:Nat) (a0:ah) (c0_0:ByteArray) (c0_1:ByteArray):Option Bool:=
 some (sEq a0.Target.Type_ c0_0 && sEq a0.Target.Key c0_1)
def bM (N:Nat) (k1_0_0:ByteArray) (k1_0_1:ByteArray):List ah->Nat->Unit->Option Int
 | [],v2,()=>
  some (-1)
 | x5::xs,v2,()=>
  (tQ N x5 k1_0_0 k1_0_1).bind fun r8=>
  if r8=true then
  some (v2:Int)
  else
  (bM N k1_0_0 k1_0_1 xs (v2+1)) ()
def dh (N:Nat) (a0:List ah) (k1_0_0:ByteArray) (k1_0_1:ByteArray):Option Int:=
 bM N k1_0_0 k1_0_1 a0 0 ()
def bQ (N:Nat) (a0:List ah) (k1_0_0:ByteArray) (k1_0_1:ByteArray):Option Bool:=
 (dh N a0 k1_0_0 k1_0_1).bind fun r1=>
 some (decide (0<=r1))
def m9 (N:Nat) (a0:List ah) (a1:Ref):Option Bool:=
 (bQ N a0 a1.Type_ a1.Key).bind fun r1=>
 some r1
def gG (N:Nat) (a0:Ref) (a1:Ref):Option Int:=
 (fe N a0.Type_ a1.Type_).bind fun r1=>
 (fe N a0.Key a1.Key).bind fun r2=>
 (tF N [r1,r2]).bind fun r3=>
 some r3
def jr (kx8:Option Bool) (c14:Bool):Option Bool:=
 if c14=true then
 some false
 else
 kx8
def ly (kx16:Option Bool) (c19:Bool):Option Bool:=
 if c19=true then
 some false
 else
 kx16
def jB (rec21:Unit->Option Bool) (c31:Bool):Option Bool:=
 if c31=true then
 some false
 else
 rec21 ()
def eW (rec3:Unit->Option Bool) (N:Nat) (a0:ae) (x5:aa):List al->Nat->Unit->Option Bool
 | [],v20,()=>
  rec3 ()
 | x23::xs,v20,()=>
  (eT N a0 x23.Txn_).bind fun r26=>
  gx a0.Txns r26 fun x27=>
  slx x27.Calls 0 x27.Done fun l29=>
  (m9 N l29 x5.Actor).bind fun r30=>
  if r30=true then
  if x23.Prepared=true then
  (jB (eW rec3 N a0 x5 xs (v20+1))) (decide (x27.Done < (x27.Calls.length:Int)))
  else
  (jB (eW rec3 N a0 x5 xs (v20+1))) false
  else
  (jB (eW rec3 N a0 x5 xs (v20+1))) true
def lD (rec3:Unit->Option Bool) (N:Nat) (a0:ae) (x5:aa):Option Bool:=
 eW rec3 N a0 x5 x5.Layers 0 ()
def jt (x5:aa) (rec3:Unit->Option Bool) (N:Nat) (a0:ae):Option Bool:=
 gx x5.Layers (IntKind.i64.wrap ((x5.Layers.length:Int) - 1)) fun x15=>
 if x15.Prepared=true then
 (ly (lD rec3 N a0 x5)) false
 else
 (mX N a0.Locks x5.Actor).bind fun r18=>
 (ly (lD rec3 N a0 x5)) (!decide (r18=x15.Txn_))
def eu (a0:ae) (N:Nat):List aa->Nat->Unit->Option Bool
 | [],v2,()=>
  some true
 | x5::xs,v2,()=>
  if 0 < (v2:Int) then
  gx a0.Stacks (IntKind.i64.wrap ((v2:Int) - 1)) fun x10=>
  (gG N x10.Actor x5.Actor).bind fun r11=>
  if 0<=r11 then
  (jr (jt x5 (eu a0 N xs (v2+1)) N a0)) true
  else
  (jX N a0 x5.Layers).bind fun r12=>
  (jr (jt x5 (eu a0 N xs (v2+1)) N a0)) (!r12)
  else
  (jX N a0 x5.Layers).bind fun r13=>
  (jr (jt x5 (eu a0 N xs (v2+1)) N a0)) (!r13)
def lU (N:Nat) (a0:ae):Option Bool:=
 eu a0 N a0.Stacks 0 ()
def yj (N:Nat) (a0:aa) (c0_0:ByteArray) (c0_1:ByteArray):Option Bool:=
 some (sEq a0.Actor.Type_ c0_0 && sEq a0.Actor.Key c0_1)
def bS (N:Nat) (k1_0_0:ByteArray) (k1_0_1:ByteArray):List aa->Nat->Unit->Option Int
 | [],v2,()=>
  some (-1)
 | x5::xs,v2,()=>
  (yj N x5 k1_0_0 k1_0_1).bind fun r8=>
  if r8=true then
  some (v2:Int)
  else
  (bS N k1_0_0 k1_0_1 xs (v2+1)) ()
def dq (N:Nat) (a0:List aa) (k1_0_0:ByteArray) (k1_0_1:ByteArray):Option Int:=
 bS N k1_0_0 k1_0_1 a0 0 ()
def lA (N:Nat) (a0:ae) (a1:Ref):Option Int:=
 (dq N a0.Stacks a1.Type_ a1.Key).bind fun r1=>
 some r1
def sB (a2:Int):List al->Nat->Unit->Option (al × Bool)
 | [],v4,()=>
  some ((al.mk 0 [] false),false)
 | x7::xs,v4,()=>
  if x7.Txn_=a2 then
  some (x7,true)
  else
  (sB a2 xs (v4+1)) ()
def jb (N:Nat) (a0:ae) (a1:Ref) (a2:Int):Option (al × Bool):=
 (lA N a0 a1).bind fun r2=>
 if 0<=r2 then
 gx a0.Stacks r2 fun x3=>
 sB a2 x3.Layers 0 ()
 else
 some ((al.mk 0 [] false),false)
def gC (rec3:Unit->Option Bool) (N:Nat) (a0:ae) (x5:Txn):List ah->Nat->Unit->Option Bool
 | [],v9,()=>
  rec3 ()
 | x12::xs,v9,()=>
  (jb N a0 x12.Target x5.ID).bind fun r15=>
  if r15.2=true then
  (gC rec3 N a0 x5 xs (v9+1)) ()
  else
  some false
def iM (kx1:Option Bool) (N:Nat) (a0:ae):List Txn->Nat->Unit->Option Bool
 | [],v2,()=>
  kx1
 | x5::xs,v2,()=>
  slx x5.Calls 0 x5.Done fun l8=>
  gC (iM kx1 N a0 xs (v2+1)) N a0 x5 l8 0 ()
def fb (kx26:Option Bool) (c29:Bool):Option Bool:=
 if c29=true then
 some false
 else
 kx26
def mS (rec31:Unit->Option Bool) (c40:Bool):Option Bool:=
 if c40=true then
 some false
 else
 rec31 ()
def eX (rec18:Unit->Option Bool) (N:Nat) (a0:ae) (x20:ai):List Int->Nat->Unit->Option Bool
 | [],v30,()=>
  rec18 ()
 | x33::xs,v30,()=>
  (eT N a0 x33).bind fun r36=>
  gx a0.Txns r36 fun x37=>
  if x37.Done=(x37.Calls.length:Int) then
  (mS (eX rec18 N a0 x20 xs (v30+1))) true
  else
  gx x37.Calls x37.Done fun x39=>
  (mS (eX rec18 N a0 x20 xs (v30+1))) (!(sEq x39.Target.Type_ x20.Actor.Type_ && sEq x39.Target.Key x20.Actor.Key))
def fc (rec18:Unit->Option Bool) (N:Nat) (a0:ae) (x20:ai):Option Bool:=
 eX rec18 N a0 x20 x20.Waiters 0 ()
def bH (N:Nat) (a0:ae):List ai->Nat->Unit->Option Bool
 | [],v17,()=>
  some true
 | x20::xs,v17,()=>
  (eT N a0 x20.Owner).bind fun r23=>
  gx a0.Txns r23 fun x24=>
  (jb N a0 x20.Actor x24.ID).bind fun r25=>
  if x24.Done < (x24.Calls.length:Int) then
  if r25.2=true then
  (fb (fc (bH N a0 xs (v17+1)) N a0 x20)) false
  else
  gx x24.Calls x24.Done fun x28=>
  (fb (fc (bH N a0 xs (v17+1)) N a0 x20)) (!(sEq x28.Target.Type_ x20.Actor.Type_ && sEq x28.Target.Key x20.Actor.Key))
  else
  if r25.2=true then
  if r25.1.Prepared=true then
  (fb (fc (bH N a0 xs (v17+1)) N a0 x20)) true
  else
  (fb (fc (bH N a0 xs (v17+1)) N a0 x20)) false
  else
  (fb (fc (bH N a0 xs (v17+1)) N a0 x20)) true
def mU (N:Nat) (a0:ae):Option Bool:=
 bH N a0 a0.Locks 0 ()
def kf (N:Nat) (a0:ae):Option Bool:=
 iM (mU N a0) N a0 a0.Txns 0 ()
def jd (a1:Int):List Int->Nat->Unit->Option Int
 | [],v2,()=>
  some (-1)
 | x5::xs,v2,()=>
  if a1=x5 then
  some (v2:Int)
  else
  (jd a1 xs (v2+1)) ()
def oG (N:Nat) (a0:List Int) (a1:Int):Option Int:=
 jd a1 a0 0 ()
def dy (N:Nat) (a0:List Int) (a1:Int):Option Bool:=
 (oG N a0 a1).bind fun r1=>
 some (decide (0<=r1))
def zA (kx15:Option Bool) (c17:Bool):Option Bool:=
 if c17=true then
 some false
 else
 kx15
def vd (c8:Bool) (rec10:Bool->Option Bool) (N:Nat) (a2:List Int) (x12:al):Option Bool:=
 if c8=true then
 rec10 true
 else
 (dy N a2 x12.Txn_).bind fun r18=>
 rec10 (!r18)
def jY (rec3:Unit->Option Bool) (a1:Int) (N:Nat) (a2:List Int):List al->Nat->Bool->Option Bool
 | [],v9,c8=>
  rec3 ()
 | x12::xs,v9,c8=>
  if x12.Txn_=a1 then
  (zA (vd c8 (jY rec3 a1 N a2 xs (v9+1)) N a2 x12)) c8
  else
  (zA (vd c8 (jY rec3 a1 N a2 xs (v9+1)) N a2 x12)) false
def pj (a1:Int) (N:Nat) (a2:List Int):List aa->Nat->Unit->Option Bool
 | [],v2,()=>
  some true
 | x5::xs,v2,()=>
  jY (pj a1 N a2 xs (v2+1)) a1 N a2 x5.Layers 0 false
def vv (N:Nat) (a0:ae) (a1:Int) (a2:List Int):Option Bool:=
 pj a1 N a2 a0.Stacks 0 ()
def sI (l8:List Int) (x12:Txn) (rec10:List Int->Option Bool) (c18:Bool):Option Bool:=
 if c18=true then
 apx 7 l8 [x12.ID] fun l19=>
 rec10 l19
 else
 rec10 l8
def jy (rec4:List Int->Option Bool) (N:Nat) (a0:ae):List Txn->Nat->List Int->Option Bool
 | [],v9,l8=>
  rec4 l8
 | x12::xs,v9,l8=>
  (dy N l8 x12.ID).bind fun r16=>
  if r16=true then
  (sI l8 x12 (jy rec4 N a0 xs (v9+1))) false
  else
  (vv N a0 x12.ID l8).bind fun r17=>
  (sI l8 x12 (jy rec4 N a0 xs (v9+1))) r17
def kM (a0:ae) (N:Nat):Nat->Nat->List Int->Option Bool
 | 0,v3,l2=>
  some (decide ((l2.length:Int)=(a0.Txns.length:Int)))
 | m+1,v3,l2=>
  jy (kM a0 N m (v3+1)) N a0 a0.Txns 0 l2
def uw (N:Nat) (a0:ae):Option Bool:=
 kM a0 N (a0.Txns.length - 0) 0 []
def jL (N:Nat) (a0:ae):Option Bool:=
 (tW N a0).bind fun r2=>
 if r2=true then
 (ov N a0).bind fun r3=>
 if r3=true then
 (lU N a0).bind fun r4=>
 if r4=true then
 (kf N a0).bind fun r5=>
 if r5=true then
 (uw N a0).bind fun r6=>
 some r6
 else
 some false
 else
 some false
 else
 some false
 else
 some false
def iy (N:Nat) (a0:List Txn):Option (List Txn):=
 apn 151 a0 <|
 some a0
def eJ (N:Nat) (a0:List ai):Option (List ai):=
 apn 63 a0 <|
 some a0
def dV (N:Nat) (a0:List aa):Option (List aa):=
 apn 55 a0 <|
 some a0
def ew (N:Nat) (a0:List ah):Option (List ah):=
 apn 71 a0 <|
 some a0
def ga (N:Nat) (a0:List Value):Option (List Value):=
 apn 79 a0 <|
 some a0
def dU (N:Nat) (a0:List Int):Option (List Int):=
 apn 7 a0 <|
 some a0
def fI (N:Nat) (a0:List ByteArray):Option (List ByteArray):=
 apn 15 a0 <|
 some a0
def gF (N:Nat) (a0:Value):Option Value:=
 (dU N a0.I).bind fun r1=>
 (fI N a0.L).bind fun r2=>
 some (Value.mk a0.Kind a0.N a0.S r1 r2)
def iq (N:Nat):Nat->Nat->List Value->Option (List Value)
 | 0,v4,l3=>
  some l3
 | m+1,v4,l3=>
  gx l3 (v4:Int) fun x9=>
  (gF N x9).bind fun r10=>
  (iq N m (v4+1)) (l3.set v4 r10)
def eB (N:Nat) (a0:List Value):Option (List Value):=
 (ga N a0).bind fun r1=>
 iq N (r1.length - 0) 0 r1
def kv (N:Nat) (a0:ah):Option ah:=
 (eB N a0.Args).bind fun r1=>
 some (ah.mk a0.Target a0.Method r1)
def j6 (kx2:(List ah)->Option Txn) (N:Nat):Nat->Nat->List ah->Option Txn
 | 0,v4,l3=>
  kx2 l3
 | m+1,v4,l3=>
  gx l3 (v4:Int) fun x9=>
  (kv N x9).bind fun r10=>
  (j6 kx2 N m (v4+1)) (l3.set v4 r10)
def uW (N:Nat) (a0:Txn) (l11:List ah):Option Txn:=
 (gF N a0.Last).bind fun r12=>
 some (Txn.mk a0.ID a0.Born a0.Client a0.Seq l11 a0.Done r12)
def jS (N:Nat) (a0:Txn):Option Txn:=
 (ew N a0.Calls).bind fun r1=>
 j6 (uW N a0) N (r1.length - 0) 0 r1
def gg (N:Nat) (a0:List al):Option (List al):=
 apn 39 a0 <|
 some a0
def iw (N:Nat):Nat->Nat->List al->Option (List al)
 | 0,v4,l3=>
  some l3
 | m+1,v4,l3=>
  gx l3 (v4:Int) fun x9=>
  (eB N x9.Fields).bind fun r10=>
  (iw N m (v4+1)) (l3.set v4 (al.mk x9.Txn_ r10 x9.Prepared))
def j4 (N:Nat) (a0:List al):Option (List al):=
 (gg N a0).bind fun r1=>
 iw N (r1.length - 0) 0 r1
def pe (kx4:(List Txn)->Option ae) (N:Nat):Nat->Nat->List Txn->Option ae
 | 0,v6,l5=>
  kx4 l5
 | m+1,v6,l5=>
  gx l5 (v6:Int) fun x11=>
  (jS N x11).bind fun r12=>
  (pe kx4 N m (v6+1)) (l5.set v6 r12)
def o7 (kx14:(List ai)->Option ae) (N:Nat):Nat->Nat->List ai->Option ae
 | 0,v16,l15=>
  kx14 l15
 | m+1,v16,l15=>
  gx l15 (v16:Int) fun x21=>
  (dU N x21.Waiters).bind fun r22=>
  (o7 kx14 N m (v16+1)) (l15.set v16 (ai.mk x21.Actor x21.Owner r22))
def oU (l13:List Txn) (l23:List ai) (N:Nat):Nat->Nat->List aa->Option ae
 | 0,v26,l25=>
  NJ l25 v26 <|
  (some (ae.mk l13 l23 l25))
 | m+1,v26,l25=>
  gx l25 (v26:Int) fun x31=>
  (j4 N x31.Layers).bind fun r32=>
  (oU l13 l23 N m (v26+1)) (l25.set v26 (aa.mk x31.Actor r32))
def zC (l13:List Txn) (N:Nat) (r3:List aa) (l23:List ai):Option ae:=
 oU l13 l23 N (r3.length - 0) 0 r3
def zN (N:Nat) (r3:List aa) (r2:List ai) (l13:List Txn):Option ae:=
 o7 (zC l13 N r3) N (r2.length - 0) 0 r2
def kB (N:Nat) (a0:ae):Option ae:=
 (iy N a0.Txns).bind fun r1=>
 (eJ N a0.Locks).bind fun r2=>
 (dV N a0.Stacks).bind fun r3=>
 pe (zN N r3 r2) N (r1.length - 0) 0 r1
def pc (a0:ae) (kx1:Option (ae × Int)) (c8:Bool):Option (ae × Int):=
 if c8=true then
 some ((ae.mk [] [] []),8)
 else
 if (a0.Txns.length:Int)=32 then
 some ((ae.mk [] [] []),5)
 else
 kx1
def zg (a0:ae) (kx1:Option (ae × Int)) (a1:Int) (c5:Bool):Option (ae × Int):=
 if c5=true then
 some ((ae.mk [] [] []),1)
 else
 if 0 < (a0.Txns.length:Int) then
 gx a0.Txns (IntKind.i64.wrap ((a0.Txns.length:Int) - 1)) fun x7=>
 (pc a0 kx1) (decide (a1<=x7.ID))
 else
 (pc a0 kx1) false
def oN (N:Nat) (a0:ae) (a1:Int) (a2:Int) (a3:ByteArray) (a4:Int) (a5:List ah):Option (ae × Int):=
 (kB N a0).bind fun r9=>
 (jS N (Txn.mk a1 a2 a3 a4 a5 0 (Value.mk 0 0 (⟨#[]⟩) [] []))).bind fun r10=>
 apx 151 r9.Txns [r10] fun l11=>
 some ((ae.mk l11 r9.Locks r9.Stacks),0)
def jI (N:Nat) (a0:ae) (a1:Int) (a2:Int) (a3:ByteArray) (a4:Int) (a5:List ah):Option (ae × Int):=
 (jL N a0).bind fun r3=>
 if r3=true then
 (o5 N (Txn.mk a1 a2 a3 a4 a5 0 (Value.mk 0 0 (⟨#[]⟩) [] []))).bind fun r4=>
 (zg a0 (oN N a0 a1 a2 a3 a4 a5) a1) (!r4)
 else
 (zg a0 (oN N a0 a1 a2 a3 a4 a5) a1) true
def ra (kx2:Option (ah × Bool)) (c5:Bool):Option (ah × Bool):=
 if c5=true then
 some ((ah.mk (Ref.mk (⟨#[]⟩) (⟨#[]⟩)) (⟨#[]⟩) []),false)
 else
 kx2
def yh (a0:ae) (r1:Int) (N:Nat):Option (ah × Bool):=
 gx a0.Txns r1 fun x6=>
 gx x6.Calls x6.Done fun x7=>
 (kv N x7).bind fun r8=>
 some (r8,true)
def mD (N:Nat) (a0:ae) (a1:Int):Option (ah × Bool):=
 (eT N a0 a1).bind fun r1=>
 if r1 < 0 then
 (ra (yh a0 r1 N)) true
 else
 gx a0.Txns r1 fun x4=>
 if x4.Done < 0 then
 (ra (yh a0 r1 N)) true
 else
 (ra (yh a0 r1 N)) (decide ((x4.Calls.length:Int)<=x4.Done))
def kO (N:Nat):Nat->Nat->List ai->Option (List ai)
 | 0,v4,l3=>
  NJ l3 v4 <|
  (some l3)
 | m+1,v4,l3=>
  gx l3 (v4:Int) fun x9=>
  (dU N x9.Waiters).bind fun r10=>
  (kO N m (v4+1)) (l3.set v4 (ai.mk x9.Actor x9.Owner r10))
def fQ (N:Nat) (a0:List ai):Option (List ai):=
 (eJ N a0).bind fun r1=>
 kO N (r1.length - 0) 0 r1
def lL (N:Nat) (a0:List ai) (a1:Int) (a2:List ai):Option (List ai):=Ia 63 a0 a1 a2 fun l=>some l
def pY (N:Nat) (a0:Int):Option Bool:=
 some (!decide (a0=a0))
def oI (N:Nat) (a0:Int) (a1:Int):Option Bool:=
 (pY N a0).bind fun r2=>
 if r2=true then
 (pY N a1).bind fun r3=>
 if r3=true then
 some (decide (a0 < a1))
 else
 some true
 else
 some (decide (a0 < a1))
def k8 (N:Nat) (a0:Int):Option Bool:=
 some (!decide (a0=a0))
def dQ (a0:List Int) (N:Nat) (a1:Int) (kx1:Int->Option (Int × Bool)):Nat->Int × Int->Option (Int × Bool)
 | 0,_=>none
 | n+1,(v2,v3)=>
  if v2 < v3 then
  gx a0 (IntKind.i64.wrap (kd .u64 (IntKind.u64.wrap (IntKind.i64.wrap (v2+v3))) 1)) fun x6=>
  (oI N x6 a1).bind fun r7=>
  if r7=true then
  (dQ a0 N a1 kx1 n) (IntKind.i64.wrap ((IntKind.i64.wrap (kd .u64 (IntKind.u64.wrap (IntKind.i64.wrap (v2+v3))) 1))+1),v3)
  else
  (dQ a0 N a1 kx1 n) (v2,IntKind.i64.wrap (kd .u64 (IntKind.u64.wrap (IntKind.i64.wrap (v2+v3))) 1))
  else
  kx1 v2
def jh (a0:List Int) (a1:Int) (N:Nat) (v8:Int):Option (Int × Bool):=
 if v8 < (a0.length:Int) then
 gx a0 v8 fun x10=>
 if x10=a1 then
 some (v8,true)
 else
 (k8 N x10).bind fun r11=>
 if r11=true then
 (k8 N a1).bind fun r12=>
 some (v8,r12)
 else
 some (v8,false)
 else
 some (v8,false)
def gp (N:Nat) (a0:List Int) (a1:Int):Option (Int × Bool):=
 dQ a0 N a1 (jh a0 a1 N) N (0,(a0.length:Int))
def mF (N:Nat) (a0:List Int) (a1:Int) (a2:List Int):Option (List Int):=Ia 7 a0 a1 a2 fun l=>some l
def oP (kx1:Option ((List ai) × Int × Int)) (c6:Bool):Option ((List ai) × Int × Int):=
 if c6=true then
 some ([],0,1)
 else
 kx1
def oM (N:Nat) (a0:List ai) (a1:Ref) (a2:Int):Option ((List ai) × Int × Int):=
 (qz N a0 a1).bind fun r7=>
 if r7.2=true then
 gx a0 r7.1 fun x12=>
 (gp N x12.Waiters a2).bind fun r13=>
 if x12.Owner=a2 then
 (fQ N a0).bind fun r15=>
 some (r15,1,0)
 else
 if x12.Owner < a2 then
 (fQ N a0).bind fun r16=>
 some (r16,3,0)
 else
 if r13.2=true then
 (fQ N a0).bind fun r17=>
 some (r17,2,0)
 else
 if (x12.Waiters.length:Int)=32 then
 some ([],0,5)
 else
 (fQ N a0).bind fun r18=>
 gx r18 r7.1 fun x19=>
 (mF N x19.Waiters r13.1 [a2]).bind fun r20=>
 some ((r18.set ((r7.1).toNat) (ai.mk x19.Actor x19.Owner r20)),2,0)
 else
 if (a0.length:Int)=128 then
 some ([],0,5)
 else
 (fQ N a0).bind fun r10=>
 (lL N r10 r7.1 [(ai.mk a1 a2 [])]).bind fun r11=>
 some (r11,1,0)
def pP (N:Nat) (a0:List ai) (a1:Ref) (a2:Int):Option ((List ai) × Int × Int):=
 (je N a0).bind fun r3=>
 if r3=true then
 (iG N a1).bind fun r4=>
 if r4=true then
 (jG N a2).bind fun r5=>
 (oP (oM N a0 a1 a2)) (!r5)
 else
 (oP (oM N a0 a1 a2)) true
 else
 (oP (oM N a0 a1 a2)) true
def u9 (v8:Int) (v9:Int):Option Int:=
 gxs (⟨((([0,1,2,2,3,3,3,3,4,4,4,4,4,4,4,4,5,5,5,5,5,5,5,5,5,5,5,5,5,5,5,5,6,6,6,6,6,6,6,6,6,6,6,6,6,6,6,6,6,6,6,6,6,6,6,6,6,6,6,6,6,6,6,6]:List UInt8).append ([7,7,7,7,7,7,7,7,7,7,7,7,7,7,7,7,7,7,7,7,7,7,7,7,7,7,7,7,7,7,7,7,7,7,7,7,7,7,7,7,7,7,7,7,7,7,7,7,7,7,7,7,7,7,7,7,7,7,7,7,7,7,7,7]:List UInt8)).append (([8,8,8,8,8,8,8,8,8,8,8,8,8,8,8,8,8,8,8,8,8,8,8,8,8,8,8,8,8,8,8,8,8,8,8,8,8,8,8,8,8,8,8,8,8,8,8,8,8,8,8,8,8,8,8,8,8,8,8,8,8,8,8,8]:List UInt8).append ([8,8,8,8,8,8,8,8,8,8,8,8,8,8,8,8,8,8,8,8,8,8,8,8,8,8,8,8,8,8,8,8,8,8,8,8,8,8,8,8,8,8,8,8,8,8,8,8,8,8,8,8,8,8,8,8,8,8,8,8,8,8,8,8]:List UInt8))).toArray⟩:ByteArray) (IntKind.u8.wrap v8) fun b10=>
 some (IntKind.i64.wrap (v9+(IntKind.i64.wrap (b10.toNat:Int))))
def vf (v5:Int) (v6:Int):Option Int:=
 if 256<=v5 then
 u9 (kd .u64 v5 8) (IntKind.i64.wrap (v6+8))
 else
 u9 v5 v6
def vh (v2:Int) (v3:Int):Option Int:=
 if 65536<=v2 then
 vf (kd .u64 v2 16) (IntKind.i64.wrap (v3+16))
 else
 vf v2 v3
def uU (N:Nat) (a0:Int):Option Int:=
 if 4294967296<=a0 then
 vh (kd .u64 a0 32) 32
 else
 vh a0 0
def uj (N:Nat) (a0:Int):Option Int:=
 (uU N a0).bind fun r2=>
 some r2
def gQ (kx6:Option (List Int)) (rec2:Int->Option (List Int)) (v1:Int) (c11:Bool):Option (List Int):=
 if c11=true then
 kx6
 else
 rec2 (IntKind.i64.wrap (v1+1))
def gT (a0:List Int) (v1:Int):Option (List Int):=
 gx a0 (IntKind.i64.wrap (v1 - 1)) fun x13=>
 gx a0 v1 fun x14=>
 none
def gS (a1:Int) (v1:Int) (a0:List Int) (N:Nat) (rec2:Int->Option (List Int)):Nat->Unit->Option (List Int)
 | 0,_=>none
 | n+1,()=>
  if a1 < v1 then
  gx a0 v1 fun x8=>
  gx a0 (IntKind.i64.wrap (v1 - 1)) fun x9=>
  (oI N x8 x9).bind fun r10=>
  (gQ (gT a0 v1) rec2 v1) r10
  else
  (gQ (gT a0 v1) rec2 v1) false
def eF (a2:Int) (a1:Int) (a0:List Int) (N:Nat):Nat->Int->Option (List Int)
 | 0,_=>none
 | n+1,v1=>
  if v1 < a2 then
  gS a1 v1 a0 N (eF a2 a1 a0 N n) N ()
  else
  some a0
def da (N:Nat) (a0:List Int) (a1:Int) (a2:Int):Option (List Int):=
 IH (fun r=>r) a0 (
 (eF a2 a1 a0 N N (IntKind.i64.wrap (a1+1))))
def jn (a2:Int) (a1:Int) (N:Nat) (a0:List Int) (a3:Int):Nat->Unit->Option (List Int)
 | 0,_=>none
 | n+1,()=>
  if (IntKind.i64.wrap (a2 - a1))<=12 then
  (da N a0 a1 a2).bind fun r3=>
  some r3
  else
  if a3=0 then
  none
  else
  none
def ed (N:Nat) (a0:List Int) (a1:Int) (a2:Int) (a3:Int):Option (List Int):=
 IH (fun r=>r) a0 (
 (jn a2 a1 N a0 a3 N ()))
def ib (N:Nat) (a0:List Int):Option (List Int):=
 IH (fun r=>r) a0 (
 (uj N (IntKind.u64.wrap (a0.length:Int))).bind fun r1=>
 (ed N a0 0 (a0.length:Int) r1).bind fun r2=>
 some r2)
def slices_Sort_int (N:Nat) (a0:List Int):Option (List Int):=if a0.isEmpty=true then ib N a0 else Ei a0
def mG (l1:List Int) (x14:al) (rec2:List Int->Option (List Int)) (kx17:Bool->Option (List Int)) (c20:Bool) (c21:Bool):Option (List Int):=
 if c21=true then
 apx 7 l1 [x14.Txn_] fun l22=>
 rec2 l22
 else
 kx17 c20
def mH (rec12:Bool->Option (List Int)) (N:Nat) (l1:List Int) (x14:al) (c23:Bool):Option (List Int):=
 if c23=true then
 rec12 true
 else
 (dy N l1 x14.Txn_).bind fun r24=>
 rec12 r24
def fJ (rec5:Unit->Option (List Int)) (N:Nat) (l1:List Int) (rec2:List Int->Option (List Int)):List al->Nat->Bool->Option (List Int)
 | [],v11,c10=>
  rec5 ()
 | x14::xs,v11,c10=>
  if c10=true then
  (dy N l1 x14.Txn_).bind fun r19=>
  (mG l1 x14 rec2 (mH (fJ rec5 N l1 rec2 xs (v11+1)) N l1 x14)) true (!r19)
  else
  (mG l1 x14 rec2 (mH (fJ rec5 N l1 rec2 xs (v11+1)) N l1 x14)) false false
def iR (kx3:Option (List Int)) (N:Nat) (l1:List Int) (rec2:List Int->Option (List Int)):List aa->Nat->Unit->Option (List Int)
 | [],v4,()=>
  kx3
 | x7::xs,v4,()=>
  fJ (iR kx3 N l1 rec2 xs (v4+1)) N l1 rec2 x7.Layers 0 false
def wM (N:Nat) (l1:List Int):Option (List Int):=
 (slices_Sort_int N l1).bind fun r26=>
 some r26
def ki (N:Nat) (a0:ae):Nat->List Int->Option (List Int)
 | 0,_=>none
 | n+1,l1=>
  iR (wM N l1) N l1 (ki N a0 n) a0.Stacks 0 ()
def oo (N:Nat) (a0:ae) (a1:Int):Option (List Int):=
 ki N a0 N [a1]
def oQ (N:Nat) (a0:Txn) (c0_0:List Int):Option Bool:=
 (dy N c0_0 a0.ID).bind fun r1=>
 some r1
def dL (N:Nat) (k1_0_0:List Int):List Txn->Nat->Unit->Option Int
 | [],v2,()=>
  some (-1)
 | x5::xs,v2,()=>
  (oQ N x5 k1_0_0).bind fun r8=>
  if r8=true then
  some (v2:Int)
  else
  (dL N k1_0_0 xs (v2+1)) ()
def fW (N:Nat) (a0:List Txn) (k1_0_0:List Int):Option Int:=
 dL N k1_0_0 a0 0 ()
def bq (N:Nat) (k1_0_0:List Int) (kx3:(List Txn)->Int->Option (List Txn)):Nat->List Txn × Int × Int->Option (List Txn)
 | 0,_=>none
 | n+1,(l4,v5,v6)=>
  if v6 < (l4.length:Int) then
  gx l4 v6 fun x10=>
  (oQ N x10 k1_0_0).bind fun r11=>
  if r11=true then
  (bq N k1_0_0 kx3 n) (l4,v5,IntKind.i64.wrap (v6+1))
  else
  gx l4 v5 fun x12=>
  (bq N k1_0_0 kx3 n) ((l4.set ((v5).toNat) x10),(IntKind.i64.wrap (v5+1)),IntKind.i64.wrap (v6+1))
  else
  kx3 l4 v5
def eL (l15:List Txn) (v16:Int):Option (List Txn):=
 slx l15 v16 (l15.length:Int) fun l17=>
 slx (tp (Txn.mk 0 0 (⟨#[]⟩) 0 [] 0 (Value.mk 0 0 (⟨#[]⟩) [] [])) (v16).toNat l15) 0 v16 fun l18=>
 some ((tp (Txn.mk 0 0 (⟨#[]⟩) 0 [] 0 (Value.mk 0 0 (⟨#[]⟩) [] [])) (v16).toNat l15).take ((v16).toNat))
def dX (N:Nat) (a0:List Txn) (k1_0_0:List Int):Option (List Txn):=
 (fW N a0 k1_0_0).bind fun r1=>
 if r1=(-1) then
 some a0
 else
 bq N k1_0_0 eL N (a0,r1,IntKind.i64.wrap (r1+1))
def pb (N:Nat) (a0:al) (c0_0:List Int):Option Bool:=
 (dy N c0_0 a0.Txn_).bind fun r1=>
 some r1
def du (N:Nat) (k1_0_0:List Int):List al->Nat->Unit->Option Int
 | [],v2,()=>
  some (-1)
 | x5::xs,v2,()=>
  (pb N x5 k1_0_0).bind fun r8=>
  if r8=true then
  some (v2:Int)
  else
  (du N k1_0_0 xs (v2+1)) ()
def fA (N:Nat) (a0:List al) (k1_0_0:List Int):Option Int:=
 du N k1_0_0 a0 0 ()
def bk (N:Nat) (k1_0_0:List Int) (kx3:(List al)->Int->Option (List al)):Nat->List al × Int × Int->Option (List al)
 | 0,_=>none
 | n+1,(l4,v5,v6)=>
  if v6 < (l4.length:Int) then
  gx l4 v6 fun x10=>
  (pb N x10 k1_0_0).bind fun r11=>
  if r11=true then
  (bk N k1_0_0 kx3 n) (l4,v5,IntKind.i64.wrap (v6+1))
  else
  gx l4 v5 fun x12=>
  (bk N k1_0_0 kx3 n) ((l4.set ((v5).toNat) x10),(IntKind.i64.wrap (v5+1)),IntKind.i64.wrap (v6+1))
  else
  kx3 l4 v5
def eA (l15:List al) (v16:Int):Option (List al):=
 slx l15 v16 (l15.length:Int) fun l17=>
 slx (tp (al.mk 0 [] false) (v16).toNat l15) 0 v16 fun l18=>
 some ((tp (al.mk 0 [] false) (v16).toNat l15).take ((v16).toNat))
def dK (N:Nat) (a0:List al) (k1_0_0:List Int):Option (List al):=
 (fA N a0 k1_0_0).bind fun r1=>
 if r1=(-1) then
 some a0
 else
 bk N k1_0_0 eA N (a0,r1,IntKind.i64.wrap (r1+1))
def oF (N:Nat) (a0:aa):Option Bool:=
 some (decide ((a0.Layers.length:Int)=0))
def bL (N:Nat):List aa->Nat->Unit->Option Int
 | [],v2,()=>
  some (-1)
 | x5::xs,v2,()=>
  (oF N x5).bind fun r8=>
  if r8=true then
  some (v2:Int)
  else
  (bL N xs (v2+1)) ()
def ei (N:Nat) (a0:List aa):Option Int:=
 bL N a0 0 ()
def aW (N:Nat) (kx3:(List aa)->Int->Option (List aa)):Nat->List aa × Int × Int->Option (List aa)
 | 0,_=>none
 | n+1,(l4,v5,v6)=>
  if v6 < (l4.length:Int) then
  gx l4 v6 fun x10=>
  (oF N x10).bind fun r11=>
  if r11=true then
  (aW N kx3 n) (l4,v5,IntKind.i64.wrap (v6+1))
  else
  gx l4 v5 fun x12=>
  (aW N kx3 n) ((l4.set ((v5).toNat) x10),(IntKind.i64.wrap (v5+1)),IntKind.i64.wrap (v6+1))
  else
  kx3 l4 v5
def dI (l15:List aa) (v16:Int):Option (List aa):=
 slx l15 v16 (l15.length:Int) fun l17=>
 slx (tp (aa.mk (Ref.mk (⟨#[]⟩) (⟨#[]⟩)) []) (v16).toNat l15) 0 v16 fun l18=>
 some ((tp (aa.mk (Ref.mk (⟨#[]⟩) (⟨#[]⟩)) []) (v16).toNat l15).take ((v16).toNat))
def bZ (N:Nat) (a0:List aa):Option (List aa):=
 (ei N a0).bind fun r1=>
 if r1=(-1) then
 some a0
 else
 aW N dI N (a0,r1,IntKind.i64.wrap (r1+1))
def mE (kx3:(List aa)->Option ae) (N:Nat) (a1:List Int):Nat->Nat->List aa->Option ae
 | 0,v5,l4=>
  kx3 l4
 | m+1,v5,l4=>
  gx l4 (v5:Int) fun x10=>
  (dK N x10.Layers a1).bind fun r11=>
  (mE kx3 N a1 m (v5+1)) (l4.set v5 (aa.mk x10.Actor r11))
def yo (N:Nat) (r2:List Txn) (r1:ae) (l12:List aa):Option ae:=
 (bZ N l12).bind fun r13=>
 some (ae.mk r2 r1.Locks r13)
def tE (N:Nat) (a0:ae) (a1:List Int):Option ae:=
 (kB N a0).bind fun r1=>
 (dX N r1.Txns a1).bind fun r2=>
 mE (yo N r2 r1) N a1 (r1.Stacks.length - 0) 0 r1.Stacks
def kZ (N:Nat) (a0:Int) (c0_0:Int):Option Bool:=
 some (decide (a0=c0_0))
def bh (N:Nat) (k1_0_0:Int):List Int->Nat->Unit->Option Int
 | [],v2,()=>
  some (-1)
 | x5::xs,v2,()=>
  (kZ N x5 k1_0_0).bind fun r8=>
  if r8=true then
  some (v2:Int)
  else
  (bh N k1_0_0 xs (v2+1)) ()
def dH (N:Nat) (a0:List Int) (k1_0_0:Int):Option Int:=
 bh N k1_0_0 a0 0 ()
def bf (N:Nat) (k1_0_0:Int) (kx3:(List Int)->Int->Option (List Int)):Nat->List Int × Int × Int->Option (List Int)
 | 0,_=>none
 | n+1,(l4,v5,v6)=>
  if v6 < (l4.length:Int) then
  gx l4 v6 fun x10=>
  (kZ N x10 k1_0_0).bind fun r11=>
  if r11=true then
  (bf N k1_0_0 kx3 n) (l4,v5,IntKind.i64.wrap (v6+1))
  else
  gx l4 v5 fun x12=>
  (bf N k1_0_0 kx3 n) ((l4.set ((v5).toNat) x10),(IntKind.i64.wrap (v5+1)),IntKind.i64.wrap (v6+1))
  else
  kx3 l4 v5
def dW (l15:List Int) (v16:Int):Option (List Int):=
 slx l15 v16 (l15.length:Int) fun l17=>
 slx (tp 0 (v16).toNat l15) 0 v16 fun l18=>
 some ((tp 0 (v16).toNat l15).take ((v16).toNat))
def bA (N:Nat) (a0:List Int) (k1_0_0:Int):Option (List Int):=
 (dH N a0 k1_0_0).bind fun r1=>
 if r1=(-1) then
 some a0
 else
 bf N k1_0_0 dW N (a0,r1,IntKind.i64.wrap (r1+1))
def iS (N:Nat) (a1:Int):Nat->Nat->List ai->Option (List ai)
 | 0,v6,l5=>
  some l5
 | m+1,v6,l5=>
  gx l5 (v6:Int) fun x11=>
  (bA N x11.Waiters a1).bind fun r12=>
  (iS N a1 m (v6+1)) (l5.set v6 (ai.mk x11.Actor x11.Owner r12))
def ou (N:Nat) (a0:List ai) (a1:Int):Option (List ai):=
 (je N a0).bind fun r2=>
 if r2=true then
 (fQ N a0).bind fun r3=>
 iS N a1 (r3.length - 0) 0 r3
 else
 some []
def lH (N:Nat) (a0:List ai) (a1:Int) (a2:Int):Option (List ai):=S6 a0 a1 a2 fun l=>some l
def tI (N:Nat) (a0:List ai) (a1:Int):Option ((List ai) × Int):=
 gx a0 a1 fun x1=>
 if (x1.Waiters.length:Int)=0 then
 (lH N a0 a1 (IntKind.i64.wrap (a1+1))).bind fun r3=>
 some (r3,0)
 else
 gx x1.Waiters (IntKind.i64.wrap ((x1.Waiters.length:Int) - 1)) fun x4=>
 slt x1.Waiters (IntKind.i64.wrap ((x1.Waiters.length:Int) - 1)) fun l5=>
 some (((a0.set ((a1).toNat) (ai.mk x1.Actor x4 x1.Waiters)).set ((a1).toNat) (ai.mk x1.Actor x4 l5)),x4)
def eE (a1:Int) (N:Nat):Nat->List ai × List ay × Int->Option ((List ai) × (List ay))
 | 0,_=>none
 | n+1,(l5,l6,v7)=>
  if v7 < (l5.length:Int) then
  gx l5 v7 fun x11=>
  if x11.Owner=a1 then
  (tI N l5 v7).bind fun r12=>
  if r12.2=0 then
  (eE a1 N n) (r12.1,l6,v7)
  else
  apx 39 l6 [(ay.mk x11.Actor r12.2)] fun l13=>
  (eE a1 N n) (r12.1,l13,IntKind.i64.wrap (v7+1))
  else
  (eE a1 N n) (l5,l6,IntKind.i64.wrap (v7+1))
  else
  some (l5,l6)
def kL (N:Nat) (a0:List ai) (a1:Int):Option ((List ai) × (List ay)):=
 (je N a0).bind fun r2=>
 if r2=true then
 (fQ N a0).bind fun r3=>
 eE a1 N N (r3,[],0)
 else
 some ([],[])
def oZ (kx6:(List ai)->Option (ae × (List Int) × Int)) (N:Nat):List Int->Nat->List ai->Option (ae × (List Int) × Int)
 | [],v8,l7=>
  kx6 l7
 | x11::xs,v8,l7=>
  (ou N l7 x11).bind fun r14=>
  (oZ kx6 N xs (v8+1)) r14
def oY (r5:ae) (r4:List Int) (N:Nat):List Int->Nat->List ai->Option (ae × (List Int) × Int)
 | [],v18,l17=>
  some ((ae.mk r5.Txns l17 r5.Stacks),r4,0)
 | x21::xs,v18,l17=>
  (kL N l17 x21).bind fun r24=>
  (oY r5 r4 N xs (v18+1)) r24.1
def Dh (r5:ae) (r4:List Int) (N:Nat) (l15:List ai):Option (ae × (List Int) × Int):=
 oY r5 r4 N r4 0 l15
def ky (N:Nat) (a0:ae) (a1:Int):Option (ae × (List Int) × Int):=
 (jL N a0).bind fun r2=>
 if r2=true then
 (eT N a0 a1).bind fun r3=>
 if r3 < 0 then
 some ((ae.mk [] [] []),[],6)
 else
 (oo N a0 a1).bind fun r4=>
 (tE N a0 r4).bind fun r5=>
 oZ (Dh r5 r4 N) N r4 0 r5.Locks
 else
 some ((ae.mk [] [] []),[],1)
def gN (N:Nat) (a0:ae) (a1:Int):Option (ae × Int × (List Int) × Int):=
 (jL N a0).bind fun r2=>
 if r2=true then
 (mD N a0 a1).bind fun r3=>
 if r3.2=true then
 (pP N a0.Locks r3.1.Target a1).bind fun r5=>
 if r5.2.2=0 then
 if r5.2.1=3 then
 (ky N a0 a1).bind fun r8=>
 some (r8.1,r5.2.1,r8.2.1,r8.2.2)
 else
 (kB N a0).bind fun r9=>
 some ((ae.mk r9.Txns r5.1 r9.Stacks),r5.2.1,[],0)
 else
 some ((ae.mk [] [] []),0,[],r5.2.2)
 else
 some ((ae.mk [] [] []),0,[],6)
 else
 some ((ae.mk [] [] []),0,[],1)
def lj (N:Nat) (a0:Int):Option Value:=
 some (Value.mk 1 a0 (⟨#[]⟩) [] [])
def qi (N:Nat) (a0:aa) (a1:Ref):Option Int:=
 (gG N a0.Actor a1).bind fun r1=>
 some r1
def bg (a0:List aa) (N:Nat) (a1:Ref) (kx1:Int->Option (Int × Bool)):Nat->Int × Int->Option (Int × Bool)
 | 0,_=>none
 | n+1,(v2,v3)=>
  if v2 < v3 then
  gx a0 (IntKind.i64.wrap (kd .u64 (IntKind.u64.wrap (IntKind.i64.wrap (v2+v3))) 1)) fun x6=>
  (qi N x6 a1).bind fun r7=>
  if r7 < 0 then
  (bg a0 N a1 kx1 n) (IntKind.i64.wrap ((IntKind.i64.wrap (kd .u64 (IntKind.u64.wrap (IntKind.i64.wrap (v2+v3))) 1))+1),v3)
  else
  (bg a0 N a1 kx1 n) (v2,IntKind.i64.wrap (kd .u64 (IntKind.u64.wrap (IntKind.i64.wrap (v2+v3))) 1))
  else
  kx1 v2
def bu (a0:List aa) (N:Nat) (a1:Ref) (v8:Int):Option (Int × Bool):=
 if v8 < (a0.length:Int) then
 gx a0 v8 fun x10=>
 (qi N x10 a1).bind fun r11=>
 some (v8,(decide (r11=0)))
 else
 some (v8,false)
def ba (N:Nat) (a0:List aa) (a1:Ref):Option (Int × Bool):=
 bg a0 N a1 (bu a0 N a1) N (0,(a0.length:Int))
def bE (N:Nat) (a0:List aa) (a1:Int) (a2:List aa):Option (List aa):=Ia 55 a0 a1 a2 fun l=>some l
def ye (kx1:Option (ae × Int)) (c6:Bool):Option (ae × Int):=
 if c6=true then
 some ((ae.mk [] [] []),1)
 else
 kx1
def uz (x18:aa) (a1:Int) (kx19:(List aa)->Int->Option (ae × Int)) (l17:List aa) (r14:Int × Bool) (c22:Bool):Option (ae × Int):=
 if c22=true then
 apx 39 x18.Layers [(al.mk a1 [] false)] fun l23=>
 kx19 (l17.set ((r14.1).toNat) (aa.mk x18.Actor l23)) (IntKind.i64.wrap ((x18.Layers.length:Int)+1))
 else
 kx19 l17 (x18.Layers.length:Int)
def w9 (r14:Int × Bool) (N:Nat) (a2:List Value) (r10:ae) (r11:Int) (x12:Txn) (r13:Value) (l24:List aa) (v25:Int):Option (ae × Int):=
 gx l24 r14.1 fun x26=>
 (eB N a2).bind fun r27=>
 gx x26.Layers (IntKind.i64.wrap (v25 - 1)) fun x28=>
 some ((ae.mk (r10.Txns.set ((r11).toNat) (Txn.mk x12.ID x12.Born x12.Client x12.Seq x12.Calls (IntKind.i64.wrap (x12.Done+1)) r13)) r10.Locks (l24.set ((r14.1).toNat) (aa.mk x26.Actor (x26.Layers.set ((IntKind.i64.wrap (v25 - 1)).toNat) (al.mk x28.Txn_ r27 x28.Prepared))))),0)
def rp (r14:Int × Bool) (a1:Int) (N:Nat) (a2:List Value) (r10:ae) (r11:Int) (x12:Txn) (r13:Value) (l17:List aa):Option (ae × Int):=
 gx l17 r14.1 fun x18=>
 if (x18.Layers.length:Int)=0 then
 (uz x18 a1 (w9 r14 N a2 r10 r11 x12 r13) l17 r14) true
 else
 gx x18.Layers (IntKind.i64.wrap ((x18.Layers.length:Int) - 1)) fun x21=>
 (uz x18 a1 (w9 r14 N a2 r10 r11 x12 r13) l17 r14) (!decide (x21.Txn_=a1))
def qW (N:Nat) (a0:ae) (a1:Int) (a3:Value) (a2:List Value):Option (ae × Int):=
 (mD N a0 a1).bind fun r7=>
 if r7.2=true then
 (mX N a0.Locks r7.1.Target).bind fun r9=>
 if r9=a1 then
 (kB N a0).bind fun r10=>
 (eT N r10 a1).bind fun r11=>
 gx r10.Txns r11 fun x12=>
 (gF N a3).bind fun r13=>
 (ba N r10.Stacks r7.1.Target).bind fun r14=>
 if r14.2=true then
 (rp r14 a1 N a2 r10 r11 x12 r13) r10.Stacks
 else
 (bE N r10.Stacks r14.1 [(aa.mk r7.1.Target [])]).bind fun r16=>
 (rp r14 a1 N a2 r10 r11 x12 r13) r16
 else
 some ((ae.mk [] [] []),10)
 else
 some ((ae.mk [] [] []),6)
def jm (N:Nat) (a0:ae) (a1:Int) (a2:List Value) (a3:Value):Option (ae × Int):=
 (jL N a0).bind fun r3=>
 if r3=true then
 (j9 N a2).bind fun r4=>
 if r4=true then
 (gU N a3).bind fun r5=>
 (ye (qW N a0 a1 a3 a2)) (!r5)
 else
 (ye (qW N a0 a1 a3 a2)) true
 else
 (ye (qW N a0 a1 a3 a2)) true
def oS (kx1:Option ((List ai) × Int × Int)) (c6:Bool):Option ((List ai) × Int × Int):=
 if c6=true then
 some ([],0,1)
 else
 kx1
def kN (kx8:Option ((List ai) × Int × Int)) (c11:Bool):Option ((List ai) × Int × Int):=
 if c11=true then
 some ([],0,10)
 else
 kx8
def tu (N:Nat) (a0:List ai) (r7:Int × Bool):Option ((List ai) × Int × Int):=
 (fQ N a0).bind fun r12=>
 (tI N r12 r7.1).bind fun r13=>
 some (r13.1,r13.2,0)
def pg (N:Nat) (a0:List ai) (a1:Ref) (a2:Int):Option ((List ai) × Int × Int):=
 (qz N a0 a1).bind fun r7=>
 if r7.2=true then
 gx a0 r7.1 fun x10=>
 (kN (tu N a0 r7)) (!decide (x10.Owner=a2))
 else
 (kN (tu N a0 r7)) true
def mw (N:Nat) (a0:List ai) (a1:Ref) (a2:Int):Option ((List ai) × Int × Int):=
 (je N a0).bind fun r3=>
 if r3=true then
 (iG N a1).bind fun r4=>
 if r4=true then
 (jG N a2).bind fun r5=>
 (oS (pg N a0 a1 a2)) (!r5)
 else
 (oS (pg N a0 a1 a2)) true
 else
 (oS (pg N a0 a1 a2)) true
def iO (kx4:Option (ae × Int)) (c8:Bool):Option (ae × Int):=
 if c8=true then
 some ((ae.mk [] [] []),6)
 else
 kx4
def lg (a0:ae) (r3:Int) (N:Nat) (a2:Ref) (a1:Int):Option (ae × Int):=
 gx a0.Txns r3 fun x10=>
 if x10.Done < (x10.Calls.length:Int) then
 some ((ae.mk [] [] []),12)
 else
 (jb N a0 a2 a1).bind fun r12=>
 if r12.1.Prepared=true then
 some ((ae.mk [] [] []),7)
 else
 (kB N a0).bind fun r13=>
 (lA N r13 a2).bind fun r14=>
 gx r13.Stacks r14 fun x15=>
 gx x15.Layers (IntKind.i64.wrap ((x15.Layers.length:Int) - 1)) fun x16=>
 (mw N r13.Locks a2 a1).bind fun r17=>
 some ((ae.mk r13.Txns r17.1 (r13.Stacks.set ((r14).toNat) (aa.mk x15.Actor (x15.Layers.set ((IntKind.i64.wrap ((x15.Layers.length:Int) - 1)).toNat) (al.mk x16.Txn_ x16.Fields true))))),0)
def fu (N:Nat) (a0:ae) (a1:Int) (a2:Ref):Option (ae × Int):=
 (jL N a0).bind fun r2=>
 if r2=true then
 (eT N a0 a1).bind fun r3=>
 if r3 < 0 then
 (iO (lg a0 r3 N a2 a1)) true
 else
 gx a0.Txns r3 fun x6=>
 (m9 N x6.Calls a2).bind fun r7=>
 (iO (lg a0 r3 N a2 a1)) (!r7)
 else
 some ((ae.mk [] [] []),1)
def ta (N:Nat) (a0:ae) (a1:Ref):Option (List al):=
 (lA N a0 a1).bind fun r2=>
 if 0<=r2 then
 gx a0.Stacks r2 fun x3=>
 (j4 N x3.Layers).bind fun r4=>
 some r4
 else
 some []
def kT (N:Nat) (a0:ah) (c0_0:List Txn) (c0_1:List ai) (c0_2:List aa) (c1_0:Int) (c1_1:Int) (c1_2:ByteArray) (c1_3:Int) (c1_4:List ah) (c1_5:Int) (c1_6:Int) (c1_7:Int) (c1_8:ByteArray) (c1_9:List Int) (c1_10:List ByteArray):Option Bool:=
 (jb N (ae.mk c0_0 c0_1 c0_2) a0.Target c1_0).bind fun r1=>
 if r1.2=true then
 some (!r1.1.Prepared)
 else
 some true
def bF (N:Nat) (k1_0_0:List Txn) (k1_0_1:List ai) (k1_0_2:List aa) (k1_1_0:Int) (k1_1_1:Int) (k1_1_2:ByteArray) (k1_1_3:Int) (k1_1_4:List ah) (k1_1_5:Int) (k1_1_6:Int) (k1_1_7:Int) (k1_1_8:ByteArray) (k1_1_9:List Int) (k1_1_10:List ByteArray):List ah->Nat->Unit->Option Int
 | [],v2,()=>
  some (-1)
 | x5::xs,v2,()=>
  (kT N x5 k1_0_0 k1_0_1 k1_0_2 k1_1_0 k1_1_1 k1_1_2 k1_1_3 k1_1_4 k1_1_5 k1_1_6 k1_1_7 k1_1_8 k1_1_9 k1_1_10).bind fun r8=>
  if r8=true then
  some (v2:Int)
  else
  (bF N k1_0_0 k1_0_1 k1_0_2 k1_1_0 k1_1_1 k1_1_2 k1_1_3 k1_1_4 k1_1_5 k1_1_6 k1_1_7 k1_1_8 k1_1_9 k1_1_10 xs (v2+1)) ()
def b9 (N:Nat) (a0:List ah) (k1_0_0:List Txn) (k1_0_1:List ai) (k1_0_2:List aa) (k1_1_0:Int) (k1_1_1:Int) (k1_1_2:ByteArray) (k1_1_3:Int) (k1_1_4:List ah) (k1_1_5:Int) (k1_1_6:Int) (k1_1_7:Int) (k1_1_8:ByteArray) (k1_1_9:List Int) (k1_1_10:List ByteArray):Option Int:=
 bF N k1_0_0 k1_0_1 k1_0_2 k1_1_0 k1_1_1 k1_1_2 k1_1_3 k1_1_4 k1_1_5 k1_1_6 k1_1_7 k1_1_8 k1_1_9 k1_1_10 a0 0 ()
def bD (N:Nat) (a0:List ah) (k1_0_0:List Txn) (k1_0_1:List ai) (k1_0_2:List aa) (k1_1_0:Int) (k1_1_1:Int) (k1_1_2:ByteArray) (k1_1_3:Int) (k1_1_4:List ah) (k1_1_5:Int) (k1_1_6:Int) (k1_1_7:Int) (k1_1_8:ByteArray) (k1_1_9:List Int) (k1_1_10:List ByteArray):Option Bool:=
 (b9 N a0 k1_0_0 k1_0_1 k1_0_2 k1_1_0 k1_1_1 k1_1_2 k1_1_3 k1_1_4 k1_1_5 k1_1_6 k1_1_7 k1_1_8 k1_1_9 k1_1_10).bind fun r1=>
 some (decide (0<=r1))
def sg (N:Nat) (a0:ae) (a1:Txn):Option Bool:=
 (bD N a1.Calls a0.Txns a0.Locks a0.Stacks a1.ID a1.Born a1.Client a1.Seq a1.Calls a1.Done a1.Last.Kind a1.Last.N a1.Last.S a1.Last.I a1.Last.L).bind fun r1=>
 some (!r1)
def mA (N:Nat) (a0:Txn) (c0_0:List Txn) (c0_1:List ai) (c0_2:List aa):Option Bool:=
 if a0.Done=(a0.Calls.length:Int) then
 (sg N (ae.mk c0_0 c0_1 c0_2) a0).bind fun r2=>
 if r2=true then
 (vv N (ae.mk c0_0 c0_1 c0_2) a0.ID []).bind fun r3=>
 some r3
 else
 some false
 else
 some false
def dE (N:Nat) (k1_0_0:List Txn) (k1_0_1:List ai) (k1_0_2:List aa):List Txn->Nat->Unit->Option Int
 | [],v2,()=>
  some (-1)
 | x5::xs,v2,()=>
  (mA N x5 k1_0_0 k1_0_1 k1_0_2).bind fun r8=>
  if r8=true then
  some (v2:Int)
  else
  (dE N k1_0_0 k1_0_1 k1_0_2 xs (v2+1)) ()
def dY (N:Nat) (a0:List Txn) (k1_0_0:List Txn) (k1_0_1:List ai) (k1_0_2:List aa):Option Int:=
 dE N k1_0_0 k1_0_1 k1_0_2 a0 0 ()
def ej (kx6:Option (List Ref)) (rec2:Int->Option (List Ref)) (v1:Int) (c11:Bool):Option (List Ref):=
 if c11=true then
 kx6
 else
 rec2 (IntKind.i64.wrap (v1+1))
def eh (a0:List Ref) (v1:Int):Option (List Ref):=
 gx a0 (IntKind.i64.wrap (v1 - 1)) fun x13=>
 gx a0 v1 fun x14=>
 none
def ek (a1:Int) (v1:Int) (a0:List Ref) (N:Nat) (rec2:Int->Option (List Ref)):Nat->Unit->Option (List Ref)
 | 0,_=>none
 | n+1,()=>
  if a1 < v1 then
  gx a0 v1 fun x8=>
  gx a0 (IntKind.i64.wrap (v1 - 1)) fun x9=>
  (gG N x8 x9).bind fun r10=>
  (ej (eh a0 v1) rec2 v1) (decide (r10 < 0))
  else
  (ej (eh a0 v1) rec2 v1) false
def bV (a2:Int) (a1:Int) (a0:List Ref) (N:Nat):Nat->Int->Option (List Ref)
 | 0,_=>none
 | n+1,v1=>
  if v1 < a2 then
  ek a1 v1 a0 N (bV a2 a1 a0 N n) N ()
  else
  some a0
def be (N:Nat) (a0:List Ref) (a1:Int) (a2:Int):Option (List Ref):=
 IH (fun r=>r) a0 (
 (bV a2 a1 a0 N N (IntKind.i64.wrap (a1+1))))
def fv (a2:Int) (a1:Int) (N:Nat) (a0:List Ref) (a3:Int):Nat->Unit->Option (List Ref)
 | 0,_=>none
 | n+1,()=>
  if (IntKind.i64.wrap (a2 - a1))<=12 then
  (be N a0 a1 a2).bind fun r3=>
  some r3
  else
  if a3=0 then
  none
  else
  none
def bw (N:Nat) (a0:List Ref) (a1:Int) (a2:Int) (a3:Int):Option (List Ref):=
 IH (fun r=>r) a0 (
 (fv a2 a1 N a0 a3 N ()))
def bK (N:Nat) (a0:List Ref):Option (List Ref):=
 IH (fun r=>r) a0 (
 (uj N (IntKind.u64.wrap (a0.length:Int))).bind fun r1=>
 (bw N a0 0 (a0.length:Int) r1).bind fun r2=>
 some r2)
def bX (N:Nat) (a0:List Ref):Option (List Ref):=if a0.isEmpty=true then bK N a0  else DN (fun x y=>gG N x y ) a0
def fP (a0:List Ref) (v3:Nat) (kx11:(List Ref)->Int->Option (List Ref)):Nat->List Ref × Int × Int->Option (List Ref)
 | 0,_=>none
 | n+1,(l12,v13,v14)=>
  if v14 < (((a0.length - v3):Nat):Int) then
  gx ((l12.drop v3).take (a0.length - v3)) v14 fun x18=>
  gx ((l12.drop v3).take (a0.length - v3)) (IntKind.i64.wrap (v14 - 1)) fun x19=>
  if (sEq x18.Type_ x19.Type_ && sEq x18.Key x19.Key)=true then
  (fP a0 v3 kx11 n) (l12,v13,IntKind.i64.wrap (v14+1))
  else
  gx l12 v13 fun x20=>
  (fP a0 v3 kx11 n) ((l12.set ((v13).toNat) x18),(IntKind.i64.wrap (v13+1)),IntKind.i64.wrap (v14+1))
  else
  kx11 l12 v13
def jq (l23:List Ref) (v24:Int):Option (List Ref):=
 slx l23 v24 (l23.length:Int) fun l25=>
 slx (tp (Ref.mk (⟨#[]⟩) (⟨#[]⟩)) (v24).toNat l23) 0 v24 fun l26=>
 some ((tp (Ref.mk (⟨#[]⟩) (⟨#[]⟩)) (v24).toNat l23).take ((v24).toNat))
def ia (a0:List Ref) (N:Nat):Nat->Nat->Unit->Option (List Ref)
 | 0,v3,()=>
  some a0
 | m+1,v3,()=>
  gx a0 (v3:Int) fun x8=>
  gx a0 (IntKind.i64.wrap ((v3:Int) - 1)) fun x9=>
  if (sEq x8.Type_ x9.Type_ && sEq x8.Key x9.Key)=true then
  slx a0 (v3:Int) (a0.length:Int) fun l10=>
  fP a0 v3 jq N (a0,(v3:Int),1)
  else
  (ia a0 N m (v3+1)) ()
def jJ (N:Nat) (a0:List Ref):Option (List Ref):=
 if (a0.length:Int) < 2 then
 some a0
 else
 ia a0 N (a0.length - 1) 1 ()
def gJ (kx1:(List Ref)->Option (List Ref)):List ah->Nat->List Ref->Option (List Ref)
 | [],v3,l2=>
  kx1 l2
 | x6::xs,v3,l2=>
  apx 31 l2 [x6.Target] fun l9=>
  (gJ kx1 xs (v3+1)) l9
def kI (N:Nat) (l10:List Ref):Option (List Ref):=
 (bX N l10).bind fun r11=>
 (jJ N r11).bind fun r12=>
 some r12
def gB (N:Nat) (a0:Txn):Option (List Ref):=
 gJ (kI N) a0.Calls 0 []
def kQ (kx13:(List aR)->Option (ae × (List aD))) (N:Nat) (l4:List Txn) (l5:List ai) (l6:List aa) (x11:Txn):List Ref->Nat->List aR->Option (ae × (List aD))
 | [],v16,l15=>
  kx13 l15
 | x19::xs,v16,l15=>
  (jb N (ae.mk l4 l5 l6) x19 x11.ID).bind fun r22=>
  (eB N r22.1.Fields).bind fun r23=>
  apx 55 l15 [(aR.mk x19 r23)] fun l24=>
  (kQ kx13 N l4 l5 l6 x11 xs (v16+1)) l24
def wi (N:Nat) (l4:List Txn) (l5:List ai) (l6:List aa) (x11:Txn) (l7:List aD) (r12:Value) (rec8:(List Txn × List ai × List aa × List aD)->Option (ae × (List aD))) (l25:List aR):Option (ae × (List aD)):=
 (tE N (ae.mk l4 l5 l6) [x11.ID]).bind fun r26=>
 apx 135 l7 [(aD.mk x11.ID x11.Client x11.Seq r12 l25)] fun l27=>
 rec8 (r26.Txns,r26.Locks,r26.Stacks,l27)
def kK (N:Nat):Nat->List Txn × List ai × List aa × List aD->Option (ae × (List aD))
 | 0,_=>none
 | n+1,(l4,l5,l6,l7)=>
  (dY N l4 l4 l5 l6).bind fun r9=>
  if r9 < 0 then
  some ((ae.mk l4 l5 l6),l7)
  else
  gx l4 r9 fun x11=>
  (gF N x11.Last).bind fun r12=>
  (gB N x11).bind fun r14=>
  kQ (wi N l4 l5 l6 x11 l7 r12 (kK N n)) N l4 l5 l6 x11 r14 0 []
def lq (N:Nat) (a0:ae):Option (ae × (List aD)):=
 (jL N a0).bind fun r2=>
 if r2=true then
 (kB N a0).bind fun r3=>
 kK N N (r3.Txns,r3.Locks,r3.Stacks,[])
 else
 some ((ae.mk [] [] []),[])
def tG (N:Nat) (a0:ae) (a1:Int):Option (Txn × Bool):=
 (eT N a0 a1).bind fun r2=>
 if 0<=r2 then
 gx a0.Txns r2 fun x3=>
 (jS N x3).bind fun r4=>
 some (r4,true)
 else
 some ((Txn.mk 0 0 (⟨#[]⟩) 0 [] 0 (Value.mk 0 0 (⟨#[]⟩) [] [])),false)
def yr (a0:ae) (r2:Int) (N:Nat) (kx1:Option (List Value)) (c5:Bool):Option (List Value):=
 if c5=true then
 gx a0.Stacks r2 fun x6=>
 gx x6.Layers (IntKind.i64.wrap ((x6.Layers.length:Int) - 1)) fun x7=>
 (eB N x7.Fields).bind fun r8=>
 some r8
 else
 kx1
def yw (N:Nat) (a2:List Value):Option (List Value):=
 (eB N a2).bind fun r9=>
 some r9
def tz (N:Nat) (a0:ae) (a1:Ref) (a2:List Value):Option (List Value):=
 (lA N a0 a1).bind fun r2=>
 if 0<=r2 then
 gx a0.Stacks r2 fun x4=>
 (yr a0 r2 N (yw N a2)) (decide (0 < (x4.Layers.length:Int)))
 else
 (yr a0 r2 N (yw N a2)) false
def sv (kx14:Option Bool) (c16:Bool):Option Bool:=
 if c16=true then
 some false
 else
 kx14
def sH (N:Nat) (v9:Int) (r13:ae × Int × (List Int) × Int) (rec10:(List Txn × List ai × List aa × Int)->Option Bool):Option Bool:=
 (lj N v9).bind fun r17=>
 (lj N v9).bind fun r18=>
 (jm N r13.1 3 [r17] r18).bind fun r19=>
 if r19.2=0 then
 rec10 (r19.1.Txns,r19.1.Locks,r19.1.Stacks,IntKind.i64.wrap (v9+1))
 else
 some false
def fL (N:Nat) (kx5:(List Txn)->(List ai)->(List aa)->Option Bool):Nat->List Txn × List ai × List aa × Int->Option Bool
 | 0,_=>none
 | n+1,(l6,l7,l8,v9)=>
  if v9 < 2 then
  (gN N (ae.mk l6 l7 l8) 3).bind fun r13=>
  if r13.2.2.2=0 then
  (sv (sH N v9 r13 (fL N kx5 n))) (!decide (r13.2.1=1))
  else
  (sv (sH N v9 r13 (fL N kx5 n))) true
  else
  kx5 l6 l7 l8
def we (kx29:Option Bool) (c31:Bool):Option Bool:=
 if c31=true then
 some false
 else
 kx29
def rV (kx35:Option Bool) (c39:Bool):Option Bool:=
 if c39=true then
 some false
 else
 kx35
def vQ (kx41:Option Bool) (c43:Bool):Option Bool:=
 if c43=true then
 some false
 else
 kx41
def sJ (kx47:Option Bool) (c50:Bool):Option Bool:=
 if c50=true then
 some false
 else
 kx47
def rS (N:Nat) (r46:ae × (List aD)):Option Bool:=
 (tG N r46.1 5).bind fun r51=>
 if r51.2=true then
 (gB N r51.1).bind fun r53=>
 if (r53.length:Int)=1 then
 (tz N r46.1 (Ref.mk (⟨#[65]⟩) (⟨#[97]⟩)) []).bind fun r54=>
 some (decide ((r54.length:Int)=1))
 else
 some false
 else
 some false
def vY (N:Nat) (r34:ae × Int):Option Bool:=
 (fu N r34.1 3 (Ref.mk (⟨#[65]⟩) (⟨#[98]⟩))).bind fun r44=>
 if r44.2=0 then
 (lq N r44.1).bind fun r46=>
 if (r46.2.length:Int)=1 then
 gx r46.2 0 fun x49=>
 if x49.ID=3 then
 (sJ (rS N r46)) (!decide ((x49.Writes.length:Int)=2))
 else
 (sJ (rS N r46)) true
 else
 (sJ (rS N r46)) true
 else
 some false
def rR (N:Nat) (r34:ae × Int):Option Bool:=
 (ky N r34.1 3).bind fun r40=>
 if r40.2.2=0 then
 (vQ (vY N r34)) (!decide ((r40.2.1.length:Int)=2))
 else
 (vQ (vY N r34)) true
def uR (N:Nat) (r28:ae × Int × (List Int) × Int):Option Bool:=
 (lj N 9).bind fun r32=>
 (lj N 9).bind fun r33=>
 (jm N r28.1 5 [r32] r33).bind fun r34=>
 if r34.2=0 then
 (ta N r34.1 (Ref.mk (⟨#[65]⟩) (⟨#[97]⟩))).bind fun r37=>
 if (r37.length:Int)=2 then
 (jL N r34.1).bind fun r38=>
 (rV (rR N r34)) (!r38)
 else
 (rV (rR N r34)) true
 else
 (rV (rR N r34)) true
def qL (N:Nat) (l23:List Txn) (l24:List ai) (l25:List aa):Option Bool:=
 (fu N (ae.mk l23 l24 l25) 3 (Ref.mk (⟨#[65]⟩) (⟨#[97]⟩))).bind fun r26=>
 if r26.2=0 then
 (gN N r26.1 5).bind fun r28=>
 if r28.2.2.2=0 then
 (we (uR N r28)) (!decide (r28.2.1=1))
 else
 (we (uR N r28)) true
 else
 some false
def uD (N:Nat)  : Option Bool:=
 (jI N (ae.mk [] [] []) 3 0 (⟨#[99]⟩) 1 [(ah.mk (Ref.mk (⟨#[65]⟩) (⟨#[97]⟩)) (⟨#[109]⟩) []),(ah.mk (Ref.mk (⟨#[65]⟩) (⟨#[98]⟩)) (⟨#[109]⟩) [])]).bind fun r1=>
 if r1.2=0 then
 (jI N r1.1 5 0 (⟨#[99]⟩) 2 [(ah.mk (Ref.mk (⟨#[65]⟩) (⟨#[97]⟩)) (⟨#[109]⟩) [])]).bind fun r3=>
 if r3.2=0 then
 fL N (qL N) N (r3.1.Txns,r3.1.Locks,r3.1.Stacks,0)
 else
 some false
 else
 some false
def vJ (N:Nat) (a0:ae) (a1:Int):Option Int:=
 if (a0.Txns.length:Int)=0 then
 some 0
 else
 dvx (a0.Txns.length:Int) <|
 gx a0.Txns (Int.tmod (IntKind.i64.wrap a1) (a0.Txns.length:Int)) fun x2=>
 some x2.ID
def vx (N:Nat) (a0:Int):Option Ref:=
 sls (⟨#[97,98,99,100]⟩) (IntKind.i64.wrap (Int.tmod a0 4)) (IntKind.i64.wrap ((IntKind.i64.wrap (Int.tmod a0 4))+1)) fun s1=>
 some (Ref.mk (⟨#[65]⟩) s1)
def od (a0:aj) (N:Nat):Nat->List ah × Int->Option (List ah)
 | 0,_=>none
 | n+1,(l2,v3)=>
  if v3<=(IntKind.i64.wrap (Int.tmod a0.Who 4)) then
  shx (IntKind.u64.wrap (2 * (IntKind.u64.wrap (Int.tmod v3 4)))) <|
  (vx N (kd .u8 a0.Arg (IntKind.u64.wrap (2 * (IntKind.u64.wrap (Int.tmod v3 4)))))).bind fun r7=>
  apx 71 l2 [(ah.mk r7 (⟨#[109]⟩) [])] fun l8=>
  (od a0 N n) (l8,IntKind.i64.wrap (v3+1))
  else
  some l2
def wT (N:Nat) (a0:aj):Option (List ah):=
 od a0 N N ([],0)
def ja (N:Nat) (a0:Value):Option Value:=
 apn 7 a0.I <|
 apn 15 a0.L <|
 some a0
def jc (N:Nat):List Value->Nat->List Value->Option (List Value)
 | [],v3,l2=>
  some l2
 | x6::xs,v3,l2=>
  (ja N x6).bind fun r9=>
  apx 79 l2 [r9] fun l10=>
  (jc N xs (v3+1)) l10
def kJ (N:Nat) (a0:List Value):Option (List Value):=
 jc N a0 0 []
def jz (N:Nat):List ah->Nat->List ah->Option (List ah)
 | [],v3,l2=>
  some l2
 | x6::xs,v3,l2=>
  (kJ N x6.Args).bind fun r9=>
  apx 71 l2 [(ah.mk x6.Target x6.Method r9)] fun l10=>
  (jz N xs (v3+1)) l10
def lV (N:Nat) (a0:List ah):Option (List ah):=
 jz N a0 0 []
def pQ (N:Nat) (a0:Txn):Option Txn:=
 (lV N a0.Calls).bind fun r1=>
 (ja N a0.Last).bind fun r2=>
 some (Txn.mk a0.ID a0.Born a0.Client a0.Seq r1 a0.Done r2)
def pR (a1:Int) (N:Nat):List Txn->Nat->Unit->Option (Txn × Bool)
 | [],v2,()=>
  some ((Txn.mk 0 0 (⟨#[]⟩) 0 [] 0 (Value.mk 0 0 (⟨#[]⟩) [] [])),false)
 | x5::xs,v2,()=>
  if x5.ID=a1 then
  (pQ N x5).bind fun r8=>
  some (r8,true)
  else
  (pR a1 N xs (v2+1)) ()
def zi (N:Nat) (a0:ae) (a1:Int):Option (Txn × Bool):=
 pR a1 N a0.Txns 0 ()
def wu (N:Nat) (a0:Ref) (a1:Ref):Option Bool:=
 if (sLt a0.Type_ a1.Type_)=true then
 some true
 else
 if (sEq a0.Type_ a1.Type_)=true then
 some (sLt a0.Key a1.Key)
 else
 some false
def pf (rec11:Int->Option (List Ref)) (v10:Int) (kx9:Int->Option (List Ref)) (c16:Bool):Option (List Ref):=
 if c16=true then
 rec11 (IntKind.i64.wrap (v10 - 1))
 else
 kx9 v10
def jk (l2:List Ref) (N:Nat) (x6:ah) (kx9:Int->Option (List Ref)):Nat->Int->Option (List Ref)
 | 0,_=>none
 | n+1,v10=>
  if 0 < v10 then
  gx l2 (IntKind.i64.wrap (v10 - 1)) fun x14=>
  (wu N x14 x6.Target).bind fun r15=>
  (pf (jk l2 N x6 kx9 n) v10 kx9) (!r15)
  else
  (pf (jk l2 N x6 kx9 n) v10 kx9) false
def o8 (rec4:List Ref->Option (List Ref)) (l2:List Ref) (kx18:Option (List Ref)) (c21:Bool):Option (List Ref):=
 if c21=true then
 rec4 l2
 else
 kx18
def kV (l2:List Ref) (v17:Int) (x6:ah) (rec4:List Ref->Option (List Ref)):Option (List Ref):=
 slx l2 v17 (l2.length:Int) fun l22=>
 apn 31 ((l2.drop ((v17).toNat)).take (l2.length - (v17).toNat)) <|
 slt l2 v17 fun l23=>
 apx 31 (l2.take ((v17).toNat)) [x6.Target] fun l24=>
 apx 31 l24 ((l2.drop ((v17).toNat)).take (l2.length - (v17).toNat)) fun l25=>
 rec4 l25
def tj (l2:List Ref) (rec4:List Ref->Option (List Ref)) (x6:ah) (v17:Int):Option (List Ref):=
 if v17 < (l2.length:Int) then
 gx l2 v17 fun x20=>
 (o8 rec4 l2 (kV l2 v17 x6 rec4)) (sEq x20.Type_ x6.Target.Type_ && sEq x20.Key x6.Target.Key)
 else
 (o8 rec4 l2 (kV l2 v17 x6 rec4)) false
def fq (N:Nat):List ah->Nat->List Ref->Option (List Ref)
 | [],v3,l2=>
  some l2
 | x6::xs,v3,l2=>
  jk l2 N x6 (tj l2 (fq N xs (v3+1)) x6) N (l2.length:Int)
def ua (N:Nat) (a0:List ah):Option (List Ref):=
 fq N a0 0 []
def lB (N:Nat) (a0:Txn):Option (List Ref):=
 (ua N a0.Calls).bind fun r1=>
 some r1
def kr (N:Nat) (a0:ae) (a1:Int) (a2:Int):Option Ref:=
 (zi N a0 a1).bind fun r1=>
 (lB N r1.1).bind fun r2=>
 if (r2.length:Int)=0 then
 (vx N a2).bind fun r4=>
 some r4
 else
 dvx (r2.length:Int) <|
 gx r2 (Int.tmod (IntKind.i64.wrap a2) (r2.length:Int)) fun x5=>
 some x5
def tX (N:Nat) (a0:ae) (r1:Int) (a2:aj) (c17:Bool):Option (ae × (List aD)):=
 if c17=true then
 (kr N a0 r1 a2.Arg).bind fun r18=>
 (fu N a0 r1 r18).bind fun r19=>
 if r19.2=0 then
 some (r19.1,[])
 else
 some (a0,[])
 else
 if 0 < (Int.tmod a2.Arg 4) then
 (lq N a0).bind fun r21=>
 some (r21.1,r21.2)
 else
 (ky N a0 r1).bind fun r22=>
 if r22.2.2=0 then
 some (r22.1,[])
 else
 some (a0,[])
def pU (N:Nat) (a0:ae) (r1:Int) (a2:aj) (c8:Bool):Option (ae × (List aD)):=
 if c8=true then
 (gN N a0 r1).bind fun r9=>
 if r9.2.2.2=0 then
 if r9.2.1=1 then
 (lj N a2.N).bind fun r13=>
 (lj N a2.N).bind fun r14=>
 (jm N r9.1 r1 [r13] r14).bind fun r15=>
 if r15.2=0 then
 some (r15.1,[])
 else
 some (r9.1,[])
 else
 some (r9.1,[])
 else
 some (a0,[])
 else
 if (Int.tmod a2.Kind 8)=5 then
 (tX N a0 r1 a2) true
 else
 (tX N a0 r1 a2) (decide ((Int.tmod a2.Kind 8)=6))
def uk (N:Nat) (a2:aj) (a0:ae) (a1:Int) (r1:Int) (c4:Bool):Option (ae × (List aD)):=
 if c4=true then
 (wT N a2).bind fun r5=>
 (jI N a0 (IntKind.i64.wrap (a1+1)) a1 (⟨#[99]⟩) (IntKind.i64.wrap (a1+1)) r5).bind fun r6=>
 if r6.2=0 then
 some (r6.1,[])
 else
 some (a0,[])
 else
 if (Int.tmod a2.Kind 8)=2 then
 (pU N a0 r1 a2) true
 else
 if (Int.tmod a2.Kind 8)=3 then
 (pU N a0 r1 a2) true
 else
 (pU N a0 r1 a2) (decide ((Int.tmod a2.Kind 8)=4))
def vX (N:Nat) (a0:ae) (a1:Int) (a2:aj):Option (ae × (List aD)):=
 (vJ N a0 a2.Who).bind fun r1=>
 if (Int.tmod a2.Kind 8)=0 then
 (uk N a2 a0 a1 r1) true
 else
 (uk N a2 a0 a1 r1) (decide ((Int.tmod a2.Kind 8)=1))
def k9 (N:Nat):List aj->Nat->List Txn × List ai × List aa × List aD->Option (ae × (List aD))
 | [],v6,(l2,l3,l4,l5)=>
  some ((ae.mk l2 l3 l4),l5)
 | x9::xs,v6,(l2,l3,l4,l5)=>
  (vX N (ae.mk l2 l3 l4) (v6:Int) x9).bind fun r12=>
  apx 135 l5 r12.2 fun l13=>
  (k9 N xs (v6+1)) (r12.1.Txns,r12.1.Locks,r12.1.Stacks,l13)
def uB (N:Nat) (a0:List aj):Option (ae × (List aD)):=
 k9 N a0 0 ([],[],[],[])
def qb (kx11:Option Bool) (kx5:(List Txn)->(List ai)->(List aa)->Option Bool) (l6:List Txn) (l7:List ai) (l8:List aa) (c13:Bool):Option Bool:=
 if c13=true then
 kx11
 else
 kx5 l6 l7 l8
def lF (kx15:(List Txn)->(List ai)->(List aa)->Option Bool) (l31:List Txn) (l32:List ai) (l33:List aa):Option Bool:=
 kx15 l31 l32 l33
def gh (kx35:(List Txn)->(List ai)->(List aa)->Bool->Option Bool) (N:Nat) (x23:Txn):List Ref->Nat->List Txn × List ai × List aa × Bool->Option Bool
 | [],v41,(l37,l38,l39,c40)=>
  kx35 l37 l38 l39 c40
 | x44::xs,v41,(l37,l38,l39,c40)=>
  (fu N (ae.mk l37 l38 l39) x23.ID x44).bind fun r47=>
  if r47.2=0 then
  (gh kx35 N x23 xs (v41+1)) (r47.1.Txns,r47.1.Locks,r47.1.Stacks,true)
  else
  (gh kx35 N x23 xs (v41+1)) (l37,l38,l39,c40)
def qm (kx15:(List Txn)->(List ai)->(List aa)->Option Bool) (rec20:(List Txn × List ai × List aa × Int)->Option Bool) (v19:Int) (l52:List Txn) (l53:List ai) (l54:List aa) (c55:Bool):Option Bool:=
 if c55=true then
 kx15 l52 l53 l54
 else
 rec20 (l52,l53,l54,IntKind.i64.wrap (v19+1))
def fa (N:Nat) (kx15:(List Txn)->(List ai)->(List aa)->Option Bool):Nat->List Txn × List ai × List aa × Int->Option Bool
 | 0,_=>none
 | n+1,(l16,l17,l18,v19)=>
  if v19 < (l16.length:Int) then
  gx l16 v19 fun x23=>
  (mD N (ae.mk l16 l17 l18) x23.ID).bind fun r25=>
  if r25.2=true then
  (gN N (ae.mk l16 l17 l18) x23.ID).bind fun r26=>
  if r26.2.2.2=0 then
  if r26.2.1=2 then
  (fa N kx15 n) (r26.1.Txns,r26.1.Locks,r26.1.Stacks,IntKind.i64.wrap (v19+1))
  else
  if r26.2.1=1 then
  (jm N r26.1 x23.ID [] (Value.mk 0 0 (⟨#[]⟩) [] [])).bind fun r30=>
  if r30.2=0 then
  (lF kx15) r30.1.Txns r30.1.Locks r30.1.Stacks
  else
  some false
  else
  (lF kx15) r26.1.Txns r26.1.Locks r26.1.Stacks
  else
  some false
  else
  (tG N (ae.mk l16 l17 l18) x23.ID).bind fun r34=>
  (gB N r34.1).bind fun r36=>
  gh (qm kx15 (fa N kx15 n) v19) N x23 r36 0 (l16,l17,l18,false)
  else
  kx15 l16 l17 l18
def qk (N:Nat) (rec10:(List Txn × List ai × List aa × Int)->Option Bool) (v9:Int) (l59:List Txn) (l60:List ai) (l61:List aa):Option Bool:=
 (lq N (ae.mk l59 l60 l61)).bind fun r62=>
 rec10 (r62.1.Txns,r62.1.Locks,r62.1.Stacks,IntKind.i64.wrap (v9+1))
def qH (N:Nat) (rec10:(List Txn × List ai × List aa × Int)->Option Bool) (v9:Int) (l6:List Txn) (l7:List ai) (l8:List aa):Option Bool:=
 fa N (qk N rec10 v9) N (l6,l7,l8,0)
def gb (N:Nat) (kx5:(List Txn)->(List ai)->(List aa)->Option Bool):Nat->List Txn × List ai × List aa × Int->Option Bool
 | 0,_=>none
 | n+1,(l6,l7,l8,v9)=>
  if v9 < 400 then
  (qb (qH N (gb N kx5 n) v9 l6 l7 l8) kx5 l6 l7 l8) (decide (0 < (l6.length:Int)))
  else
  (qb (qH N (gb N kx5 n) v9 l6 l7 l8) kx5 l6 l7 l8) false
def lK (l66:List Txn) (l67:List ai) (l68:List aa):Option Bool:=
 if (l66.length:Int)=0 then
 if (l67.length:Int)=0 then
 some (decide ((l68.length:Int)=0))
 else
 some false
 else
 some false
def lZ (N:Nat) (a0:List aj):Option Bool:=
 (uD N).bind fun r2=>
 if r2=true then
 if 60 < (a0.length:Int) then
 some true
 else
 (uB N a0).bind fun r4=>
 gb N lK N (r4.1.Txns,r4.1.Locks,r4.1.Stacks,0)
 else
 some false
end
end Go.Proofs.YtmacaidmhchpgaaGreat
