/- The models of the functions. No statement. -/
import Derived.Test.YtmacaidmhchpgaaGreatT
/- The functions of the program as plain functions on plain data. -/
set_option maxHeartbeats 40000000
set_option synthInstance.maxHeartbeats 2000000
set_option synthInstance.maxSize 4000
set_option linter.unusedSimpArgs false
set_option linter.unusedVariables false
set_option maxRecDepth 100000
namespace Go.Proofs.YtmacaidmhchpgaaGreat
open Go Go.Proofs Go.Abs
noncomputable section
def qU (kx1:Option Bool) (c3:Bool):Option Bool:=
 if c3=true then
 some false
 else
 kx1
def qS (kx7:Bool->Option Bool) (a0:Value) (c11:Bool):Option Bool:=
 if c11=true then
 kx7 true
 else
 if 0 < (a0.L.length:Int) then
 kx7 (!decide (a0.Kind=5))
 else
 kx7 false
def ql (kx7:Bool->Option Bool) (a0:Value) (c9:Bool):Option Bool:=
 if c9=true then
 kx7 true
 else
 if 0 < (a0.I.length:Int) then
 (qS kx7 a0) (!decide (a0.Kind=4))
 else
 (qS kx7 a0) false
def qx (kx4:Option Bool) (c12:Bool):Option Bool:=
 if c12=true then
 some false
 else
 kx4
def jH (a0:Value) (kx4:Option Bool) (c6:Bool):Option Bool:=
 if c6=true then
 some false
 else
 if (sEq a0.S (⟨#[]⟩))=true then
 (ql (qx kx4) a0) false
 else
 (ql (qx kx4) a0) (!decide (a0.Kind=3))
def lK (kx13:Option Bool) (c15:Bool):Option Bool:=
 if c15=true then
 some false
 else
 kx13
def jx  : List ByteArray->Nat->Unit->Option Bool
 | [],v17,()=>
  some true
 | x20::xs,v17,()=>
  if 64 < (x20.size:Int) then
  some false
  else
  (jx xs (v17+1)) ()
def lM (a0:Value):Option Bool:=
 jx a0.L 0 ()
def jF (a0:Value):Option Bool:=
 if 64 < (a0.S.size:Int) then
 (lK (lM a0)) true
 else
 if 16 < (a0.I.length:Int) then
 (lK (lM a0)) true
 else
 (lK (lM a0)) (decide (16 < (a0.L.length:Int)))
def qj (a0:Value) (N:Nat):Option Bool:=
 if a0.N=0 then
 (jH a0 (jF a0)) false
 else
 if a0.Kind=1 then
 (jH a0 (jF a0)) false
 else
 if a0.Kind=2 then
 (jH a0 (jF a0)) (!decide (a0.N=1))
 else
 (jH a0 (jF a0)) true
def gS (N:Nat) (a0:Value):Option Bool:=
 if a0.Kind < 0 then
 (qU (qj a0 N)) true
 else
 (qU (qj a0 N)) (decide (5 < a0.Kind))
def mn (N:Nat) (a0:Value):Option Bool:=
 if a0.Kind=0 then
 some true
 else
 (gS N a0).bind fun r2=>
 some (!r2)
def b8 (N:Nat):List Value->Nat->Unit->Option Int
 | [],v2,()=>
  some (-1)
 | x5::xs,v2,()=>
  (mn N x5).bind fun r8=>
  if r8=true then
  some (v2:Int)
  else
  (b8 N xs (v2+1)) ()
def dA (N:Nat) (a0:List Value):Option Int:=
 b8 N a0 0 ()
def bu (N:Nat) (a0:List Value):Option Bool:=
 (dA N a0).bind fun r1=>
 some (decide (0<=r1))
def iH (kx1:Option Bool) (c3:Bool):Option Bool:=
 if c3=true then
 some false
 else
 kx1
def iz (N:Nat) (a0:ah):Option Bool:=
 (bu N a0.Args).bind fun r4=>
 some (!r4)
def p7 (N:Nat) (a0:ah):Option Bool:=
 if (a0.Target.Type_.size:Int) < 1 then
 (iH (iz N a0)) true
 else
 if 32 < (a0.Target.Type_.size:Int) then
 (iH (iz N a0)) true
 else
 if 32 < (a0.Target.Key.size:Int) then
 (iH (iz N a0)) true
 else
 if (a0.Method.size:Int) < 1 then
 (iH (iz N a0)) true
 else
 if 32 < (a0.Method.size:Int) then
 (iH (iz N a0)) true
 else
 (iH (iz N a0)) (decide (4 < (a0.Args.length:Int)))
def oc (N:Nat) (a0:ah):Option Bool:=
 (p7 N a0).bind fun r1=>
 some (!r1)
def bF (N:Nat):List ah->Nat->Unit->Option Int
 | [],v2,()=>
  some (-1)
 | x5::xs,v2,()=>
  (oc N x5).bind fun r8=>
  if r8=true then
  some (v2:Int)
  else
  (bF N xs (v2+1)) ()
def b9 (N:Nat) (a0:List ah):Option Int:=
 bF N a0 0 ()
def bn (N:Nat) (a0:List ah):Option Bool:=
 (b9 N a0).bind fun r1=>
 some (decide (0<=r1))
def fT (kx1:Option Bool) (c3:Bool):Option Bool:=
 if c3=true then
 some false
 else
 kx1
def gT (kx4:Option Bool) (c7:Bool):Option Bool:=
 if c7=true then
 some false
 else
 kx4
def gU (N:Nat) (a0:Txn):Option Bool:=
 (bn N a0.Calls).bind fun r8=>
 some (!r8)
def fR (a0:Txn) (N:Nat):Option Bool:=
 if (a0.Calls.length:Int) < 1 then
 (gT (gU N a0)) true
 else
 if 4 < (a0.Calls.length:Int) then
 (gT (gU N a0)) true
 else
 if a0.Done < 0 then
 (gT (gU N a0)) true
 else
 if (a0.Calls.length:Int) < a0.Done then
 (gT (gU N a0)) true
 else
 (gS N a0.Last).bind fun r6=>
 if r6=true then
 if a0.Done=0 then
 (gT (gU N a0)) (!decide (a0.Last.Kind=0))
 else
 (gT (gU N a0)) false
 else
 (gT (gU N a0)) true
def oM (N:Nat) (a0:Txn):Option Bool:=
 if a0.ID < 1 then
 (fT (fR a0 N)) true
 else
 if 1099511627776 < a0.ID then
 (fT (fR a0 N)) true
 else
 if a0.Born < 0 then
 (fT (fR a0 N)) true
 else
 if 1099511627776 < a0.Born then
 (fT (fR a0 N)) true
 else
 if (a0.Client.size:Int) < 1 then
 (fT (fR a0 N)) true
 else
 if 32 < (a0.Client.size:Int) then
 (fT (fR a0 N)) true
 else
 if a0.Seq < 1 then
 (fT (fR a0 N)) true
 else
 ((fT (fR a0 N)) (decide (1099511627776 < a0.Seq)))
def ld (rec3:Unit->Option Bool) (c11:Bool):Option Bool:=
 if c11=true then
 some false
 else
 rec3 ()
def gB (a0:ae) (N:Nat):List Txn->Nat->Unit->Option Bool
 | [],v2,()=>
  some (decide ((a0.Txns.length:Int)<=32))
 | x5::xs,v2,()=>
  (oM N x5).bind fun r9=>
  if r9=true then
  if 0 < (v2:Int) then
  gx a0.Txns (IntKind.i64.wrap ((v2:Int) - 1)) fun x10=>
  (ld (gB a0 N xs (v2+1))) (decide (x5.ID<=x10.ID))
  else
  (ld (gB a0 N xs (v2+1))) false
  else
  (ld (gB a0 N xs (v2+1))) true
def ub (N:Nat) (a0:ae):Option Bool:=
 gB a0 N a0.Txns 0 ()
def ig (N:Nat) (a0:Ref):Option Bool:=
 if 1<=(a0.Type_.size:Int) then
 if (a0.Type_.size:Int)<=32 then
 some (decide ((a0.Key.size:Int)<=32))
 else
 some false
 else
 some false
def js (N:Nat) (a0:Int):Option Bool:=
 if 1<=a0 then
 some (decide (a0<=1099511627776))
 else
 some false
def lP (kx1:Option Bool) (c5:Bool):Option Bool:=
 if c5=true then
 some false
 else
 kx1
def ir (rec8:Unit->Option Bool) (c15:Bool):Option Bool:=
 if c15=true then
 some false
 else
 rec8 ()
def eY (a0:ai):List Int->Nat->Unit->Option Bool
 | [],v7,()=>
  some true
 | x10::xs,v7,()=>
  if x10 < 1 then
  (ir (eY a0 xs (v7+1))) true
  else
  if a0.Owner<=x10 then
  (ir (eY a0 xs (v7+1))) true
  else
  if 0 < (v7:Int) then
  gx a0.Waiters (IntKind.i64.wrap ((v7:Int) - 1)) fun x14=>
  (ir (eY a0 xs (v7+1))) (decide (x10<=x14))
  else
  (ir (eY a0 xs (v7+1))) false
def lN (a0:ai):Option Bool:=
 eY a0 a0.Waiters 0 ()
def mg (N:Nat) (a0:ai):Option Bool:=
 (ig N a0.Actor).bind fun r3=>
 if r3=true then
 (js N a0.Owner).bind fun r4=>
 if r4=true then
 (lP (lN a0)) (decide (32 < (a0.Waiters.length:Int)))
 else
 (lP (lN a0)) true
 else
 (lP (lN a0)) true
def kW (N:Nat) (a0:ByteArray):Option Bool:=
 some (!(sEq a0 a0))
def fb (N:Nat) (a0:ByteArray) (a1:ByteArray):Option Int:=
 (kW N a0).bind fun r1=>
 (kW N a1).bind fun r2=>
 if r1=true then
 if r2=true then
 some 0
 else
 some (-1)
 else
 if r2=true then
 some 1
 else
 if (sLt a0 a1)=true then
 some (-1)
 else
 if (sLt a0 a1 || sEq a0 a1)=true then
 some 0
 else
 some 1
def pV  : List Int->Nat->Unit->Option Int
 | [],v2,()=>
  some 0
 | x5::xs,v2,()=>
  if x5=0 then
  (pV xs (v2+1)) ()
  else
  some x5
def tO (N:Nat) (a0:List Int):Option Int:=
 pV a0 0 ()
def mC (N:Nat) (a0:Ref) (a1:Ref):Option Int:=
 (fb N a0.Type_ a1.Type_).bind fun r1=>
 (fb N a0.Key a1.Key).bind fun r2=>
 (tO N [r1,r2]).bind fun r3=>
 some r3
def oh (rec4:Unit->Option Bool) (c13:Bool):Option Bool:=
 if c13=true then
 some false
 else
 rec4 ()
def jv (N:Nat) (a0:List ai):List ai->Nat->Unit->Option Bool
 | [],v3,()=>
  some true
 | x6::xs,v3,()=>
  (mg N x6).bind fun r10=>
  if r10=true then
  if 0 < (v3:Int) then
  gx a0 (IntKind.i64.wrap ((v3:Int) - 1)) fun x11=>
  (mC N x11.Actor x6.Actor).bind fun r12=>
  (oh (jv N a0 xs (v3+1))) (decide (0<=r12))
  else
  (oh (jv N a0 xs (v3+1))) false
  else
  (oh (jv N a0 xs (v3+1))) true
def ji (N:Nat) (a0:List ai):Option Bool:=
 if 128 < (a0.length:Int) then
 some false
 else
 jv N a0 a0 0 ()
def w7 (N:Nat) (a0:Txn) (c0_0:Int):Option Bool:=
 some (decide (a0.ID=c0_0))
def dO (N:Nat) (k1_0_0:Int):List Txn->Nat->Unit->Option Int
 | [],v2,()=>
  some (-1)
 | x5::xs,v2,()=>
  (w7 N x5 k1_0_0).bind fun r8=>
  if r8=true then
  some (v2:Int)
  else
  (dO N k1_0_0 xs (v2+1)) ()
def eE (N:Nat) (a0:List Txn) (k1_0_0:Int):Option Int:=
 dO N k1_0_0 a0 0 ()
def eW (N:Nat) (a0:ae) (a1:Int):Option Int:=
 (eE N a0.Txns a1).bind fun r1=>
 some r1
def lx (N:Nat) (a0:Int) (c0_0:List Txn) (c0_1:List ai) (c0_2:List aa):Option Bool:=
 (eW N (ae.mk c0_0 c0_1 c0_2) a0).bind fun r1=>
 some (decide (r1 < 0))
def dj (N:Nat) (k1_0_0:List Txn) (k1_0_1:List ai) (k1_0_2:List aa):List Int->Nat->Unit->Option Int
 | [],v2,()=>
  some (-1)
 | x5::xs,v2,()=>
  (lx N x5 k1_0_0 k1_0_1 k1_0_2).bind fun r8=>
  if r8=true then
  some (v2:Int)
  else
  (dj N k1_0_0 k1_0_1 k1_0_2 xs (v2+1)) ()
def dI (N:Nat) (a0:List Int) (k1_0_0:List Txn) (k1_0_1:List ai) (k1_0_2:List aa):Option Int:=
 dj N k1_0_0 k1_0_1 k1_0_2 a0 0 ()
def dc (N:Nat) (a0:List Int) (k1_0_0:List Txn) (k1_0_1:List ai) (k1_0_2:List aa):Option Bool:=
 (dI N a0 k1_0_0 k1_0_1 k1_0_2).bind fun r1=>
 some (decide (0<=r1))
def wN (rec5:Unit->Option Bool) (c13:Bool):Option Bool:=
 if c13=true then
 some false
 else
 rec5 ()
def iW (N:Nat) (a0:ae):List ai->Nat->Unit->Option Bool
 | [],v4,()=>
  some true
 | x7::xs,v4,()=>
  (eW N a0 x7.Owner).bind fun r11=>
  if r11 < 0 then
  (wN (iW N a0 xs (v4+1))) true
  else
  (dc N x7.Waiters a0.Txns a0.Locks a0.Stacks).bind fun r12=>
  (wN (iW N a0 xs (v4+1))) r12
def oD (N:Nat) (a0:ae):Option Bool:=
 (ji N a0.Locks).bind fun r2=>
 if r2=true then
 iW N a0 a0.Locks 0 ()
 else
 some false
def kn (N:Nat) (a0:Value):Option Bool:=
 (gS N a0).bind fun r1=>
 some (!r1)
def bL (N:Nat):List Value->Nat->Unit->Option Int
 | [],v2,()=>
  some (-1)
 | x5::xs,v2,()=>
  (kn N x5).bind fun r8=>
  if r8=true then
  some (v2:Int)
  else
  (bL N xs (v2+1)) ()
def dg (N:Nat) (a0:List Value):Option Int:=
 bL N a0 0 ()
def bQ (N:Nat) (a0:List Value):Option Bool:=
 (dg N a0).bind fun r1=>
 some (decide (0<=r1))
def ke (N:Nat) (a0:List Value):Option Bool:=
 if (a0.length:Int)<=8 then
 (bQ N a0).bind fun r2=>
 some (!r2)
 else
 some false
def kz (N:Nat) (a0:al) (c0_0:Int) (c0_1:List Value) (c0_2:Bool):Option Bool:=
 some (decide (a0.Txn_=c0_0))
def bN (N:Nat) (k1_0_0:Int) (k1_0_1:List Value) (k1_0_2:Bool):List al->Nat->Unit->Option Int
 | [],v2,()=>
  some (-1)
 | x5::xs,v2,()=>
  (kz N x5 k1_0_0 k1_0_1 k1_0_2).bind fun r8=>
  if r8=true then
  some (v2:Int)
  else
  (bN N k1_0_0 k1_0_1 k1_0_2 xs (v2+1)) ()
def de (N:Nat) (a0:List al) (k1_0_0:Int) (k1_0_1:List Value) (k1_0_2:Bool):Option Int:=
 bN N k1_0_0 k1_0_1 k1_0_2 a0 0 ()
def aX (N:Nat) (a0:List al) (k1_0_0:Int) (k1_0_1:List Value) (k1_0_2:Bool):Option Bool:=
 (de N a0 k1_0_0 k1_0_1 k1_0_2).bind fun r1=>
 some (decide (0<=r1))
def jJ (rec3:Unit->Option Bool) (c15:Bool):Option Bool:=
 if c15=true then
 some false
 else
 rec3 ()
def eu (a1:List al) (N:Nat) (a0:ae):List al->Nat->Unit->Option Bool
 | [],v2,()=>
  some (decide (0 < (a1.length:Int)))
 | x5::xs,v2,()=>
  (eW N a0 x5.Txn_).bind fun r9=>
  if r9 < 0 then
  (jJ (eu a1 N a0 xs (v2+1))) true
  else
  (ke N x5.Fields).bind fun r10=>
  if r10=true then
  if x5.Prepared=true then
  slx a1 0 (v2:Int) fun l11=>
  (aX N l11 x5.Txn_ x5.Fields x5.Prepared).bind fun r12=>
  (jJ (eu a1 N a0 xs (v2+1))) r12
  else
  if (v2:Int) < (IntKind.i64.wrap ((a1.length:Int) - 1)) then
  (jJ (eu a1 N a0 xs (v2+1))) true
  else
  slx a1 0 (v2:Int) fun l13=>
  (aX N l13 x5.Txn_ x5.Fields x5.Prepared).bind fun r14=>
  (jJ (eu a1 N a0 xs (v2+1))) r14
  else
  (jJ (eu a1 N a0 xs (v2+1))) true
def jZ (N:Nat) (a0:ae) (a1:List al):Option Bool:=
 eu a1 N a0 a1 0 ()
def oX (N:Nat) (a0:ai) (a1:Ref):Option Int:=
 (mC N a0.Actor a1).bind fun r1=>
 some r1
def aY (a0:List ai) (N:Nat) (a1:Ref) (kx1:Int->Option (Int × Bool)):Nat->Int × Int->Option (Int × Bool)
 | 0,_=>none
 | n+1,(v2,v3)=>
  if v2 < v3 then
  gx a0 (IntKind.i64.wrap (jW .u64 (IntKind.u64.wrap (IntKind.i64.wrap (v2+v3))) 1)) fun x6=>
  (oX N x6 a1).bind fun r7=>
  if r7 < 0 then
  (aY a0 N a1 kx1 n) (IntKind.i64.wrap ((IntKind.i64.wrap (jW .u64 (IntKind.u64.wrap (IntKind.i64.wrap (v2+v3))) 1))+1),v3)
  else
  (aY a0 N a1 kx1 n) (v2,IntKind.i64.wrap (jW .u64 (IntKind.u64.wrap (IntKind.i64.wrap (v2+v3))) 1))
  else
  kx1 v2
def dN (a0:List ai) (N:Nat) (a1:Ref) (v8:Int):Option (Int × Bool):=
 if v8 < (a0.length:Int) then
 gx a0 v8 fun x10=>
 (oX N x10 a1).bind fun r11=>
 some (v8,(decide (r11=0)))
 else
 some (v8,false)
def dp (N:Nat) (a0:List ai) (a1:Ref):Option (Int × Bool):=
 aY a0 N a1 (dN a0 N a1) N (0,(a0.length:Int))
def qk (N:Nat) (a0:List ai) (a1:Ref):Option (Int × Bool):=
 (dp N a0 a1).bind fun r1=>
 some (r1.1,r1.2)
def m7 (N:Nat) (a0:List ai) (a1:Ref):Option Int:=
 (ji N a0).bind fun r2=>
 if r2=true then
 (qk N a0 a1).bind fun r4=>
 if r4.2=true then
 gx a0 r4.1 fun x5=>
 some x5.Owner
 else
 some 0
 else
 some 0
def uk (N:Nat) (a0:ah) (c0_0:ByteArray) (c0_1:ByteArray):Option Bool:=
 some (sEq a0.Target.Type_ c0_0 && sEq a0.Target.Key c0_1)
def bP (N:Nat) (k1_0_0:ByteArray) (k1_0_1:ByteArray):List ah->Nat->Unit->Option Int
 | [],v2,()=>
  some (-1)
 | x5::xs,v2,()=>
  (uk N x5 k1_0_0 k1_0_1).bind fun r8=>
  if r8=true then
  some (v2:Int)
  else
  (bP N k1_0_0 k1_0_1 xs (v2+1)) ()
def dh (N:Nat) (a0:List ah) (k1_0_0:ByteArray) (k1_0_1:ByteArray):Option Int:=
 bP N k1_0_0 k1_0_1 a0 0 ()
def bO (N:Nat) (a0:List ah) (k1_0_0:ByteArray) (k1_0_1:ByteArray):Option Bool:=
 (dh N a0 k1_0_0 k1_0_1).bind fun r1=>
 some (decide (0<=r1))
def m8 (N:Nat) (a0:List ah) (a1:Ref):Option Bool:=
 (bO N a0 a1.Type_ a1.Key).bind fun r1=>
 some r1
def gE (N:Nat) (a0:Ref) (a1:Ref):Option Int:=
 (fb N a0.Type_ a1.Type_).bind fun r1=>
 (fb N a0.Key a1.Key).bind fun r2=>
 (tO N [r1,r2]).bind fun r3=>
 some r3
def ju (kx8:Option Bool) (c14:Bool):Option Bool:=
 if c14=true then
 some false
 else
 kx8
def lV (kx16:Option Bool) (c19:Bool):Option Bool:=
 if c19=true then
 some false
 else
 kx16
def jG (rec21:Unit->Option Bool) (c31:Bool):Option Bool:=
 if c31=true then
 some false
 else
 rec21 ()
def eX (rec3:Unit->Option Bool) (N:Nat) (a0:ae) (x5:aa):List al->Nat->Unit->Option Bool
 | [],v20,()=>
  rec3 ()
 | x23::xs,v20,()=>
  (eW N a0 x23.Txn_).bind fun r26=>
  gx a0.Txns r26 fun x27=>
  slx x27.Calls 0 x27.Done fun l29=>
  (m8 N l29 x5.Actor).bind fun r30=>
  if r30=true then
  if x23.Prepared=true then
  (jG (eX rec3 N a0 x5 xs (v20+1))) (decide (x27.Done < (x27.Calls.length:Int)))
  else
  (jG (eX rec3 N a0 x5 xs (v20+1))) false
  else
  (jG (eX rec3 N a0 x5 xs (v20+1))) true
def lI (rec3:Unit->Option Bool) (N:Nat) (a0:ae) (x5:aa):Option Bool:=
 eX rec3 N a0 x5 x5.Layers 0 ()
def jA (x5:aa) (rec3:Unit->Option Bool) (N:Nat) (a0:ae):Option Bool:=
 gx x5.Layers (IntKind.i64.wrap ((x5.Layers.length:Int) - 1)) fun x15=>
 if x15.Prepared=true then
 (lV (lI rec3 N a0 x5)) false
 else
 (m7 N a0.Locks x5.Actor).bind fun r18=>
 (lV (lI rec3 N a0 x5)) (!decide (r18=x15.Txn_))
def ew (a0:ae) (N:Nat):List aa->Nat->Unit->Option Bool
 | [],v2,()=>
  some true
 | x5::xs,v2,()=>
  if 0 < (v2:Int) then
  gx a0.Stacks (IntKind.i64.wrap ((v2:Int) - 1)) fun x10=>
  (gE N x10.Actor x5.Actor).bind fun r11=>
  if 0<=r11 then
  (ju (jA x5 (ew a0 N xs (v2+1)) N a0)) true
  else
  (jZ N a0 x5.Layers).bind fun r12=>
  (ju (jA x5 (ew a0 N xs (v2+1)) N a0)) (!r12)
  else
  (jZ N a0 x5.Layers).bind fun r13=>
  (ju (jA x5 (ew a0 N xs (v2+1)) N a0)) (!r13)
def mv (N:Nat) (a0:ae):Option Bool:=
 ew a0 N a0.Stacks 0 ()
def wW (N:Nat) (a0:aa) (c0_0:ByteArray) (c0_1:ByteArray):Option Bool:=
 some (sEq a0.Actor.Type_ c0_0 && sEq a0.Actor.Key c0_1)
def bT (N:Nat) (k1_0_0:ByteArray) (k1_0_1:ByteArray):List aa->Nat->Unit->Option Int
 | [],v2,()=>
  some (-1)
 | x5::xs,v2,()=>
  (wW N x5 k1_0_0 k1_0_1).bind fun r8=>
  if r8=true then
  some (v2:Int)
  else
  (bT N k1_0_0 k1_0_1 xs (v2+1)) ()
def du (N:Nat) (a0:List aa) (k1_0_0:ByteArray) (k1_0_1:ByteArray):Option Int:=
 bT N k1_0_0 k1_0_1 a0 0 ()
def lW (N:Nat) (a0:ae) (a1:Ref):Option Int:=
 (du N a0.Stacks a1.Type_ a1.Key).bind fun r1=>
 some r1
def s3 (a2:Int):List al->Nat->Unit->Option (al × Bool)
 | [],v4,()=>
  some ((al.mk 0 [] false),false)
 | x7::xs,v4,()=>
  if x7.Txn_=a2 then
  some (x7,true)
  else
  (s3 a2 xs (v4+1)) ()
def jb (N:Nat) (a0:ae) (a1:Ref) (a2:Int):Option (al × Bool):=
 (lW N a0 a1).bind fun r2=>
 if 0<=r2 then
 gx a0.Stacks r2 fun x3=>
 s3 a2 x3.Layers 0 ()
 else
 some ((al.mk 0 [] false),false)
def gv (rec3:Unit->Option Bool) (N:Nat) (a0:ae) (x5:Txn):List ah->Nat->Unit->Option Bool
 | [],v9,()=>
  rec3 ()
 | x12::xs,v9,()=>
  (jb N a0 x12.Target x5.ID).bind fun r15=>
  if r15.2=true then
  (gv rec3 N a0 x5 xs (v9+1)) ()
  else
  some false
def iO (kx1:Option Bool) (N:Nat) (a0:ae):List Txn->Nat->Unit->Option Bool
 | [],v2,()=>
  kx1
 | x5::xs,v2,()=>
  slx x5.Calls 0 x5.Done fun l8=>
  gv (iO kx1 N a0 xs (v2+1)) N a0 x5 l8 0 ()
def eU (kx26:Option Bool) (c29:Bool):Option Bool:=
 if c29=true then
 some false
 else
 kx26
def mW (rec31:Unit->Option Bool) (c40:Bool):Option Bool:=
 if c40=true then
 some false
 else
 rec31 ()
def eZ (rec18:Unit->Option Bool) (N:Nat) (a0:ae) (x20:ai):List Int->Nat->Unit->Option Bool
 | [],v30,()=>
  rec18 ()
 | x33::xs,v30,()=>
  (eW N a0 x33).bind fun r36=>
  gx a0.Txns r36 fun x37=>
  if x37.Done=(x37.Calls.length:Int) then
  (mW (eZ rec18 N a0 x20 xs (v30+1))) true
  else
  gx x37.Calls x37.Done fun x39=>
  (mW (eZ rec18 N a0 x20 xs (v30+1))) (!(sEq x39.Target.Type_ x20.Actor.Type_ && sEq x39.Target.Key x20.Actor.Key))
def fc (rec18:Unit->Option Bool) (N:Nat) (a0:ae) (x20:ai):Option Bool:=
 eZ rec18 N a0 x20 x20.Waiters 0 ()
def bH (N:Nat) (a0:ae):List ai->Nat->Unit->Option Bool
 | [],v17,()=>
  some true
 | x20::xs,v17,()=>
  (eW N a0 x20.Owner).bind fun r23=>
  gx a0.Txns r23 fun x24=>
  (jb N a0 x20.Actor x24.ID).bind fun r25=>
  if x24.Done < (x24.Calls.length:Int) then
  if r25.2=true then
  (eU (fc (bH N a0 xs (v17+1)) N a0 x20)) false
  else
  gx x24.Calls x24.Done fun x28=>
  (eU (fc (bH N a0 xs (v17+1)) N a0 x20)) (!(sEq x28.Target.Type_ x20.Actor.Type_ && sEq x28.Target.Key x20.Actor.Key))
  else
  if r25.2=true then
  if r25.1.Prepared=true then
  (eU (fc (bH N a0 xs (v17+1)) N a0 x20)) true
  else
  (eU (fc (bH N a0 xs (v17+1)) N a0 x20)) false
  else
  (eU (fc (bH N a0 xs (v17+1)) N a0 x20)) true
def mQ (N:Nat) (a0:ae):Option Bool:=
 bH N a0 a0.Locks 0 ()
def ki (N:Nat) (a0:ae):Option Bool:=
 iO (mQ N a0) N a0 a0.Txns 0 ()
def jd (a1:Int):List Int->Nat->Unit->Option Int
 | [],v2,()=>
  some (-1)
 | x5::xs,v2,()=>
  if a1=x5 then
  some (v2:Int)
  else
  (jd a1 xs (v2+1)) ()
def pj (N:Nat) (a0:List Int) (a1:Int):Option Int:=
 jd a1 a0 0 ()
def dy (N:Nat) (a0:List Int) (a1:Int):Option Bool:=
 (pj N a0 a1).bind fun r1=>
 some (decide (0<=r1))
def zy (kx15:Option Bool) (c17:Bool):Option Bool:=
 if c17=true then
 some false
 else
 kx15
def vC (c8:Bool) (rec10:Bool->Option Bool) (N:Nat) (a2:List Int) (x12:al):Option Bool:=
 if c8=true then
 rec10 true
 else
 (dy N a2 x12.Txn_).bind fun r18=>
 rec10 (!r18)
def jT (rec3:Unit->Option Bool) (a1:Int) (N:Nat) (a2:List Int):List al->Nat->Bool->Option Bool
 | [],v9,c8=>
  rec3 ()
 | x12::xs,v9,c8=>
  if x12.Txn_=a1 then
  (zy (vC c8 (jT rec3 a1 N a2 xs (v9+1)) N a2 x12)) c8
  else
  (zy (vC c8 (jT rec3 a1 N a2 xs (v9+1)) N a2 x12)) false
def pf (a1:Int) (N:Nat) (a2:List Int):List aa->Nat->Unit->Option Bool
 | [],v2,()=>
  some true
 | x5::xs,v2,()=>
  jT (pf a1 N a2 xs (v2+1)) a1 N a2 x5.Layers 0 false
def vE (N:Nat) (a0:ae) (a1:Int) (a2:List Int):Option Bool:=
 pf a1 N a2 a0.Stacks 0 ()
def sW (l8:List Int) (x12:Txn) (rec10:List Int->Option Bool) (c18:Bool):Option Bool:=
 if c18=true then
 apx 7 l8 [x12.ID] fun l19=>
 rec10 l19
 else
 rec10 l8
def jN (rec4:List Int->Option Bool) (N:Nat) (a0:ae):List Txn->Nat->List Int->Option Bool
 | [],v9,l8=>
  rec4 l8
 | x12::xs,v9,l8=>
  (dy N l8 x12.ID).bind fun r16=>
  if r16=true then
  (sW l8 x12 (jN rec4 N a0 xs (v9+1))) false
  else
  (vE N a0 x12.ID l8).bind fun r17=>
  (sW l8 x12 (jN rec4 N a0 xs (v9+1))) r17
def lj (a0:ae) (N:Nat):Nat->Nat->List Int->Option Bool
 | 0,v3,l2=>
  some (decide ((l2.length:Int)=(a0.Txns.length:Int)))
 | m+1,v3,l2=>
  jN (lj a0 N m (v3+1)) N a0 a0.Txns 0 l2
def uD (N:Nat) (a0:ae):Option Bool:=
 lj a0 N (a0.Txns.length - 0) 0 []
def jC (N:Nat) (a0:ae):Option Bool:=
 (ub N a0).bind fun r2=>
 if r2=true then
 (oD N a0).bind fun r3=>
 if r3=true then
 (mv N a0).bind fun r4=>
 if r4=true then
 (ki N a0).bind fun r5=>
 if r5=true then
 (uD N a0).bind fun r6=>
 some r6
 else
 some false
 else
 some false
 else
 some false
 else
 some false
def iy (N:Nat) (a0:List Txn):Option (List Txn):=
 apn 151 a0 <|
 some a0
def eK (N:Nat) (a0:List ai):Option (List ai):=
 apn 63 a0 <|
 some a0
def dV (N:Nat) (a0:List aa):Option (List aa):=
 apn 55 a0 <|
 some a0
def et (N:Nat) (a0:List ah):Option (List ah):=
 apn 71 a0 <|
 some a0
def gb (N:Nat) (a0:List Value):Option (List Value):=
 apn 79 a0 <|
 some a0
def dR (N:Nat) (a0:List Int):Option (List Int):=
 apn 7 a0 <|
 some a0
def fG (N:Nat) (a0:List ByteArray):Option (List ByteArray):=
 apn 15 a0 <|
 some a0
def gD (N:Nat) (a0:Value):Option Value:=
 (dR N a0.I).bind fun r1=>
 (fG N a0.L).bind fun r2=>
 some (Value.mk a0.Kind a0.N a0.S r1 r2)
def iv (N:Nat):Nat->Nat->List Value->Option (List Value)
 | 0,v4,l3=>
  some l3
 | m+1,v4,l3=>
  gx l3 (v4:Int) fun x9=>
  (gD N x9).bind fun r10=>
  (iv N m (v4+1)) (l3.set v4 r10)
def eC (N:Nat) (a0:List Value):Option (List Value):=
 (gb N a0).bind fun r1=>
 iv N (r1.length - 0) 0 r1
def kF (N:Nat) (a0:ah):Option ah:=
 (eC N a0.Args).bind fun r1=>
 some (ah.mk a0.Target a0.Method r1)
def j9 (kx2:(List ah)->Option Txn) (N:Nat):Nat->Nat->List ah->Option Txn
 | 0,v4,l3=>
  kx2 l3
 | m+1,v4,l3=>
  gx l3 (v4:Int) fun x9=>
  (kF N x9).bind fun r10=>
  (j9 kx2 N m (v4+1)) (l3.set v4 r10)
def uU (N:Nat) (a0:Txn) (l11:List ah):Option Txn:=
 (gD N a0.Last).bind fun r12=>
 some (Txn.mk a0.ID a0.Born a0.Client a0.Seq l11 a0.Done r12)
def jV (N:Nat) (a0:Txn):Option Txn:=
 (et N a0.Calls).bind fun r1=>
 j9 (uU N a0) N (r1.length - 0) 0 r1
def gg (N:Nat) (a0:List al):Option (List al):=
 apn 39 a0 <|
 some a0
def iE (N:Nat):Nat->Nat->List al->Option (List al)
 | 0,v4,l3=>
  some l3
 | m+1,v4,l3=>
  gx l3 (v4:Int) fun x9=>
  (eC N x9.Fields).bind fun r10=>
  (iE N m (v4+1)) (l3.set v4 (al.mk x9.Txn_ r10 x9.Prepared))
def kg (N:Nat) (a0:List al):Option (List al):=
 (gg N a0).bind fun r1=>
 iE N (r1.length - 0) 0 r1
def oE (kx4:(List Txn)->Option ae) (N:Nat):Nat->Nat->List Txn->Option ae
 | 0,v6,l5=>
  kx4 l5
 | m+1,v6,l5=>
  gx l5 (v6:Int) fun x11=>
  (jV N x11).bind fun r12=>
  (oE kx4 N m (v6+1)) (l5.set v6 r12)
def oU (kx14:(List ai)->Option ae) (N:Nat):Nat->Nat->List ai->Option ae
 | 0,v16,l15=>
  kx14 l15
 | m+1,v16,l15=>
  gx l15 (v16:Int) fun x21=>
  (dR N x21.Waiters).bind fun r22=>
  (oU kx14 N m (v16+1)) (l15.set v16 (ai.mk x21.Actor x21.Owner r22))
def oK (l13:List Txn) (l23:List ai) (N:Nat):Nat->Nat->List aa->Option ae
 | 0,v26,l25=>
  NY l25 v26 <|
  (some (ae.mk l13 l23 l25))
 | m+1,v26,l25=>
  gx l25 (v26:Int) fun x31=>
  (kg N x31.Layers).bind fun r32=>
  (oK l13 l23 N m (v26+1)) (l25.set v26 (aa.mk x31.Actor r32))
def zR (l13:List Txn) (N:Nat) (r3:List aa) (l23:List ai):Option ae:=
 oK l13 l23 N (r3.length - 0) 0 r3
def zj (N:Nat) (r3:List aa) (r2:List ai) (l13:List Txn):Option ae:=
 oU (zR l13 N r3) N (r2.length - 0) 0 r2
def kD (N:Nat) (a0:ae):Option ae:=
 (iy N a0.Txns).bind fun r1=>
 (eK N a0.Locks).bind fun r2=>
 (dV N a0.Stacks).bind fun r3=>
 oE (zj N r3 r2) N (r1.length - 0) 0 r1
def pn (a0:ae) (kx1:Option (ae × Int)) (c8:Bool):Option (ae × Int):=
 if c8=true then
 some ((ae.mk [] [] []),8)
 else
 if (a0.Txns.length:Int)=32 then
 some ((ae.mk [] [] []),5)
 else
 kx1
def zs (a0:ae) (kx1:Option (ae × Int)) (a1:Int) (c5:Bool):Option (ae × Int):=
 if c5=true then
 some ((ae.mk [] [] []),1)
 else
 if 0 < (a0.Txns.length:Int) then
 gx a0.Txns (IntKind.i64.wrap ((a0.Txns.length:Int) - 1)) fun x7=>
 (pn a0 kx1) (decide (a1<=x7.ID))
 else
 (pn a0 kx1) false
def o7 (N:Nat) (a0:ae) (a1:Int) (a2:Int) (a3:ByteArray) (a4:Int) (a5:List ah):Option (ae × Int):=
 (kD N a0).bind fun r9=>
 (jV N (Txn.mk a1 a2 a3 a4 a5 0 (Value.mk 0 0 (⟨#[]⟩) [] []))).bind fun r10=>
 apx 151 r9.Txns [r10] fun l11=>
 some ((ae.mk l11 r9.Locks r9.Stacks),0)
def jP (N:Nat) (a0:ae) (a1:Int) (a2:Int) (a3:ByteArray) (a4:Int) (a5:List ah):Option (ae × Int):=
 (jC N a0).bind fun r3=>
 if r3=true then
 (oM N (Txn.mk a1 a2 a3 a4 a5 0 (Value.mk 0 0 (⟨#[]⟩) [] []))).bind fun r4=>
 (zs a0 (o7 N a0 a1 a2 a3 a4 a5) a1) (!r4)
 else
 (zs a0 (o7 N a0 a1 a2 a3 a4 a5) a1) true
def rp (kx2:Option (ah × Bool)) (c5:Bool):Option (ah × Bool):=
 if c5=true then
 some ((ah.mk (Ref.mk (⟨#[]⟩) (⟨#[]⟩)) (⟨#[]⟩) []),false)
 else
 kx2
def yf (a0:ae) (r1:Int) (N:Nat):Option (ah × Bool):=
 gx a0.Txns r1 fun x6=>
 gx x6.Calls x6.Done fun x7=>
 (kF N x7).bind fun r8=>
 some (r8,true)
def oS (N:Nat) (a0:ae) (a1:Int):Option (ah × Bool):=
 (eW N a0 a1).bind fun r1=>
 if r1 < 0 then
 (rp (yf a0 r1 N)) true
 else
 gx a0.Txns r1 fun x4=>
 if x4.Done < 0 then
 (rp (yf a0 r1 N)) true
 else
 (rp (yf a0 r1 N)) (decide ((x4.Calls.length:Int)<=x4.Done))
def ly (N:Nat):Nat->Nat->List ai->Option (List ai)
 | 0,v4,l3=>
  NY l3 v4 <|
  (some l3)
 | m+1,v4,l3=>
  gx l3 (v4:Int) fun x9=>
  (dR N x9.Waiters).bind fun r10=>
  (ly N m (v4+1)) (l3.set v4 (ai.mk x9.Actor x9.Owner r10))
def fW (N:Nat) (a0:List ai):Option (List ai):=
 (eK N a0).bind fun r1=>
 ly N (r1.length - 0) 0 r1
def lF (N:Nat) (a0:List ai) (a1:Int) (a2:List ai):Option (List ai):=IC 63 a0 a1 a2 fun l=>some l
def qd (N:Nat) (a0:Int):Option Bool:=
 some (!decide (a0=a0))
def o8 (N:Nat) (a0:Int) (a1:Int):Option Bool:=
 (qd N a0).bind fun r2=>
 if r2=true then
 (qd N a1).bind fun r3=>
 if r3=true then
 some (decide (a0 < a1))
 else
 some true
 else
 some (decide (a0 < a1))
def k7 (N:Nat) (a0:Int):Option Bool:=
 some (!decide (a0=a0))
def dT (a0:List Int) (N:Nat) (a1:Int) (kx1:Int->Option (Int × Bool)):Nat->Int × Int->Option (Int × Bool)
 | 0,_=>none
 | n+1,(v2,v3)=>
  if v2 < v3 then
  gx a0 (IntKind.i64.wrap (jW .u64 (IntKind.u64.wrap (IntKind.i64.wrap (v2+v3))) 1)) fun x6=>
  (o8 N x6 a1).bind fun r7=>
  if r7=true then
  (dT a0 N a1 kx1 n) (IntKind.i64.wrap ((IntKind.i64.wrap (jW .u64 (IntKind.u64.wrap (IntKind.i64.wrap (v2+v3))) 1))+1),v3)
  else
  (dT a0 N a1 kx1 n) (v2,IntKind.i64.wrap (jW .u64 (IntKind.u64.wrap (IntKind.i64.wrap (v2+v3))) 1))
  else
  kx1 v2
def jm (a0:List Int) (a1:Int) (N:Nat) (v8:Int):Option (Int × Bool):=
 if v8 < (a0.length:Int) then
 gx a0 v8 fun x10=>
 if x10=a1 then
 some (v8,true)
 else
 (k7 N x10).bind fun r11=>
 if r11=true then
 (k7 N a1).bind fun r12=>
 some (v8,r12)
 else
 some (v8,false)
 else
 some (v8,false)
def gp (N:Nat) (a0:List Int) (a1:Int):Option (Int × Bool):=
 dT a0 N a1 (jm a0 a1 N) N (0,(a0.length:Int))
def mJ (N:Nat) (a0:List Int) (a1:Int) (a2:List Int):Option (List Int):=IC 7 a0 a1 a2 fun l=>some l
def pe (kx1:Option ((List ai) × Int × Int)) (c6:Bool):Option ((List ai) × Int × Int):=
 if c6=true then
 some ([],0,1)
 else
 kx1
def o6 (N:Nat) (a0:List ai) (a1:Ref) (a2:Int):Option ((List ai) × Int × Int):=
 (qk N a0 a1).bind fun r7=>
 if r7.2=true then
 gx a0 r7.1 fun x12=>
 (gp N x12.Waiters a2).bind fun r13=>
 if x12.Owner=a2 then
 (fW N a0).bind fun r15=>
 some (r15,1,0)
 else
 if x12.Owner < a2 then
 (fW N a0).bind fun r16=>
 some (r16,3,0)
 else
 if r13.2=true then
 (fW N a0).bind fun r17=>
 some (r17,2,0)
 else
 if (x12.Waiters.length:Int)=32 then
 some ([],0,5)
 else
 (fW N a0).bind fun r18=>
 gx r18 r7.1 fun x19=>
 (mJ N x19.Waiters r13.1 [a2]).bind fun r20=>
 some ((r18.set ((r7.1).toNat) (ai.mk x19.Actor x19.Owner r20)),2,0)
 else
 if (a0.length:Int)=128 then
 some ([],0,5)
 else
 (fW N a0).bind fun r10=>
 (lF N r10 r7.1 [(ai.mk a1 a2 [])]).bind fun r11=>
 some (r11,1,0)
def pX (N:Nat) (a0:List ai) (a1:Ref) (a2:Int):Option ((List ai) × Int × Int):=
 (ji N a0).bind fun r3=>
 if r3=true then
 (ig N a1).bind fun r4=>
 if r4=true then
 (js N a2).bind fun r5=>
 (pe (o6 N a0 a1 a2)) (!r5)
 else
 (pe (o6 N a0 a1 a2)) true
 else
 (pe (o6 N a0 a1 a2)) true
def vd (v8:Int) (v9:Int):Option Int:=
 gxs (⟨((([0,1,2,2,3,3,3,3,4,4,4,4,4,4,4,4,5,5,5,5,5,5,5,5,5,5,5,5,5,5,5,5,6,6,6,6,6,6,6,6,6,6,6,6,6,6,6,6,6,6,6,6,6,6,6,6,6,6,6,6,6,6,6,6]:List UInt8).append ([7,7,7,7,7,7,7,7,7,7,7,7,7,7,7,7,7,7,7,7,7,7,7,7,7,7,7,7,7,7,7,7,7,7,7,7,7,7,7,7,7,7,7,7,7,7,7,7,7,7,7,7,7,7,7,7,7,7,7,7,7,7,7,7]:List UInt8)).append (([8,8,8,8,8,8,8,8,8,8,8,8,8,8,8,8,8,8,8,8,8,8,8,8,8,8,8,8,8,8,8,8,8,8,8,8,8,8,8,8,8,8,8,8,8,8,8,8,8,8,8,8,8,8,8,8,8,8,8,8,8,8,8,8]:List UInt8).append ([8,8,8,8,8,8,8,8,8,8,8,8,8,8,8,8,8,8,8,8,8,8,8,8,8,8,8,8,8,8,8,8,8,8,8,8,8,8,8,8,8,8,8,8,8,8,8,8,8,8,8,8,8,8,8,8,8,8,8,8,8,8,8,8]:List UInt8))).toArray⟩:ByteArray) (IntKind.u8.wrap v8) fun b10=>
 some (IntKind.i64.wrap (v9+(IntKind.i64.wrap (b10.toNat:Int))))
def vp (v5:Int) (v6:Int):Option Int:=
 if 256<=v5 then
 vd (jW .u64 v5 8) (IntKind.i64.wrap (v6+8))
 else
 vd v5 v6
def vw (v2:Int) (v3:Int):Option Int:=
 if 65536<=v2 then
 vp (jW .u64 v2 16) (IntKind.i64.wrap (v3+16))
 else
 vp v2 v3
def u4 (N:Nat) (a0:Int):Option Int:=
 if 4294967296<=a0 then
 vw (jW .u64 a0 32) 32
 else
 vw a0 0
def ue (N:Nat) (a0:Int):Option Int:=
 (u4 N a0).bind fun r2=>
 some r2
def gO (kx6:Option (List Int)) (rec2:Int->Option (List Int)) (v1:Int) (c11:Bool):Option (List Int):=
 if c11=true then
 kx6
 else
 rec2 (IntKind.i64.wrap (v1+1))
def gG (a0:List Int) (v1:Int):Option (List Int):=
 gx a0 (IntKind.i64.wrap (v1 - 1)) fun x13=>
 gx a0 v1 fun x14=>
 none
def gP (a1:Int) (v1:Int) (a0:List Int) (N:Nat) (rec2:Int->Option (List Int)):Nat->Unit->Option (List Int)
 | 0,_=>none
 | n+1,()=>
  if a1 < v1 then
  gx a0 v1 fun x8=>
  gx a0 (IntKind.i64.wrap (v1 - 1)) fun x9=>
  (o8 N x8 x9).bind fun r10=>
  (gO (gG a0 v1) rec2 v1) r10
  else
  (gO (gG a0 v1) rec2 v1) false
def eF (a2:Int) (a1:Int) (a0:List Int) (N:Nat):Nat->Int->Option (List Int)
 | 0,_=>none
 | n+1,v1=>
  if v1 < a2 then
  gP a1 v1 a0 N (eF a2 a1 a0 N n) N ()
  else
  some a0
def da (N:Nat) (a0:List Int) (a1:Int) (a2:Int):Option (List Int):=
 IX (fun r=>r) a0 (
 (eF a2 a1 a0 N N (IntKind.i64.wrap (a1+1))))
def jq (a2:Int) (a1:Int) (N:Nat) (a0:List Int) (a3:Int):Nat->Unit->Option (List Int)
 | 0,_=>none
 | n+1,()=>
  if (IntKind.i64.wrap (a2 - a1))<=12 then
  (da N a0 a1 a2).bind fun r3=>
  some r3
  else
  if a3=0 then
  none
  else
  none
def ed (N:Nat) (a0:List Int) (a1:Int) (a2:Int) (a3:Int):Option (List Int):=
 IX (fun r=>r) a0 (
 (jq a2 a1 N a0 a3 N ()))
def gX (N:Nat) (a0:List Int):Option (List Int):=
 IX (fun r=>r) a0 (
 (ue N (IntKind.u64.wrap (a0.length:Int))).bind fun r1=>
 (ed N a0 0 (a0.length:Int) r1).bind fun r2=>
 some r2)
def slices_Sort_int (N:Nat) (a0:List Int):Option (List Int):=if a0.isEmpty=true then gX N a0 else Ek a0
def mI (l1:List Int) (x14:al) (rec2:List Int->Option (List Int)) (kx17:Bool->Option (List Int)) (c20:Bool) (c21:Bool):Option (List Int):=
 if c21=true then
 apx 7 l1 [x14.Txn_] fun l22=>
 rec2 l22
 else
 kx17 c20
def mK (rec12:Bool->Option (List Int)) (N:Nat) (l1:List Int) (x14:al) (c23:Bool):Option (List Int):=
 if c23=true then
 rec12 true
 else
 (dy N l1 x14.Txn_).bind fun r24=>
 rec12 r24
def fH (rec5:Unit->Option (List Int)) (N:Nat) (l1:List Int) (rec2:List Int->Option (List Int)):List al->Nat->Bool->Option (List Int)
 | [],v11,c10=>
  rec5 ()
 | x14::xs,v11,c10=>
  if c10=true then
  (dy N l1 x14.Txn_).bind fun r19=>
  (mI l1 x14 rec2 (mK (fH rec5 N l1 rec2 xs (v11+1)) N l1 x14)) true (!r19)
  else
  (mI l1 x14 rec2 (mK (fH rec5 N l1 rec2 xs (v11+1)) N l1 x14)) false false
def iS (kx3:Option (List Int)) (N:Nat) (l1:List Int) (rec2:List Int->Option (List Int)):List aa->Nat->Unit->Option (List Int)
 | [],v4,()=>
  kx3
 | x7::xs,v4,()=>
  fH (iS kx3 N l1 rec2 xs (v4+1)) N l1 rec2 x7.Layers 0 false
def wT (N:Nat) (l1:List Int):Option (List Int):=
 (slices_Sort_int N l1).bind fun r26=>
 some r26
def ky (N:Nat) (a0:ae):Nat->List Int->Option (List Int)
 | 0,_=>none
 | n+1,l1=>
  iS (wT N l1) N l1 (ky N a0 n) a0.Stacks 0 ()
def og (N:Nat) (a0:ae) (a1:Int):Option (List Int):=
 ky N a0 N [a1]
def oJ (N:Nat) (a0:Txn) (c0_0:List Int):Option Bool:=
 (dy N c0_0 a0.ID).bind fun r1=>
 some r1
def dL (N:Nat) (k1_0_0:List Int):List Txn->Nat->Unit->Option Int
 | [],v2,()=>
  some (-1)
 | x5::xs,v2,()=>
  (oJ N x5 k1_0_0).bind fun r8=>
  if r8=true then
  some (v2:Int)
  else
  (dL N k1_0_0 xs (v2+1)) ()
def fV (N:Nat) (a0:List Txn) (k1_0_0:List Int):Option Int:=
 dL N k1_0_0 a0 0 ()
def bq (N:Nat) (k1_0_0:List Int) (kx3:(List Txn)->Int->Option (List Txn)):Nat->List Txn × Int × Int->Option (List Txn)
 | 0,_=>none
 | n+1,(l4,v5,v6)=>
  if v6 < (l4.length:Int) then
  gx l4 v6 fun x10=>
  (oJ N x10 k1_0_0).bind fun r11=>
  if r11=true then
  (bq N k1_0_0 kx3 n) (l4,v5,IntKind.i64.wrap (v6+1))
  else
  gx l4 v5 fun x12=>
  (bq N k1_0_0 kx3 n) ((l4.set ((v5).toNat) x10),(IntKind.i64.wrap (v5+1)),IntKind.i64.wrap (v6+1))
  else
  kx3 l4 v5
def eL (l15:List Txn) (v16:Int):Option (List Txn):=
 slx l15 v16 (l15.length:Int) fun l17=>
 slx (tn (Txn.mk 0 0 (⟨#[]⟩) 0 [] 0 (Value.mk 0 0 (⟨#[]⟩) [] [])) (v16).toNat l15) 0 v16 fun l18=>
 some ((tn (Txn.mk 0 0 (⟨#[]⟩) 0 [] 0 (Value.mk 0 0 (⟨#[]⟩) [] [])) (v16).toNat l15).take ((v16).toNat))
def dX (N:Nat) (a0:List Txn) (k1_0_0:List Int):Option (List Txn):=
 (fV N a0 k1_0_0).bind fun r1=>
 if r1=(-1) then
 some a0
 else
 bq N k1_0_0 eL N (a0,r1,IntKind.i64.wrap (r1+1))
def oY (N:Nat) (a0:al) (c0_0:List Int):Option Bool:=
 (dy N c0_0 a0.Txn_).bind fun r1=>
 some r1
def dz (N:Nat) (k1_0_0:List Int):List al->Nat->Unit->Option Int
 | [],v2,()=>
  some (-1)
 | x5::xs,v2,()=>
  (oY N x5 k1_0_0).bind fun r8=>
  if r8=true then
  some (v2:Int)
  else
  (dz N k1_0_0 xs (v2+1)) ()
def fw (N:Nat) (a0:List al) (k1_0_0:List Int):Option Int:=
 dz N k1_0_0 a0 0 ()
def bk (N:Nat) (k1_0_0:List Int) (kx3:(List al)->Int->Option (List al)):Nat->List al × Int × Int->Option (List al)
 | 0,_=>none
 | n+1,(l4,v5,v6)=>
  if v6 < (l4.length:Int) then
  gx l4 v6 fun x10=>
  (oY N x10 k1_0_0).bind fun r11=>
  if r11=true then
  (bk N k1_0_0 kx3 n) (l4,v5,IntKind.i64.wrap (v6+1))
  else
  gx l4 v5 fun x12=>
  (bk N k1_0_0 kx3 n) ((l4.set ((v5).toNat) x10),(IntKind.i64.wrap (v5+1)),IntKind.i64.wrap (v6+1))
  else
  kx3 l4 v5
def eB (l15:List al) (v16:Int):Option (List al):=
 slx l15 v16 (l15.length:Int) fun l17=>
 slx (tn (al.mk 0 [] false) (v16).toNat l15) 0 v16 fun l18=>
 some ((tn (al.mk 0 [] false) (v16).toNat l15).take ((v16).toNat))
def dM (N:Nat) (a0:List al) (k1_0_0:List Int):Option (List al):=
 (fw N a0 k1_0_0).bind fun r1=>
 if r1=(-1) then
 some a0
 else
 bk N k1_0_0 eB N (a0,r1,IntKind.i64.wrap (r1+1))
def oL (N:Nat) (a0:aa):Option Bool:=
 some (decide ((a0.Layers.length:Int)=0))
def bM (N:Nat):List aa->Nat->Unit->Option Int
 | [],v2,()=>
  some (-1)
 | x5::xs,v2,()=>
  (oL N x5).bind fun r8=>
  if r8=true then
  some (v2:Int)
  else
  (bM N xs (v2+1)) ()
def eh (N:Nat) (a0:List aa):Option Int:=
 bM N a0 0 ()
def aV (N:Nat) (kx3:(List aa)->Int->Option (List aa)):Nat->List aa × Int × Int->Option (List aa)
 | 0,_=>none
 | n+1,(l4,v5,v6)=>
  if v6 < (l4.length:Int) then
  gx l4 v6 fun x10=>
  (oL N x10).bind fun r11=>
  if r11=true then
  (aV N kx3 n) (l4,v5,IntKind.i64.wrap (v6+1))
  else
  gx l4 v5 fun x12=>
  (aV N kx3 n) ((l4.set ((v5).toNat) x10),(IntKind.i64.wrap (v5+1)),IntKind.i64.wrap (v6+1))
  else
  kx3 l4 v5
def dK (l15:List aa) (v16:Int):Option (List aa):=
 slx l15 v16 (l15.length:Int) fun l17=>
 slx (tn (aa.mk (Ref.mk (⟨#[]⟩) (⟨#[]⟩)) []) (v16).toNat l15) 0 v16 fun l18=>
 some ((tn (aa.mk (Ref.mk (⟨#[]⟩) (⟨#[]⟩)) []) (v16).toNat l15).take ((v16).toNat))
def bZ (N:Nat) (a0:List aa):Option (List aa):=
 (eh N a0).bind fun r1=>
 if r1=(-1) then
 some a0
 else
 aV N dK N (a0,r1,IntKind.i64.wrap (r1+1))
def mD (kx3:(List aa)->Option ae) (N:Nat) (a1:List Int):Nat->Nat->List aa->Option ae
 | 0,v5,l4=>
  kx3 l4
 | m+1,v5,l4=>
  gx l4 (v5:Int) fun x10=>
  (dM N x10.Layers a1).bind fun r11=>
  (mD kx3 N a1 m (v5+1)) (l4.set v5 (aa.mk x10.Actor r11))
def yu (N:Nat) (r2:List Txn) (r1:ae) (l12:List aa):Option ae:=
 (bZ N l12).bind fun r13=>
 some (ae.mk r2 r1.Locks r13)
def tL (N:Nat) (a0:ae) (a1:List Int):Option ae:=
 (kD N a0).bind fun r1=>
 (dX N r1.Txns a1).bind fun r2=>
 mD (yu N r2 r1) N a1 (r1.Stacks.length - 0) 0 r1.Stacks
def lu (N:Nat) (a0:Int) (c0_0:Int):Option Bool:=
 some (decide (a0=c0_0))
def bj (N:Nat) (k1_0_0:Int):List Int->Nat->Unit->Option Int
 | [],v2,()=>
  some (-1)
 | x5::xs,v2,()=>
  (lu N x5 k1_0_0).bind fun r8=>
  if r8=true then
  some (v2:Int)
  else
  (bj N k1_0_0 xs (v2+1)) ()
def dJ (N:Nat) (a0:List Int) (k1_0_0:Int):Option Int:=
 bj N k1_0_0 a0 0 ()
def bf (N:Nat) (k1_0_0:Int) (kx3:(List Int)->Int->Option (List Int)):Nat->List Int × Int × Int->Option (List Int)
 | 0,_=>none
 | n+1,(l4,v5,v6)=>
  if v6 < (l4.length:Int) then
  gx l4 v6 fun x10=>
  (lu N x10 k1_0_0).bind fun r11=>
  if r11=true then
  (bf N k1_0_0 kx3 n) (l4,v5,IntKind.i64.wrap (v6+1))
  else
  gx l4 v5 fun x12=>
  (bf N k1_0_0 kx3 n) ((l4.set ((v5).toNat) x10),(IntKind.i64.wrap (v5+1)),IntKind.i64.wrap (v6+1))
  else
  kx3 l4 v5
def dW (l15:List Int) (v16:Int):Option (List Int):=
 slx l15 v16 (l15.length:Int) fun l17=>
 slx (tn 0 (v16).toNat l15) 0 v16 fun l18=>
 some ((tn 0 (v16).toNat l15).take ((v16).toNat))
def bA (N:Nat) (a0:List Int) (k1_0_0:Int):Option (List Int):=
 (dJ N a0 k1_0_0).bind fun r1=>
 if r1=(-1) then
 some a0
 else
 bf N k1_0_0 dW N (a0,r1,IntKind.i64.wrap (r1+1))
def iQ (N:Nat) (a1:Int):Nat->Nat->List ai->Option (List ai)
 | 0,v6,l5=>
  some l5
 | m+1,v6,l5=>
  gx l5 (v6:Int) fun x11=>
  (bA N x11.Waiters a1).bind fun r12=>
  (iQ N a1 m (v6+1)) (l5.set v6 (ai.mk x11.Actor x11.Owner r12))
def ot (N:Nat) (a0:List ai) (a1:Int):Option (List ai):=
 (ji N a0).bind fun r2=>
 if r2=true then
 (fW N a0).bind fun r3=>
 iQ N a1 (r3.length - 0) 0 r3
 else
 some []
def lR (N:Nat) (a0:List ai) (a1:Int) (a2:Int):Option (List ai):=Tu a0 a1 a2 fun l=>some l
def tM (N:Nat) (a0:List ai) (a1:Int):Option ((List ai) × Int):=
 gx a0 a1 fun x1=>
 if (x1.Waiters.length:Int)=0 then
 (lR N a0 a1 (IntKind.i64.wrap (a1+1))).bind fun r3=>
 some (r3,0)
 else
 gx x1.Waiters (IntKind.i64.wrap ((x1.Waiters.length:Int) - 1)) fun x4=>
 slt x1.Waiters (IntKind.i64.wrap ((x1.Waiters.length:Int) - 1)) fun l5=>
 some (((a0.set ((a1).toNat) (ai.mk x1.Actor x4 x1.Waiters)).set ((a1).toNat) (ai.mk x1.Actor x4 l5)),x4)
def eG (a1:Int) (N:Nat):Nat->List ai × List ay × Int->Option ((List ai) × (List ay))
 | 0,_=>none
 | n+1,(l5,l6,v7)=>
  if v7 < (l5.length:Int) then
  gx l5 v7 fun x11=>
  if x11.Owner=a1 then
  (tM N l5 v7).bind fun r12=>
  if r12.2=0 then
  (eG a1 N n) (r12.1,l6,v7)
  else
  apx 39 l6 [(ay.mk x11.Actor r12.2)] fun l13=>
  (eG a1 N n) (r12.1,l13,IntKind.i64.wrap (v7+1))
  else
  (eG a1 N n) (l5,l6,IntKind.i64.wrap (v7+1))
  else
  some (l5,l6)
def kU (N:Nat) (a0:List ai) (a1:Int):Option ((List ai) × (List ay)):=
 (ji N a0).bind fun r2=>
 if r2=true then
 (fW N a0).bind fun r3=>
 eG a1 N N (r3,[],0)
 else
 some ([],[])
def pb (kx6:(List ai)->Option (ae × (List Int) × Int)) (N:Nat):List Int->Nat->List ai->Option (ae × (List Int) × Int)
 | [],v8,l7=>
  kx6 l7
 | x11::xs,v8,l7=>
  (ot N l7 x11).bind fun r14=>
  (pb kx6 N xs (v8+1)) r14
def ph (r5:ae) (r4:List Int) (N:Nat):List Int->Nat->List ai->Option (ae × (List Int) × Int)
 | [],v18,l17=>
  some ((ae.mk r5.Txns l17 r5.Stacks),r4,0)
 | x21::xs,v18,l17=>
  (kU N l17 x21).bind fun r24=>
  (ph r5 r4 N xs (v18+1)) r24.1
def Dl (r5:ae) (r4:List Int) (N:Nat) (l15:List ai):Option (ae × (List Int) × Int):=
 ph r5 r4 N r4 0 l15
def kB (N:Nat) (a0:ae) (a1:Int):Option (ae × (List Int) × Int):=
 (jC N a0).bind fun r2=>
 if r2=true then
 (eW N a0 a1).bind fun r3=>
 if r3 < 0 then
 some ((ae.mk [] [] []),[],6)
 else
 (og N a0 a1).bind fun r4=>
 (tL N a0 r4).bind fun r5=>
 pb (Dl r5 r4 N) N r4 0 r5.Locks
 else
 some ((ae.mk [] [] []),[],1)
def iF (N:Nat) (a0:ae) (a1:Int):Option (ae × Int × (List Int) × Int):=
 (jC N a0).bind fun r2=>
 if r2=true then
 (oS N a0 a1).bind fun r3=>
 if r3.2=true then
 (pX N a0.Locks r3.1.Target a1).bind fun r5=>
 if r5.2.2=0 then
 if r5.2.1=3 then
 (kB N a0 a1).bind fun r8=>
 some (r8.1,r5.2.1,r8.2.1,r8.2.2)
 else
 (kD N a0).bind fun r9=>
 some ((ae.mk r9.Txns r5.1 r9.Stacks),r5.2.1,[],0)
 else
 some ((ae.mk [] [] []),0,[],r5.2.2)
 else
 some ((ae.mk [] [] []),0,[],6)
 else
 some ((ae.mk [] [] []),0,[],1)
def kP (N:Nat) (a0:Int):Option Value:=
 some (Value.mk 1 a0 (⟨#[]⟩) [] [])
def qv (N:Nat) (a0:aa) (a1:Ref):Option Int:=
 (gE N a0.Actor a1).bind fun r1=>
 some r1
def bg (a0:List aa) (N:Nat) (a1:Ref) (kx1:Int->Option (Int × Bool)):Nat->Int × Int->Option (Int × Bool)
 | 0,_=>none
 | n+1,(v2,v3)=>
  if v2 < v3 then
  gx a0 (IntKind.i64.wrap (jW .u64 (IntKind.u64.wrap (IntKind.i64.wrap (v2+v3))) 1)) fun x6=>
  (qv N x6 a1).bind fun r7=>
  if r7 < 0 then
  (bg a0 N a1 kx1 n) (IntKind.i64.wrap ((IntKind.i64.wrap (jW .u64 (IntKind.u64.wrap (IntKind.i64.wrap (v2+v3))) 1))+1),v3)
  else
  (bg a0 N a1 kx1 n) (v2,IntKind.i64.wrap (jW .u64 (IntKind.u64.wrap (IntKind.i64.wrap (v2+v3))) 1))
  else
  kx1 v2
def bt (a0:List aa) (N:Nat) (a1:Ref) (v8:Int):Option (Int × Bool):=
 if v8 < (a0.length:Int) then
 gx a0 v8 fun x10=>
 (qv N x10 a1).bind fun r11=>
 some (v8,(decide (r11=0)))
 else
 some (v8,false)
def ba (N:Nat) (a0:List aa) (a1:Ref):Option (Int × Bool):=
 bg a0 N a1 (bt a0 N a1) N (0,(a0.length:Int))
def bD (N:Nat) (a0:List aa) (a1:Int) (a2:List aa):Option (List aa):=IC 55 a0 a1 a2 fun l=>some l
def wX (kx1:Option (ae × Int)) (c6:Bool):Option (ae × Int):=
 if c6=true then
 some ((ae.mk [] [] []),1)
 else
 kx1
def uH (x18:aa) (a1:Int) (kx19:(List aa)->Int->Option (ae × Int)) (l17:List aa) (r14:Int × Bool) (c22:Bool):Option (ae × Int):=
 if c22=true then
 apx 39 x18.Layers [(al.mk a1 [] false)] fun l23=>
 kx19 (l17.set ((r14.1).toNat) (aa.mk x18.Actor l23)) (IntKind.i64.wrap ((x18.Layers.length:Int)+1))
 else
 kx19 l17 (x18.Layers.length:Int)
def wZ (r14:Int × Bool) (N:Nat) (a2:List Value) (r10:ae) (r11:Int) (x12:Txn) (r13:Value) (l24:List aa) (v25:Int):Option (ae × Int):=
 gx l24 r14.1 fun x26=>
 (eC N a2).bind fun r27=>
 gx x26.Layers (IntKind.i64.wrap (v25 - 1)) fun x28=>
 some ((ae.mk (r10.Txns.set ((r11).toNat) (Txn.mk x12.ID x12.Born x12.Client x12.Seq x12.Calls (IntKind.i64.wrap (x12.Done+1)) r13)) r10.Locks (l24.set ((r14.1).toNat) (aa.mk x26.Actor (x26.Layers.set ((IntKind.i64.wrap (v25 - 1)).toNat) (al.mk x28.Txn_ r27 x28.Prepared))))),0)
def rE (r14:Int × Bool) (a1:Int) (N:Nat) (a2:List Value) (r10:ae) (r11:Int) (x12:Txn) (r13:Value) (l17:List aa):Option (ae × Int):=
 gx l17 r14.1 fun x18=>
 if (x18.Layers.length:Int)=0 then
 (uH x18 a1 (wZ r14 N a2 r10 r11 x12 r13) l17 r14) true
 else
 gx x18.Layers (IntKind.i64.wrap ((x18.Layers.length:Int) - 1)) fun x21=>
 (uH x18 a1 (wZ r14 N a2 r10 r11 x12 r13) l17 r14) (!decide (x21.Txn_=a1))
def rf (N:Nat) (a0:ae) (a1:Int) (a3:Value) (a2:List Value):Option (ae × Int):=
 (oS N a0 a1).bind fun r7=>
 if r7.2=true then
 (m7 N a0.Locks r7.1.Target).bind fun r9=>
 if r9=a1 then
 (kD N a0).bind fun r10=>
 (eW N r10 a1).bind fun r11=>
 gx r10.Txns r11 fun x12=>
 (gD N a3).bind fun r13=>
 (ba N r10.Stacks r7.1.Target).bind fun r14=>
 if r14.2=true then
 (rE r14 a1 N a2 r10 r11 x12 r13) r10.Stacks
 else
 (bD N r10.Stacks r14.1 [(aa.mk r7.1.Target [])]).bind fun r16=>
 (rE r14 a1 N a2 r10 r11 x12 r13) r16
 else
 some ((ae.mk [] [] []),10)
 else
 some ((ae.mk [] [] []),6)
def kh (N:Nat) (a0:ae) (a1:Int) (a2:List Value) (a3:Value):Option (ae × Int):=
 (jC N a0).bind fun r3=>
 if r3=true then
 (ke N a2).bind fun r4=>
 if r4=true then
 (gS N a3).bind fun r5=>
 (wX (rf N a0 a1 a3 a2)) (!r5)
 else
 (wX (rf N a0 a1 a3 a2)) true
 else
 (wX (rf N a0 a1 a3 a2)) true
def oQ (kx1:Option ((List ai) × Int × Int)) (c6:Bool):Option ((List ai) × Int × Int):=
 if c6=true then
 some ([],0,1)
 else
 kx1
def kN (kx8:Option ((List ai) × Int × Int)) (c11:Bool):Option ((List ai) × Int × Int):=
 if c11=true then
 some ([],0,10)
 else
 kx8
def tH (N:Nat) (a0:List ai) (r7:Int × Bool):Option ((List ai) × Int × Int):=
 (fW N a0).bind fun r12=>
 (tM N r12 r7.1).bind fun r13=>
 some (r13.1,r13.2,0)
def pk (N:Nat) (a0:List ai) (a1:Ref) (a2:Int):Option ((List ai) × Int × Int):=
 (qk N a0 a1).bind fun r7=>
 if r7.2=true then
 gx a0 r7.1 fun x10=>
 (kN (tH N a0 r7)) (!decide (x10.Owner=a2))
 else
 (kN (tH N a0 r7)) true
def mG (N:Nat) (a0:List ai) (a1:Ref) (a2:Int):Option ((List ai) × Int × Int):=
 (ji N a0).bind fun r3=>
 if r3=true then
 (ig N a1).bind fun r4=>
 if r4=true then
 (js N a2).bind fun r5=>
 (oQ (pk N a0 a1 a2)) (!r5)
 else
 (oQ (pk N a0 a1 a2)) true
 else
 (oQ (pk N a0 a1 a2)) true
def iN (kx4:Option (ae × Int)) (c8:Bool):Option (ae × Int):=
 if c8=true then
 some ((ae.mk [] [] []),6)
 else
 kx4
def kT (a0:ae) (r3:Int) (N:Nat) (a2:Ref) (a1:Int):Option (ae × Int):=
 gx a0.Txns r3 fun x10=>
 if x10.Done < (x10.Calls.length:Int) then
 some ((ae.mk [] [] []),12)
 else
 (jb N a0 a2 a1).bind fun r12=>
 if r12.1.Prepared=true then
 some ((ae.mk [] [] []),7)
 else
 (kD N a0).bind fun r13=>
 (lW N r13 a2).bind fun r14=>
 gx r13.Stacks r14 fun x15=>
 gx x15.Layers (IntKind.i64.wrap ((x15.Layers.length:Int) - 1)) fun x16=>
 (mG N r13.Locks a2 a1).bind fun r17=>
 some ((ae.mk r13.Txns r17.1 (r13.Stacks.set ((r14).toNat) (aa.mk x15.Actor (x15.Layers.set ((IntKind.i64.wrap ((x15.Layers.length:Int) - 1)).toNat) (al.mk x16.Txn_ x16.Fields true))))),0)
def fS (N:Nat) (a0:ae) (a1:Int) (a2:Ref):Option (ae × Int):=
 (jC N a0).bind fun r2=>
 if r2=true then
 (eW N a0 a1).bind fun r3=>
 if r3 < 0 then
 (iN (kT a0 r3 N a2 a1)) true
 else
 gx a0.Txns r3 fun x6=>
 (m8 N x6.Calls a2).bind fun r7=>
 (iN (kT a0 r3 N a2 a1)) (!r7)
 else
 some ((ae.mk [] [] []),1)
def lE (N:Nat) (a0:ae) (a1:Ref):Option (List al):=
 (lW N a0 a1).bind fun r2=>
 if 0<=r2 then
 gx a0.Stacks r2 fun x3=>
 (kg N x3.Layers).bind fun r4=>
 some r4
 else
 some []
def lv (N:Nat) (a0:ah) (c0_0:List Txn) (c0_1:List ai) (c0_2:List aa) (c1_0:Int) (c1_1:Int) (c1_2:ByteArray) (c1_3:Int) (c1_4:List ah) (c1_5:Int) (c1_6:Int) (c1_7:Int) (c1_8:ByteArray) (c1_9:List Int) (c1_10:List ByteArray):Option Bool:=
 (jb N (ae.mk c0_0 c0_1 c0_2) a0.Target c1_0).bind fun r1=>
 if r1.2=true then
 some (!r1.1.Prepared)
 else
 some true
def bE (N:Nat) (k1_0_0:List Txn) (k1_0_1:List ai) (k1_0_2:List aa) (k1_1_0:Int) (k1_1_1:Int) (k1_1_2:ByteArray) (k1_1_3:Int) (k1_1_4:List ah) (k1_1_5:Int) (k1_1_6:Int) (k1_1_7:Int) (k1_1_8:ByteArray) (k1_1_9:List Int) (k1_1_10:List ByteArray):List ah->Nat->Unit->Option Int
 | [],v2,()=>
  some (-1)
 | x5::xs,v2,()=>
  (lv N x5 k1_0_0 k1_0_1 k1_0_2 k1_1_0 k1_1_1 k1_1_2 k1_1_3 k1_1_4 k1_1_5 k1_1_6 k1_1_7 k1_1_8 k1_1_9 k1_1_10).bind fun r8=>
  if r8=true then
  some (v2:Int)
  else
  (bE N k1_0_0 k1_0_1 k1_0_2 k1_1_0 k1_1_1 k1_1_2 k1_1_3 k1_1_4 k1_1_5 k1_1_6 k1_1_7 k1_1_8 k1_1_9 k1_1_10 xs (v2+1)) ()
def bY (N:Nat) (a0:List ah) (k1_0_0:List Txn) (k1_0_1:List ai) (k1_0_2:List aa) (k1_1_0:Int) (k1_1_1:Int) (k1_1_2:ByteArray) (k1_1_3:Int) (k1_1_4:List ah) (k1_1_5:Int) (k1_1_6:Int) (k1_1_7:Int) (k1_1_8:ByteArray) (k1_1_9:List Int) (k1_1_10:List ByteArray):Option Int:=
 bE N k1_0_0 k1_0_1 k1_0_2 k1_1_0 k1_1_1 k1_1_2 k1_1_3 k1_1_4 k1_1_5 k1_1_6 k1_1_7 k1_1_8 k1_1_9 k1_1_10 a0 0 ()
def bC (N:Nat) (a0:List ah) (k1_0_0:List Txn) (k1_0_1:List ai) (k1_0_2:List aa) (k1_1_0:Int) (k1_1_1:Int) (k1_1_2:ByteArray) (k1_1_3:Int) (k1_1_4:List ah) (k1_1_5:Int) (k1_1_6:Int) (k1_1_7:Int) (k1_1_8:ByteArray) (k1_1_9:List Int) (k1_1_10:List ByteArray):Option Bool:=
 (bY N a0 k1_0_0 k1_0_1 k1_0_2 k1_1_0 k1_1_1 k1_1_2 k1_1_3 k1_1_4 k1_1_5 k1_1_6 k1_1_7 k1_1_8 k1_1_9 k1_1_10).bind fun r1=>
 some (decide (0<=r1))
def sG (N:Nat) (a0:ae) (a1:Txn):Option Bool:=
 (bC N a1.Calls a0.Txns a0.Locks a0.Stacks a1.ID a1.Born a1.Client a1.Seq a1.Calls a1.Done a1.Last.Kind a1.Last.N a1.Last.S a1.Last.I a1.Last.L).bind fun r1=>
 some (!r1)
def mF (N:Nat) (a0:Txn) (c0_0:List Txn) (c0_1:List ai) (c0_2:List aa):Option Bool:=
 if a0.Done=(a0.Calls.length:Int) then
 (sG N (ae.mk c0_0 c0_1 c0_2) a0).bind fun r2=>
 if r2=true then
 (vE N (ae.mk c0_0 c0_1 c0_2) a0.ID []).bind fun r3=>
 some r3
 else
 some false
 else
 some false
def dH (N:Nat) (k1_0_0:List Txn) (k1_0_1:List ai) (k1_0_2:List aa):List Txn->Nat->Unit->Option Int
 | [],v2,()=>
  some (-1)
 | x5::xs,v2,()=>
  (mF N x5 k1_0_0 k1_0_1 k1_0_2).bind fun r8=>
  if r8=true then
  some (v2:Int)
  else
  (dH N k1_0_0 k1_0_1 k1_0_2 xs (v2+1)) ()
def dY (N:Nat) (a0:List Txn) (k1_0_0:List Txn) (k1_0_1:List ai) (k1_0_2:List aa):Option Int:=
 dH N k1_0_0 k1_0_1 k1_0_2 a0 0 ()
def en (kx6:Option (List Ref)) (rec2:Int->Option (List Ref)) (v1:Int) (c11:Bool):Option (List Ref):=
 if c11=true then
 kx6
 else
 rec2 (IntKind.i64.wrap (v1+1))
def ek (a0:List Ref) (v1:Int):Option (List Ref):=
 gx a0 (IntKind.i64.wrap (v1 - 1)) fun x13=>
 gx a0 v1 fun x14=>
 none
def ei (a1:Int) (v1:Int) (a0:List Ref) (N:Nat) (rec2:Int->Option (List Ref)):Nat->Unit->Option (List Ref)
 | 0,_=>none
 | n+1,()=>
  if a1 < v1 then
  gx a0 v1 fun x8=>
  gx a0 (IntKind.i64.wrap (v1 - 1)) fun x9=>
  (gE N x8 x9).bind fun r10=>
  (en (ek a0 v1) rec2 v1) (decide (r10 < 0))
  else
  (en (ek a0 v1) rec2 v1) false
def bW (a2:Int) (a1:Int) (a0:List Ref) (N:Nat):Nat->Int->Option (List Ref)
 | 0,_=>none
 | n+1,v1=>
  if v1 < a2 then
  ei a1 v1 a0 N (bW a2 a1 a0 N n) N ()
  else
  some a0
def be (N:Nat) (a0:List Ref) (a1:Int) (a2:Int):Option (List Ref):=
 IX (fun r=>r) a0 (
 (bW a2 a1 a0 N N (IntKind.i64.wrap (a1+1))))
def fh (a2:Int) (a1:Int) (N:Nat) (a0:List Ref) (a3:Int):Nat->Unit->Option (List Ref)
 | 0,_=>none
 | n+1,()=>
  if (IntKind.i64.wrap (a2 - a1))<=12 then
  (be N a0 a1 a2).bind fun r3=>
  some r3
  else
  if a3=0 then
  none
  else
  none
def bw (N:Nat) (a0:List Ref) (a1:Int) (a2:Int) (a3:Int):Option (List Ref):=
 IX (fun r=>r) a0 (
 (fh a2 a1 N a0 a3 N ()))
def bJ (N:Nat) (a0:List Ref):Option (List Ref):=
 IX (fun r=>r) a0 (
 (ue N (IntKind.u64.wrap (a0.length:Int))).bind fun r1=>
 (bw N a0 0 (a0.length:Int) r1).bind fun r2=>
 some r2)
def bX (N:Nat) (a0:List Ref):Option (List Ref):=if a0.isEmpty=true then bJ N a0  else Ei (fun x y=>gE N x y ) a0
def fK (a0:List Ref) (v3:Nat) (kx11:(List Ref)->Int->Option (List Ref)):Nat->List Ref × Int × Int->Option (List Ref)
 | 0,_=>none
 | n+1,(l12,v13,v14)=>
  if v14 < (((a0.length - v3):Nat):Int) then
  gx ((l12.drop v3).take (a0.length - v3)) v14 fun x18=>
  gx ((l12.drop v3).take (a0.length - v3)) (IntKind.i64.wrap (v14 - 1)) fun x19=>
  if (sEq x18.Type_ x19.Type_ && sEq x18.Key x19.Key)=true then
  (fK a0 v3 kx11 n) (l12,v13,IntKind.i64.wrap (v14+1))
  else
  gx l12 v13 fun x20=>
  (fK a0 v3 kx11 n) ((l12.set ((v13).toNat) x18),(IntKind.i64.wrap (v13+1)),IntKind.i64.wrap (v14+1))
  else
  kx11 l12 v13
def jL (l23:List Ref) (v24:Int):Option (List Ref):=
 slx l23 v24 (l23.length:Int) fun l25=>
 slx (tn (Ref.mk (⟨#[]⟩) (⟨#[]⟩)) (v24).toNat l23) 0 v24 fun l26=>
 some ((tn (Ref.mk (⟨#[]⟩) (⟨#[]⟩)) (v24).toNat l23).take ((v24).toNat))
def gW (a0:List Ref) (N:Nat):Nat->Nat->Unit->Option (List Ref)
 | 0,v3,()=>
  some a0
 | m+1,v3,()=>
  gx a0 (v3:Int) fun x8=>
  gx a0 (IntKind.i64.wrap ((v3:Int) - 1)) fun x9=>
  if (sEq x8.Type_ x9.Type_ && sEq x8.Key x9.Key)=true then
  slx a0 (v3:Int) (a0.length:Int) fun l10=>
  fK a0 v3 jL N (a0,(v3:Int),1)
  else
  (gW a0 N m (v3+1)) ()
def jw (N:Nat) (a0:List Ref):Option (List Ref):=
 if (a0.length:Int) < 2 then
 some a0
 else
 gW a0 N (a0.length - 1) 1 ()
def gK (kx1:(List Ref)->Option (List Ref)):List ah->Nat->List Ref->Option (List Ref)
 | [],v3,l2=>
  kx1 l2
 | x6::xs,v3,l2=>
  apx 31 l2 [x6.Target] fun l9=>
  (gK kx1 xs (v3+1)) l9
def kL (N:Nat) (l10:List Ref):Option (List Ref):=
 (bX N l10).bind fun r11=>
 (jw N r11).bind fun r12=>
 some r12
def gr (N:Nat) (a0:Txn):Option (List Ref):=
 gK (kL N) a0.Calls 0 []
def kM (kx13:(List aQ)->Option (ae × (List aD))) (N:Nat) (l4:List Txn) (l5:List ai) (l6:List aa) (x11:Txn):List Ref->Nat->List aQ->Option (ae × (List aD))
 | [],v16,l15=>
  kx13 l15
 | x19::xs,v16,l15=>
  (jb N (ae.mk l4 l5 l6) x19 x11.ID).bind fun r22=>
  (eC N r22.1.Fields).bind fun r23=>
  apx 55 l15 [(aQ.mk x19 r23)] fun l24=>
  (kM kx13 N l4 l5 l6 x11 xs (v16+1)) l24
def wu (N:Nat) (l4:List Txn) (l5:List ai) (l6:List aa) (x11:Txn) (l7:List aD) (r12:Value) (rec8:(List Txn × List ai × List aa × List aD)->Option (ae × (List aD))) (l25:List aQ):Option (ae × (List aD)):=
 (tL N (ae.mk l4 l5 l6) [x11.ID]).bind fun r26=>
 apx 135 l7 [(aD.mk x11.ID x11.Client x11.Seq r12 l25)] fun l27=>
 rec8 (r26.Txns,r26.Locks,r26.Stacks,l27)
def kO (N:Nat):Nat->List Txn × List ai × List aa × List aD->Option (ae × (List aD))
 | 0,_=>none
 | n+1,(l4,l5,l6,l7)=>
  (dY N l4 l4 l5 l6).bind fun r9=>
  if r9 < 0 then
  some ((ae.mk l4 l5 l6),l7)
  else
  gx l4 r9 fun x11=>
  (gD N x11.Last).bind fun r12=>
  (gr N x11).bind fun r14=>
  kM (wu N l4 l5 l6 x11 l7 r12 (kO N n)) N l4 l5 l6 x11 r14 0 []
def mX (N:Nat) (a0:ae):Option (ae × (List aD)):=
 (jC N a0).bind fun r2=>
 if r2=true then
 (kD N a0).bind fun r3=>
 kO N N (r3.Txns,r3.Locks,r3.Stacks,[])
 else
 some ((ae.mk [] [] []),[])
def lf (N:Nat) (a0:ae) (a1:Int):Option (Txn × Bool):=
 (eW N a0 a1).bind fun r2=>
 if 0<=r2 then
 gx a0.Txns r2 fun x3=>
 (jV N x3).bind fun r4=>
 some (r4,true)
 else
 some ((Txn.mk 0 0 (⟨#[]⟩) 0 [] 0 (Value.mk 0 0 (⟨#[]⟩) [] [])),false)
def yq (a0:ae) (r2:Int) (N:Nat) (kx1:Option (List Value)) (c5:Bool):Option (List Value):=
 if c5=true then
 gx a0.Stacks r2 fun x6=>
 gx x6.Layers (IntKind.i64.wrap ((x6.Layers.length:Int) - 1)) fun x7=>
 (eC N x7.Fields).bind fun r8=>
 some r8
 else
 kx1
def yA (N:Nat) (a2:List Value):Option (List Value):=
 (eC N a2).bind fun r9=>
 some r9
def tE (N:Nat) (a0:ae) (a1:Ref) (a2:List Value):Option (List Value):=
 (lW N a0 a1).bind fun r2=>
 if 0<=r2 then
 gx a0.Stacks r2 fun x4=>
 (yq a0 r2 N (yA N a2)) (decide (0 < (x4.Layers.length:Int)))
 else
 (yq a0 r2 N (yA N a2)) false
def sm (kx14:Option Bool) (c16:Bool):Option Bool:=
 if c16=true then
 some false
 else
 kx14
def sU (N:Nat) (v9:Int) (r13:ae × Int × (List Int) × Int) (rec10:(List Txn × List ai × List aa × Int)->Option Bool):Option Bool:=
 (kP N v9).bind fun r17=>
 (kP N v9).bind fun r18=>
 (kh N r13.1 3 [r17] r18).bind fun r19=>
 if r19.2=0 then
 rec10 (r19.1.Txns,r19.1.Locks,r19.1.Stacks,IntKind.i64.wrap (v9+1))
 else
 some false
def fM (N:Nat) (kx5:(List Txn)->(List ai)->(List aa)->Option Bool):Nat->List Txn × List ai × List aa × Int->Option Bool
 | 0,_=>none
 | n+1,(l6,l7,l8,v9)=>
  if v9 < 2 then
  (iF N (ae.mk l6 l7 l8) 3).bind fun r13=>
  if r13.2.2.2=0 then
  (sm (sU N v9 r13 (fM N kx5 n))) (!decide (r13.2.1=1))
  else
  (sm (sU N v9 r13 (fM N kx5 n))) true
  else
  kx5 l6 l7 l8
def vU (kx29:Option Bool) (c31:Bool):Option Bool:=
 if c31=true then
 some false
 else
 kx29
def sj (kx35:Option Bool) (c39:Bool):Option Bool:=
 if c39=true then
 some false
 else
 kx35
def vY (kx41:Option Bool) (c43:Bool):Option Bool:=
 if c43=true then
 some false
 else
 kx41
def su (kx47:Option Bool) (c50:Bool):Option Bool:=
 if c50=true then
 some false
 else
 kx47
def sp (N:Nat) (r46:ae × (List aD)):Option Bool:=
 (lf N r46.1 5).bind fun r51=>
 if r51.2=true then
 (gr N r51.1).bind fun r53=>
 if (r53.length:Int)=1 then
 (tE N r46.1 (Ref.mk (⟨#[65]⟩) (⟨#[97]⟩)) []).bind fun r54=>
 some (decide ((r54.length:Int)=1))
 else
 some false
 else
 some false
def wj (N:Nat) (r34:ae × Int):Option Bool:=
 (fS N r34.1 3 (Ref.mk (⟨#[65]⟩) (⟨#[98]⟩))).bind fun r44=>
 if r44.2=0 then
 (mX N r44.1).bind fun r46=>
 if (r46.2.length:Int)=1 then
 gx r46.2 0 fun x49=>
 if x49.ID=3 then
 (su (sp N r46)) (!decide ((x49.Writes.length:Int)=2))
 else
 (su (sp N r46)) true
 else
 (su (sp N r46)) true
 else
 some false
def rY (N:Nat) (r34:ae × Int):Option Bool:=
 (kB N r34.1 3).bind fun r40=>
 if r40.2.2=0 then
 (vY (wj N r34)) (!decide ((r40.2.1.length:Int)=2))
 else
 (vY (wj N r34)) true
def u6 (N:Nat) (r28:ae × Int × (List Int) × Int):Option Bool:=
 (kP N 9).bind fun r32=>
 (kP N 9).bind fun r33=>
 (kh N r28.1 5 [r32] r33).bind fun r34=>
 if r34.2=0 then
 (lE N r34.1 (Ref.mk (⟨#[65]⟩) (⟨#[97]⟩))).bind fun r37=>
 if (r37.length:Int)=2 then
 (jC N r34.1).bind fun r38=>
 (sj (rY N r34)) (!r38)
 else
 (sj (rY N r34)) true
 else
 (sj (rY N r34)) true
def qV (N:Nat) (l23:List Txn) (l24:List ai) (l25:List aa):Option Bool:=
 (fS N (ae.mk l23 l24 l25) 3 (Ref.mk (⟨#[65]⟩) (⟨#[97]⟩))).bind fun r26=>
 if r26.2=0 then
 (iF N r26.1 5).bind fun r28=>
 if r28.2.2.2=0 then
 (vU (u6 N r28)) (!decide (r28.2.1=1))
 else
 (vU (u6 N r28)) true
 else
 some false
def uF (N:Nat)  : Option Bool:=
 (jP N (ae.mk [] [] []) 3 0 (⟨#[99]⟩) 1 [(ah.mk (Ref.mk (⟨#[65]⟩) (⟨#[97]⟩)) (⟨#[109]⟩) []),(ah.mk (Ref.mk (⟨#[65]⟩) (⟨#[98]⟩)) (⟨#[109]⟩) [])]).bind fun r1=>
 if r1.2=0 then
 (jP N r1.1 5 0 (⟨#[99]⟩) 2 [(ah.mk (Ref.mk (⟨#[65]⟩) (⟨#[97]⟩)) (⟨#[109]⟩) [])]).bind fun r3=>
 if r3.2=0 then
 fM N (qV N) N (r3.1.Txns,r3.1.Locks,r3.1.Stacks,0)
 else
 some false
 else
 some false
def vV (N:Nat) (a0:ae) (a1:Int):Option Int:=
 if (a0.Txns.length:Int)=0 then
 some 0
 else
 dvx (a0.Txns.length:Int) <|
 gx a0.Txns (Int.tmod (IntKind.i64.wrap a1) (a0.Txns.length:Int)) fun x2=>
 some x2.ID
def vh (N:Nat) (a0:Int):Option Ref:=
 sls (⟨#[97,98,99,100]⟩) (IntKind.i64.wrap (Int.tmod a0 4)) (IntKind.i64.wrap ((IntKind.i64.wrap (Int.tmod a0 4))+1)) fun s1=>
 some (Ref.mk (⟨#[65]⟩) s1)
def od (a0:aj) (N:Nat):Nat->List ah × Int->Option (List ah)
 | 0,_=>none
 | n+1,(l2,v3)=>
  if v3<=(IntKind.i64.wrap (Int.tmod a0.Who 4)) then
  shx (IntKind.u64.wrap (2 * (IntKind.u64.wrap (Int.tmod v3 4)))) <|
  (vh N (jW .u8 a0.Arg (IntKind.u64.wrap (2 * (IntKind.u64.wrap (Int.tmod v3 4)))))).bind fun r7=>
  apx 71 l2 [(ah.mk r7 (⟨#[109]⟩) [])] fun l8=>
  (od a0 N n) (l8,IntKind.i64.wrap (v3+1))
  else
  some l2
def w5 (N:Nat) (a0:aj):Option (List ah):=
 od a0 N N ([],0)
def iX (N:Nat) (a0:Value):Option Value:=
 apn 7 a0.I <|
 apn 15 a0.L <|
 some a0
def jg (N:Nat):List Value->Nat->List Value->Option (List Value)
 | [],v3,l2=>
  some l2
 | x6::xs,v3,l2=>
  (iX N x6).bind fun r9=>
  apx 79 l2 [r9] fun l10=>
  (jg N xs (v3+1)) l10
def lr (N:Nat) (a0:List Value):Option (List Value):=
 jg N a0 0 []
def jz (N:Nat):List ah->Nat->List ah->Option (List ah)
 | [],v3,l2=>
  some l2
 | x6::xs,v3,l2=>
  (lr N x6.Args).bind fun r9=>
  apx 71 l2 [(ah.mk x6.Target x6.Method r9)] fun l10=>
  (jz N xs (v3+1)) l10
def mj (N:Nat) (a0:List ah):Option (List ah):=
 jz N a0 0 []
def p9 (N:Nat) (a0:Txn):Option Txn:=
 (mj N a0.Calls).bind fun r1=>
 (iX N a0.Last).bind fun r2=>
 some (Txn.mk a0.ID a0.Born a0.Client a0.Seq r1 a0.Done r2)
def pT (a1:Int) (N:Nat):List Txn->Nat->Unit->Option (Txn × Bool)
 | [],v2,()=>
  some ((Txn.mk 0 0 (⟨#[]⟩) 0 [] 0 (Value.mk 0 0 (⟨#[]⟩) [] [])),false)
 | x5::xs,v2,()=>
  if x5.ID=a1 then
  (p9 N x5).bind fun r8=>
  some (r8,true)
  else
  (pT a1 N xs (v2+1)) ()
def zw (N:Nat) (a0:ae) (a1:Int):Option (Txn × Bool):=
 pT a1 N a0.Txns 0 ()
def vT (N:Nat) (a0:Ref) (a1:Ref):Option Bool:=
 if (sLt a0.Type_ a1.Type_)=true then
 some true
 else
 if (sEq a0.Type_ a1.Type_)=true then
 some (sLt a0.Key a1.Key)
 else
 some false
def o9 (rec11:Int->Option (List Ref)) (v10:Int) (kx9:Int->Option (List Ref)) (c16:Bool):Option (List Ref):=
 if c16=true then
 rec11 (IntKind.i64.wrap (v10 - 1))
 else
 kx9 v10
def jn (l2:List Ref) (N:Nat) (x6:ah) (kx9:Int->Option (List Ref)):Nat->Int->Option (List Ref)
 | 0,_=>none
 | n+1,v10=>
  if 0 < v10 then
  gx l2 (IntKind.i64.wrap (v10 - 1)) fun x14=>
  (vT N x14 x6.Target).bind fun r15=>
  (o9 (jn l2 N x6 kx9 n) v10 kx9) (!r15)
  else
  (o9 (jn l2 N x6 kx9 n) v10 kx9) false
def oH (rec4:List Ref->Option (List Ref)) (l2:List Ref) (kx18:Option (List Ref)) (c21:Bool):Option (List Ref):=
 if c21=true then
 rec4 l2
 else
 kx18
def lg (l2:List Ref) (v17:Int) (x6:ah) (rec4:List Ref->Option (List Ref)):Option (List Ref):=
 slx l2 v17 (l2.length:Int) fun l22=>
 apn 31 ((l2.drop ((v17).toNat)).take (l2.length - (v17).toNat)) <|
 slt l2 v17 fun l23=>
 apx 31 (l2.take ((v17).toNat)) [x6.Target] fun l24=>
 apx 31 l24 ((l2.drop ((v17).toNat)).take (l2.length - (v17).toNat)) fun l25=>
 rec4 l25
def tv (l2:List Ref) (rec4:List Ref->Option (List Ref)) (x6:ah) (v17:Int):Option (List Ref):=
 if v17 < (l2.length:Int) then
 gx l2 v17 fun x20=>
 (oH rec4 l2 (lg l2 v17 x6 rec4)) (sEq x20.Type_ x6.Target.Type_ && sEq x20.Key x6.Target.Key)
 else
 (oH rec4 l2 (lg l2 v17 x6 rec4)) false
def ff (N:Nat):List ah->Nat->List Ref->Option (List Ref)
 | [],v3,l2=>
  some l2
 | x6::xs,v3,l2=>
  jn l2 N x6 (tv l2 (ff N xs (v3+1)) x6) N (l2.length:Int)
def tY (N:Nat) (a0:List ah):Option (List Ref):=
 ff N a0 0 []
def lO (N:Nat) (a0:Txn):Option (List Ref):=
 (tY N a0.Calls).bind fun r1=>
 some r1
def kt (N:Nat) (a0:ae) (a1:Int) (a2:Int):Option Ref:=
 (zw N a0 a1).bind fun r1=>
 (lO N r1.1).bind fun r2=>
 if (r2.length:Int)=0 then
 (vh N a2).bind fun r4=>
 some r4
 else
 dvx (r2.length:Int) <|
 gx r2 (Int.tmod (IntKind.i64.wrap a2) (r2.length:Int)) fun x5=>
 some x5
def ua (N:Nat) (a0:ae) (r1:Int) (a2:aj) (c17:Bool):Option (ae × (List aD)):=
 if c17=true then
 (kt N a0 r1 a2.Arg).bind fun r18=>
 (fS N a0 r1 r18).bind fun r19=>
 if r19.2=0 then
 some (r19.1,[])
 else
 some (a0,[])
 else
 if 0 < (Int.tmod a2.Arg 4) then
 (mX N a0).bind fun r21=>
 some (r21.1,r21.2)
 else
 (kB N a0 r1).bind fun r22=>
 if r22.2.2=0 then
 some (r22.1,[])
 else
 some (a0,[])
def p8 (N:Nat) (a0:ae) (r1:Int) (a2:aj) (c8:Bool):Option (ae × (List aD)):=
 if c8=true then
 (iF N a0 r1).bind fun r9=>
 if r9.2.2.2=0 then
 if r9.2.1=1 then
 (kP N a2.N).bind fun r13=>
 (kP N a2.N).bind fun r14=>
 (kh N r9.1 r1 [r13] r14).bind fun r15=>
 if r15.2=0 then
 some (r15.1,[])
 else
 some (r9.1,[])
 else
 some (r9.1,[])
 else
 some (a0,[])
 else
 if (Int.tmod a2.Kind 8)=5 then
 (ua N a0 r1 a2) true
 else
 (ua N a0 r1 a2) (decide ((Int.tmod a2.Kind 8)=6))
def uj (N:Nat) (a2:aj) (a0:ae) (a1:Int) (r1:Int) (c4:Bool):Option (ae × (List aD)):=
 if c4=true then
 (w5 N a2).bind fun r5=>
 (jP N a0 (IntKind.i64.wrap (a1+1)) a1 (⟨#[99]⟩) (IntKind.i64.wrap (a1+1)) r5).bind fun r6=>
 if r6.2=0 then
 some (r6.1,[])
 else
 some (a0,[])
 else
 if (Int.tmod a2.Kind 8)=2 then
 (p8 N a0 r1 a2) true
 else
 if (Int.tmod a2.Kind 8)=3 then
 (p8 N a0 r1 a2) true
 else
 (p8 N a0 r1 a2) (decide ((Int.tmod a2.Kind 8)=4))
def vR (N:Nat) (a0:ae) (a1:Int) (a2:aj):Option (ae × (List aD)):=
 (vV N a0 a2.Who).bind fun r1=>
 if (Int.tmod a2.Kind 8)=0 then
 (uj N a2 a0 a1 r1) true
 else
 (uj N a2 a0 a1 r1) (decide ((Int.tmod a2.Kind 8)=1))
def kX (a1:List Int):List Int->Nat->Unit->Option Bool
 | [],v3,()=>
  some true
 | x6::xs,v3,()=>
  gx a1 (v3:Int) fun x9=>
  if x6=x9 then
  (kX a1 xs (v3+1)) ()
  else
  some false
def ug (N:Nat) (a0:List Int) (a1:List Int):Option Bool:=
 if (a0.length:Int)=(a1.length:Int) then
 kX a1 a0 0 ()
 else
 some false
def je (a1:List ByteArray):List ByteArray->Nat->Unit->Option Bool
 | [],v3,()=>
  some true
 | x6::xs,v3,()=>
  gx a1 (v3:Int) fun x9=>
  if (sEq x6 x9)=true then
  (je a1 xs (v3+1)) ()
  else
  some false
def o5 (N:Nat) (a0:List ByteArray) (a1:List ByteArray):Option Bool:=
 if (a0.length:Int)=(a1.length:Int) then
 je a1 a0 0 ()
 else
 some false
def k9 (N:Nat) (a0:Value) (a1:Value):Option Bool:=
 if a0.Kind=a1.Kind then
 if a0.N=a1.N then
 if (sEq a0.S a1.S)=true then
 (ug N a0.I a1.I).bind fun r2=>
 if r2=true then
 (o5 N a0.L a1.L).bind fun r3=>
 some r3
 else
 some false
 else
 some false
 else
 some false
 else
 some false
def jf (a1:List Value) (N:Nat):List Value->Nat->Unit->Option Bool
 | [],v3,()=>
  some true
 | x6::xs,v3,()=>
  gx a1 (v3:Int) fun x9=>
  (k9 N x6 x9).bind fun r10=>
  if r10=true then
  (jf a1 N xs (v3+1)) ()
  else
  some false
def oZ (N:Nat) (a0:List Value) (a1:List Value):Option Bool:=
 if (a0.length:Int)=(a1.length:Int) then
 jf a1 N a0 0 ()
 else
 some false
def pY (x5:aa) (N:Nat) (a0:ae) (rec3:Unit->Option Bool):Nat->Int->Option Bool
 | 0,_=>none
 | n+1,v8=>
  if v8 < (x5.Layers.length:Int) then
  gx x5.Layers v8 fun x12=>
  (lf N a0 x12.Txn_).bind fun r13=>
  if r13.2=true then
  (pY x5 N a0 rec3 n) (IntKind.i64.wrap (v8+1))
  else
  some false
  else
  rec3 ()
def pW (kx1:Option Bool) (N:Nat) (a0:ae):List aa->Nat->Unit->Option Bool
 | [],v2,()=>
  kx1
 | x5::xs,v2,()=>
  pY x5 N a0 (pW kx1 N a0 xs (v2+1)) N 0
def qb (x18:ai) (N:Nat) (a0:ae) (rec16:Unit->Option Bool):Nat->Int->Option Bool
 | 0,_=>none
 | n+1,v23=>
  if v23 < (x18.Waiters.length:Int) then
  gx x18.Waiters v23 fun x27=>
  (lf N a0 x27).bind fun r28=>
  if r28.2=true then
  (qb x18 N a0 rec16 n) (IntKind.i64.wrap (v23+1))
  else
  some false
  else
  rec16 ()
def qe (N:Nat) (a0:ae):List ai->Nat->Unit->Option Bool
 | [],v15,()=>
  some true
 | x18::xs,v15,()=>
  (lf N a0 x18.Owner).bind fun r22=>
  if r22.2=true then
  qb x18 N a0 (qe N a0 xs (v15+1)) N 0
  else
  some false
def yz (N:Nat) (a0:ae):Option Bool:=
 qe N a0 a0.Locks 0 ()
def wm (N:Nat) (a0:ae):Option Bool:=
 pW (yz N a0) N a0 a0.Stacks 0 ()
def iw (kx24:Option Bool) (c27:Bool):Option Bool:=
 if c27=true then
 some false
 else
 kx24
def ey (kx35:Bool->Option Bool) (r22:Txn × Bool) (x19:aD) (v28:Nat) (N:Nat):List al->Nat->Bool->Option Bool
 | [],v37,c36=>
  kx35 c36
 | x40::xs,v37,c36=>
  if c36=true then
  (ey kx35 r22 x19 v28 N xs (v37+1)) true
  else
  if x40.Txn_=r22.1.ID then
  if x40.Prepared=true then
  gx x19.Writes (v28:Int) fun x43=>
  (oZ N x40.Fields x43.Fields).bind fun r44=>
  (ey kx35 r22 x19 v28 N xs (v37+1)) r44
  else
  (ey kx35 r22 x19 v28 N xs (v37+1)) false
  else
  (ey kx35 r22 x19 v28 N xs (v37+1)) false
def qT (rec29:Unit->Option Bool) (c49:Bool):Option Bool:=
 if c49=true then
 some false
 else
 rec29 ()
def vL (x19:aD) (v28:Nat) (x31:Ref) (rec29:Unit->Option Bool) (c46:Bool):Option Bool:=
 gx x19.Writes (v28:Int) fun x48=>
 if (sEq x48.Actor.Type_ x31.Type_ && sEq x48.Actor.Key x31.Key)=true then
 (qT rec29) (!c46)
 else
 (qT rec29) true
def iq (rec17:Unit->Option Bool) (N:Nat) (l5:List Txn) (l6:List ai) (l7:List aa) (x19:aD) (r22:Txn × Bool):List Ref->Nat->Unit->Option Bool
 | [],v28,()=>
  rec17 ()
 | x31::xs,v28,()=>
  (lE N (ae.mk l5 l6 l7) x31).bind fun r34=>
  ey (vL x19 v28 x31 (iq rec17 N l5 l6 l7 x19 r22 xs (v28+1))) r22 x19 v28 N r34 0 false
def iG (rec17:Unit->Option Bool) (N:Nat) (l5:List Txn) (l6:List ai) (l7:List aa) (x19:aD) (r22:Txn × Bool) (r23:List Ref):Option Bool:=
 iq rec17 N l5 l6 l7 x19 r22 r23 0 ()
def dt (kx15:Option Bool) (N:Nat) (l5:List Txn) (l6:List ai) (l7:List aa):List aD->Nat->Unit->Option Bool
 | [],v16,()=>
  kx15
 | x19::xs,v16,()=>
  (lf N (ae.mk l5 l6 l7) x19.ID).bind fun r22=>
  (gr N r22.1).bind fun r23=>
  if r22.2=true then
  if (r23.length:Int)=(x19.Writes.length:Int) then
  if (sEq x19.Client r22.1.Client)=true then
  if x19.Seq=r22.1.Seq then
  (k9 N x19.Value_ r22.1.Last).bind fun r26=>
  (iw (iG (dt kx15 N l5 l6 l7 xs (v16+1)) N l5 l6 l7 x19 r22 r23)) (!r26)
  else
  (iw (iG (dt kx15 N l5 l6 l7 xs (v16+1)) N l5 l6 l7 x19 r22 r23)) true
  else
  (iw (iG (dt kx15 N l5 l6 l7 xs (v16+1)) N l5 l6 l7 x19 r22 r23)) true
  else
  (iw (iG (dt kx15 N l5 l6 l7 xs (v16+1)) N l5 l6 l7 x19 r22 r23)) true
  else
  (iw (iG (dt kx15 N l5 l6 l7 xs (v16+1)) N l5 l6 l7 x19 r22 r23)) true
def qO (N:Nat) (r14:ae × (List aD)) (rec9:(List Txn × List ai × List aa)->Option Bool):Option Bool:=
 (wm N r14.1).bind fun r50=>
 if r50=true then
 rec9 (r14.1.Txns,r14.1.Locks,r14.1.Stacks)
 else
 some false
def gf (N:Nat):List aj->Nat->List Txn × List ai × List aa->Option Bool
 | [],v8,(l5,l6,l7)=>
  some true
 | x11::xs,v8,(l5,l6,l7)=>
  (vR N (ae.mk l5 l6 l7) (v8:Int) x11).bind fun r14=>
  dt (qO N r14 (gf N xs (v8+1))) N l5 l6 l7 r14.2 0 ()
def mw (N:Nat) (a0:List aj):Option Bool:=
 (uF N).bind fun r2=>
 if r2=true then
 if 60 < (a0.length:Int) then
 some true
 else
 gf N a0 0 ([],[],[])
 else
 some false
end
end Go.Proofs.YtmacaidmhchpgaaGreat
