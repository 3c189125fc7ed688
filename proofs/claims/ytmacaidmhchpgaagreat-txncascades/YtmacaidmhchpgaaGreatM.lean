/- The models of the functions. No statement. -/
import Derived.Test.YtmacaidmhchpgaaGreatT
/- The functions of the program as plain functions on plain data. -/
set_option maxHeartbeats 40000000
set_option synthInstance.maxHeartbeats 2000000
set_option synthInstance.maxSize 4000
set_option linter.unusedSimpArgs false
set_option linter.unusedVariables false
set_option maxRecDepth 100000
namespace Go.Proofs.YtmacaidmhchpgaaGreat
open Go Go.Proofs Go.Abs
noncomputable section
def qT (kx1:Option Bool) (c3:Bool):Option Bool:=
 if c3=true then
 some false
 else
 kx1
def qI (kx7:Bool->Option Bool) (a0:Value) (c11:Bool):Option Bool:=
 if c11=true then
 kx7 true
 else
 if 0 < (a0.L.length:Int) then
 kx7 (!decide (a0.Kind=5))
 else
 kx7 false
def qQ (kx7:Bool->Option Bool) (a0:Value) (c9:Bool):Option Bool:=
 if c9=true then
 kx7 true
 else
 if 0 < (a0.I.length:Int) then
 (qI kx7 a0) (!decide (a0.Kind=4))
 else
 (qI kx7 a0) false
def ra (kx4:Option Bool) (c12:Bool):Option Bool:=
 if c12=true then
 some false
 else
 kx4
def jS (a0:Value) (kx4:Option Bool) (c6:Bool):Option Bool:=
 if c6=true then
 some false
 else
 if (sEq a0.S (⟨#[]⟩))=true then
 (qQ (ra kx4) a0) false
 else
 (qQ (ra kx4) a0) (!decide (a0.Kind=3))
def mn (kx13:Option Bool) (c15:Bool):Option Bool:=
 if c15=true then
 some false
 else
 kx13
def jN  : List ByteArray->Nat->Unit->Option Bool
 | [],v17,()=>
  some true
 | x20::xs,v17,()=>
  if 64 < (x20.size:Int) then
  some false
  else
  (jN xs (v17+1)) ()
def lU (a0:Value):Option Bool:=
 jN a0.L 0 ()
def jR (a0:Value):Option Bool:=
 if 64 < (a0.S.size:Int) then
 (mn (lU a0)) true
 else
 if 16 < (a0.I.length:Int) then
 (mn (lU a0)) true
 else
 (mn (lU a0)) (decide (16 < (a0.L.length:Int)))
def qW (a0:Value) (N:Nat):Option Bool:=
 if a0.N=0 then
 (jS a0 (jR a0)) false
 else
 if a0.Kind=1 then
 (jS a0 (jR a0)) false
 else
 if a0.Kind=2 then
 (jS a0 (jR a0)) (!decide (a0.N=1))
 else
 (jS a0 (jR a0)) true
def gW (N:Nat) (a0:Value):Option Bool:=
 if a0.Kind < 0 then
 (qT (qW a0 N)) true
 else
 (qT (qW a0 N)) (decide (5 < a0.Kind))
def mv (N:Nat) (a0:Value):Option Bool:=
 if a0.Kind=0 then
 some true
 else
 (gW N a0).bind fun r2=>
 some (!r2)
def bZ (N:Nat):List Value->Nat->Unit->Option Int
 | [],v2,()=>
  some (-1)
 | x5::xs,v2,()=>
  (mv N x5).bind fun r8=>
  if r8=true then
  some (v2:Int)
  else
  (bZ N xs (v2+1)) ()
def dw (N:Nat) (a0:List Value):Option Int:=
 bZ N a0 0 ()
def bu (N:Nat) (a0:List Value):Option Bool:=
 (dw N a0).bind fun r1=>
 some (decide (0<=r1))
def iz (kx1:Option Bool) (c3:Bool):Option Bool:=
 if c3=true then
 some false
 else
 kx1
def iG (N:Nat) (a0:ah):Option Bool:=
 (bu N a0.Args).bind fun r4=>
 some (!r4)
def qn (N:Nat) (a0:ah):Option Bool:=
 if (a0.Target.Type_.size:Int) < 1 then
 (iz (iG N a0)) true
 else
 if 32 < (a0.Target.Type_.size:Int) then
 (iz (iG N a0)) true
 else
 if 32 < (a0.Target.Key.size:Int) then
 (iz (iG N a0)) true
 else
 if (a0.Method.size:Int) < 1 then
 (iz (iG N a0)) true
 else
 if 32 < (a0.Method.size:Int) then
 (iz (iG N a0)) true
 else
 (iz (iG N a0)) (decide (4 < (a0.Args.length:Int)))
def oP (N:Nat) (a0:ah):Option Bool:=
 (qn N a0).bind fun r1=>
 some (!r1)
def bC (N:Nat):List ah->Nat->Unit->Option Int
 | [],v2,()=>
  some (-1)
 | x5::xs,v2,()=>
  (oP N x5).bind fun r8=>
  if r8=true then
  some (v2:Int)
  else
  (bC N xs (v2+1)) ()
def b8 (N:Nat) (a0:List ah):Option Int:=
 bC N a0 0 ()
def bn (N:Nat) (a0:List ah):Option Bool:=
 (b8 N a0).bind fun r1=>
 some (decide (0<=r1))
def fW (kx1:Option Bool) (c3:Bool):Option Bool:=
 if c3=true then
 some false
 else
 kx1
def gV (kx4:Option Bool) (c7:Bool):Option Bool:=
 if c7=true then
 some false
 else
 kx4
def gX (N:Nat) (a0:Txn):Option Bool:=
 (bn N a0.Calls).bind fun r8=>
 some (!r8)
def fS (a0:Txn) (N:Nat):Option Bool:=
 if (a0.Calls.length:Int) < 1 then
 (gV (gX N a0)) true
 else
 if 4 < (a0.Calls.length:Int) then
 (gV (gX N a0)) true
 else
 if a0.Done < 0 then
 (gV (gX N a0)) true
 else
 if (a0.Calls.length:Int) < a0.Done then
 (gV (gX N a0)) true
 else
 (gW N a0.Last).bind fun r6=>
 if r6=true then
 if a0.Done=0 then
 (gV (gX N a0)) (!decide (a0.Last.Kind=0))
 else
 (gV (gX N a0)) false
 else
 (gV (gX N a0)) true
def pf (N:Nat) (a0:Txn):Option Bool:=
 if a0.ID < 1 then
 (fW (fS a0 N)) true
 else
 if 1099511627776 < a0.ID then
 (fW (fS a0 N)) true
 else
 if a0.Born < 0 then
 (fW (fS a0 N)) true
 else
 if 1099511627776 < a0.Born then
 (fW (fS a0 N)) true
 else
 if (a0.Client.size:Int) < 1 then
 (fW (fS a0 N)) true
 else
 if 32 < (a0.Client.size:Int) then
 (fW (fS a0 N)) true
 else
 if a0.Seq < 1 then
 (fW (fS a0 N)) true
 else
 ((fW (fS a0 N)) (decide (1099511627776 < a0.Seq)))
def lL (rec3:Unit->Option Bool) (c11:Bool):Option Bool:=
 if c11=true then
 some false
 else
 rec3 ()
def gv (a0:ae) (N:Nat):List Txn->Nat->Unit->Option Bool
 | [],v2,()=>
  some (decide ((a0.Txns.length:Int)<=32))
 | x5::xs,v2,()=>
  (pf N x5).bind fun r9=>
  if r9=true then
  if 0 < (v2:Int) then
  gx a0.Txns (IntKind.i64.wrap ((v2:Int) - 1)) fun x10=>
  (lL (gv a0 N xs (v2+1))) (decide (x5.ID<=x10.ID))
  else
  (lL (gv a0 N xs (v2+1))) false
  else
  (lL (gv a0 N xs (v2+1))) true
def uC (N:Nat) (a0:ae):Option Bool:=
 gv a0 N a0.Txns 0 ()
def iI (N:Nat) (a0:Ref):Option Bool:=
 if 1<=(a0.Type_.size:Int) then
 if (a0.Type_.size:Int)<=32 then
 some (decide ((a0.Key.size:Int)<=32))
 else
 some false
 else
 some false
def jP (N:Nat) (a0:Int):Option Bool:=
 if 1<=a0 then
 some (decide (a0<=1099511627776))
 else
 some false
def mo (kx1:Option Bool) (c5:Bool):Option Bool:=
 if c5=true then
 some false
 else
 kx1
def iE (rec8:Unit->Option Bool) (c15:Bool):Option Bool:=
 if c15=true then
 some false
 else
 rec8 ()
def eV (a0:ai):List Int->Nat->Unit->Option Bool
 | [],v7,()=>
  some true
 | x10::xs,v7,()=>
  if x10 < 1 then
  (iE (eV a0 xs (v7+1))) true
  else
  if a0.Owner<=x10 then
  (iE (eV a0 xs (v7+1))) true
  else
  if 0 < (v7:Int) then
  gx a0.Waiters (IntKind.i64.wrap ((v7:Int) - 1)) fun x14=>
  (iE (eV a0 xs (v7+1))) (decide (x10<=x14))
  else
  (iE (eV a0 xs (v7+1))) false
def mf (a0:ai):Option Bool:=
 eV a0 a0.Waiters 0 ()
def mu (N:Nat) (a0:ai):Option Bool:=
 (iI N a0.Actor).bind fun r3=>
 if r3=true then
 (jP N a0.Owner).bind fun r4=>
 if r4=true then
 (mo (mf a0)) (decide (32 < (a0.Waiters.length:Int)))
 else
 (mo (mf a0)) true
 else
 (mo (mf a0)) true
def k8 (N:Nat) (a0:ByteArray):Option Bool:=
 some (!(sEq a0 a0))
def eZ (N:Nat) (a0:ByteArray) (a1:ByteArray):Option Int:=
 (k8 N a0).bind fun r1=>
 (k8 N a1).bind fun r2=>
 if r1=true then
 if r2=true then
 some 0
 else
 some (-1)
 else
 if r2=true then
 some 1
 else
 if (sLt a0 a1)=true then
 some (-1)
 else
 if (sLt a0 a1 || sEq a0 a1)=true then
 some 0
 else
 some 1
def qh  : List Int->Nat->Unit->Option Int
 | [],v2,()=>
  some 0
 | x5::xs,v2,()=>
  if x5=0 then
  (qh xs (v2+1)) ()
  else
  some x5
def tO (N:Nat) (a0:List Int):Option Int:=
 qh a0 0 ()
def mO (N:Nat) (a0:Ref) (a1:Ref):Option Int:=
 (eZ N a0.Type_ a1.Type_).bind fun r1=>
 (eZ N a0.Key a1.Key).bind fun r2=>
 (tO N [r1,r2]).bind fun r3=>
 some r3
def oC (rec4:Unit->Option Bool) (c13:Bool):Option Bool:=
 if c13=true then
 some false
 else
 rec4 ()
def jL (N:Nat) (a0:List ai):List ai->Nat->Unit->Option Bool
 | [],v3,()=>
  some true
 | x6::xs,v3,()=>
  (mu N x6).bind fun r10=>
  if r10=true then
  if 0 < (v3:Int) then
  gx a0 (IntKind.i64.wrap ((v3:Int) - 1)) fun x11=>
  (mO N x11.Actor x6.Actor).bind fun r12=>
  (oC (jL N a0 xs (v3+1))) (decide (0<=r12))
  else
  (oC (jL N a0 xs (v3+1))) false
  else
  (oC (jL N a0 xs (v3+1))) true
def js (N:Nat) (a0:List ai):Option Bool:=
 if 128 < (a0.length:Int) then
 some false
 else
 jL N a0 a0 0 ()
def ye (N:Nat) (a0:Txn) (c0_0:Int):Option Bool:=
 some (decide (a0.ID=c0_0))
def dN (N:Nat) (k1_0_0:Int):List Txn->Nat->Unit->Option Int
 | [],v2,()=>
  some (-1)
 | x5::xs,v2,()=>
  (ye N x5 k1_0_0).bind fun r8=>
  if r8=true then
  some (v2:Int)
  else
  (dN N k1_0_0 xs (v2+1)) ()
def eE (N:Nat) (a0:List Txn) (k1_0_0:Int):Option Int:=
 dN N k1_0_0 a0 0 ()
def fh (N:Nat) (a0:ae) (a1:Int):Option Int:=
 (eE N a0.Txns a1).bind fun r1=>
 some r1
def lj (N:Nat) (a0:Int) (c0_0:List Txn) (c0_1:List ai) (c0_2:List aa):Option Bool:=
 (fh N (ae.mk c0_0 c0_1 c0_2) a0).bind fun r1=>
 some (decide (r1 < 0))
def dj (N:Nat) (k1_0_0:List Txn) (k1_0_1:List ai) (k1_0_2:List aa):List Int->Nat->Unit->Option Int
 | [],v2,()=>
  some (-1)
 | x5::xs,v2,()=>
  (lj N x5 k1_0_0 k1_0_1 k1_0_2).bind fun r8=>
  if r8=true then
  some (v2:Int)
  else
  (dj N k1_0_0 k1_0_1 k1_0_2 xs (v2+1)) ()
def dG (N:Nat) (a0:List Int) (k1_0_0:List Txn) (k1_0_1:List ai) (k1_0_2:List aa):Option Int:=
 dj N k1_0_0 k1_0_1 k1_0_2 a0 0 ()
def de (N:Nat) (a0:List Int) (k1_0_0:List Txn) (k1_0_1:List ai) (k1_0_2:List aa):Option Bool:=
 (dG N a0 k1_0_0 k1_0_1 k1_0_2).bind fun r1=>
 some (decide (0<=r1))
def wV (rec5:Unit->Option Bool) (c13:Bool):Option Bool:=
 if c13=true then
 some false
 else
 rec5 ()
def iS (N:Nat) (a0:ae):List ai->Nat->Unit->Option Bool
 | [],v4,()=>
  some true
 | x7::xs,v4,()=>
  (fh N a0 x7.Owner).bind fun r11=>
  if r11 < 0 then
  (wV (iS N a0 xs (v4+1))) true
  else
  (de N x7.Waiters a0.Txns a0.Locks a0.Stacks).bind fun r12=>
  (wV (iS N a0 xs (v4+1))) r12
def oQ (N:Nat) (a0:ae):Option Bool:=
 (js N a0.Locks).bind fun r2=>
 if r2=true then
 iS N a0 a0.Locks 0 ()
 else
 some false
def kC (N:Nat) (a0:Value):Option Bool:=
 (gW N a0).bind fun r1=>
 some (!r1)
def bL (N:Nat):List Value->Nat->Unit->Option Int
 | [],v2,()=>
  some (-1)
 | x5::xs,v2,()=>
  (kC N x5).bind fun r8=>
  if r8=true then
  some (v2:Int)
  else
  (bL N xs (v2+1)) ()
def dq (N:Nat) (a0:List Value):Option Int:=
 bL N a0 0 ()
def bM (N:Nat) (a0:List Value):Option Bool:=
 (dq N a0).bind fun r1=>
 some (decide (0<=r1))
def kv (N:Nat) (a0:List Value):Option Bool:=
 if (a0.length:Int)<=8 then
 (bM N a0).bind fun r2=>
 some (!r2)
 else
 some false
def kE (N:Nat) (a0:al) (c0_0:Int) (c0_1:List Value) (c0_2:Bool):Option Bool:=
 some (decide (a0.Txn_=c0_0))
def bO (N:Nat) (k1_0_0:Int) (k1_0_1:List Value) (k1_0_2:Bool):List al->Nat->Unit->Option Int
 | [],v2,()=>
  some (-1)
 | x5::xs,v2,()=>
  (kE N x5 k1_0_0 k1_0_1 k1_0_2).bind fun r8=>
  if r8=true then
  some (v2:Int)
  else
  (bO N k1_0_0 k1_0_1 k1_0_2 xs (v2+1)) ()
def dh (N:Nat) (a0:List al) (k1_0_0:Int) (k1_0_1:List Value) (k1_0_2:Bool):Option Int:=
 bO N k1_0_0 k1_0_1 k1_0_2 a0 0 ()
def aZ (N:Nat) (a0:List al) (k1_0_0:Int) (k1_0_1:List Value) (k1_0_2:Bool):Option Bool:=
 (dh N a0 k1_0_0 k1_0_1 k1_0_2).bind fun r1=>
 some (decide (0<=r1))
def jB (rec3:Unit->Option Bool) (c15:Bool):Option Bool:=
 if c15=true then
 some false
 else
 rec3 ()
def eu (a1:List al) (N:Nat) (a0:ae):List al->Nat->Unit->Option Bool
 | [],v2,()=>
  some (decide (0 < (a1.length:Int)))
 | x5::xs,v2,()=>
  (fh N a0 x5.Txn_).bind fun r9=>
  if r9 < 0 then
  (jB (eu a1 N a0 xs (v2+1))) true
  else
  (kv N x5.Fields).bind fun r10=>
  if r10=true then
  if x5.Prepared=true then
  slx a1 0 (v2:Int) fun l11=>
  (aZ N l11 x5.Txn_ x5.Fields x5.Prepared).bind fun r12=>
  (jB (eu a1 N a0 xs (v2+1))) r12
  else
  if (v2:Int) < (IntKind.i64.wrap ((a1.length:Int) - 1)) then
  (jB (eu a1 N a0 xs (v2+1))) true
  else
  slx a1 0 (v2:Int) fun l13=>
  (aZ N l13 x5.Txn_ x5.Fields x5.Prepared).bind fun r14=>
  (jB (eu a1 N a0 xs (v2+1))) r14
  else
  (jB (eu a1 N a0 xs (v2+1))) true
def kq (N:Nat) (a0:ae) (a1:List al):Option Bool:=
 eu a1 N a0 a1 0 ()
def pe (N:Nat) (a0:ai) (a1:Ref):Option Int:=
 (mO N a0.Actor a1).bind fun r1=>
 some r1
def aY (a0:List ai) (N:Nat) (a1:Ref) (kx1:Int->Option (Int × Bool)):Nat->Int × Int->Option (Int × Bool)
 | 0,_=>none
 | n+1,(v2,v3)=>
  if v2 < v3 then
  gx a0 (IntKind.i64.wrap (j8 .u64 (IntKind.u64.wrap (IntKind.i64.wrap (v2+v3))) 1)) fun x6=>
  (pe N x6 a1).bind fun r7=>
  if r7 < 0 then
  (aY a0 N a1 kx1 n) (IntKind.i64.wrap ((IntKind.i64.wrap (j8 .u64 (IntKind.u64.wrap (IntKind.i64.wrap (v2+v3))) 1))+1),v3)
  else
  (aY a0 N a1 kx1 n) (v2,IntKind.i64.wrap (j8 .u64 (IntKind.u64.wrap (IntKind.i64.wrap (v2+v3))) 1))
  else
  kx1 v2
def dM (a0:List ai) (N:Nat) (a1:Ref) (v8:Int):Option (Int × Bool):=
 if v8 < (a0.length:Int) then
 gx a0 v8 fun x10=>
 (pe N x10 a1).bind fun r11=>
 some (v8,(decide (r11=0)))
 else
 some (v8,false)
def dg (N:Nat) (a0:List ai) (a1:Ref):Option (Int × Bool):=
 aY a0 N a1 (dM a0 N a1) N (0,(a0.length:Int))
def qB (N:Nat) (a0:List ai) (a1:Ref):Option (Int × Bool):=
 (dg N a0 a1).bind fun r1=>
 some (r1.1,r1.2)
def ot (N:Nat) (a0:List ai) (a1:Ref):Option Int:=
 (js N a0).bind fun r2=>
 if r2=true then
 (qB N a0 a1).bind fun r4=>
 if r4.2=true then
 gx a0 r4.1 fun x5=>
 some x5.Owner
 else
 some 0
 else
 some 0
def uF (N:Nat) (a0:ah) (c0_0:ByteArray) (c0_1:ByteArray):Option Bool:=
 some (sEq a0.Target.Type_ c0_0 && sEq a0.Target.Key c0_1)
def bP (N:Nat) (k1_0_0:ByteArray) (k1_0_1:ByteArray):List ah->Nat->Unit->Option Int
 | [],v2,()=>
  some (-1)
 | x5::xs,v2,()=>
  (uF N x5 k1_0_0 k1_0_1).bind fun r8=>
  if r8=true then
  some (v2:Int)
  else
  (bP N k1_0_0 k1_0_1 xs (v2+1)) ()
def dc (N:Nat) (a0:List ah) (k1_0_0:ByteArray) (k1_0_1:ByteArray):Option Int:=
 bP N k1_0_0 k1_0_1 a0 0 ()
def bN (N:Nat) (a0:List ah) (k1_0_0:ByteArray) (k1_0_1:ByteArray):Option Bool:=
 (dc N a0 k1_0_0 k1_0_1).bind fun r1=>
 some (decide (0<=r1))
def ov (N:Nat) (a0:List ah) (a1:Ref):Option Bool:=
 (bN N a0 a1.Type_ a1.Key).bind fun r1=>
 some r1
def gF (N:Nat) (a0:Ref) (a1:Ref):Option Int:=
 (eZ N a0.Type_ a1.Type_).bind fun r1=>
 (eZ N a0.Key a1.Key).bind fun r2=>
 (tO N [r1,r2]).bind fun r3=>
 some r3
def jY (kx8:Option Bool) (c14:Bool):Option Bool:=
 if c14=true then
 some false
 else
 kx8
def lZ (kx16:Option Bool) (c19:Bool):Option Bool:=
 if c19=true then
 some false
 else
 kx16
def jK (rec21:Unit->Option Bool) (c31:Bool):Option Bool:=
 if c31=true then
 some false
 else
 rec21 ()
def ff (rec3:Unit->Option Bool) (N:Nat) (a0:ae) (x5:aa):List al->Nat->Unit->Option Bool
 | [],v20,()=>
  rec3 ()
 | x23::xs,v20,()=>
  (fh N a0 x23.Txn_).bind fun r26=>
  gx a0.Txns r26 fun x27=>
  slx x27.Calls 0 x27.Done fun l29=>
  (ov N l29 x5.Actor).bind fun r30=>
  if r30=true then
  if x23.Prepared=true then
  (jK (ff rec3 N a0 x5 xs (v20+1))) (decide (x27.Done < (x27.Calls.length:Int)))
  else
  (jK (ff rec3 N a0 x5 xs (v20+1))) false
  else
  (jK (ff rec3 N a0 x5 xs (v20+1))) true
def mh (rec3:Unit->Option Bool) (N:Nat) (a0:ae) (x5:aa):Option Bool:=
 ff rec3 N a0 x5 x5.Layers 0 ()
def jQ (x5:aa) (rec3:Unit->Option Bool) (N:Nat) (a0:ae):Option Bool:=
 gx x5.Layers (IntKind.i64.wrap ((x5.Layers.length:Int) - 1)) fun x15=>
 if x15.Prepared=true then
 (lZ (mh rec3 N a0 x5)) false
 else
 (ot N a0.Locks x5.Actor).bind fun r18=>
 (lZ (mh rec3 N a0 x5)) (!decide (r18=x15.Txn_))
def ew (a0:ae) (N:Nat):List aa->Nat->Unit->Option Bool
 | [],v2,()=>
  some true
 | x5::xs,v2,()=>
  if 0 < (v2:Int) then
  gx a0.Stacks (IntKind.i64.wrap ((v2:Int) - 1)) fun x10=>
  (gF N x10.Actor x5.Actor).bind fun r11=>
  if 0<=r11 then
  (jY (jQ x5 (ew a0 N xs (v2+1)) N a0)) true
  else
  (kq N a0 x5.Layers).bind fun r12=>
  (jY (jQ x5 (ew a0 N xs (v2+1)) N a0)) (!r12)
  else
  (kq N a0 x5.Layers).bind fun r13=>
  (jY (jQ x5 (ew a0 N xs (v2+1)) N a0)) (!r13)
def mF (N:Nat) (a0:ae):Option Bool:=
 ew a0 N a0.Stacks 0 ()
def yq (N:Nat) (a0:aa) (c0_0:ByteArray) (c0_1:ByteArray):Option Bool:=
 some (sEq a0.Actor.Type_ c0_0 && sEq a0.Actor.Key c0_1)
def bU (N:Nat) (k1_0_0:ByteArray) (k1_0_1:ByteArray):List aa->Nat->Unit->Option Int
 | [],v2,()=>
  some (-1)
 | x5::xs,v2,()=>
  (yq N x5 k1_0_0 k1_0_1).bind fun r8=>
  if r8=true then
  some (v2:Int)
  else
  (bU N k1_0_0 k1_0_1 xs (v2+1)) ()
def dt (N:Nat) (a0:List aa) (k1_0_0:ByteArray) (k1_0_1:ByteArray):Option Int:=
 bU N k1_0_0 k1_0_1 a0 0 ()
def lY (N:Nat) (a0:ae) (a1:Ref):Option Int:=
 (dt N a0.Stacks a1.Type_ a1.Key).bind fun r1=>
 some r1
def sU (a2:Int):List al->Nat->Unit->Option (al × Bool)
 | [],v4,()=>
  some ((al.mk 0 [] false),false)
 | x7::xs,v4,()=>
  if x7.Txn_=a2 then
  some (x7,true)
  else
  (sU a2 xs (v4+1)) ()
def ji (N:Nat) (a0:ae) (a1:Ref) (a2:Int):Option (al × Bool):=
 (lY N a0 a1).bind fun r2=>
 if 0<=r2 then
 gx a0.Stacks r2 fun x3=>
 sU a2 x3.Layers 0 ()
 else
 some ((al.mk 0 [] false),false)
def gC (rec3:Unit->Option Bool) (N:Nat) (a0:ae) (x5:Txn):List ah->Nat->Unit->Option Bool
 | [],v9,()=>
  rec3 ()
 | x12::xs,v9,()=>
  (ji N a0 x12.Target x5.ID).bind fun r15=>
  if r15.2=true then
  (gC rec3 N a0 x5 xs (v9+1)) ()
  else
  some false
def iN (kx1:Option Bool) (N:Nat) (a0:ae):List Txn->Nat->Unit->Option Bool
 | [],v2,()=>
  kx1
 | x5::xs,v2,()=>
  slx x5.Calls 0 x5.Done fun l8=>
  gC (iN kx1 N a0 xs (v2+1)) N a0 x5 l8 0 ()
def eX (kx26:Option Bool) (c29:Bool):Option Bool:=
 if c29=true then
 some false
 else
 kx26
def mY (rec31:Unit->Option Bool) (c40:Bool):Option Bool:=
 if c40=true then
 some false
 else
 rec31 ()
def fg (rec18:Unit->Option Bool) (N:Nat) (a0:ae) (x20:ai):List Int->Nat->Unit->Option Bool
 | [],v30,()=>
  rec18 ()
 | x33::xs,v30,()=>
  (fh N a0 x33).bind fun r36=>
  gx a0.Txns r36 fun x37=>
  if x37.Done=(x37.Calls.length:Int) then
  (mY (fg rec18 N a0 x20 xs (v30+1))) true
  else
  gx x37.Calls x37.Done fun x39=>
  (mY (fg rec18 N a0 x20 xs (v30+1))) (!(sEq x39.Target.Type_ x20.Actor.Type_ && sEq x39.Target.Key x20.Actor.Key))
def fe (rec18:Unit->Option Bool) (N:Nat) (a0:ae) (x20:ai):Option Bool:=
 fg rec18 N a0 x20 x20.Waiters 0 ()
def bH (N:Nat) (a0:ae):List ai->Nat->Unit->Option Bool
 | [],v17,()=>
  some true
 | x20::xs,v17,()=>
  (fh N a0 x20.Owner).bind fun r23=>
  gx a0.Txns r23 fun x24=>
  (ji N a0 x20.Actor x24.ID).bind fun r25=>
  if x24.Done < (x24.Calls.length:Int) then
  if r25.2=true then
  (eX (fe (bH N a0 xs (v17+1)) N a0 x20)) false
  else
  gx x24.Calls x24.Done fun x28=>
  (eX (fe (bH N a0 xs (v17+1)) N a0 x20)) (!(sEq x28.Target.Type_ x20.Actor.Type_ && sEq x28.Target.Key x20.Actor.Key))
  else
  if r25.2=true then
  if r25.1.Prepared=true then
  (eX (fe (bH N a0 xs (v17+1)) N a0 x20)) true
  else
  (eX (fe (bH N a0 xs (v17+1)) N a0 x20)) false
  else
  (eX (fe (bH N a0 xs (v17+1)) N a0 x20)) true
def od (N:Nat) (a0:ae):Option Bool:=
 bH N a0 a0.Locks 0 ()
def kI (N:Nat) (a0:ae):Option Bool:=
 iN (od N a0) N a0 a0.Txns 0 ()
def jm (a1:Int):List Int->Nat->Unit->Option Int
 | [],v2,()=>
  some (-1)
 | x5::xs,v2,()=>
  if a1=x5 then
  some (v2:Int)
  else
  (jm a1 xs (v2+1)) ()
def pd (N:Nat) (a0:List Int) (a1:Int):Option Int:=
 jm a1 a0 0 ()
def dy (N:Nat) (a0:List Int) (a1:Int):Option Bool:=
 (pd N a0 a1).bind fun r1=>
 some (decide (0<=r1))
def zL (kx15:Option Bool) (c17:Bool):Option Bool:=
 if c17=true then
 some false
 else
 kx15
def vO (c8:Bool) (rec10:Bool->Option Bool) (N:Nat) (a2:List Int) (x12:al):Option Bool:=
 if c8=true then
 rec10 true
 else
 (dy N a2 x12.Txn_).bind fun r18=>
 rec10 (!r18)
def km (rec3:Unit->Option Bool) (a1:Int) (N:Nat) (a2:List Int):List al->Nat->Bool->Option Bool
 | [],v9,c8=>
  rec3 ()
 | x12::xs,v9,c8=>
  if x12.Txn_=a1 then
  (zL (vO c8 (km rec3 a1 N a2 xs (v9+1)) N a2 x12)) c8
  else
  (zL (vO c8 (km rec3 a1 N a2 xs (v9+1)) N a2 x12)) false
def oT (a1:Int) (N:Nat) (a2:List Int):List aa->Nat->Unit->Option Bool
 | [],v2,()=>
  some true
 | x5::xs,v2,()=>
  km (oT a1 N a2 xs (v2+1)) a1 N a2 x5.Layers 0 false
def vG (N:Nat) (a0:ae) (a1:Int) (a2:List Int):Option Bool:=
 oT a1 N a2 a0.Stacks 0 ()
def su (l8:List Int) (x12:Txn) (rec10:List Int->Option Bool) (c18:Bool):Option Bool:=
 if c18=true then
 apx 7 l8 [x12.ID] fun l19=>
 rec10 l19
 else
 rec10 l8
def jA (rec4:List Int->Option Bool) (N:Nat) (a0:ae):List Txn->Nat->List Int->Option Bool
 | [],v9,l8=>
  rec4 l8
 | x12::xs,v9,l8=>
  (dy N l8 x12.ID).bind fun r16=>
  if r16=true then
  (su l8 x12 (jA rec4 N a0 xs (v9+1))) false
  else
  (vG N a0 x12.ID l8).bind fun r17=>
  (su l8 x12 (jA rec4 N a0 xs (v9+1))) r17
def lv (a0:ae) (N:Nat):Nat->Nat->List Int->Option Bool
 | 0,v3,l2=>
  some (decide ((l2.length:Int)=(a0.Txns.length:Int)))
 | m+1,v3,l2=>
  jA (lv a0 N m (v3+1)) N a0 a0.Txns 0 l2
def uQ (N:Nat) (a0:ae):Option Bool:=
 lv a0 N (a0.Txns.length - 0) 0 []
def jb (N:Nat) (a0:ae):Option Bool:=
 (uC N a0).bind fun r2=>
 if r2=true then
 (oQ N a0).bind fun r3=>
 if r3=true then
 (mF N a0).bind fun r4=>
 if r4=true then
 (kI N a0).bind fun r5=>
 if r5=true then
 (uQ N a0).bind fun r6=>
 some r6
 else
 some false
 else
 some false
 else
 some false
 else
 some false
def iF (N:Nat) (a0:List Txn):Option (List Txn):=
 apn 151 a0 <|
 some a0
def eL (N:Nat) (a0:List ai):Option (List ai):=
 apn 63 a0 <|
 some a0
def dU (N:Nat) (a0:List aa):Option (List aa):=
 apn 55 a0 <|
 some a0
def ey (N:Nat) (a0:List ah):Option (List ah):=
 apn 71 a0 <|
 some a0
def gf (N:Nat) (a0:List Value):Option (List Value):=
 apn 79 a0 <|
 some a0
def dT (N:Nat) (a0:List Int):Option (List Int):=
 apn 7 a0 <|
 some a0
def fJ (N:Nat) (a0:List ByteArray):Option (List ByteArray):=
 apn 15 a0 <|
 some a0
def gI (N:Nat) (a0:Value):Option Value:=
 (dT N a0.I).bind fun r1=>
 (fJ N a0.L).bind fun r2=>
 some (Value.mk a0.Kind a0.N a0.S r1 r2)
def iH (N:Nat):Nat->Nat->List Value->Option (List Value)
 | 0,v4,l3=>
  some l3
 | m+1,v4,l3=>
  gx l3 (v4:Int) fun x9=>
  (gI N x9).bind fun r10=>
  (iH N m (v4+1)) (l3.set v4 r10)
def eD (N:Nat) (a0:List Value):Option (List Value):=
 (gf N a0).bind fun r1=>
 iH N (r1.length - 0) 0 r1
def kN (N:Nat) (a0:ah):Option ah:=
 (eD N a0.Args).bind fun r1=>
 some (ah.mk a0.Target a0.Method r1)
def j9 (kx2:(List ah)->Option Txn) (N:Nat):Nat->Nat->List ah->Option Txn
 | 0,v4,l3=>
  kx2 l3
 | m+1,v4,l3=>
  gx l3 (v4:Int) fun x9=>
  (kN N x9).bind fun r10=>
  (j9 kx2 N m (v4+1)) (l3.set v4 r10)
def vc (N:Nat) (a0:Txn) (l11:List ah):Option Txn:=
 (gI N a0.Last).bind fun r12=>
 some (Txn.mk a0.ID a0.Born a0.Client a0.Seq l11 a0.Done r12)
def kd (N:Nat) (a0:Txn):Option Txn:=
 (ey N a0.Calls).bind fun r1=>
 j9 (vc N a0) N (r1.length - 0) 0 r1
def gg (N:Nat) (a0:List al):Option (List al):=
 apn 39 a0 <|
 some a0
def iA (N:Nat):Nat->Nat->List al->Option (List al)
 | 0,v4,l3=>
  some l3
 | m+1,v4,l3=>
  gx l3 (v4:Int) fun x9=>
  (eD N x9.Fields).bind fun r10=>
  (iA N m (v4+1)) (l3.set v4 (al.mk x9.Txn_ r10 x9.Prepared))
def ky (N:Nat) (a0:List al):Option (List al):=
 (gg N a0).bind fun r1=>
 iA N (r1.length - 0) 0 r1
def pG (kx4:(List Txn)->Option ae) (N:Nat):Nat->Nat->List Txn->Option ae
 | 0,v6,l5=>
  kx4 l5
 | m+1,v6,l5=>
  gx l5 (v6:Int) fun x11=>
  (kd N x11).bind fun r12=>
  (pG kx4 N m (v6+1)) (l5.set v6 r12)
def oX (kx14:(List ai)->Option ae) (N:Nat):Nat->Nat->List ai->Option ae
 | 0,v16,l15=>
  kx14 l15
 | m+1,v16,l15=>
  gx l15 (v16:Int) fun x21=>
  (dT N x21.Waiters).bind fun r22=>
  (oX kx14 N m (v16+1)) (l15.set v16 (ai.mk x21.Actor x21.Owner r22))
def pk (l13:List Txn) (l23:List ai) (N:Nat):Nat->Nat->List aa->Option ae
 | 0,v26,l25=>
  NL l25 v26 <|
  (some (ae.mk l13 l23 l25))
 | m+1,v26,l25=>
  gx l25 (v26:Int) fun x31=>
  (ky N x31.Layers).bind fun r32=>
  (pk l13 l23 N m (v26+1)) (l25.set v26 (aa.mk x31.Actor r32))
def Ac (l13:List Txn) (N:Nat) (r3:List aa) (l23:List ai):Option ae:=
 pk l13 l23 N (r3.length - 0) 0 r3
def zO (N:Nat) (r3:List aa) (r2:List ai) (l13:List Txn):Option ae:=
 oX (Ac l13 N r3) N (r2.length - 0) 0 r2
def kL (N:Nat) (a0:ae):Option ae:=
 (iF N a0.Txns).bind fun r1=>
 (eL N a0.Locks).bind fun r2=>
 (dU N a0.Stacks).bind fun r3=>
 pG (zO N r3 r2) N (r1.length - 0) 0 r1
def pn (a0:ae) (kx1:Option (ae × Int)) (c8:Bool):Option (ae × Int):=
 if c8=true then
 some ((ae.mk [] [] []),8)
 else
 if (a0.Txns.length:Int)=32 then
 some ((ae.mk [] [] []),5)
 else
 kx1
def z7 (a0:ae) (kx1:Option (ae × Int)) (a1:Int) (c5:Bool):Option (ae × Int):=
 if c5=true then
 some ((ae.mk [] [] []),1)
 else
 if 0 < (a0.Txns.length:Int) then
 gx a0.Txns (IntKind.i64.wrap ((a0.Txns.length:Int) - 1)) fun x7=>
 (pn a0 kx1) (decide (a1<=x7.ID))
 else
 (pn a0 kx1) false
def o7 (N:Nat) (a0:ae) (a1:Int) (a2:Int) (a3:ByteArray) (a4:Int) (a5:List ah):Option (ae × Int):=
 (kL N a0).bind fun r9=>
 (kd N (Txn.mk a1 a2 a3 a4 a5 0 (Value.mk 0 0 (⟨#[]⟩) [] []))).bind fun r10=>
 apx 151 r9.Txns [r10] fun l11=>
 some ((ae.mk l11 r9.Locks r9.Stacks),0)
def jT (N:Nat) (a0:ae) (a1:Int) (a2:Int) (a3:ByteArray) (a4:Int) (a5:List ah):Option (ae × Int):=
 (jb N a0).bind fun r3=>
 if r3=true then
 (pf N (Txn.mk a1 a2 a3 a4 a5 0 (Value.mk 0 0 (⟨#[]⟩) [] []))).bind fun r4=>
 (z7 a0 (o7 N a0 a1 a2 a3 a4 a5) a1) (!r4)
 else
 (z7 a0 (o7 N a0 a1 a2 a3 a4 a5) a1) true
def rr (kx2:Option (ah × Bool)) (c5:Bool):Option (ah × Bool):=
 if c5=true then
 some ((ah.mk (Ref.mk (⟨#[]⟩) (⟨#[]⟩)) (⟨#[]⟩) []),false)
 else
 kx2
def w7 (a0:ae) (r1:Int) (N:Nat):Option (ah × Bool):=
 gx a0.Txns r1 fun x6=>
 gx x6.Calls x6.Done fun x7=>
 (kN N x7).bind fun r8=>
 some (r8,true)
def o8 (N:Nat) (a0:ae) (a1:Int):Option (ah × Bool):=
 (fh N a0 a1).bind fun r1=>
 if r1 < 0 then
 (rr (w7 a0 r1 N)) true
 else
 gx a0.Txns r1 fun x4=>
 if x4.Done < 0 then
 (rr (w7 a0 r1 N)) true
 else
 (rr (w7 a0 r1 N)) (decide ((x4.Calls.length:Int)<=x4.Done))
def lJ (N:Nat):Nat->Nat->List ai->Option (List ai)
 | 0,v4,l3=>
  NL l3 v4 <|
  (some l3)
 | m+1,v4,l3=>
  gx l3 (v4:Int) fun x9=>
  (dT N x9.Waiters).bind fun r10=>
  (lJ N m (v4+1)) (l3.set v4 (ai.mk x9.Actor x9.Owner r10))
def fX (N:Nat) (a0:List ai):Option (List ai):=
 (eL N a0).bind fun r1=>
 lJ N (r1.length - 0) 0 r1
def lX (N:Nat) (a0:List ai) (a1:Int) (a2:List ai):Option (List ai):=Jr 63 a0 a1 a2 fun l=>some l
def qk (N:Nat) (a0:Int):Option Bool:=
 some (!decide (a0=a0))
def pj (N:Nat) (a0:Int) (a1:Int):Option Bool:=
 (qk N a0).bind fun r2=>
 if r2=true then
 (qk N a1).bind fun r3=>
 if r3=true then
 some (decide (a0 < a1))
 else
 some true
 else
 some (decide (a0 < a1))
def k7 (N:Nat) (a0:Int):Option Bool:=
 some (!decide (a0=a0))
def dR (a0:List Int) (N:Nat) (a1:Int) (kx1:Int->Option (Int × Bool)):Nat->Int × Int->Option (Int × Bool)
 | 0,_=>none
 | n+1,(v2,v3)=>
  if v2 < v3 then
  gx a0 (IntKind.i64.wrap (j8 .u64 (IntKind.u64.wrap (IntKind.i64.wrap (v2+v3))) 1)) fun x6=>
  (pj N x6 a1).bind fun r7=>
  if r7=true then
  (dR a0 N a1 kx1 n) (IntKind.i64.wrap ((IntKind.i64.wrap (j8 .u64 (IntKind.u64.wrap (IntKind.i64.wrap (v2+v3))) 1))+1),v3)
  else
  (dR a0 N a1 kx1 n) (v2,IntKind.i64.wrap (j8 .u64 (IntKind.u64.wrap (IntKind.i64.wrap (v2+v3))) 1))
  else
  kx1 v2
def jt (a0:List Int) (a1:Int) (N:Nat) (v8:Int):Option (Int × Bool):=
 if v8 < (a0.length:Int) then
 gx a0 v8 fun x10=>
 if x10=a1 then
 some (v8,true)
 else
 (k7 N x10).bind fun r11=>
 if r11=true then
 (k7 N a1).bind fun r12=>
 some (v8,r12)
 else
 some (v8,false)
 else
 some (v8,false)
def gm (N:Nat) (a0:List Int) (a1:Int):Option (Int × Bool):=
 dR a0 N a1 (jt a0 a1 N) N (0,(a0.length:Int))
def mV (N:Nat) (a0:List Int) (a1:Int) (a2:List Int):Option (List Int):=Jr 7 a0 a1 a2 fun l=>some l
def oU (kx1:Option ((List ai) × Int × Int)) (c6:Bool):Option ((List ai) × Int × Int):=
 if c6=true then
 some ([],0,1)
 else
 kx1
def py (N:Nat) (a0:List ai) (a1:Ref) (a2:Int):Option ((List ai) × Int × Int):=
 (qB N a0 a1).bind fun r7=>
 if r7.2=true then
 gx a0 r7.1 fun x12=>
 (gm N x12.Waiters a2).bind fun r13=>
 if x12.Owner=a2 then
 (fX N a0).bind fun r15=>
 some (r15,1,0)
 else
 if x12.Owner < a2 then
 (fX N a0).bind fun r16=>
 some (r16,3,0)
 else
 if r13.2=true then
 (fX N a0).bind fun r17=>
 some (r17,2,0)
 else
 if (x12.Waiters.length:Int)=32 then
 some ([],0,5)
 else
 (fX N a0).bind fun r18=>
 gx r18 r7.1 fun x19=>
 (mV N x19.Waiters r13.1 [a2]).bind fun r20=>
 some ((r18.set ((r7.1).toNat) (ai.mk x19.Actor x19.Owner r20)),2,0)
 else
 if (a0.length:Int)=128 then
 some ([],0,5)
 else
 (fX N a0).bind fun r10=>
 (lX N r10 r7.1 [(ai.mk a1 a2 [])]).bind fun r11=>
 some (r11,1,0)
def qg (N:Nat) (a0:List ai) (a1:Ref) (a2:Int):Option ((List ai) × Int × Int):=
 (js N a0).bind fun r3=>
 if r3=true then
 (iI N a1).bind fun r4=>
 if r4=true then
 (jP N a2).bind fun r5=>
 (oU (py N a0 a1 a2)) (!r5)
 else
 (oU (py N a0 a1 a2)) true
 else
 (oU (py N a0 a1 a2)) true
def vF (v8:Int) (v9:Int):Option Int:=
 gxs (⟨((([0,1,2,2,3,3,3,3,4,4,4,4,4,4,4,4,5,5,5,5,5,5,5,5,5,5,5,5,5,5,5,5,6,6,6,6,6,6,6,6,6,6,6,6,6,6,6,6,6,6,6,6,6,6,6,6,6,6,6,6,6,6,6,6]:List UInt8).append ([7,7,7,7,7,7,7,7,7,7,7,7,7,7,7,7,7,7,7,7,7,7,7,7,7,7,7,7,7,7,7,7,7,7,7,7,7,7,7,7,7,7,7,7,7,7,7,7,7,7,7,7,7,7,7,7,7,7,7,7,7,7,7,7]:List UInt8)).append (([8,8,8,8,8,8,8,8,8,8,8,8,8,8,8,8,8,8,8,8,8,8,8,8,8,8,8,8,8,8,8,8,8,8,8,8,8,8,8,8,8,8,8,8,8,8,8,8,8,8,8,8,8,8,8,8,8,8,8,8,8,8,8,8]:List UInt8).append ([8,8,8,8,8,8,8,8,8,8,8,8,8,8,8,8,8,8,8,8,8,8,8,8,8,8,8,8,8,8,8,8,8,8,8,8,8,8,8,8,8,8,8,8,8,8,8,8,8,8,8,8,8,8,8,8,8,8,8,8,8,8,8,8]:List UInt8))).toArray⟩:ByteArray) (IntKind.u8.wrap v8) fun b10=>
 some (IntKind.i64.wrap (v9+(IntKind.i64.wrap (b10.toNat:Int))))
def vy (v5:Int) (v6:Int):Option Int:=
 if 256<=v5 then
 vF (j8 .u64 v5 8) (IntKind.i64.wrap (v6+8))
 else
 vF v5 v6
def vX (v2:Int) (v3:Int):Option Int:=
 if 65536<=v2 then
 vy (j8 .u64 v2 16) (IntKind.i64.wrap (v3+16))
 else
 vy v2 v3
def u9 (N:Nat) (a0:Int):Option Int:=
 if 4294967296<=a0 then
 vX (j8 .u64 a0 32) 32
 else
 vX a0 0
def uj (N:Nat) (a0:Int):Option Int:=
 (u9 N a0).bind fun r2=>
 some r2
def gN (kx6:Option (List Int)) (rec2:Int->Option (List Int)) (v1:Int) (c11:Bool):Option (List Int):=
 if c11=true then
 kx6
 else
 rec2 (IntKind.i64.wrap (v1+1))
def gL (a0:List Int) (v1:Int):Option (List Int):=
 gx a0 (IntKind.i64.wrap (v1 - 1)) fun x13=>
 gx a0 v1 fun x14=>
 none
def gT (a1:Int) (v1:Int) (a0:List Int) (N:Nat) (rec2:Int->Option (List Int)):Nat->Unit->Option (List Int)
 | 0,_=>none
 | n+1,()=>
  if a1 < v1 then
  gx a0 v1 fun x8=>
  gx a0 (IntKind.i64.wrap (v1 - 1)) fun x9=>
  (pj N x8 x9).bind fun r10=>
  (gN (gL a0 v1) rec2 v1) r10
  else
  (gN (gL a0 v1) rec2 v1) false
def eG (a2:Int) (a1:Int) (a0:List Int) (N:Nat):Nat->Int->Option (List Int)
 | 0,_=>none
 | n+1,v1=>
  if v1 < a2 then
  gT a1 v1 a0 N (eG a2 a1 a0 N n) N ()
  else
  some a0
def da (N:Nat) (a0:List Int) (a1:Int) (a2:Int):Option (List Int):=
 IZ (fun r=>r) a0 (
 (eG a2 a1 a0 N N (IntKind.i64.wrap (a1+1))))
def jw (a2:Int) (a1:Int) (N:Nat) (a0:List Int) (a3:Int):Nat->Unit->Option (List Int)
 | 0,_=>none
 | n+1,()=>
  if (IntKind.i64.wrap (a2 - a1))<=12 then
  (da N a0 a1 a2).bind fun r3=>
  some r3
  else
  if a3=0 then
  none
  else
  none
def ed (N:Nat) (a0:List Int) (a1:Int) (a2:Int) (a3:Int):Option (List Int):=
 IZ (fun r=>r) a0 (
 (jw a2 a1 N a0 a3 N ()))
def ig (N:Nat) (a0:List Int):Option (List Int):=
 IZ (fun r=>r) a0 (
 (uj N (IntKind.u64.wrap (a0.length:Int))).bind fun r1=>
 (ed N a0 0 (a0.length:Int) r1).bind fun r2=>
 some r2)
def slices_Sort_int (N:Nat) (a0:List Int):Option (List Int):=if a0.isEmpty=true then ig N a0 else EL a0
def mS (l1:List Int) (x14:al) (rec2:List Int->Option (List Int)) (kx17:Bool->Option (List Int)) (c20:Bool) (c21:Bool):Option (List Int):=
 if c21=true then
 apx 7 l1 [x14.Txn_] fun l22=>
 rec2 l22
 else
 kx17 c20
def mT (rec12:Bool->Option (List Int)) (N:Nat) (l1:List Int) (x14:al) (c23:Bool):Option (List Int):=
 if c23=true then
 rec12 true
 else
 (dy N l1 x14.Txn_).bind fun r24=>
 rec12 r24
def fK (rec5:Unit->Option (List Int)) (N:Nat) (l1:List Int) (rec2:List Int->Option (List Int)):List al->Nat->Bool->Option (List Int)
 | [],v11,c10=>
  rec5 ()
 | x14::xs,v11,c10=>
  if c10=true then
  (dy N l1 x14.Txn_).bind fun r19=>
  (mS l1 x14 rec2 (mT (fK rec5 N l1 rec2 xs (v11+1)) N l1 x14)) true (!r19)
  else
  (mS l1 x14 rec2 (mT (fK rec5 N l1 rec2 xs (v11+1)) N l1 x14)) false false
def iZ (kx3:Option (List Int)) (N:Nat) (l1:List Int) (rec2:List Int->Option (List Int)):List aa->Nat->Unit->Option (List Int)
 | [],v4,()=>
  kx3
 | x7::xs,v4,()=>
  fK (iZ kx3 N l1 rec2 xs (v4+1)) N l1 rec2 x7.Layers 0 false
def wT (N:Nat) (l1:List Int):Option (List Int):=
 (slices_Sort_int N l1).bind fun r26=>
 some r26
def kA (N:Nat) (a0:ae):Nat->List Int->Option (List Int)
 | 0,_=>none
 | n+1,l1=>
  iZ (wT N l1) N l1 (kA N a0 n) a0.Stacks 0 ()
def oN (N:Nat) (a0:ae) (a1:Int):Option (List Int):=
 kA N a0 N [a1]
def pC (N:Nat) (a0:Txn) (c0_0:List Int):Option Bool:=
 (dy N c0_0 a0.ID).bind fun r1=>
 some r1
def dL (N:Nat) (k1_0_0:List Int):List Txn->Nat->Unit->Option Int
 | [],v2,()=>
  some (-1)
 | x5::xs,v2,()=>
  (pC N x5 k1_0_0).bind fun r8=>
  if r8=true then
  some (v2:Int)
  else
  (dL N k1_0_0 xs (v2+1)) ()
def fT (N:Nat) (a0:List Txn) (k1_0_0:List Int):Option Int:=
 dL N k1_0_0 a0 0 ()
def bq (N:Nat) (k1_0_0:List Int) (kx3:(List Txn)->Int->Option (List Txn)):Nat->List Txn × Int × Int->Option (List Txn)
 | 0,_=>none
 | n+1,(l4,v5,v6)=>
  if v6 < (l4.length:Int) then
  gx l4 v6 fun x10=>
  (pC N x10 k1_0_0).bind fun r11=>
  if r11=true then
  (bq N k1_0_0 kx3 n) (l4,v5,IntKind.i64.wrap (v6+1))
  else
  gx l4 v5 fun x12=>
  (bq N k1_0_0 kx3 n) ((l4.set ((v5).toNat) x10),(IntKind.i64.wrap (v5+1)),IntKind.i64.wrap (v6+1))
  else
  kx3 l4 v5
def eN (l15:List Txn) (v16:Int):Option (List Txn):=
 slx l15 v16 (l15.length:Int) fun l17=>
 slx (tL (Txn.mk 0 0 (⟨#[]⟩) 0 [] 0 (Value.mk 0 0 (⟨#[]⟩) [] [])) (v16).toNat l15) 0 v16 fun l18=>
 some ((tL (Txn.mk 0 0 (⟨#[]⟩) 0 [] 0 (Value.mk 0 0 (⟨#[]⟩) [] [])) (v16).toNat l15).take ((v16).toNat))
def dW (N:Nat) (a0:List Txn) (k1_0_0:List Int):Option (List Txn):=
 (fT N a0 k1_0_0).bind fun r1=>
 if r1=(-1) then
 some a0
 else
 bq N k1_0_0 eN N (a0,r1,IntKind.i64.wrap (r1+1))
def pK (N:Nat) (a0:al) (c0_0:List Int):Option Bool:=
 (dy N c0_0 a0.Txn_).bind fun r1=>
 some r1
def du (N:Nat) (k1_0_0:List Int):List al->Nat->Unit->Option Int
 | [],v2,()=>
  some (-1)
 | x5::xs,v2,()=>
  (pK N x5 k1_0_0).bind fun r8=>
  if r8=true then
  some (v2:Int)
  else
  (du N k1_0_0 xs (v2+1)) ()
def fA (N:Nat) (a0:List al) (k1_0_0:List Int):Option Int:=
 du N k1_0_0 a0 0 ()
def bk (N:Nat) (k1_0_0:List Int) (kx3:(List al)->Int->Option (List al)):Nat->List al × Int × Int->Option (List al)
 | 0,_=>none
 | n+1,(l4,v5,v6)=>
  if v6 < (l4.length:Int) then
  gx l4 v6 fun x10=>
  (pK N x10 k1_0_0).bind fun r11=>
  if r11=true then
  (bk N k1_0_0 kx3 n) (l4,v5,IntKind.i64.wrap (v6+1))
  else
  gx l4 v5 fun x12=>
  (bk N k1_0_0 kx3 n) ((l4.set ((v5).toNat) x10),(IntKind.i64.wrap (v5+1)),IntKind.i64.wrap (v6+1))
  else
  kx3 l4 v5
def eC (l15:List al) (v16:Int):Option (List al):=
 slx l15 v16 (l15.length:Int) fun l17=>
 slx (tL (al.mk 0 [] false) (v16).toNat l15) 0 v16 fun l18=>
 some ((tL (al.mk 0 [] false) (v16).toNat l15).take ((v16).toNat))
def dK (N:Nat) (a0:List al) (k1_0_0:List Int):Option (List al):=
 (fA N a0 k1_0_0).bind fun r1=>
 if r1=(-1) then
 some a0
 else
 bk N k1_0_0 eC N (a0,r1,IntKind.i64.wrap (r1+1))
def oZ (N:Nat) (a0:aa):Option Bool:=
 some (decide ((a0.Layers.length:Int)=0))
def bQ (N:Nat):List aa->Nat->Unit->Option Int
 | [],v2,()=>
  some (-1)
 | x5::xs,v2,()=>
  (oZ N x5).bind fun r8=>
  if r8=true then
  some (v2:Int)
  else
  (bQ N xs (v2+1)) ()
def en (N:Nat) (a0:List aa):Option Int:=
 bQ N a0 0 ()
def aX (N:Nat) (kx3:(List aa)->Int->Option (List aa)):Nat->List aa × Int × Int->Option (List aa)
 | 0,_=>none
 | n+1,(l4,v5,v6)=>
  if v6 < (l4.length:Int) then
  gx l4 v6 fun x10=>
  (oZ N x10).bind fun r11=>
  if r11=true then
  (aX N kx3 n) (l4,v5,IntKind.i64.wrap (v6+1))
  else
  gx l4 v5 fun x12=>
  (aX N kx3 n) ((l4.set ((v5).toNat) x10),(IntKind.i64.wrap (v5+1)),IntKind.i64.wrap (v6+1))
  else
  kx3 l4 v5
def dJ (l15:List aa) (v16:Int):Option (List aa):=
 slx l15 v16 (l15.length:Int) fun l17=>
 slx (tL (aa.mk (Ref.mk (⟨#[]⟩) (⟨#[]⟩)) []) (v16).toNat l15) 0 v16 fun l18=>
 some ((tL (aa.mk (Ref.mk (⟨#[]⟩) (⟨#[]⟩)) []) (v16).toNat l15).take ((v16).toNat))
def bY (N:Nat) (a0:List aa):Option (List aa):=
 (en N a0).bind fun r1=>
 if r1=(-1) then
 some a0
 else
 aX N dJ N (a0,r1,IntKind.i64.wrap (r1+1))
def mN (kx3:(List aa)->Option ae) (N:Nat) (a1:List Int):Nat->Nat->List aa->Option ae
 | 0,v5,l4=>
  kx3 l4
 | m+1,v5,l4=>
  gx l4 (v5:Int) fun x10=>
  (dK N x10.Layers a1).bind fun r11=>
  (mN kx3 N a1 m (v5+1)) (l4.set v5 (aa.mk x10.Actor r11))
def yK (N:Nat) (r2:List Txn) (r1:ae) (l12:List aa):Option ae:=
 (bY N l12).bind fun r13=>
 some (ae.mk r2 r1.Locks r13)
def tG (N:Nat) (a0:ae) (a1:List Int):Option ae:=
 (kL N a0).bind fun r1=>
 (dW N r1.Txns a1).bind fun r2=>
 mN (yK N r2 r1) N a1 (r1.Stacks.length - 0) 0 r1.Stacks
def lf (N:Nat) (a0:Int) (c0_0:Int):Option Bool:=
 some (decide (a0=c0_0))
def bj (N:Nat) (k1_0_0:Int):List Int->Nat->Unit->Option Int
 | [],v2,()=>
  some (-1)
 | x5::xs,v2,()=>
  (lf N x5 k1_0_0).bind fun r8=>
  if r8=true then
  some (v2:Int)
  else
  (bj N k1_0_0 xs (v2+1)) ()
def dF (N:Nat) (a0:List Int) (k1_0_0:Int):Option Int:=
 bj N k1_0_0 a0 0 ()
def bf (N:Nat) (k1_0_0:Int) (kx3:(List Int)->Int->Option (List Int)):Nat->List Int × Int × Int->Option (List Int)
 | 0,_=>none
 | n+1,(l4,v5,v6)=>
  if v6 < (l4.length:Int) then
  gx l4 v6 fun x10=>
  (lf N x10 k1_0_0).bind fun r11=>
  if r11=true then
  (bf N k1_0_0 kx3 n) (l4,v5,IntKind.i64.wrap (v6+1))
  else
  gx l4 v5 fun x12=>
  (bf N k1_0_0 kx3 n) ((l4.set ((v5).toNat) x10),(IntKind.i64.wrap (v5+1)),IntKind.i64.wrap (v6+1))
  else
  kx3 l4 v5
def dV (l15:List Int) (v16:Int):Option (List Int):=
 slx l15 v16 (l15.length:Int) fun l17=>
 slx (tL 0 (v16).toNat l15) 0 v16 fun l18=>
 some ((tL 0 (v16).toNat l15).take ((v16).toNat))
def bA (N:Nat) (a0:List Int) (k1_0_0:Int):Option (List Int):=
 (dF N a0 k1_0_0).bind fun r1=>
 if r1=(-1) then
 some a0
 else
 bf N k1_0_0 dV N (a0,r1,IntKind.i64.wrap (r1+1))
def iY (N:Nat) (a1:Int):Nat->Nat->List ai->Option (List ai)
 | 0,v6,l5=>
  some l5
 | m+1,v6,l5=>
  gx l5 (v6:Int) fun x11=>
  (bA N x11.Waiters a1).bind fun r12=>
  (iY N a1 m (v6+1)) (l5.set v6 (ai.mk x11.Actor x11.Owner r12))
def oO (N:Nat) (a0:List ai) (a1:Int):Option (List ai):=
 (js N a0).bind fun r2=>
 if r2=true then
 (fX N a0).bind fun r3=>
 iY N a1 (r3.length - 0) 0 r3
 else
 some []
def lV (N:Nat) (a0:List ai) (a1:Int) (a2:Int):Option (List ai):=TW a0 a1 a2 fun l=>some l
def tA (N:Nat) (a0:List ai) (a1:Int):Option ((List ai) × Int):=
 gx a0 a1 fun x1=>
 if (x1.Waiters.length:Int)=0 then
 (lV N a0 a1 (IntKind.i64.wrap (a1+1))).bind fun r3=>
 some (r3,0)
 else
 gx x1.Waiters (IntKind.i64.wrap ((x1.Waiters.length:Int) - 1)) fun x4=>
 slt x1.Waiters (IntKind.i64.wrap ((x1.Waiters.length:Int) - 1)) fun l5=>
 some (((a0.set ((a1).toNat) (ai.mk x1.Actor x4 x1.Waiters)).set ((a1).toNat) (ai.mk x1.Actor x4 l5)),x4)
def eI (a1:Int) (N:Nat):Nat->List ai × List az × Int->Option ((List ai) × (List az))
 | 0,_=>none
 | n+1,(l5,l6,v7)=>
  if v7 < (l5.length:Int) then
  gx l5 v7 fun x11=>
  if x11.Owner=a1 then
  (tA N l5 v7).bind fun r12=>
  if r12.2=0 then
  (eI a1 N n) (r12.1,l6,v7)
  else
  apx 39 l6 [(az.mk x11.Actor r12.2)] fun l13=>
  (eI a1 N n) (r12.1,l13,IntKind.i64.wrap (v7+1))
  else
  (eI a1 N n) (l5,l6,IntKind.i64.wrap (v7+1))
  else
  some (l5,l6)
def lz (N:Nat) (a0:List ai) (a1:Int):Option ((List ai) × (List az)):=
 (js N a0).bind fun r2=>
 if r2=true then
 (fX N a0).bind fun r3=>
 eI a1 N N (r3,[],0)
 else
 some ([],[])
def px (kx6:(List ai)->Option (ae × (List Int) × Int)) (N:Nat):List Int->Nat->List ai->Option (ae × (List Int) × Int)
 | [],v8,l7=>
  kx6 l7
 | x11::xs,v8,l7=>
  (oO N l7 x11).bind fun r14=>
  (px kx6 N xs (v8+1)) r14
def o5 (r5:ae) (r4:List Int) (N:Nat):List Int->Nat->List ai->Option (ae × (List Int) × Int)
 | [],v18,l17=>
  some ((ae.mk r5.Txns l17 r5.Stacks),r4,0)
 | x21::xs,v18,l17=>
  (lz N l17 x21).bind fun r24=>
  (o5 r5 r4 N xs (v18+1)) r24.1
def Dn (r5:ae) (r4:List Int) (N:Nat) (l15:List ai):Option (ae × (List Int) × Int):=
 o5 r5 r4 N r4 0 l15
def jD (N:Nat) (a0:ae) (a1:Int):Option (ae × (List Int) × Int):=
 (jb N a0).bind fun r2=>
 if r2=true then
 (fh N a0 a1).bind fun r3=>
 if r3 < 0 then
 some ((ae.mk [] [] []),[],6)
 else
 (oN N a0 a1).bind fun r4=>
 (tG N a0 r4).bind fun r5=>
 px (Dn r5 r4 N) N r4 0 r5.Locks
 else
 some ((ae.mk [] [] []),[],1)
def iJ (N:Nat) (a0:ae) (a1:Int):Option (ae × Int × (List Int) × Int):=
 (jb N a0).bind fun r2=>
 if r2=true then
 (o8 N a0 a1).bind fun r3=>
 if r3.2=true then
 (qg N a0.Locks r3.1.Target a1).bind fun r5=>
 if r5.2.2=0 then
 if r5.2.1=3 then
 (jD N a0 a1).bind fun r8=>
 some (r8.1,r5.2.1,r8.2.1,r8.2.2)
 else
 (kL N a0).bind fun r9=>
 some ((ae.mk r9.Txns r5.1 r9.Stacks),r5.2.1,[],0)
 else
 some ((ae.mk [] [] []),0,[],r5.2.2)
 else
 some ((ae.mk [] [] []),0,[],6)
 else
 some ((ae.mk [] [] []),0,[],1)
def k9 (N:Nat) (a0:Int):Option Value:=
 some (Value.mk 1 a0 (⟨#[]⟩) [] [])
def qK (N:Nat) (a0:aa) (a1:Ref):Option Int:=
 (gF N a0.Actor a1).bind fun r1=>
 some r1
def bg (a0:List aa) (N:Nat) (a1:Ref) (kx1:Int->Option (Int × Bool)):Nat->Int × Int->Option (Int × Bool)
 | 0,_=>none
 | n+1,(v2,v3)=>
  if v2 < v3 then
  gx a0 (IntKind.i64.wrap (j8 .u64 (IntKind.u64.wrap (IntKind.i64.wrap (v2+v3))) 1)) fun x6=>
  (qK N x6 a1).bind fun r7=>
  if r7 < 0 then
  (bg a0 N a1 kx1 n) (IntKind.i64.wrap ((IntKind.i64.wrap (j8 .u64 (IntKind.u64.wrap (IntKind.i64.wrap (v2+v3))) 1))+1),v3)
  else
  (bg a0 N a1 kx1 n) (v2,IntKind.i64.wrap (j8 .u64 (IntKind.u64.wrap (IntKind.i64.wrap (v2+v3))) 1))
  else
  kx1 v2
def bt (a0:List aa) (N:Nat) (a1:Ref) (v8:Int):Option (Int × Bool):=
 if v8 < (a0.length:Int) then
 gx a0 v8 fun x10=>
 (qK N x10 a1).bind fun r11=>
 some (v8,(decide (r11=0)))
 else
 some (v8,false)
def ba (N:Nat) (a0:List aa) (a1:Ref):Option (Int × Bool):=
 bg a0 N a1 (bt a0 N a1) N (0,(a0.length:Int))
def bF (N:Nat) (a0:List aa) (a1:Int) (a2:List aa):Option (List aa):=Jr 55 a0 a1 a2 fun l=>some l
def yi (kx1:Option (ae × Int)) (c6:Bool):Option (ae × Int):=
 if c6=true then
 some ((ae.mk [] [] []),1)
 else
 kx1
def uM (x18:aa) (a1:Int) (kx19:(List aa)->Int->Option (ae × Int)) (l17:List aa) (r14:Int × Bool) (c22:Bool):Option (ae × Int):=
 if c22=true then
 apx 39 x18.Layers [(al.mk a1 [] false)] fun l23=>
 kx19 (l17.set ((r14.1).toNat) (aa.mk x18.Actor l23)) (IntKind.i64.wrap ((x18.Layers.length:Int)+1))
 else
 kx19 l17 (x18.Layers.length:Int)
def yn (r14:Int × Bool) (N:Nat) (a2:List Value) (r10:ae) (r11:Int) (x12:Txn) (r13:Value) (l24:List aa) (v25:Int):Option (ae × Int):=
 gx l24 r14.1 fun x26=>
 (eD N a2).bind fun r27=>
 gx x26.Layers (IntKind.i64.wrap (v25 - 1)) fun x28=>
 some ((ae.mk (r10.Txns.set ((r11).toNat) (Txn.mk x12.ID x12.Born x12.Client x12.Seq x12.Calls (IntKind.i64.wrap (x12.Done+1)) r13)) r10.Locks (l24.set ((r14.1).toNat) (aa.mk x26.Actor (x26.Layers.set ((IntKind.i64.wrap (v25 - 1)).toNat) (al.mk x28.Txn_ r27 x28.Prepared))))),0)
def rq (r14:Int × Bool) (a1:Int) (N:Nat) (a2:List Value) (r10:ae) (r11:Int) (x12:Txn) (r13:Value) (l17:List aa):Option (ae × Int):=
 gx l17 r14.1 fun x18=>
 if (x18.Layers.length:Int)=0 then
 (uM x18 a1 (yn r14 N a2 r10 r11 x12 r13) l17 r14) true
 else
 gx x18.Layers (IntKind.i64.wrap ((x18.Layers.length:Int) - 1)) fun x21=>
 (uM x18 a1 (yn r14 N a2 r10 r11 x12 r13) l17 r14) (!decide (x21.Txn_=a1))
def rE (N:Nat) (a0:ae) (a1:Int) (a3:Value) (a2:List Value):Option (ae × Int):=
 (o8 N a0 a1).bind fun r7=>
 if r7.2=true then
 (ot N a0.Locks r7.1.Target).bind fun r9=>
 if r9=a1 then
 (kL N a0).bind fun r10=>
 (fh N r10 a1).bind fun r11=>
 gx r10.Txns r11 fun x12=>
 (gI N a3).bind fun r13=>
 (ba N r10.Stacks r7.1.Target).bind fun r14=>
 if r14.2=true then
 (rq r14 a1 N a2 r10 r11 x12 r13) r10.Stacks
 else
 (bF N r10.Stacks r14.1 [(aa.mk r7.1.Target [])]).bind fun r16=>
 (rq r14 a1 N a2 r10 r11 x12 r13) r16
 else
 some ((ae.mk [] [] []),10)
 else
 some ((ae.mk [] [] []),6)
def j6 (N:Nat) (a0:ae) (a1:Int) (a2:List Value) (a3:Value):Option (ae × Int):=
 (jb N a0).bind fun r3=>
 if r3=true then
 (kv N a2).bind fun r4=>
 if r4=true then
 (gW N a3).bind fun r5=>
 (yi (rE N a0 a1 a3 a2)) (!r5)
 else
 (yi (rE N a0 a1 a3 a2)) true
 else
 (yi (rE N a0 a1 a3 a2)) true
def pA (kx1:Option ((List ai) × Int × Int)) (c6:Bool):Option ((List ai) × Int × Int):=
 if c6=true then
 some ([],0,1)
 else
 kx1
def lB (kx8:Option ((List ai) × Int × Int)) (c11:Bool):Option ((List ai) × Int × Int):=
 if c11=true then
 some ([],0,10)
 else
 kx8
def tu (N:Nat) (a0:List ai) (r7:Int × Bool):Option ((List ai) × Int × Int):=
 (fX N a0).bind fun r12=>
 (tA N r12 r7.1).bind fun r13=>
 some (r13.1,r13.2,0)
def oY (N:Nat) (a0:List ai) (a1:Ref) (a2:Int):Option ((List ai) × Int × Int):=
 (qB N a0 a1).bind fun r7=>
 if r7.2=true then
 gx a0 r7.1 fun x10=>
 (lB (tu N a0 r7)) (!decide (x10.Owner=a2))
 else
 (lB (tu N a0 r7)) true
def mQ (N:Nat) (a0:List ai) (a1:Ref) (a2:Int):Option ((List ai) × Int × Int):=
 (js N a0).bind fun r3=>
 if r3=true then
 (iI N a1).bind fun r4=>
 if r4=true then
 (jP N a2).bind fun r5=>
 (pA (oY N a0 a1 a2)) (!r5)
 else
 (pA (oY N a0 a1 a2)) true
 else
 (pA (oY N a0 a1 a2)) true
def iM (kx4:Option (ae × Int)) (c8:Bool):Option (ae × Int):=
 if c8=true then
 some ((ae.mk [] [] []),6)
 else
 kx4
def lH (a0:ae) (r3:Int) (N:Nat) (a2:Ref) (a1:Int):Option (ae × Int):=
 gx a0.Txns r3 fun x10=>
 if x10.Done < (x10.Calls.length:Int) then
 some ((ae.mk [] [] []),12)
 else
 (ji N a0 a2 a1).bind fun r12=>
 if r12.1.Prepared=true then
 some ((ae.mk [] [] []),7)
 else
 (kL N a0).bind fun r13=>
 (lY N r13 a2).bind fun r14=>
 gx r13.Stacks r14 fun x15=>
 gx x15.Layers (IntKind.i64.wrap ((x15.Layers.length:Int) - 1)) fun x16=>
 (mQ N r13.Locks a2 a1).bind fun r17=>
 some ((ae.mk r13.Txns r17.1 (r13.Stacks.set ((r14).toNat) (aa.mk x15.Actor (x15.Layers.set ((IntKind.i64.wrap ((x15.Layers.length:Int) - 1)).toNat) (al.mk x16.Txn_ x16.Fields true))))),0)
def fU (N:Nat) (a0:ae) (a1:Int) (a2:Ref):Option (ae × Int):=
 (jb N a0).bind fun r2=>
 if r2=true then
 (fh N a0 a1).bind fun r3=>
 if r3 < 0 then
 (iM (lH a0 r3 N a2 a1)) true
 else
 gx a0.Txns r3 fun x6=>
 (ov N x6.Calls a2).bind fun r7=>
 (iM (lH a0 r3 N a2 a1)) (!r7)
 else
 some ((ae.mk [] [] []),1)
def lS (N:Nat) (a0:ae) (a1:Ref):Option (List al):=
 (lY N a0 a1).bind fun r2=>
 if 0<=r2 then
 gx a0.Stacks r2 fun x3=>
 (ky N x3.Layers).bind fun r4=>
 some r4
 else
 some []
def lI (N:Nat) (a0:ah) (c0_0:List Txn) (c0_1:List ai) (c0_2:List aa) (c1_0:Int) (c1_1:Int) (c1_2:ByteArray) (c1_3:Int) (c1_4:List ah) (c1_5:Int) (c1_6:Int) (c1_7:Int) (c1_8:ByteArray) (c1_9:List Int) (c1_10:List ByteArray):Option Bool:=
 (ji N (ae.mk c0_0 c0_1 c0_2) a0.Target c1_0).bind fun r1=>
 if r1.2=true then
 some (!r1.1.Prepared)
 else
 some true
def bE (N:Nat) (k1_0_0:List Txn) (k1_0_1:List ai) (k1_0_2:List aa) (k1_1_0:Int) (k1_1_1:Int) (k1_1_2:ByteArray) (k1_1_3:Int) (k1_1_4:List ah) (k1_1_5:Int) (k1_1_6:Int) (k1_1_7:Int) (k1_1_8:ByteArray) (k1_1_9:List Int) (k1_1_10:List ByteArray):List ah->Nat->Unit->Option Int
 | [],v2,()=>
  some (-1)
 | x5::xs,v2,()=>
  (lI N x5 k1_0_0 k1_0_1 k1_0_2 k1_1_0 k1_1_1 k1_1_2 k1_1_3 k1_1_4 k1_1_5 k1_1_6 k1_1_7 k1_1_8 k1_1_9 k1_1_10).bind fun r8=>
  if r8=true then
  some (v2:Int)
  else
  (bE N k1_0_0 k1_0_1 k1_0_2 k1_1_0 k1_1_1 k1_1_2 k1_1_3 k1_1_4 k1_1_5 k1_1_6 k1_1_7 k1_1_8 k1_1_9 k1_1_10 xs (v2+1)) ()
def b9 (N:Nat) (a0:List ah) (k1_0_0:List Txn) (k1_0_1:List ai) (k1_0_2:List aa) (k1_1_0:Int) (k1_1_1:Int) (k1_1_2:ByteArray) (k1_1_3:Int) (k1_1_4:List ah) (k1_1_5:Int) (k1_1_6:Int) (k1_1_7:Int) (k1_1_8:ByteArray) (k1_1_9:List Int) (k1_1_10:List ByteArray):Option Int:=
 bE N k1_0_0 k1_0_1 k1_0_2 k1_1_0 k1_1_1 k1_1_2 k1_1_3 k1_1_4 k1_1_5 k1_1_6 k1_1_7 k1_1_8 k1_1_9 k1_1_10 a0 0 ()
def bD (N:Nat) (a0:List ah) (k1_0_0:List Txn) (k1_0_1:List ai) (k1_0_2:List aa) (k1_1_0:Int) (k1_1_1:Int) (k1_1_2:ByteArray) (k1_1_3:Int) (k1_1_4:List ah) (k1_1_5:Int) (k1_1_6:Int) (k1_1_7:Int) (k1_1_8:ByteArray) (k1_1_9:List Int) (k1_1_10:List ByteArray):Option Bool:=
 (b9 N a0 k1_0_0 k1_0_1 k1_0_2 k1_1_0 k1_1_1 k1_1_2 k1_1_3 k1_1_4 k1_1_5 k1_1_6 k1_1_7 k1_1_8 k1_1_9 k1_1_10).bind fun r1=>
 some (decide (0<=r1))
def sY (N:Nat) (a0:ae) (a1:Txn):Option Bool:=
 (bD N a1.Calls a0.Txns a0.Locks a0.Stacks a1.ID a1.Born a1.Client a1.Seq a1.Calls a1.Done a1.Last.Kind a1.Last.N a1.Last.S a1.Last.I a1.Last.L).bind fun r1=>
 some (!r1)
def mJ (N:Nat) (a0:Txn) (c0_0:List Txn) (c0_1:List ai) (c0_2:List aa):Option Bool:=
 if a0.Done=(a0.Calls.length:Int) then
 (sY N (ae.mk c0_0 c0_1 c0_2) a0).bind fun r2=>
 if r2=true then
 (vG N (ae.mk c0_0 c0_1 c0_2) a0.ID []).bind fun r3=>
 some r3
 else
 some false
 else
 some false
def dI (N:Nat) (k1_0_0:List Txn) (k1_0_1:List ai) (k1_0_2:List aa):List Txn->Nat->Unit->Option Int
 | [],v2,()=>
  some (-1)
 | x5::xs,v2,()=>
  (mJ N x5 k1_0_0 k1_0_1 k1_0_2).bind fun r8=>
  if r8=true then
  some (v2:Int)
  else
  (dI N k1_0_0 k1_0_1 k1_0_2 xs (v2+1)) ()
def dY (N:Nat) (a0:List Txn) (k1_0_0:List Txn) (k1_0_1:List ai) (k1_0_2:List aa):Option Int:=
 dI N k1_0_0 k1_0_1 k1_0_2 a0 0 ()
def et (kx6:Option (List Ref)) (rec2:Int->Option (List Ref)) (v1:Int) (c11:Bool):Option (List Ref):=
 if c11=true then
 kx6
 else
 rec2 (IntKind.i64.wrap (v1+1))
def ek (a0:List Ref) (v1:Int):Option (List Ref):=
 gx a0 (IntKind.i64.wrap (v1 - 1)) fun x13=>
 gx a0 v1 fun x14=>
 none
def eh (a1:Int) (v1:Int) (a0:List Ref) (N:Nat) (rec2:Int->Option (List Ref)):Nat->Unit->Option (List Ref)
 | 0,_=>none
 | n+1,()=>
  if a1 < v1 then
  gx a0 v1 fun x8=>
  gx a0 (IntKind.i64.wrap (v1 - 1)) fun x9=>
  (gF N x8 x9).bind fun r10=>
  (et (ek a0 v1) rec2 v1) (decide (r10 < 0))
  else
  (et (ek a0 v1) rec2 v1) false
def bV (a2:Int) (a1:Int) (a0:List Ref) (N:Nat):Nat->Int->Option (List Ref)
 | 0,_=>none
 | n+1,v1=>
  if v1 < a2 then
  eh a1 v1 a0 N (bV a2 a1 a0 N n) N ()
  else
  some a0
def be (N:Nat) (a0:List Ref) (a1:Int) (a2:Int):Option (List Ref):=
 IZ (fun r=>r) a0 (
 (bV a2 a1 a0 N N (IntKind.i64.wrap (a1+1))))
def fj (a2:Int) (a1:Int) (N:Nat) (a0:List Ref) (a3:Int):Nat->Unit->Option (List Ref)
 | 0,_=>none
 | n+1,()=>
  if (IntKind.i64.wrap (a2 - a1))<=12 then
  (be N a0 a1 a2).bind fun r3=>
  some r3
  else
  if a3=0 then
  none
  else
  none
def bw (N:Nat) (a0:List Ref) (a1:Int) (a2:Int) (a3:Int):Option (List Ref):=
 IZ (fun r=>r) a0 (
 (fj a2 a1 N a0 a3 N ()))
def bK (N:Nat) (a0:List Ref):Option (List Ref):=
 IZ (fun r=>r) a0 (
 (uj N (IntKind.u64.wrap (a0.length:Int))).bind fun r1=>
 (bw N a0 0 (a0.length:Int) r1).bind fun r2=>
 some r2)
def bX (N:Nat) (a0:List Ref):Option (List Ref):=if a0.isEmpty=true then bK N a0  else Eu (fun x y=>gF N x y ) a0
def fQ (a0:List Ref) (v3:Nat) (kx11:(List Ref)->Int->Option (List Ref)):Nat->List Ref × Int × Int->Option (List Ref)
 | 0,_=>none
 | n+1,(l12,v13,v14)=>
  if v14 < (((a0.length - v3):Nat):Int) then
  gx ((l12.drop v3).take (a0.length - v3)) v14 fun x18=>
  gx ((l12.drop v3).take (a0.length - v3)) (IntKind.i64.wrap (v14 - 1)) fun x19=>
  if (sEq x18.Type_ x19.Type_ && sEq x18.Key x19.Key)=true then
  (fQ a0 v3 kx11 n) (l12,v13,IntKind.i64.wrap (v14+1))
  else
  gx l12 v13 fun x20=>
  (fQ a0 v3 kx11 n) ((l12.set ((v13).toNat) x18),(IntKind.i64.wrap (v13+1)),IntKind.i64.wrap (v14+1))
  else
  kx11 l12 v13
def jX (l23:List Ref) (v24:Int):Option (List Ref):=
 slx l23 v24 (l23.length:Int) fun l25=>
 slx (tL (Ref.mk (⟨#[]⟩) (⟨#[]⟩)) (v24).toNat l23) 0 v24 fun l26=>
 some ((tL (Ref.mk (⟨#[]⟩) (⟨#[]⟩)) (v24).toNat l23).take ((v24).toNat))
def ic (a0:List Ref) (N:Nat):Nat->Nat->Unit->Option (List Ref)
 | 0,v3,()=>
  some a0
 | m+1,v3,()=>
  gx a0 (v3:Int) fun x8=>
  gx a0 (IntKind.i64.wrap ((v3:Int) - 1)) fun x9=>
  if (sEq x8.Type_ x9.Type_ && sEq x8.Key x9.Key)=true then
  slx a0 (v3:Int) (a0.length:Int) fun l10=>
  fQ a0 v3 jX N (a0,(v3:Int),1)
  else
  (ic a0 N m (v3+1)) ()
def jM (N:Nat) (a0:List Ref):Option (List Ref):=
 if (a0.length:Int) < 2 then
 some a0
 else
 ic a0 N (a0.length - 1) 1 ()
def gP (kx1:(List Ref)->Option (List Ref)):List ah->Nat->List Ref->Option (List Ref)
 | [],v3,l2=>
  kx1 l2
 | x6::xs,v3,l2=>
  apx 31 l2 [x6.Target] fun l9=>
  (gP kx1 xs (v3+1)) l9
def kY (N:Nat) (l10:List Ref):Option (List Ref):=
 (bX N l10).bind fun r11=>
 (jM N r11).bind fun r12=>
 some r12
def im (N:Nat) (a0:Txn):Option (List Ref):=
 gP (kY N) a0.Calls 0 []
def lq (kx13:(List aS)->Option (ae × (List aD))) (N:Nat) (l4:List Txn) (l5:List ai) (l6:List aa) (x11:Txn):List Ref->Nat->List aS->Option (ae × (List aD))
 | [],v16,l15=>
  kx13 l15
 | x19::xs,v16,l15=>
  (ji N (ae.mk l4 l5 l6) x19 x11.ID).bind fun r22=>
  (eD N r22.1.Fields).bind fun r23=>
  apx 55 l15 [(aS.mk x19 r23)] fun l24=>
  (lq kx13 N l4 l5 l6 x11 xs (v16+1)) l24
def wy (N:Nat) (l4:List Txn) (l5:List ai) (l6:List aa) (x11:Txn) (l7:List aD) (r12:Value) (rec8:(List Txn × List ai × List aa × List aD)->Option (ae × (List aD))) (l25:List aS):Option (ae × (List aD)):=
 (tG N (ae.mk l4 l5 l6) [x11.ID]).bind fun r26=>
 apx 135 l7 [(aD.mk x11.ID x11.Client x11.Seq r12 l25)] fun l27=>
 rec8 (r26.Txns,r26.Locks,r26.Stacks,l27)
def lF (N:Nat):Nat->List Txn × List ai × List aa × List aD->Option (ae × (List aD))
 | 0,_=>none
 | n+1,(l4,l5,l6,l7)=>
  (dY N l4 l4 l5 l6).bind fun r9=>
  if r9 < 0 then
  some ((ae.mk l4 l5 l6),l7)
  else
  gx l4 r9 fun x11=>
  (gI N x11.Last).bind fun r12=>
  (im N x11).bind fun r14=>
  lq (wy N l4 l5 l6 x11 l7 r12 (lF N n)) N l4 l5 l6 x11 r14 0 []
def oq (N:Nat) (a0:ae):Option (ae × (List aD)):=
 (jb N a0).bind fun r2=>
 if r2=true then
 (kL N a0).bind fun r3=>
 lF N N (r3.Txns,r3.Locks,r3.Stacks,[])
 else
 some ((ae.mk [] [] []),[])
def Be (N:Nat) (a0:ae) (a1:Int):Option (Txn × Bool):=
 (fh N a0 a1).bind fun r2=>
 if 0<=r2 then
 gx a0.Txns r2 fun x3=>
 (kd N x3).bind fun r4=>
 some (r4,true)
 else
 some ((Txn.mk 0 0 (⟨#[]⟩) 0 [] 0 (Value.mk 0 0 (⟨#[]⟩) [] [])),false)
def yI (a0:ae) (r2:Int) (N:Nat) (kx1:Option (List Value)) (c5:Bool):Option (List Value):=
 if c5=true then
 gx a0.Stacks r2 fun x6=>
 gx x6.Layers (IntKind.i64.wrap ((x6.Layers.length:Int) - 1)) fun x7=>
 (eD N x7.Fields).bind fun r8=>
 some r8
 else
 kx1
def yF (N:Nat) (a2:List Value):Option (List Value):=
 (eD N a2).bind fun r9=>
 some r9
def tv (N:Nat) (a0:ae) (a1:Ref) (a2:List Value):Option (List Value):=
 (lY N a0 a1).bind fun r2=>
 if 0<=r2 then
 gx a0.Stacks r2 fun x4=>
 (yI a0 r2 N (yF N a2)) (decide (0 < (x4.Layers.length:Int)))
 else
 (yI a0 r2 N (yF N a2)) false
def s4 (kx14:Option Bool) (c16:Bool):Option Bool:=
 if c16=true then
 some false
 else
 kx14
def sy (N:Nat) (v9:Int) (r13:ae × Int × (List Int) × Int) (rec10:(List Txn × List ai × List aa × Int)->Option Bool):Option Bool:=
 (k9 N v9).bind fun r17=>
 (k9 N v9).bind fun r18=>
 (j6 N r13.1 3 [r17] r18).bind fun r19=>
 if r19.2=0 then
 rec10 (r19.1.Txns,r19.1.Locks,r19.1.Stacks,IntKind.i64.wrap (v9+1))
 else
 some false
def fM (N:Nat) (kx5:(List Txn)->(List ai)->(List aa)->Option Bool):Nat->List Txn × List ai × List aa × Int->Option Bool
 | 0,_=>none
 | n+1,(l6,l7,l8,v9)=>
  if v9 < 2 then
  (iJ N (ae.mk l6 l7 l8) 3).bind fun r13=>
  if r13.2.2.2=0 then
  (s4 (sy N v9 r13 (fM N kx5 n))) (!decide (r13.2.1=1))
  else
  (s4 (sy N v9 r13 (fM N kx5 n))) true
  else
  kx5 l6 l7 l8
def we (kx29:Option Bool) (c31:Bool):Option Bool:=
 if c31=true then
 some false
 else
 kx29
def sj (kx35:Option Bool) (c39:Bool):Option Bool:=
 if c39=true then
 some false
 else
 kx35
def wK (kx41:Option Bool) (c43:Bool):Option Bool:=
 if c43=true then
 some false
 else
 kx41
def sD (kx47:Option Bool) (c50:Bool):Option Bool:=
 if c50=true then
 some false
 else
 kx47
def sP (N:Nat) (r46:ae × (List aD)):Option Bool:=
 (Be N r46.1 5).bind fun r51=>
 if r51.2=true then
 (im N r51.1).bind fun r53=>
 if (r53.length:Int)=1 then
 (tv N r46.1 (Ref.mk (⟨#[65]⟩) (⟨#[97]⟩)) []).bind fun r54=>
 some (decide ((r54.length:Int)=1))
 else
 some false
 else
 some false
def wB (N:Nat) (r34:ae × Int):Option Bool:=
 (fU N r34.1 3 (Ref.mk (⟨#[65]⟩) (⟨#[98]⟩))).bind fun r44=>
 if r44.2=0 then
 (oq N r44.1).bind fun r46=>
 if (r46.2.length:Int)=1 then
 gx r46.2 0 fun x49=>
 if x49.ID=3 then
 (sD (sP N r46)) (!decide ((x49.Writes.length:Int)=2))
 else
 (sD (sP N r46)) true
 else
 (sD (sP N r46)) true
 else
 some false
def s9 (N:Nat) (r34:ae × Int):Option Bool:=
 (jD N r34.1 3).bind fun r40=>
 if r40.2.2=0 then
 (wK (wB N r34)) (!decide ((r40.2.1.length:Int)=2))
 else
 (wK (wB N r34)) true
def vh (N:Nat) (r28:ae × Int × (List Int) × Int):Option Bool:=
 (k9 N 9).bind fun r32=>
 (k9 N 9).bind fun r33=>
 (j6 N r28.1 5 [r32] r33).bind fun r34=>
 if r34.2=0 then
 (lS N r34.1 (Ref.mk (⟨#[65]⟩) (⟨#[97]⟩))).bind fun r37=>
 if (r37.length:Int)=2 then
 (jb N r34.1).bind fun r38=>
 (sj (s9 N r34)) (!r38)
 else
 (sj (s9 N r34)) true
 else
 (sj (s9 N r34)) true
def qP (N:Nat) (l23:List Txn) (l24:List ai) (l25:List aa):Option Bool:=
 (fU N (ae.mk l23 l24 l25) 3 (Ref.mk (⟨#[65]⟩) (⟨#[97]⟩))).bind fun r26=>
 if r26.2=0 then
 (iJ N r26.1 5).bind fun r28=>
 if r28.2.2.2=0 then
 (we (vh N r28)) (!decide (r28.2.1=1))
 else
 (we (vh N r28)) true
 else
 some false
def uP (N:Nat)  : Option Bool:=
 (jT N (ae.mk [] [] []) 3 0 (⟨#[99]⟩) 1 [(ah.mk (Ref.mk (⟨#[65]⟩) (⟨#[97]⟩)) (⟨#[109]⟩) []),(ah.mk (Ref.mk (⟨#[65]⟩) (⟨#[98]⟩)) (⟨#[109]⟩) [])]).bind fun r1=>
 if r1.2=0 then
 (jT N r1.1 5 0 (⟨#[99]⟩) 2 [(ah.mk (Ref.mk (⟨#[65]⟩) (⟨#[97]⟩)) (⟨#[109]⟩) [])]).bind fun r3=>
 if r3.2=0 then
 fM N (qP N) N (r3.1.Txns,r3.1.Locks,r3.1.Stacks,0)
 else
 some false
 else
 some false
def ub (N:Nat) (a0:ae) (a1:Int):Option Int:=
 if (a0.Txns.length:Int)=0 then
 some 0
 else
 dvx (a0.Txns.length:Int) <|
 gx a0.Txns (Int.tmod (IntKind.i64.wrap a1) (a0.Txns.length:Int)) fun x2=>
 some x2.ID
def vY (N:Nat) (a0:Int):Option Ref:=
 sls (⟨#[97,98,99,100]⟩) (IntKind.i64.wrap (Int.tmod a0 4)) (IntKind.i64.wrap ((IntKind.i64.wrap (Int.tmod a0 4))+1)) fun s1=>
 some (Ref.mk (⟨#[65]⟩) s1)
def oM (a0:aj) (N:Nat):Nat->List ah × Int->Option (List ah)
 | 0,_=>none
 | n+1,(l2,v3)=>
  if v3<=(IntKind.i64.wrap (Int.tmod a0.Who 4)) then
  shx (IntKind.u64.wrap (2 * (IntKind.u64.wrap (Int.tmod v3 4)))) <|
  (vY N (j8 .u8 a0.Arg (IntKind.u64.wrap (2 * (IntKind.u64.wrap (Int.tmod v3 4)))))).bind fun r7=>
  apx 71 l2 [(ah.mk r7 (⟨#[109]⟩) [])] fun l8=>
  (oM a0 N n) (l8,IntKind.i64.wrap (v3+1))
  else
  some l2
def yj (N:Nat) (a0:aj):Option (List ah):=
 oM a0 N N ([],0)
def jc (N:Nat) (a0:Value):Option Value:=
 apn 7 a0.I <|
 apn 15 a0.L <|
 some a0
def jn (N:Nat):List Value->Nat->List Value->Option (List Value)
 | [],v3,l2=>
  some l2
 | x6::xs,v3,l2=>
  (jc N x6).bind fun r9=>
  apx 79 l2 [r9] fun l10=>
  (jn N xs (v3+1)) l10
def lK (N:Nat) (a0:List Value):Option (List Value):=
 jn N a0 0 []
def jF (N:Nat):List ah->Nat->List ah->Option (List ah)
 | [],v3,l2=>
  some l2
 | x6::xs,v3,l2=>
  (lK N x6.Args).bind fun r9=>
  apx 71 l2 [(ah.mk x6.Target x6.Method r9)] fun l10=>
  (jF N xs (v3+1)) l10
def mC (N:Nat) (a0:List ah):Option (List ah):=
 jF N a0 0 []
def qm (N:Nat) (a0:Txn):Option Txn:=
 (mC N a0.Calls).bind fun r1=>
 (jc N a0.Last).bind fun r2=>
 some (Txn.mk a0.ID a0.Born a0.Client a0.Seq r1 a0.Done r2)
def qp (a1:Int) (N:Nat):List Txn->Nat->Unit->Option (Txn × Bool)
 | [],v2,()=>
  some ((Txn.mk 0 0 (⟨#[]⟩) 0 [] 0 (Value.mk 0 0 (⟨#[]⟩) [] [])),false)
 | x5::xs,v2,()=>
  if x5.ID=a1 then
  (qm N x5).bind fun r8=>
  some (r8,true)
  else
  (qp a1 N xs (v2+1)) ()
def zW (N:Nat) (a0:ae) (a1:Int):Option (Txn × Bool):=
 qp a1 N a0.Txns 0 ()
def wG (N:Nat) (a0:Ref) (a1:Ref):Option Bool:=
 if (sLt a0.Type_ a1.Type_)=true then
 some true
 else
 if (sEq a0.Type_ a1.Type_)=true then
 some (sLt a0.Key a1.Key)
 else
 some false
def pH (rec11:Int->Option (List Ref)) (v10:Int) (kx9:Int->Option (List Ref)) (c16:Bool):Option (List Ref):=
 if c16=true then
 rec11 (IntKind.i64.wrap (v10 - 1))
 else
 kx9 v10
def jy (l2:List Ref) (N:Nat) (x6:ah) (kx9:Int->Option (List Ref)):Nat->Int->Option (List Ref)
 | 0,_=>none
 | n+1,v10=>
  if 0 < v10 then
  gx l2 (IntKind.i64.wrap (v10 - 1)) fun x14=>
  (wG N x14 x6.Target).bind fun r15=>
  (pH (jy l2 N x6 kx9 n) v10 kx9) (!r15)
  else
  (pH (jy l2 N x6 kx9 n) v10 kx9) false
def pg (rec4:List Ref->Option (List Ref)) (l2:List Ref) (kx18:Option (List Ref)) (c21:Bool):Option (List Ref):=
 if c21=true then
 rec4 l2
 else
 kx18
def kZ (l2:List Ref) (v17:Int) (x6:ah) (rec4:List Ref->Option (List Ref)):Option (List Ref):=
 slx l2 v17 (l2.length:Int) fun l22=>
 apn 31 ((l2.drop ((v17).toNat)).take (l2.length - (v17).toNat)) <|
 slt l2 v17 fun l23=>
 apx 31 (l2.take ((v17).toNat)) [x6.Target] fun l24=>
 apx 31 l24 ((l2.drop ((v17).toNat)).take (l2.length - (v17).toNat)) fun l25=>
 rec4 l25
def tE (l2:List Ref) (rec4:List Ref->Option (List Ref)) (x6:ah) (v17:Int):Option (List Ref):=
 if v17 < (l2.length:Int) then
 gx l2 v17 fun x20=>
 (pg rec4 l2 (kZ l2 v17 x6 rec4)) (sEq x20.Type_ x6.Target.Type_ && sEq x20.Key x6.Target.Key)
 else
 (pg rec4 l2 (kZ l2 v17 x6 rec4)) false
def fy (N:Nat):List ah->Nat->List Ref->Option (List Ref)
 | [],v3,l2=>
  some l2
 | x6::xs,v3,l2=>
  jy l2 N x6 (tE l2 (fy N xs (v3+1)) x6) N (l2.length:Int)
def uE (N:Nat) (a0:List ah):Option (List Ref):=
 fy N a0 0 []
def mj (N:Nat) (a0:Txn):Option (List Ref):=
 (uE N a0.Calls).bind fun r1=>
 some r1
def kK (N:Nat) (a0:ae) (a1:Int) (a2:Int):Option Ref:=
 (zW N a0 a1).bind fun r1=>
 (mj N r1.1).bind fun r2=>
 if (r2.length:Int)=0 then
 (vY N a2).bind fun r4=>
 some r4
 else
 dvx (r2.length:Int) <|
 gx r2 (Int.tmod (IntKind.i64.wrap a2) (r2.length:Int)) fun x5=>
 some x5
def uq (N:Nat) (a0:ae) (r1:Int) (a2:aj) (c17:Bool):Option (ae × (List aD)):=
 if c17=true then
 (kK N a0 r1 a2.Arg).bind fun r18=>
 (fU N a0 r1 r18).bind fun r19=>
 if r19.2=0 then
 some (r19.1,[])
 else
 some (a0,[])
 else
 if 0 < (Int.tmod a2.Arg 4) then
 (oq N a0).bind fun r21=>
 some (r21.1,r21.2)
 else
 (jD N a0 r1).bind fun r22=>
 if r22.2.2=0 then
 some (r22.1,[])
 else
 some (a0,[])
def qq (N:Nat) (a0:ae) (r1:Int) (a2:aj) (c8:Bool):Option (ae × (List aD)):=
 if c8=true then
 (iJ N a0 r1).bind fun r9=>
 if r9.2.2.2=0 then
 if r9.2.1=1 then
 (k9 N a2.N).bind fun r13=>
 (k9 N a2.N).bind fun r14=>
 (j6 N r9.1 r1 [r13] r14).bind fun r15=>
 if r15.2=0 then
 some (r15.1,[])
 else
 some (r9.1,[])
 else
 some (r9.1,[])
 else
 some (a0,[])
 else
 if (Int.tmod a2.Kind 8)=5 then
 (uq N a0 r1 a2) true
 else
 (uq N a0 r1 a2) (decide ((Int.tmod a2.Kind 8)=6))
def uH (N:Nat) (a2:aj) (a0:ae) (a1:Int) (r1:Int) (c4:Bool):Option (ae × (List aD)):=
 if c4=true then
 (yj N a2).bind fun r5=>
 (jT N a0 (IntKind.i64.wrap (a1+1)) a1 (⟨#[99]⟩) (IntKind.i64.wrap (a1+1)) r5).bind fun r6=>
 if r6.2=0 then
 some (r6.1,[])
 else
 some (a0,[])
 else
 if (Int.tmod a2.Kind 8)=2 then
 (qq N a0 r1 a2) true
 else
 if (Int.tmod a2.Kind 8)=3 then
 (qq N a0 r1 a2) true
 else
 (qq N a0 r1 a2) (decide ((Int.tmod a2.Kind 8)=4))
def wg (N:Nat) (a0:ae) (a1:Int) (a2:aj):Option (ae × (List aD)):=
 (ub N a0 a2.Who).bind fun r1=>
 if (Int.tmod a2.Kind 8)=0 then
 (uH N a2 a0 a1 r1) true
 else
 (uH N a2 a0 a1 r1) (decide ((Int.tmod a2.Kind 8)=1))
def lx (a1:List Int):List Int->Nat->Unit->Option Bool
 | [],v3,()=>
  some true
 | x6::xs,v3,()=>
  gx a1 (v3:Int) fun x9=>
  if x6=x9 then
  (lx a1 xs (v3+1)) ()
  else
  some false
def uB (N:Nat) (a0:List Int) (a1:List Int):Option Bool:=
 if (a0.length:Int)=(a1.length:Int) then
 lx a1 a0 0 ()
 else
 some false
def jo (a1:List ByteArray):List ByteArray->Nat->Unit->Option Bool
 | [],v3,()=>
  some true
 | x6::xs,v3,()=>
  gx a1 (v3:Int) fun x9=>
  if (sEq x6 x9)=true then
  (jo a1 xs (v3+1)) ()
  else
  some false
def po (N:Nat) (a0:List ByteArray) (a1:List ByteArray):Option Bool:=
 if (a0.length:Int)=(a1.length:Int) then
 jo a1 a0 0 ()
 else
 some false
def oR (N:Nat) (a0:Value) (a1:Value):Option Bool:=
 if a0.Kind=a1.Kind then
 if a0.N=a1.N then
 if (sEq a0.S a1.S)=true then
 (uB N a0.I a1.I).bind fun r2=>
 if r2=true then
 (po N a0.L a1.L).bind fun r3=>
 some r3
 else
 some false
 else
 some false
 else
 some false
 else
 some false
def jq (a1:List Value) (N:Nat):List Value->Nat->Unit->Option Bool
 | [],v3,()=>
  some true
 | x6::xs,v3,()=>
  gx a1 (v3:Int) fun x9=>
  (oR N x6 x9).bind fun r10=>
  if r10=true then
  (jq a1 N xs (v3+1)) ()
  else
  some false
def pB (N:Nat) (a0:List Value) (a1:List Value):Option Bool:=
 if (a0.length:Int)=(a1.length:Int) then
 jq a1 N a0 0 ()
 else
 some false
def ld (N:Nat):List aj->Nat->List Txn × List ai × List aa × List aD->Option (ae × (List aD))
 | [],v6,(l2,l3,l4,l5)=>
  some ((ae.mk l2 l3 l4),l5)
 | x9::xs,v6,(l2,l3,l4,l5)=>
  (wg N (ae.mk l2 l3 l4) (v6:Int) x9).bind fun r12=>
  apx 135 l5 r12.2 fun l13=>
  (ld N xs (v6+1)) (r12.1.Txns,r12.1.Locks,r12.1.Stacks,l13)
def uR (N:Nat) (a0:List aj):Option (ae × (List aD)):=
 ld N a0 0 ([],[],[],[])
def kG (a1:Int):List Int->Nat->Unit->Option Bool
 | [],v2,()=>
  some false
 | x5::xs,v2,()=>
  if x5=a1 then
  some true
  else
  (kG a1 xs (v2+1)) ()
def lD (N:Nat) (a0:List Int) (a1:Int):Option Bool:=
 kG a1 a0 0 ()
def kX (rec4:Unit->Option Bool) (c12:Bool):Option Bool:=
 if c12=true then
 some false
 else
 rec4 ()
def eH (a1:List al) (N:Nat):List al->Nat->Unit->Option Bool
 | [],v3,()=>
  some true
 | x6::xs,v3,()=>
  gx a1 (v3:Int) fun x10=>
  if x6.Txn_=x10.Txn_ then
  if x6.Prepared=x10.Prepared then
  (pB N x6.Fields x10.Fields).bind fun r11=>
  (kX (eH a1 N xs (v3+1))) (!r11)
  else
  (kX (eH a1 N xs (v3+1))) true
  else
  (kX (eH a1 N xs (v3+1))) true
def lu (N:Nat) (a0:List al) (a1:List al):Option Bool:=
 if (a0.length:Int)=(a1.length:Int) then
 eH a1 N a0 0 ()
 else
 some false
def mW (kx8:Option Bool) (c10:Bool):Option Bool:=
 if c10=true then
 some false
 else
 kx8
def kh (l24:List Int) (x29:al) (kx32:(List Int)->Bool->Option Bool) (c35:Bool) (c36:Bool):Option Bool:=
 if c36=true then
 apx 7 l24 [x29.Txn_] fun l37=>
 kx32 l37 c35
 else
 kx32 l24 c35
def iL (rec27:(List Int × Bool)->Option Bool) (v13:Int) (x29:al) (l38:List Int) (c39:Bool):Option Bool:=
 if c39=true then
 rec27 (l38,true)
 else
 gx l38 v13 fun x40=>
 rec27 (l38,(decide (x29.Txn_=x40)))
def ej (rec19:List Int->Option Bool) (N:Nat) (v13:Int):List al->Nat->List Int × Bool->Option Bool
 | [],v26,(l24,c25)=>
  rec19 l24
 | x29::xs,v26,(l24,c25)=>
  if c25=true then
  (lD N l24 x29.Txn_).bind fun r34=>
  (kh l24 x29 (iL (ej rec19 N v13 xs (v26+1)) v13 x29)) true (!r34)
  else
  (kh l24 x29 (iL (ej rec19 N v13 xs (v26+1)) v13 x29)) false false
def eW (rec14:(List Int × Int)->Option Bool) (v13:Int) (N:Nat):List aa->Nat->List Int->Option Bool
 | [],v18,l17=>
  rec14 (l17,IntKind.i64.wrap (v13+1))
 | x21::xs,v18,l17=>
  ej (eW rec14 v13 N xs (v18+1)) N v13 x21.Layers 0 (l17,false)
def gu (N:Nat) (r4:ae × (List aD)) (kx11:(List Int)->Option Bool):Nat->List Int × Int->Option Bool
 | 0,_=>none
 | n+1,(l12,v13)=>
  if v13 < (l12.length:Int) then
  eW (gu N r4 kx11 n) v13 N r4.1.Stacks 0 l12
  else
  kx11 l12
def iO (rec50:List Int->Option Bool) (l48:List Int) (c58:Bool):Option Bool:=
 if c58=true then
 some false
 else
 rec50 l48
def ee (kx47:(List Int)->Option Bool) (N:Nat) (r6:ae × (List Int) × Int):List Int->Nat->List Int->Option Bool
 | [],v49,l48=>
  kx47 l48
 | x52::xs,v49,l48=>
  (lD N l48 x52).bind fun r56=>
  if r56=true then
  if 0 < (v49:Int) then
  gx r6.2.1 (IntKind.i64.wrap ((v49:Int) - 1)) fun x57=>
  (iO (ee kx47 N r6 xs (v49+1)) l48) (decide (x52<=x57))
  else
  (iO (ee kx47 N r6 xs (v49+1)) l48) false
  else
  (iO (ee kx47 N r6 xs (v49+1)) l48) true
def fb (kx68:(List Int)->(List al)->Option Bool) (N:Nat):List al->Nat->List Int × List al->Option Bool
 | [],v71,(l69,l70)=>
  kx68 l69 l70
 | x74::xs,v71,(l69,l70)=>
  (lD N l69 x74.Txn_).bind fun r77=>
  if r77=true then
  (fb kx68 N xs (v71+1)) (l69,l70)
  else
  apx 39 l70 [x74] fun l78=>
  (fb kx68 N xs (v71+1)) (l69,l78)
def tT (N:Nat) (r6:ae × (List Int) × Int) (x65:aa) (rec63:List Int->Option Bool) (l80:List Int) (l81:List al):Option Bool:=
 (lS N r6.1 x65.Actor).bind fun r82=>
 (lu N r82 l81).bind fun r83=>
 if r83=true then
 rec63 l80
 else
 some false
def gB (kx60:Option Bool) (N:Nat) (r6:ae × (List Int) × Int):List aa->Nat->List Int->Option Bool
 | [],v62,l61=>
  kx60
 | x65::xs,v62,l61=>
  fb (tT N r6 x65 (gB kx60 N r6 xs (v62+1))) N x65.Layers 0 (l61,[])
def tW (N:Nat) (r6:ae × (List Int) × Int):Option Bool:=
 (jb N r6.1).bind fun r85=>
 some r85
def tC (N:Nat) (r6:ae × (List Int) × Int) (r4:ae × (List aD)) (l59:List Int):Option Bool:=
 gB (tW N r6) N r6 r4.1.Stacks 0 l59
def mX (r6:ae × (List Int) × Int) (N:Nat) (r4:ae × (List aD)) (l45:List Int):Option Bool:=
 if (l45.length:Int)=(r6.2.1.length:Int) then
 ee (tC N r6 r4) N r6 r6.2.1 0 l45
 else
 some false
def m7 (N:Nat) (r4:ae × (List aD)) (r6:ae × (List Int) × Int) (r5:Int):Option Bool:=
 gu N r4 (mX r6 N r4) N ([r5],0)
def kF (N:Nat) (a0:List aj) (a1:Int):Option Bool:=
 (uP N).bind fun r2=>
 if r2=true then
 if 60 < (a0.length:Int) then
 some true
 else
 (uR N a0).bind fun r4=>
 (ub N r4.1 a1).bind fun r5=>
 (jD N r4.1 r5).bind fun r6=>
 if r5=0 then
 some (decide (r6.2.2=6))
 else
 if r6.2.2=0 then
 (mW (m7 N r4 r6 r5)) (!decide ((IntKind.i64.wrap ((r6.2.1.length:Int)+(r6.1.Txns.length:Int)))=(r4.1.Txns.length:Int)))
 else
 (mW (m7 N r4 r6 r5)) true
 else
 some false
end
end Go.Proofs.YtmacaidmhchpgaaGreat
