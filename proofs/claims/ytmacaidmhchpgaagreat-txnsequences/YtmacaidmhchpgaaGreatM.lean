import Derived.Test.YtmacaidmhchpgaaGreatT
/- The functions of the program as plain functions on plain data. -/
set_option maxHeartbeats 40000000
set_option synthInstance.maxHeartbeats 2000000
set_option synthInstance.maxSize 4000
set_option linter.unusedSimpArgs false
set_option linter.unusedVariables false
set_option maxRecDepth 100000
namespace Go.Proofs.YtmacaidmhchpgaaGreat
open Go Go.Proofs Go.Abs
noncomputable section
def tM(kx1:Option Bool)(c3:Bool):Option Bool:=
 if c3 then
 some false
 else
 kx1
def s8(kx7:Bool->Option Bool)(a0:Value)(c11:Bool):Option Bool:=
 if c11 then
 kx7 true
 else
 if 0 <(a0.L.length:Int)then
 kx7 (!decide (a0.Kind=5))
 else
 kx7 false
def tN(kx7:Bool->Option Bool)(a0:Value)(c9:Bool):Option Bool:=
 if c9 then
 kx7 true
 else
 if 0 <(a0.I.length:Int)then
 (s8 kx7 a0) (!decide (a0.Kind=4))
 else
 (s8 kx7 a0) false
def uC(kx4:Option Bool)(c12:Bool):Option Bool:=
 if c12 then
 some false
 else
 kx4
def lg(a0:Value)(kx4:Option Bool)(c6:Bool):Option Bool:=
 if c6 then
 some false
 else
 if(sEq a0.S (⟨#[]⟩))then
 (tN (uC kx4) a0) false
 else
 (tN (uC kx4) a0) (!decide (a0.Kind=3))
def pD(kx13:Option Bool)(c15:Bool):Option Bool:=
 if c15 then
 some false
 else
 kx13
def uE  : List ByteArray->Nat->Unit->Option Bool
 | [],v17,()=>
  some true
 | x20::xs,v17,()=>
  if 64 <(x20.size:Int)then
  some false
  else
  (uE xs (v17+1)) ()
def pE(a0:Value):Option Bool:=
 uE a0.L 0 ()
def kU(a0:Value):Option Bool:=
 if 64 <(a0.S.size:Int)then
 (pD (pE a0)) true
 else
 if 16 <(a0.I.length:Int)then
 (pD (pE a0)) true
 else
 (pD (pE a0)) (decide (16 <(a0.L.length:Int)))
def tT(a0:Value)(N:Nat):Option Bool:=
 if a0.N=0 then
 (lg a0 (kU a0)) false
 else
 if a0.Kind=1 then
 (lg a0 (kU a0)) false
 else
 if a0.Kind=2 then
 (lg a0 (kU a0)) (!decide (a0.N=1))
 else
 (lg a0 (kU a0)) true
def j3(N:Nat)(a0:Value):Option Bool:=
 if a0.Kind<0 then
 (tM (tT a0 N)) true
 else
 (tM (tT a0 N)) (decide (5<a0.Kind))
def uD(N:Nat)(a0:Value):Option Bool:=
 if a0.Kind=0 then
 some true
 else
 (j3 N a0).bind fun r2=>
 some (!r2)
def gw(N:Nat):List Value->Nat->Unit->Option Int
 | [],v2,()=>
  some (-1)
 | x5::xs,v2,()=>
  (uD N x5).bind fun r8=>
  if r8 then
  some (v2:Int)
  else
  (gw N xs (v2+1)) ()
def dp(N:Nat)(a0:List Value):Option Int:=
 gw N a0 0 ()
def bT(N:Nat)(a0:List Value):Option Bool:=
 (dp N a0).bind fun r1=>
 some (decide (0<=r1))
def kJ(kx1:Option Bool)(c3:Bool):Option Bool:=
 if c3 then
 some false
 else
 kx1
def kL(N:Nat)(a0:ah):Option Bool:=
 (bT N a0.Args).bind fun r4=>
 some (!r4)
def zF(N:Nat)(a0:ah):Option Bool:=
 if(a0.Target.Type_.size:Int)< 1 then
 (kJ (kL N a0)) true
 else
 if 32 <(a0.Target.Type_.size:Int)then
 (kJ (kL N a0)) true
 else
 if 32 <(a0.Target.Key.size:Int)then
 (kJ (kL N a0)) true
 else
 if(a0.Method.size:Int)< 1 then
 (kJ (kL N a0)) true
 else
 if 32 <(a0.Method.size:Int)then
 (kJ (kL N a0)) true
 else
 (kJ (kL N a0)) (decide (4 <(a0.Args.length:Int)))
def Bm(N:Nat)(a0:ah):Option Bool:=
 (zF N a0).bind fun r1=>
 some (!r1)
def fu(N:Nat):List ah->Nat->Unit->Option Int
 | [],v2,()=>
  some (-1)
 | x5::xs,v2,()=>
  (Bm N x5).bind fun r8=>
  if r8 then
  some (v2:Int)
  else
  (fu N xs (v2+1)) ()
def bW(N:Nat)(a0:List ah):Option Int:=
 fu N a0 0 ()
def bK(N:Nat)(a0:List ah):Option Bool:=
 (bW N a0).bind fun r1=>
 some (decide (0<=r1))
def gu(kx1:Option Bool)(c3:Bool):Option Bool:=
 if c3 then
 some false
 else
 kx1
def j4(kx4:Option Bool)(c7:Bool):Option Bool:=
 if c7 then
 some false
 else
 kx4
def j2(N:Nat)(a0:Txn):Option Bool:=
 (bK N a0.Calls).bind fun r8=>
 some (!r8)
def gg(a0:Txn)(N:Nat):Option Bool:=
 if(a0.Calls.length:Int)< 1 then
 (j4 (j2 N a0)) true
 else
 if 4 <(a0.Calls.length:Int)then
 (j4 (j2 N a0)) true
 else
 if a0.Done<0 then
 (j4 (j2 N a0)) true
 else
 if(a0.Calls.length:Int)< a0.Done then
 (j4 (j2 N a0)) true
 else
 (j3 N a0.Last).bind fun r6=>
 if r6 then
 if a0.Done=0 then
 (j4 (j2 N a0)) (!decide (a0.Last.Kind=0))
 else
 (j4 (j2 N a0)) false
 else
 (j4 (j2 N a0)) true
def rH(N:Nat)(a0:Txn):Option Bool:=
 if a0.ID<1 then
 (gu (gg a0 N)) true
 else
 if 1099511627776<a0.ID then
 (gu (gg a0 N)) true
 else
 if a0.Born<0 then
 (gu (gg a0 N)) true
 else
 if 1099511627776<a0.Born then
 (gu (gg a0 N)) true
 else
 if(a0.Client.size:Int)< 1 then
 (gu (gg a0 N)) true
 else
 if 32 <(a0.Client.size:Int)then
 (gu (gg a0 N)) true
 else
 if a0.Seq<1 then
 (gu (gg a0 N)) true
 else
 ((gu (gg a0 N)) (decide (1099511627776<a0.Seq)))
def rG(rec3:Unit->Option Bool)(c11:Bool):Option Bool:=
 if c11 then
 some false
 else
 rec3 ()
def kI(a0:ae)(N:Nat):List Txn->Nat->Unit->Option Bool
 | [],v2,()=>
  some (decide ((a0.Txns.length:Int)<=32))
 | x5::xs,v2,()=>
  (rH N x5).bind fun r9=>
  if r9 then
  if 0 <(v2:Int)then
  gx a0.Txns (IntKind.i64.wrap ((v2:Int)-1)) fun x10=>
  (rG (kI a0 N xs (v2+1))) (decide (x5.ID<=x10.ID))
  else
  (rG (kI a0 N xs (v2+1))) false
  else
  (rG (kI a0 N xs (v2+1))) true
def CQ(N:Nat)(a0:ae):Option Bool:=
 kI a0 N a0.Txns 0 ()
def kH(N:Nat)(a0:Ref):Option Bool:=
 if 1<=(a0.Type_.size:Int)then
 if(a0.Type_.size:Int)<=32 then
 some (decide ((a0.Key.size:Int)<=32))
 else
 some false
 else
 some false
def oE(N:Nat)(a0:Int):Option Bool:=
 if 1<=a0 then
 some (decide (a0<=1099511627776))
 else
 some false
def pC(kx1:Option Bool)(c5:Bool):Option Bool:=
 if c5 then
 some false
 else
 kx1
def kX(rec8:Unit->Option Bool)(c15:Bool):Option Bool:=
 if c15 then
 some false
 else
 rec8 ()
def gF(a0:ai):List Int->Nat->Unit->Option Bool
 | [],v7,()=>
  some true
 | x10::xs,v7,()=>
  if x10<1 then
  (kX (gF a0 xs (v7+1))) true
  else
  if a0.Owner<=x10 then
  (kX (gF a0 xs (v7+1))) true
  else
  if 0 <(v7:Int)then
  gx a0.Waiters (IntKind.i64.wrap ((v7:Int)-1)) fun x14=>
  (kX (gF a0 xs (v7+1))) (decide (x10<=x14))
  else
  (kX (gF a0 xs (v7+1))) false
def pt(a0:ai):Option Bool:=
 gF a0 a0.Waiters 0 ()
def tA(N:Nat)(a0:ai):Option Bool:=
 (kH N a0.Actor).bind fun r3=>
 if r3 then
 (oE N a0.Owner).bind fun r4=>
 if r4 then
 (pC (pt a0)) (decide (32 <(a0.Waiters.length:Int)))
 else
 (pC (pt a0)) true
 else
 (pC (pt a0)) true
def yZ(N:Nat)(a0:ByteArray):Option Bool:=
 some (!(sEq a0 a0))
def gJ(N:Nat)(a0:ByteArray)(a1:ByteArray):Option Int:=
 (yZ N a0).bind fun r1=>
 (yZ N a1).bind fun r2=>
 if r1 then
 if r2 then
 some 0
 else
 some (-1)
 else
 if r2 then
 some 1
 else
 if(sLt a0 a1)then
 some (-1)
 else
 if(sLt a0 a1 || sEq a0 a1)then
 some 0
 else
 some 1
def CK  : List Int->Nat->Unit->Option Int
 | [],v2,()=>
  some 0
 | x5::xs,v2,()=>
  if x5=0 then
  (CK xs (v2+1)) ()
  else
  some x5
def BJ(N:Nat)(a0:List Int):Option Int:=
 CK a0 0 ()
def zt(N:Nat)(a0:Ref)(a1:Ref):Option Int:=
 (gJ N a0.Type_ a1.Type_).bind fun r1=>
 (gJ N a0.Key a1.Key).bind fun r2=>
 (BJ N [r1,r2]).bind fun r3=>
 some r3
def wm(rec4:Unit->Option Bool)(c13:Bool):Option Bool:=
 if c13 then
 some false
 else
 rec4 ()
def qZ(N:Nat)(a0:List ai):List ai->Nat->Unit->Option Bool
 | [],v3,()=>
  some true
 | x6::xs,v3,()=>
  (tA N x6).bind fun r10=>
  if r10 then
  if 0 <(v3:Int)then
  gx a0 (IntKind.i64.wrap ((v3:Int)-1)) fun x11=>
  (zt N x11.Actor x6.Actor).bind fun r12=>
  (wm (qZ N a0 xs (v3+1))) (decide (0<=r12))
  else
  (wm (qZ N a0 xs (v3+1))) false
  else
  (wm (qZ N a0 xs (v3+1))) true
def lH(N:Nat)(a0:List ai):Option Bool:=
 if 128 <(a0.length:Int)then
 some false
 else
 qZ N a0 a0 0 ()
def FQ(N:Nat)(a0:Txn)(c0_0:Int):Option Bool:=
 some (decide (a0.ID=c0_0))
def jI(N:Nat)(k1_0_0:Int):List Txn->Nat->Unit->Option Int
 | [],v2,()=>
  some (-1)
 | x5::xs,v2,()=>
  (FQ N x5 k1_0_0).bind fun r8=>
  if r8 then
  some (v2:Int)
  else
  (jI N k1_0_0 xs (v2+1)) ()
def eM(N:Nat)(a0:List Txn)(k1_0_0:Int):Option Int:=
 jI N k1_0_0 a0 0 ()
def gG(N:Nat)(a0:ae)(a1:Int):Option Int:=
 (eM N a0.Txns a1).bind fun r1=>
 some r1
def rN(N:Nat)(a0:Int)(c0_0:List Txn)(c0_1:List ai)(c0_2:List aa):Option Bool:=
 (gG N (ae.mk c0_0 c0_1 c0_2) a0).bind fun r1=>
 some (decide (r1<0))
def gQ(N:Nat)(k1_0_0:List Txn)(k1_0_1:List ai)(k1_0_2:List aa):List Int->Nat->Unit->Option Int
 | [],v2,()=>
  some (-1)
 | x5::xs,v2,()=>
  (rN N x5 k1_0_0 k1_0_1 k1_0_2).bind fun r8=>
  if r8 then
  some (v2:Int)
  else
  (gQ N k1_0_0 k1_0_1 k1_0_2 xs (v2+1)) ()
def dE(N:Nat)(a0:List Int)(k1_0_0:List Txn)(k1_0_1:List ai)(k1_0_2:List aa):Option Int:=
 gQ N k1_0_0 k1_0_1 k1_0_2 a0 0 ()
def ew(N:Nat)(a0:List Int)(k1_0_0:List Txn)(k1_0_1:List ai)(k1_0_2:List aa):Option Bool:=
 (dE N a0 k1_0_0 k1_0_1 k1_0_2).bind fun r1=>
 some (decide (0<=r1))
def Ha(rec5:Unit->Option Bool)(c13:Bool):Option Bool:=
 if c13 then
 some false
 else
 rec5 ()
def qh(N:Nat)(a0:ae):List ai->Nat->Unit->Option Bool
 | [],v4,()=>
  some true
 | x7::xs,v4,()=>
  (gG N a0 x7.Owner).bind fun r11=>
  if r11<0 then
  (Ha (qh N a0 xs (v4+1))) true
  else
  (ew N x7.Waiters a0.Txns a0.Locks a0.Stacks).bind fun r12=>
  (Ha (qh N a0 xs (v4+1))) r12
def vZ(N:Nat)(a0:ae):Option Bool:=
 (lH N a0.Locks).bind fun r2=>
 if r2 then
 qh N a0 a0.Locks 0 ()
 else
 some false
def vK(N:Nat)(a0:Value):Option Bool:=
 (j3 N a0).bind fun r1=>
 some (!r1)
def fI(N:Nat):List Value->Nat->Unit->Option Int
 | [],v2,()=>
  some (-1)
 | x5::xs,v2,()=>
  (vK N x5).bind fun r8=>
  if r8 then
  some (v2:Int)
  else
  (fI N xs (v2+1)) ()
def da(N:Nat)(a0:List Value):Option Int:=
 fI N a0 0 ()
def dK(N:Nat)(a0:List Value):Option Bool:=
 (da N a0).bind fun r1=>
 some (decide (0<=r1))
def pN(N:Nat)(a0:List Value):Option Bool:=
 if(a0.length:Int)<=8 then
 (dK N a0).bind fun r2=>
 some (!r2)
 else
 some false
def ql(N:Nat)(a0:aj)(c0_0:Int)(c0_1:List Value)(c0_2:Bool):Option Bool:=
 some (decide (a0.Txn_=c0_0))
def fK(N:Nat)(k1_0_0:Int)(k1_0_1:List Value)(k1_0_2:Bool):List aj->Nat->Unit->Option Int
 | [],v2,()=>
  some (-1)
 | x5::xs,v2,()=>
  (ql N x5 k1_0_0 k1_0_1 k1_0_2).bind fun r8=>
  if r8 then
  some (v2:Int)
  else
  (fK N k1_0_0 k1_0_1 k1_0_2 xs (v2+1)) ()
def db(N:Nat)(a0:List aj)(k1_0_0:Int)(k1_0_1:List Value)(k1_0_2:Bool):Option Int:=
 fK N k1_0_0 k1_0_1 k1_0_2 a0 0 ()
def br(N:Nat)(a0:List aj)(k1_0_0:Int)(k1_0_1:List Value)(k1_0_2:Bool):Option Bool:=
 (db N a0 k1_0_0 k1_0_1 k1_0_2).bind fun r1=>
 some (decide (0<=r1))
def pc(rec3:Unit->Option Bool)(c15:Bool):Option Bool:=
 if c15 then
 some false
 else
 rec3 ()
def fj(a1:List aj)(N:Nat)(a0:ae):List aj->Nat->Unit->Option Bool
 | [],v2,()=>
  some (decide (0 <(a1.length:Int)))
 | x5::xs,v2,()=>
  (gG N a0 x5.Txn_).bind fun r9=>
  if r9<0 then
  (pc (fj a1 N a0 xs (v2+1))) true
  else
  (pN N x5.Fields).bind fun r10=>
  if r10 then
  if x5.Prepared then
  slx a1 0 (v2:Int) fun l11=>
  (br N l11 x5.Txn_ x5.Fields x5.Prepared).bind fun r12=>
  (pc (fj a1 N a0 xs (v2+1))) r12
  else
  if(v2:Int)<(IntKind.i64.wrap ((a1.length:Int)-1))then
  (pc (fj a1 N a0 xs (v2+1))) true
  else
  slx a1 0 (v2:Int) fun l13=>
  (br N l13 x5.Txn_ x5.Fields x5.Prepared).bind fun r14=>
  (pc (fj a1 N a0 xs (v2+1))) r14
  else
  (pc (fj a1 N a0 xs (v2+1))) true
def pR(N:Nat)(a0:ae)(a1:List aj):Option Bool:=
 fj a1 N a0 a1 0 ()
def As(N:Nat)(a0:ai)(a1:Ref):Option Int:=
 (zt N a0.Actor a1).bind fun r1=>
 some r1
def bc(a0:List ai)(N:Nat)(a1:Ref)(kx1:Int->Option (Int×Bool)):Nat->Int×Int->Option (Int×Bool)
 | 0,_=>none
 | n+1,(v2,v3)=>
  if v2<v3 then
  gx a0 (IntKind.i64.wrap (w8 .u64 (IntKind.u64.wrap (IntKind.i64.wrap (v2+v3))) 1)) fun x6=>
  (As N x6 a1).bind fun r7=>
  if r7<0 then
  (bc a0 N a1 kx1 n) (IntKind.i64.wrap ((IntKind.i64.wrap (w8 .u64 (IntKind.u64.wrap (IntKind.i64.wrap (v2+v3))) 1))+1),v3)
  else
  (bc a0 N a1 kx1 n) (v2,IntKind.i64.wrap (w8 .u64 (IntKind.u64.wrap (IntKind.i64.wrap (v2+v3))) 1))
  else
  kx1 v2
def dM(a0:List ai)(N:Nat)(a1:Ref)(v8:Int):Option (Int×Bool):=
 if v8 <(a0.length:Int)then
 gx a0 v8 fun x10=>
 (As N x10 a1).bind fun r11=>
 some (v8,(decide (r11=0)))
 else
 some (v8,false)
def b9(N:Nat)(a0:List ai)(a1:Ref):Option (Int×Bool):=
 bc a0 N a1 (dM a0 N a1) N (0,(a0.length:Int))
def BN(N:Nat)(a0:List ai)(a1:Ref):Option (Int×Bool):=
 (b9 N a0 a1).bind fun r1=>
 some (r1.1,r1.2)
def qH(N:Nat)(a0:List ai)(a1:Ref):Option Int:=
 (lH N a0).bind fun r2=>
 if r2 then
 (BN N a0 a1).bind fun r4=>
 if r4.2 then
 gx a0 r4.1 fun x5=>
 some x5.Owner
 else
 some 0
 else
 some 0
def CJ(N:Nat)(a0:ah)(c0_0:ByteArray)(c0_1:ByteArray):Option Bool:=
 some (sEq a0.Target.Type_ c0_0&&sEq a0.Target.Key c0_1)
def fJ(N:Nat)(k1_0_0:ByteArray)(k1_0_1:ByteArray):List ah->Nat->Unit->Option Int
 | [],v2,()=>
  some (-1)
 | x5::xs,v2,()=>
  (CJ N x5 k1_0_0 k1_0_1).bind fun r8=>
  if r8 then
  some (v2:Int)
  else
  (fJ N k1_0_0 k1_0_1 xs (v2+1)) ()
def bZ(N:Nat)(a0:List ah)(k1_0_0:ByteArray)(k1_0_1:ByteArray):Option Int:=
 fJ N k1_0_0 k1_0_1 a0 0 ()
def dL(N:Nat)(a0:List ah)(k1_0_0:ByteArray)(k1_0_1:ByteArray):Option Bool:=
 (bZ N a0 k1_0_0 k1_0_1).bind fun r1=>
 some (decide (0<=r1))
def vd(N:Nat)(a0:List ah)(a1:Ref):Option Bool:=
 (dL N a0 a1.Type_ a1.Key).bind fun r1=>
 some r1
def jF(N:Nat)(a0:Ref)(a1:Ref):Option Int:=
 (gJ N a0.Type_ a1.Type_).bind fun r1=>
 (gJ N a0.Key a1.Key).bind fun r2=>
 (BJ N [r1,r2]).bind fun r3=>
 some r3
def pn(kx8:Option Bool)(c14:Bool):Option Bool:=
 if c14 then
 some false
 else
 kx8
def tP(kx16:Option Bool)(c19:Bool):Option Bool:=
 if c19 then
 some false
 else
 kx16
def pb(rec21:Unit->Option Bool)(c31:Bool):Option Bool:=
 if c31 then
 some false
 else
 rec21 ()
def jo(rec3:Unit->Option Bool)(N:Nat)(a0:ae)(x5:aa):List aj->Nat->Unit->Option Bool
 | [],v20,()=>
  rec3 ()
 | x23::xs,v20,()=>
  (gG N a0 x23.Txn_).bind fun r26=>
  gx a0.Txns r26 fun x27=>
  slx x27.Calls 0 x27.Done fun l29=>
  (vd N l29 x5.Actor).bind fun r30=>
  if r30 then
  if x23.Prepared then
  (pb (jo rec3 N a0 x5 xs (v20+1))) (decide (x27.Done <(x27.Calls.length:Int)))
  else
  (pb (jo rec3 N a0 x5 xs (v20+1))) false
  else
  (pb (jo rec3 N a0 x5 xs (v20+1))) true
def tC(rec3:Unit->Option Bool)(N:Nat)(a0:ae)(x5:aa):Option Bool:=
 jo rec3 N a0 x5 x5.Layers 0 ()
def pw(x5:aa)(rec3:Unit->Option Bool)(N:Nat)(a0:ae):Option Bool:=
 gx x5.Layers (IntKind.i64.wrap ((x5.Layers.length:Int)-1)) fun x15=>
 if x15.Prepared then
 (tP (tC rec3 N a0 x5)) false
 else
 (qH N a0.Locks x5.Actor).bind fun r18=>
 (tP (tC rec3 N a0 x5)) (!decide (r18=x15.Txn_))
def fp(a0:ae)(N:Nat):List aa->Nat->Unit->Option Bool
 | [],v2,()=>
  some true
 | x5::xs,v2,()=>
  if 0 <(v2:Int)then
  gx a0.Stacks (IntKind.i64.wrap ((v2:Int)-1)) fun x10=>
  (jF N x10.Actor x5.Actor).bind fun r11=>
  if 0<=r11 then
  (pn (pw x5 (fp a0 N xs (v2+1)) N a0)) true
  else
  (pR N a0 x5.Layers).bind fun r12=>
  (pn (pw x5 (fp a0 N xs (v2+1)) N a0)) (!r12)
  else
  (pR N a0 x5.Layers).bind fun r13=>
  (pn (pw x5 (fp a0 N xs (v2+1)) N a0)) (!r13)
def tj(N:Nat)(a0:ae):Option Bool:=
 fp a0 N a0.Stacks 0 ()
def FP(N:Nat)(a0:aa)(c0_0:ByteArray)(c0_1:ByteArray):Option Bool:=
 some (sEq a0.Actor.Type_ c0_0&&sEq a0.Actor.Key c0_1)
def fZ(N:Nat)(k1_0_0:ByteArray)(k1_0_1:ByteArray):List aa->Nat->Unit->Option Int
 | [],v2,()=>
  some (-1)
 | x5::xs,v2,()=>
  (FP N x5 k1_0_0 k1_0_1).bind fun r8=>
  if r8 then
  some (v2:Int)
  else
  (fZ N k1_0_0 k1_0_1 xs (v2+1)) ()
def dh(N:Nat)(a0:List aa)(k1_0_0:ByteArray)(k1_0_1:ByteArray):Option Int:=
 fZ N k1_0_0 k1_0_1 a0 0 ()
def uB(N:Nat)(a0:ae)(a1:Ref):Option Int:=
 (dh N a0.Stacks a1.Type_ a1.Key).bind fun r1=>
 some r1
def DX(a2:Int):List aj->Nat->Unit->Option (aj×Bool)
 | [],v4,()=>
  some ((aj.mk 0 [] false),false)
 | x7::xs,v4,()=>
  if x7.Txn_=a2 then
  some (x7,true)
  else
  (DX a2 xs (v4+1)) ()
def lB(N:Nat)(a0:ae)(a1:Ref)(a2:Int):Option (aj×Bool):=
 (uB N a0 a1).bind fun r2=>
 if 0<=r2 then
 gx a0.Stacks r2 fun x3=>
 DX a2 x3.Layers 0 ()
 else
 some ((aj.mk 0 [] false),false)
def lY(rec3:Unit->Option Bool)(N:Nat)(a0:ae)(x5:Txn):List ah->Nat->Unit->Option Bool
 | [],v9,()=>
  rec3 ()
 | x12::xs,v9,()=>
  (lB N a0 x12.Target x5.ID).bind fun r15=>
  if r15.2 then
  (lY rec3 N a0 x5 xs (v9+1)) ()
  else
  some false
def qz(kx1:Option Bool)(N:Nat)(a0:ae):List Txn->Nat->Unit->Option Bool
 | [],v2,()=>
  kx1
 | x5::xs,v2,()=>
  slx x5.Calls 0 x5.Done fun l8=>
  lY (qz kx1 N a0 xs (v2+1)) N a0 x5 l8 0 ()
def gT(kx26:Option Bool)(c29:Bool):Option Bool:=
 if c29 then
 some false
 else
 kx26
def yR(rec31:Unit->Option Bool)(c40:Bool):Option Bool:=
 if c40 then
 some false
 else
 rec31 ()
def jO(rec18:Unit->Option Bool)(N:Nat)(a0:ae)(x20:ai):List Int->Nat->Unit->Option Bool
 | [],v30,()=>
  rec18 ()
 | x33::xs,v30,()=>
  (gG N a0 x33).bind fun r36=>
  gx a0.Txns r36 fun x37=>
  if x37.Done=(x37.Calls.length:Int)then
  (yR (jO rec18 N a0 x20 xs (v30+1))) true
  else
  gx x37.Calls x37.Done fun x39=>
  (yR (jO rec18 N a0 x20 xs (v30+1))) (!(sEq x39.Target.Type_ x20.Actor.Type_&&sEq x39.Target.Key x20.Actor.Key))
def gU(rec18:Unit->Option Bool)(N:Nat)(a0:ae)(x20:ai):Option Bool:=
 jO rec18 N a0 x20 x20.Waiters 0 ()
def dG(N:Nat)(a0:ae):List ai->Nat->Unit->Option Bool
 | [],v17,()=>
  some true
 | x20::xs,v17,()=>
  (gG N a0 x20.Owner).bind fun r23=>
  gx a0.Txns r23 fun x24=>
  (lB N a0 x20.Actor x24.ID).bind fun r25=>
  if x24.Done <(x24.Calls.length:Int)then
  if r25.2 then
  (gT (gU (dG N a0 xs (v17+1)) N a0 x20)) false
  else
  gx x24.Calls x24.Done fun x28=>
  (gT (gU (dG N a0 xs (v17+1)) N a0 x20)) (!(sEq x28.Target.Type_ x20.Actor.Type_&&sEq x28.Target.Key x20.Actor.Key))
  else
  if r25.2 then
  if r25.1.Prepared then
  (gT (gU (dG N a0 xs (v17+1)) N a0 x20)) true
  else
  (gT (gU (dG N a0 xs (v17+1)) N a0 x20)) false
  else
  (gT (gU (dG N a0 xs (v17+1)) N a0 x20)) true
def zg(N:Nat)(a0:ae):Option Bool:=
 dG N a0 a0.Locks 0 ()
def qm(N:Nat)(a0:ae):Option Bool:=
 qz (zg N a0) N a0 a0.Txns 0 ()
def sm(a1:Int):List Int->Nat->Unit->Option Int
 | [],v2,()=>
  some (-1)
 | x5::xs,v2,()=>
  if a1=x5 then
  some (v2:Int)
  else
  (sm a1 xs (v2+1)) ()
def yJ(N:Nat)(a0:List Int)(a1:Int):Option Int:=
 sm a1 a0 0 ()
def eP(N:Nat)(a0:List Int)(a1:Int):Option Bool:=
 (yJ N a0 a1).bind fun r1=>
 some (decide (0<=r1))
def DQ(kx15:Option Bool)(c17:Bool):Option Bool:=
 if c17 then
 some false
 else
 kx15
def AX(c8:Bool)(rec10:Bool->Option Bool)(N:Nat)(a2:List Int)(x12:aj):Option Bool:=
 if c8 then
 rec10 true
 else
 (eP N a2 x12.Txn_).bind fun r18=>
 rec10 (!r18)
def lW(rec3:Unit->Option Bool)(a1:Int)(N:Nat)(a2:List Int):List aj->Nat->Bool->Option Bool
 | [],v9,c8=>
  rec3 ()
 | x12::xs,v9,c8=>
  if x12.Txn_=a1 then
  (DQ (AX c8 (lW rec3 a1 N a2 xs (v9+1)) N a2 x12)) c8
  else
  (DQ (AX c8 (lW rec3 a1 N a2 xs (v9+1)) N a2 x12)) false
def wN(a1:Int)(N:Nat)(a2:List Int):List aa->Nat->Unit->Option Bool
 | [],v2,()=>
  some true
 | x5::xs,v2,()=>
  lW (wN a1 N a2 xs (v2+1)) a1 N a2 x5.Layers 0 false
def DC(N:Nat)(a0:ae)(a1:Int)(a2:List Int):Option Bool:=
 wN a1 N a2 a0.Stacks 0 ()
def wo(l8:List Int)(x12:Txn)(rec10:List Int->Option Bool)(c18:Bool):Option Bool:=
 if c18 then
 apx 7 l8 [x12.ID] fun l19=>
 rec10 l19
 else
 rec10 l8
def ou(rec4:List Int->Option Bool)(N:Nat)(a0:ae):List Txn->Nat->List Int->Option Bool
 | [],v9,l8=>
  rec4 l8
 | x12::xs,v9,l8=>
  (eP N l8 x12.ID).bind fun r16=>
  if r16 then
  (wo l8 x12 (ou rec4 N a0 xs (v9+1))) false
  else
  (DC N a0 x12.ID l8).bind fun r17=>
  (wo l8 x12 (ou rec4 N a0 xs (v9+1))) r17
def re(a0:ae)(N:Nat):Nat->Nat->List Int->Option Bool
 | 0,v3,l2=>
  some (decide ((l2.length:Int)=(a0.Txns.length:Int)))
 | m+1,v3,l2=>
  ou (re a0 N m (v3+1)) N a0 a0.Txns 0 l2
def Cs(N:Nat)(a0:ae):Option Bool:=
 re a0 N (a0.Txns.length-0) 0 []
def jm(N:Nat)(a0:ae):Option Bool:=
 (CQ N a0).bind fun r2=>
 if r2 then
 (vZ N a0).bind fun r3=>
 if r3 then
 (tj N a0).bind fun r4=>
 if r4 then
 (qm N a0).bind fun r5=>
 if r5 then
 (Cs N a0).bind fun r6=>
 some r6
 else
 some false
 else
 some false
 else
 some false
 else
 some false
def oh(N:Nat)(a0:List Txn):Option (List Txn):=
 apn 151 a0 <|
 some a0
def iz(N:Nat)(a0:List ai):Option (List ai):=
 apn 63 a0 <|
 some a0
def gL(N:Nat)(a0:List aa):Option (List aa):=
 apn 55 a0 <|
 some a0
def iw(N:Nat)(a0:List ah):Option (List ah):=
 apn 71 a0 <|
 some a0
def kY(N:Nat)(a0:List Value):Option (List Value):=
 apn 79 a0 <|
 some a0
def fw(N:Nat)(a0:List Int):Option (List Int):=
 apn 7 a0 <|
 some a0
def j9(N:Nat)(a0:List ByteArray):Option (List ByteArray):=
 apn 15 a0 <|
 some a0
def jL(N:Nat)(a0:Value):Option Value:=
 (fw N a0.I).bind fun r1=>
 (j9 N a0.L).bind fun r2=>
 some (Value.mk a0.Kind a0.N a0.S r1 r2)
def kW(N:Nat):Nat->Nat->List Value->Option (List Value)
 | 0,v4,l3=>
  some l3
 | m+1,v4,l3=>
  gx l3 (v4:Int) fun x9=>
  (jL N x9).bind fun r10=>
  (kW N m (v4+1)) (l3.set v4 r10)
def eI(N:Nat)(a0:List Value):Option (List Value):=
 (kY N a0).bind fun r1=>
 kW N (r1.length-0) 0 r1
def qc(N:Nat)(a0:ah):Option ah:=
 (eI N a0.Args).bind fun r1=>
 some (ah.mk a0.Target a0.Method r1)
def pM(kx2:(List ah)->Option Txn)(N:Nat):Nat->Nat->List ah->Option Txn
 | 0,v4,l3=>
  kx2 l3
 | m+1,v4,l3=>
  gx l3 (v4:Int) fun x9=>
  (qc N x9).bind fun r10=>
  (pM kx2 N m (v4+1)) (l3.set v4 r10)
def Es(N:Nat)(a0:Txn)(l11:List ah):Option Txn:=
 (jL N a0.Last).bind fun r12=>
 some (Txn.mk a0.ID a0.Born a0.Client a0.Seq l11 a0.Done r12)
def kn(N:Nat)(a0:Txn):Option Txn:=
 (iw N a0.Calls).bind fun r1=>
 pM (Es N a0) N (r1.length-0) 0 r1
def lr(N:Nat)(a0:List aj):Option (List aj):=
 apn 39 a0 <|
 some a0
def lD(N:Nat):Nat->Nat->List aj->Option (List aj)
 | 0,v4,l3=>
  some l3
 | m+1,v4,l3=>
  gx l3 (v4:Int) fun x9=>
  (eI N x9.Fields).bind fun r10=>
  (lD N m (v4+1)) (l3.set v4 (aj.mk x9.Txn_ r10 x9.Prepared))
def pL(N:Nat)(a0:List aj):Option (List aj):=
 (lr N a0).bind fun r1=>
 lD N (r1.length-0) 0 r1
def rY(kx4:(List Txn)->Option ae)(N:Nat):Nat->Nat->List Txn->Option ae
 | 0,v6,l5=>
  kx4 l5
 | m+1,v6,l5=>
  gx l5 (v6:Int) fun x11=>
  (kn N x11).bind fun r12=>
  (rY kx4 N m (v6+1)) (l5.set v6 r12)
def rh(kx14:(List ai)->Option ae)(N:Nat):Nat->Nat->List ai->Option ae
 | 0,v16,l15=>
  kx14 l15
 | m+1,v16,l15=>
  gx l15 (v16:Int) fun x21=>
  (fw N x21.Waiters).bind fun r22=>
  (rh kx14 N m (v16+1)) (l15.set v16 (ai.mk x21.Actor x21.Owner r22))
def rT(l13:List Txn)(l23:List ai)(N:Nat):Nat->Nat->List aa->Option ae
 | 0,v26,l25=>
  Rs l25 v26 <|
  (some (ae.mk l13 l23 l25))
 | m+1,v26,l25=>
  gx l25 (v26:Int) fun x31=>
  (pL N x31.Layers).bind fun r32=>
  (rT l13 l23 N m (v26+1)) (l25.set v26 (aa.mk x31.Actor r32))
def Ej(l13:List Txn)(N:Nat)(r3:List aa)(l23:List ai):Option ae:=
 rT l13 l23 N (r3.length-0) 0 r3
def Em(N:Nat)(r3:List aa)(r2:List ai)(l13:List Txn):Option ae:=
 rh (Ej l13 N r3) N (r2.length-0) 0 r2
def mI(N:Nat)(a0:ae):Option ae:=
 (oh N a0.Txns).bind fun r1=>
 (iz N a0.Locks).bind fun r2=>
 (gL N a0.Stacks).bind fun r3=>
 rY (Em N r3 r2) N (r1.length-0) 0 r1
def mf(a0:ae)(kx1:Option (ae×Int))(c8:Bool):Option (ae×Int):=
 if c8 then
 some ((ae.mk [] [] []),8)
 else
 if(a0.Txns.length:Int)=32 then
 some ((ae.mk [] [] []),5)
 else
 kx1
def yc(a0:ae)(kx1:Option (ae×Int))(a1:Int)(c5:Bool):Option (ae×Int):=
 if c5 then
 some ((ae.mk [] [] []),1)
 else
 if 0 <(a0.Txns.length:Int)then
 gx a0.Txns (IntKind.i64.wrap ((a0.Txns.length:Int)-1)) fun x7=>
 (mf a0 kx1) (decide (a1<=x7.ID))
 else
 (mf a0 kx1) false
def ki(N:Nat)(a0:ae)(a1:Int)(a2:Int)(a3:ByteArray)(a4:Int)(a5:List ah):Option (ae×Int):=
 (mI N a0).bind fun r9=>
 (kn N (Txn.mk a1 a2 a3 a4 a5 0 (Value.mk 0 0 (⟨#[]⟩) [] []))).bind fun r10=>
 apx 151 r9.Txns [r10] fun l11=>
 some ((ae.mk l11 r9.Locks r9.Stacks),0)
def iF(N:Nat)(a0:ae)(a1:Int)(a2:Int)(a3:ByteArray)(a4:Int)(a5:List ah):Option (ae×Int):=
 (jm N a0).bind fun r3=>
 if r3 then
 (rH N (Txn.mk a1 a2 a3 a4 a5 0 (Value.mk 0 0 (⟨#[]⟩) [] []))).bind fun r4=>
 (yc a0 (ki N a0 a1 a2 a3 a4 a5) a1) (!r4)
 else
 (yc a0 (ki N a0 a1 a2 a3 a4 a5) a1) true
def o6(kx2:Option (ah×Bool))(c5:Bool):Option (ah×Bool):=
 if c5 then
 some ((ah.mk (Ref.mk (⟨#[]⟩) (⟨#[]⟩)) (⟨#[]⟩) []),false)
 else
 kx2
def Cn(a0:ae)(r1:Int)(N:Nat):Option (ah×Bool):=
 gx a0.Txns r1 fun x6=>
 gx x6.Calls x6.Done fun x7=>
 (qc N x7).bind fun r8=>
 some (r8,true)
def jU(N:Nat)(a0:ae)(a1:Int):Option (ah×Bool):=
 (gG N a0 a1).bind fun r1=>
 if r1<0 then
 (o6 (Cn a0 r1 N)) true
 else
 gx a0.Txns r1 fun x4=>
 if x4.Done<0 then
 (o6 (Cn a0 r1 N)) true
 else
 (o6 (Cn a0 r1 N)) (decide ((x4.Calls.length:Int)<=x4.Done))
def mW(N:Nat):Nat->Nat->List ai->Option (List ai)
 | 0,v4,l3=>
  Rs l3 v4 <|
  (some l3)
 | m+1,v4,l3=>
  gx l3 (v4:Int) fun x9=>
  (fw N x9.Waiters).bind fun r10=>
  (mW N m (v4+1)) (l3.set v4 (ai.mk x9.Actor x9.Owner r10))
def gh(N:Nat)(a0:List ai):Option (List ai):=
 (iz N a0).bind fun r1=>
 mW N (r1.length-0) 0 r1
def pA(N:Nat)(a0:List ai)(a1:Int)(a2:List ai):Option (List ai):=OD 63 a0 a1 a2 fun l=>some l
def CL(N:Nat)(a0:Int):Option Bool:=
 some (!decide (a0=a0))
def AO(N:Nat)(a0:Int)(a1:Int):Option Bool:=
 (CL N a0).bind fun r2=>
 if r2 then
 (CL N a1).bind fun r3=>
 if r3 then
 some (decide (a0<a1))
 else
 some true
 else
 some (decide (a0<a1))
def y7(N:Nat)(a0:Int):Option Bool:=
 some (!decide (a0=a0))
def dT(a0:List Int)(N:Nat)(a1:Int)(kx1:Int->Option (Int×Bool)):Nat->Int×Int->Option (Int×Bool)
 | 0,_=>none
 | n+1,(v2,v3)=>
  if v2<v3 then
  gx a0 (IntKind.i64.wrap (w8 .u64 (IntKind.u64.wrap (IntKind.i64.wrap (v2+v3))) 1)) fun x6=>
  (AO N x6 a1).bind fun r7=>
  if r7 then
  (dT a0 N a1 kx1 n) (IntKind.i64.wrap ((IntKind.i64.wrap (w8 .u64 (IntKind.u64.wrap (IntKind.i64.wrap (v2+v3))) 1))+1),v3)
  else
  (dT a0 N a1 kx1 n) (v2,IntKind.i64.wrap (w8 .u64 (IntKind.u64.wrap (IntKind.i64.wrap (v2+v3))) 1))
  else
  kx1 v2
def kz(a0:List Int)(a1:Int)(N:Nat)(v8:Int):Option (Int×Bool):=
 if v8 <(a0.length:Int)then
 gx a0 v8 fun x10=>
 if x10=a1 then
 some (v8,true)
 else
 (y7 N x10).bind fun r11=>
 if r11 then
 (y7 N a1).bind fun r12=>
 some (v8,r12)
 else
 some (v8,false)
 else
 some (v8,false)
def jP(N:Nat)(a0:List Int)(a1:Int):Option (Int×Bool):=
 dT a0 N a1 (kz a0 a1 N) N (0,(a0.length:Int))
def qn(N:Nat)(a0:List Int)(a1:Int)(a2:List Int):Option (List Int):=OD 7 a0 a1 a2 fun l=>some l
def rv(kx1:Option ((List ai)× Int×Int))(c6:Bool):Option ((List ai)× Int×Int):=
 if c6 then
 some ([],0,1)
 else
 kx1
def rq(N:Nat)(a0:List ai)(a1:Ref)(a2:Int):Option ((List ai)× Int×Int):=
 (BN N a0 a1).bind fun r7=>
 if r7.2 then
 gx a0 r7.1 fun x12=>
 (jP N x12.Waiters a2).bind fun r13=>
 if x12.Owner=a2 then
 (gh N a0).bind fun r15=>
 some (r15,1,0)
 else
 if x12.Owner<a2 then
 (gh N a0).bind fun r16=>
 some (r16,3,0)
 else
 if r13.2 then
 (gh N a0).bind fun r17=>
 some (r17,2,0)
 else
 if(x12.Waiters.length:Int)=32 then
 some ([],0,5)
 else
 (gh N a0).bind fun r18=>
 gx r18 r7.1 fun x19=>
 (qn N x19.Waiters r13.1 [a2]).bind fun r20=>
 some ((r18.set ((r7.1).toNat) (ai.mk x19.Actor x19.Owner r20)),2,0)
 else
 if(a0.length:Int)=128 then
 some ([],0,5)
 else
 (gh N a0).bind fun r10=>
 (pA N r10 r7.1 [(ai.mk a1 a2 [])]).bind fun r11=>
 some (r11,1,0)
def zJ(N:Nat)(a0:List ai)(a1:Ref)(a2:Int):Option ((List ai)× Int×Int):=
 (lH N a0).bind fun r3=>
 if r3 then
 (kH N a1).bind fun r4=>
 if r4 then
 (oE N a2).bind fun r5=>
 (rv (rq N a0 a1 a2)) (!r5)
 else
 (rv (rq N a0 a1 a2)) true
 else
 (rv (rq N a0 a1 a2)) true
def Ax(v8:Int)(v9:Int):Option Int:=
 gxs (⟨((([0,1,2,2,3,3,3,3,4,4,4,4,4,4,4,4,5,5,5,5,5,5,5,5,5,5,5,5,5,5,5,5,6,6,6,6,6,6,6,6,6,6,6,6,6,6,6,6,6,6,6,6,6,6,6,6,6,6,6,6,6,6,6,6]:List UInt8).append ([7,7,7,7,7,7,7,7,7,7,7,7,7,7,7,7,7,7,7,7,7,7,7,7,7,7,7,7,7,7,7,7,7,7,7,7,7,7,7,7,7,7,7,7,7,7,7,7,7,7,7,7,7,7,7,7,7,7,7,7,7,7,7,7]:List UInt8)).append (([8,8,8,8,8,8,8,8,8,8,8,8,8,8,8,8,8,8,8,8,8,8,8,8,8,8,8,8,8,8,8,8,8,8,8,8,8,8,8,8,8,8,8,8,8,8,8,8,8,8,8,8,8,8,8,8,8,8,8,8,8,8,8,8]:List UInt8).append ([8,8,8,8,8,8,8,8,8,8,8,8,8,8,8,8,8,8,8,8,8,8,8,8,8,8,8,8,8,8,8,8,8,8,8,8,8,8,8,8,8,8,8,8,8,8,8,8,8,8,8,8,8,8,8,8,8,8,8,8,8,8,8,8]:List UInt8))).toArray⟩:ByteArray) (IntKind.u8.wrap v8) fun b10=>
 some (IntKind.i64.wrap (v9+(IntKind.i64.wrap (b10.toNat:Int))))
def AZ(v5:Int)(v6:Int):Option Int:=
 if 256<=v5 then
 Ax (w8 .u64 v5 8) (IntKind.i64.wrap (v6+8))
 else
 Ax v5 v6
def AD(v2:Int)(v3:Int):Option Int:=
 if 65536<=v2 then
 AZ (w8 .u64 v2 16) (IntKind.i64.wrap (v3+16))
 else
 AZ v2 v3
def DP(N:Nat)(a0:Int):Option Int:=
 if 4294967296<=a0 then
 AD (w8 .u64 a0 32) 32
 else
 AD a0 0
def zA(N:Nat)(a0:Int):Option Int:=
 (DP N a0).bind fun r2=>
 some r2
def iS(kx6:Option (List Int))(rec2:Int->Option (List Int))(v1:Int)(c11:Bool):Option (List Int):=
 if c11 then
 kx6
 else
 rec2 (IntKind.i64.wrap (v1+1))
def iW(a0:List Int)(v1:Int):Option (List Int):=
 gx a0 (IntKind.i64.wrap (v1-1)) fun x13=>
 gx a0 v1 fun x14=>
 none
def iU(a1:Int)(v1:Int)(a0:List Int)(N:Nat)(rec2:Int->Option (List Int)):Nat->Unit->Option (List Int)
 | 0,_=>none
 | n+1,()=>
  if a1<v1 then
  gx a0 v1 fun x8=>
  gx a0 (IntKind.i64.wrap (v1-1)) fun x9=>
  (AO N x8 x9).bind fun r10=>
  (iS (iW a0 v1) rec2 v1) r10
  else
  (iS (iW a0 v1) rec2 v1) false
def eT(a2:Int)(a1:Int)(a0:List Int)(N:Nat):Nat->Int->Option (List Int)
 | 0,_=>none
 | n+1,v1=>
  if v1<a2 then
  iU a1 v1 a0 N (eT a2 a1 a0 N n) N ()
  else
  some a0
def bX(N:Nat)(a0:List Int)(a1:Int)(a2:Int):Option (List Int):=
 GO (fun r=>r) a0 (
 (eT a2 a1 a0 N N (IntKind.i64.wrap (a1+1))))
def kG(a2:Int)(a1:Int)(N:Nat)(a0:List Int)(a3:Int):Nat->Unit->Option (List Int)
 | 0,_=>none
 | n+1,()=>
  if(IntKind.i64.wrap (a2-a1))<=12 then
  (bX N a0 a1 a2).bind fun r3=>
  some r3
  else
  if a3=0 then
  none
  else
  none
def ej(N:Nat)(a0:List Int)(a1:Int)(a2:Int)(a3:Int):Option (List Int):=
 GO (fun r=>r) a0 (
 (kG a2 a1 N a0 a3 N ()))
def jh(N:Nat)(a0:List Int):Option (List Int):=
 GO (fun r=>r) a0 (
 (zA N (IntKind.u64.wrap (a0.length:Int))).bind fun r1=>
 (ej N a0 0 (a0.length:Int) r1).bind fun r2=>
 some r2)
def slices_Sort_int(N:Nat)(a0:List Int):Option (List Int):=if a0.isEmpty then jh N a0 else Jp a0
def qi(l1:List Int)(x14:aj)(rec2:List Int->Option (List Int))(kx17:Bool->Option (List Int))(c20:Bool)(c21:Bool):Option (List Int):=
 if c21 then
 apx 7 l1 [x14.Txn_] fun l22=>
 rec2 l22
 else
 kx17 c20
def qj(rec12:Bool->Option (List Int))(N:Nat)(l1:List Int)(x14:aj)(c23:Bool):Option (List Int):=
 if c23 then
 rec12 true
 else
 (eP N l1 x14.Txn_).bind fun r24=>
 rec12 r24
def fU(rec5:Unit->Option (List Int))(N:Nat)(l1:List Int)(rec2:List Int->Option (List Int)):List aj->Nat->Bool->Option (List Int)
 | [],v11,c10=>
  rec5 ()
 | x14::xs,v11,c10=>
  if c10 then
  (eP N l1 x14.Txn_).bind fun r19=>
  (qi l1 x14 rec2 (qj (fU rec5 N l1 rec2 xs (v11+1)) N l1 x14)) true (!r19)
  else
  (qi l1 x14 rec2 (qj (fU rec5 N l1 rec2 xs (v11+1)) N l1 x14)) false false
def jQ(kx3:Option (List Int))(N:Nat)(l1:List Int)(rec2:List Int->Option (List Int)):List aa->Nat->Unit->Option (List Int)
 | [],v4,()=>
  kx3
 | x7::xs,v4,()=>
  fU (jQ kx3 N l1 rec2 xs (v4+1)) N l1 rec2 x7.Layers 0 false
def B8(N:Nat)(l1:List Int):Option (List Int):=
 (slices_Sort_int N l1).bind fun r26=>
 some r26
def mw(N:Nat)(a0:ae):Nat->List Int->Option (List Int)
 | 0,_=>none
 | n+1,l1=>
  jQ (B8 N l1) N l1 (mw N a0 n) a0.Stacks 0 ()
def wO(N:Nat)(a0:ae)(a1:Int):Option (List Int):=
 mw N a0 N [a1]
def vV(N:Nat)(a0:Txn)(c0_0:List Int):Option Bool:=
 (eP N c0_0 a0.ID).bind fun r1=>
 some r1
def jq(N:Nat)(k1_0_0:List Int):List Txn->Nat->Unit->Option Int
 | [],v2,()=>
  some (-1)
 | x5::xs,v2,()=>
  (vV N x5 k1_0_0).bind fun r8=>
  if r8 then
  some (v2:Int)
  else
  (jq N k1_0_0 xs (v2+1)) ()
def gr(N:Nat)(a0:List Txn)(k1_0_0:List Int):Option Int:=
 jq N k1_0_0 a0 0 ()
def bu(N:Nat)(k1_0_0:List Int)(kx3:(List Txn)->Int->Option (List Txn)):Nat->List Txn×Int×Int->Option (List Txn)
 | 0,_=>none
 | n+1,(l4,v5,v6)=>
  if v6 <(l4.length:Int)then
  gx l4 v6 fun x10=>
  (vV N x10 k1_0_0).bind fun r11=>
  if r11 then
  (bu N k1_0_0 kx3 n) (l4,v5,IntKind.i64.wrap (v6+1))
  else
  gx l4 v5 fun x12=>
  (bu N k1_0_0 kx3 n) ((l4.set ((v5).toNat) x10),(IntKind.i64.wrap (v5+1)),IntKind.i64.wrap (v6+1))
  else
  kx3 l4 v5
def eZ(l15:List Txn)(v16:Int):Option (List Txn):=
 slx l15 v16 (l15.length:Int) fun l17=>
 slx (yG (Txn.mk 0 0 (⟨#[]⟩) 0 [] 0 (Value.mk 0 0 (⟨#[]⟩) [] [])) (v16).toNat l15) 0 v16 fun l18=>
 some ((yG (Txn.mk 0 0 (⟨#[]⟩) 0 [] 0 (Value.mk 0 0 (⟨#[]⟩) [] [])) (v16).toNat l15).take ((v16).toNat))
def ed(N:Nat)(a0:List Txn)(k1_0_0:List Int):Option (List Txn):=
 (gr N a0 k1_0_0).bind fun r1=>
 if r1=(-1)then
 some a0
 else
 bu N k1_0_0 eZ N (a0,r1,IntKind.i64.wrap (r1+1))
def wg(N:Nat)(a0:aj)(c0_0:List Int):Option Bool:=
 (eP N c0_0 a0.Txn_).bind fun r1=>
 some r1
def iL(N:Nat)(k1_0_0:List Int):List aj->Nat->Unit->Option Int
 | [],v2,()=>
  some (-1)
 | x5::xs,v2,()=>
  (wg N x5 k1_0_0).bind fun r8=>
  if r8 then
  some (v2:Int)
  else
  (iL N k1_0_0 xs (v2+1)) ()
def fG(N:Nat)(a0:List aj)(k1_0_0:List Int):Option Int:=
 iL N k1_0_0 a0 0 ()
def bj(N:Nat)(k1_0_0:List Int)(kx3:(List aj)->Int->Option (List aj)):Nat->List aj×Int×Int->Option (List aj)
 | 0,_=>none
 | n+1,(l4,v5,v6)=>
  if v6 <(l4.length:Int)then
  gx l4 v6 fun x10=>
  (wg N x10 k1_0_0).bind fun r11=>
  if r11 then
  (bj N k1_0_0 kx3 n) (l4,v5,IntKind.i64.wrap (v6+1))
  else
  gx l4 v5 fun x12=>
  (bj N k1_0_0 kx3 n) ((l4.set ((v5).toNat) x10),(IntKind.i64.wrap (v5+1)),IntKind.i64.wrap (v6+1))
  else
  kx3 l4 v5
def eJ(l15:List aj)(v16:Int):Option (List aj):=
 slx l15 v16 (l15.length:Int) fun l17=>
 slx (yG (aj.mk 0 [] false) (v16).toNat l15) 0 v16 fun l18=>
 some ((yG (aj.mk 0 [] false) (v16).toNat l15).take ((v16).toNat))
def dJ(N:Nat)(a0:List aj)(k1_0_0:List Int):Option (List aj):=
 (fG N a0 k1_0_0).bind fun r1=>
 if r1=(-1)then
 some a0
 else
 bj N k1_0_0 eJ N (a0,r1,IntKind.i64.wrap (r1+1))
def AG(N:Nat)(a0:aa):Option Bool:=
 some (decide ((a0.Layers.length:Int)=0))
def fL(N:Nat):List aa->Nat->Unit->Option Int
 | [],v2,()=>
  some (-1)
 | x5::xs,v2,()=>
  (AG N x5).bind fun r8=>
  if r8 then
  some (v2:Int)
  else
  (fL N xs (v2+1)) ()
def ey(N:Nat)(a0:List aa):Option Int:=
 fL N a0 0 ()
def ba(N:Nat)(kx3:(List aa)->Int->Option (List aa)):Nat->List aa×Int×Int->Option (List aa)
 | 0,_=>none
 | n+1,(l4,v5,v6)=>
  if v6 <(l4.length:Int)then
  gx l4 v6 fun x10=>
  (AG N x10).bind fun r11=>
  if r11 then
  (ba N kx3 n) (l4,v5,IntKind.i64.wrap (v6+1))
  else
  gx l4 v5 fun x12=>
  (ba N kx3 n) ((l4.set ((v5).toNat) x10),(IntKind.i64.wrap (v5+1)),IntKind.i64.wrap (v6+1))
  else
  kx3 l4 v5
def dH(l15:List aa)(v16:Int):Option (List aa):=
 slx l15 v16 (l15.length:Int) fun l17=>
 slx (yG (aa.mk (Ref.mk (⟨#[]⟩) (⟨#[]⟩)) []) (v16).toNat l15) 0 v16 fun l18=>
 some ((yG (aa.mk (Ref.mk (⟨#[]⟩) (⟨#[]⟩)) []) (v16).toNat l15).take ((v16).toNat))
def bU(N:Nat)(a0:List aa):Option (List aa):=
 (ey N a0).bind fun r1=>
 if r1=(-1)then
 some a0
 else
 ba N dH N (a0,r1,IntKind.i64.wrap (r1+1))
def qf(kx3:(List aa)->Option ae)(N:Nat)(a1:List Int):Nat->Nat->List aa->Option ae
 | 0,v5,l4=>
  kx3 l4
 | m+1,v5,l4=>
  gx l4 (v5:Int) fun x10=>
  (dJ N x10.Layers a1).bind fun r11=>
  (qf kx3 N a1 m (v5+1)) (l4.set v5 (aa.mk x10.Actor r11))
def CG(N:Nat)(r2:List Txn)(r1:ae)(l12:List aa):Option ae:=
 (bU N l12).bind fun r13=>
 some (ae.mk r2 r1.Locks r13)
def yE(N:Nat)(a0:ae)(a1:List Int):Option ae:=
 (mI N a0).bind fun r1=>
 (ed N r1.Txns a1).bind fun r2=>
 qf (CG N r2 r1) N a1 (r1.Stacks.length-0) 0 r1.Stacks
def sa(N:Nat)(a0:Int)(c0_0:Int):Option Bool:=
 some (decide (a0=c0_0))
def b8(N:Nat)(k1_0_0:Int):List Int->Nat->Unit->Option Int
 | [],v2,()=>
  some (-1)
 | x5::xs,v2,()=>
  (sa N x5 k1_0_0).bind fun r8=>
  if r8 then
  some (v2:Int)
  else
  (b8 N k1_0_0 xs (v2+1)) ()
def dB(N:Nat)(a0:List Int)(k1_0_0:Int):Option Int:=
 b8 N k1_0_0 a0 0 ()
def bg(N:Nat)(k1_0_0:Int)(kx3:(List Int)->Int->Option (List Int)):Nat->List Int×Int×Int->Option (List Int)
 | 0,_=>none
 | n+1,(l4,v5,v6)=>
  if v6 <(l4.length:Int)then
  gx l4 v6 fun x10=>
  (sa N x10 k1_0_0).bind fun r11=>
  if r11 then
  (bg N k1_0_0 kx3 n) (l4,v5,IntKind.i64.wrap (v6+1))
  else
  gx l4 v5 fun x12=>
  (bg N k1_0_0 kx3 n) ((l4.set ((v5).toNat) x10),(IntKind.i64.wrap (v5+1)),IntKind.i64.wrap (v6+1))
  else
  kx3 l4 v5
def dZ(l15:List Int)(v16:Int):Option (List Int):=
 slx l15 v16 (l15.length:Int) fun l17=>
 slx (yG 0 (v16).toNat l15) 0 v16 fun l18=>
 some ((yG 0 (v16).toNat l15).take ((v16).toNat))
def bH(N:Nat)(a0:List Int)(k1_0_0:Int):Option (List Int):=
 (dB N a0 k1_0_0).bind fun r1=>
 if r1=(-1)then
 some a0
 else
 bg N k1_0_0 dZ N (a0,r1,IntKind.i64.wrap (r1+1))
def mq(N:Nat)(a1:Int):Nat->Nat->List ai->Option (List ai)
 | 0,v6,l5=>
  some l5
 | m+1,v6,l5=>
  gx l5 (v6:Int) fun x11=>
  (bH N x11.Waiters a1).bind fun r12=>
  (mq N a1 m (v6+1)) (l5.set v6 (ai.mk x11.Actor x11.Owner r12))
def wM(N:Nat)(a0:List ai)(a1:Int):Option (List ai):=
 (lH N a0).bind fun r2=>
 if r2 then
 (gh N a0).bind fun r3=>
 mq N a1 (r3.length-0) 0 r3
 else
 some []
def pd(N:Nat)(a0:List ai)(a1:Int)(a2:Int):Option (List ai):=ZW a0 a1 a2 fun l=>some l
def yC(N:Nat)(a0:List ai)(a1:Int):Option ((List ai)× Int):=
 gx a0 a1 fun x1=>
 if(x1.Waiters.length:Int)=0 then
 (pd N a0 a1 (IntKind.i64.wrap (a1+1))).bind fun r3=>
 some (r3,0)
 else
 gx x1.Waiters (IntKind.i64.wrap ((x1.Waiters.length:Int)-1)) fun x4=>
 slt x1.Waiters (IntKind.i64.wrap ((x1.Waiters.length:Int)-1)) fun l5=>
 some (((a0.set ((a1).toNat) (ai.mk x1.Actor x4 x1.Waiters)).set ((a1).toNat) (ai.mk x1.Actor x4 l5)),x4)
def eS(a1:Int)(N:Nat):Nat->List ai×List ay×Int->Option ((List ai)×(List ay))
 | 0,_=>none
 | n+1,(l5,l6,v7)=>
  if v7 <(l5.length:Int)then
  gx l5 v7 fun x11=>
  if x11.Owner=a1 then
  (yC N l5 v7).bind fun r12=>
  if r12.2=0 then
  (eS a1 N n) (r12.1,l6,v7)
  else
  apx 39 l6 [(ay.mk x11.Actor r12.2)] fun l13=>
  (eS a1 N n) (r12.1,l13,IntKind.i64.wrap (v7+1))
  else
  (eS a1 N n) (l5,l6,IntKind.i64.wrap (v7+1))
  else
  some (l5,l6)
def rE(N:Nat)(a0:List ai)(a1:Int):Option ((List ai)×(List ay)):=
 (lH N a0).bind fun r2=>
 if r2 then
 (gh N a0).bind fun r3=>
 eS a1 N N (r3,[],0)
 else
 some ([],[])
def A7(kx6:(List ai)->Option (ae ×(List Int)× Int))(N:Nat):List Int->Nat->List ai->Option (ae ×(List Int)× Int)
 | [],v8,l7=>
  kx6 l7
 | x11::xs,v8,l7=>
  (wM N l7 x11).bind fun r14=>
  (A7 kx6 N xs (v8+1)) r14
def AW(r5:ae)(r4:List Int)(N:Nat):List Int->Nat->List ai->Option (ae ×(List Int)× Int)
 | [],v18,l17=>
  some ((ae.mk r5.Txns l17 r5.Stacks),r4,0)
 | x21::xs,v18,l17=>
  (rE N l17 x21).bind fun r24=>
  (AW r5 r4 N xs (v18+1)) r24.1
def OM(r5:ae)(r4:List Int)(N:Nat)(l15:List ai):Option (ae ×(List Int)× Int):=
 AW r5 r4 N r4 0 l15
def lu(N:Nat)(a0:ae)(a1:Int):Option (ae ×(List Int)× Int):=
 (jm N a0).bind fun r2=>
 if r2 then
 (gG N a0 a1).bind fun r3=>
 if r3<0 then
 some ((ae.mk [] [] []),[],6)
 else
 (wO N a0 a1).bind fun r4=>
 (yE N a0 r4).bind fun r5=>
 A7 (OM r5 r4 N) N r4 0 r5.Locks
 else
 some ((ae.mk [] [] []),[],1)
def iI(N:Nat)(a0:ae)(a1:Int):Option (ae×Int ×(List Int)× Int):=
 (jm N a0).bind fun r2=>
 if r2 then
 (jU N a0 a1).bind fun r3=>
 if r3.2 then
 (zJ N a0.Locks r3.1.Target a1).bind fun r5=>
 if r5.2.2=0 then
 if r5.2.1=3 then
 (lu N a0 a1).bind fun r8=>
 some (r8.1,r5.2.1,r8.2.1,r8.2.2)
 else
 (mI N a0).bind fun r9=>
 some ((ae.mk r9.Txns r5.1 r9.Stacks),r5.2.1,[],0)
 else
 some ((ae.mk [] [] []),0,[],r5.2.2)
 else
 some ((ae.mk [] [] []),0,[],6)
 else
 some ((ae.mk [] [] []),0,[],1)
def lZ(N:Nat)(a0:Int):Option Value:=
 some (Value.mk 1 a0 (⟨#[]⟩) [] [])
def BK(N:Nat)(a0:aa)(a1:Ref):Option Int:=
 (jF N a0.Actor a1).bind fun r1=>
 some r1
def bf(a0:List aa)(N:Nat)(a1:Ref)(kx1:Int->Option (Int×Bool)):Nat->Int×Int->Option (Int×Bool)
 | 0,_=>none
 | n+1,(v2,v3)=>
  if v2<v3 then
  gx a0 (IntKind.i64.wrap (w8 .u64 (IntKind.u64.wrap (IntKind.i64.wrap (v2+v3))) 1)) fun x6=>
  (BK N x6 a1).bind fun r7=>
  if r7<0 then
  (bf a0 N a1 kx1 n) (IntKind.i64.wrap ((IntKind.i64.wrap (w8 .u64 (IntKind.u64.wrap (IntKind.i64.wrap (v2+v3))) 1))+1),v3)
  else
  (bf a0 N a1 kx1 n) (v2,IntKind.i64.wrap (w8 .u64 (IntKind.u64.wrap (IntKind.i64.wrap (v2+v3))) 1))
  else
  kx1 v2
def bC(a0:List aa)(N:Nat)(a1:Ref)(v8:Int):Option (Int×Bool):=
 if v8 <(a0.length:Int)then
 gx a0 v8 fun x10=>
 (BK N x10 a1).bind fun r11=>
 some (v8,(decide (r11=0)))
 else
 some (v8,false)
def be(N:Nat)(a0:List aa)(a1:Ref):Option (Int×Bool):=
 bf a0 N a1 (bC a0 N a1) N (0,(a0.length:Int))
def bJ(N:Nat)(a0:List aa)(a1:Int)(a2:List aa):Option (List aa):=OD 55 a0 a1 a2 fun l=>some l
def zT(kx1:Option (ae×Int))(c6:Bool):Option (ae×Int):=
 if c6 then
 some ((ae.mk [] [] []),1)
 else
 kx1
def zR(x18:aa)(a1:Int)(kx19:(List aa)->Int->Option (ae×Int))(l17:List aa)(r14:Int×Bool)(c22:Bool):Option (ae×Int):=
 if c22 then
 apx 39 x18.Layers [(aj.mk a1 [] false)] fun l23=>
 kx19 (l17.set ((r14.1).toNat) (aa.mk x18.Actor l23)) (IntKind.i64.wrap ((x18.Layers.length:Int)+1))
 else
 kx19 l17 (x18.Layers.length:Int)
def Cr(r14:Int×Bool)(N:Nat)(a2:List Value)(r10:ae)(r11:Int)(x12:Txn)(r13:Value)(l24:List aa)(v25:Int):Option (ae×Int):=
 gx l24 r14.1 fun x26=>
 (eI N a2).bind fun r27=>
 gx x26.Layers (IntKind.i64.wrap (v25-1)) fun x28=>
 some ((ae.mk (r10.Txns.set ((r11).toNat) (Txn.mk x12.ID x12.Born x12.Client x12.Seq x12.Calls (IntKind.i64.wrap (x12.Done+1)) r13)) r10.Locks (l24.set ((r14.1).toNat) (aa.mk x26.Actor (x26.Layers.set ((IntKind.i64.wrap (v25-1)).toNat) (aj.mk x28.Txn_ r27 x28.Prepared))))),0)
def ve(r14:Int×Bool)(a1:Int)(N:Nat)(a2:List Value)(r10:ae)(r11:Int)(x12:Txn)(r13:Value)(l17:List aa):Option (ae×Int):=
 gx l17 r14.1 fun x18=>
 if(x18.Layers.length:Int)=0 then
 (zR x18 a1 (Cr r14 N a2 r10 r11 x12 r13) l17 r14) true
 else
 gx x18.Layers (IntKind.i64.wrap ((x18.Layers.length:Int)-1)) fun x21=>
 (zR x18 a1 (Cr r14 N a2 r10 r11 x12 r13) l17 r14) (!decide (x21.Txn_=a1))
def lF(N:Nat)(a0:ae)(a1:Int)(a3:Value)(a2:List Value):Option (ae×Int):=
 (jU N a0 a1).bind fun r7=>
 if r7.2 then
 (qH N a0.Locks r7.1.Target).bind fun r9=>
 if r9=a1 then
 (mI N a0).bind fun r10=>
 (gG N r10 a1).bind fun r11=>
 gx r10.Txns r11 fun x12=>
 (jL N a3).bind fun r13=>
 (be N r10.Stacks r7.1.Target).bind fun r14=>
 if r14.2 then
 (ve r14 a1 N a2 r10 r11 x12 r13) r10.Stacks
 else
 (bJ N r10.Stacks r14.1 [(aa.mk r7.1.Target [])]).bind fun r16=>
 (ve r14 a1 N a2 r10 r11 x12 r13) r16
 else
 some ((ae.mk [] [] []),10)
 else
 some ((ae.mk [] [] []),6)
def jy(N:Nat)(a0:ae)(a1:Int)(a2:List Value)(a3:Value):Option (ae×Int):=
 (jm N a0).bind fun r3=>
 if r3 then
 (pN N a2).bind fun r4=>
 if r4 then
 (j3 N a3).bind fun r5=>
 (zT (lF N a0 a1 a3 a2)) (!r5)
 else
 (zT (lF N a0 a1 a3 a2)) true
 else
 (zT (lF N a0 a1 a3 a2)) true
def yX(kx1:Option ((List ai)× Int×Int))(c6:Bool):Option ((List ai)× Int×Int):=
 if c6 then
 some ([],0,1)
 else
 kx1
def rQ(kx8:Option ((List ai)× Int×Int))(c11:Bool):Option ((List ai)× Int×Int):=
 if c11 then
 some ([],0,10)
 else
 kx8
def Dj(N:Nat)(a0:List ai)(r7:Int×Bool):Option ((List ai)× Int×Int):=
 (gh N a0).bind fun r12=>
 (yC N r12 r7.1).bind fun r13=>
 some (r13.1,r13.2,0)
def y6(N:Nat)(a0:List ai)(a1:Ref)(a2:Int):Option ((List ai)× Int×Int):=
 (BN N a0 a1).bind fun r7=>
 if r7.2 then
 gx a0 r7.1 fun x10=>
 (rQ (Dj N a0 r7)) (!decide (x10.Owner=a2))
 else
 (rQ (Dj N a0 r7)) true
def zq(N:Nat)(a0:List ai)(a1:Ref)(a2:Int):Option ((List ai)× Int×Int):=
 (lH N a0).bind fun r3=>
 if r3 then
 (kH N a1).bind fun r4=>
 if r4 then
 (oE N a2).bind fun r5=>
 (yX (y6 N a0 a1 a2)) (!r5)
 else
 (yX (y6 N a0 a1 a2)) true
 else
 (yX (y6 N a0 a1 a2)) true
def dQ(kx4:Option (ae×Int))(c8:Bool):Option (ae×Int):=
 if c8 then
 some ((ae.mk [] [] []),6)
 else
 kx4
def iy(a0:ae)(r3:Int)(N:Nat)(a2:Ref)(a1:Int):Option (ae×Int):=
 gx a0.Txns r3 fun x10=>
 if x10.Done <(x10.Calls.length:Int)then
 some ((ae.mk [] [] []),12)
 else
 (lB N a0 a2 a1).bind fun r12=>
 if r12.1.Prepared then
 some ((ae.mk [] [] []),7)
 else
 (mI N a0).bind fun r13=>
 (uB N r13 a2).bind fun r14=>
 gx r13.Stacks r14 fun x15=>
 gx x15.Layers (IntKind.i64.wrap ((x15.Layers.length:Int)-1)) fun x16=>
 (zq N r13.Locks a2 a1).bind fun r17=>
 some ((ae.mk r13.Txns r17.1 (r13.Stacks.set ((r14).toNat) (aa.mk x15.Actor (x15.Layers.set ((IntKind.i64.wrap ((x15.Layers.length:Int)-1)).toNat) (aj.mk x16.Txn_ x16.Fields true))))),0)
def dS(N:Nat)(a0:ae)(a1:Int)(a2:Ref):Option (ae×Int):=
 (jm N a0).bind fun r2=>
 if r2 then
 (gG N a0 a1).bind fun r3=>
 if r3<0 then
 (dQ (iy a0 r3 N a2 a1)) true
 else
 gx a0.Txns r3 fun x6=>
 (vd N x6.Calls a2).bind fun r7=>
 (dQ (iy a0 r3 N a2 a1)) (!r7)
 else
 some ((ae.mk [] [] []),1)
def ky(N:Nat)(a0:ae)(a1:Ref):Option (List aj):=
 (uB N a0 a1).bind fun r2=>
 if 0<=r2 then
 gx a0.Stacks r2 fun x3=>
 (pL N x3.Layers).bind fun r4=>
 some r4
 else
 some []
def qO(N:Nat)(a0:ah)(c0_0:List Txn)(c0_1:List ai)(c0_2:List aa)(c1_0:Int)(c1_1:Int)(c1_2:ByteArray)(c1_3:Int)(c1_4:List ah)(c1_5:Int)(c1_6:Int)(c1_7:Int)(c1_8:ByteArray)(c1_9:List Int)(c1_10:List ByteArray):Option Bool:=
 (lB N (ae.mk c0_0 c0_1 c0_2) a0.Target c1_0).bind fun r1=>
 if r1.2 then
 some (!r1.1.Prepared)
 else
 some true
def fy(N:Nat)(k1_0_0:List Txn)(k1_0_1:List ai)(k1_0_2:List aa)(k1_1_0:Int)(k1_1_1:Int)(k1_1_2:ByteArray)(k1_1_3:Int)(k1_1_4:List ah)(k1_1_5:Int)(k1_1_6:Int)(k1_1_7:Int)(k1_1_8:ByteArray)(k1_1_9:List Int)(k1_1_10:List ByteArray):List ah->Nat->Unit->Option Int
 | [],v2,()=>
  some (-1)
 | x5::xs,v2,()=>
  (qO N x5 k1_0_0 k1_0_1 k1_0_2 k1_1_0 k1_1_1 k1_1_2 k1_1_3 k1_1_4 k1_1_5 k1_1_6 k1_1_7 k1_1_8 k1_1_9 k1_1_10).bind fun r8=>
  if r8 then
  some (v2:Int)
  else
  (fy N k1_0_0 k1_0_1 k1_0_2 k1_1_0 k1_1_1 k1_1_2 k1_1_3 k1_1_4 k1_1_5 k1_1_6 k1_1_7 k1_1_8 k1_1_9 k1_1_10 xs (v2+1)) ()
def bV(N:Nat)(a0:List ah)(k1_0_0:List Txn)(k1_0_1:List ai)(k1_0_2:List aa)(k1_1_0:Int)(k1_1_1:Int)(k1_1_2:ByteArray)(k1_1_3:Int)(k1_1_4:List ah)(k1_1_5:Int)(k1_1_6:Int)(k1_1_7:Int)(k1_1_8:ByteArray)(k1_1_9:List Int)(k1_1_10:List ByteArray):Option Int:=
 fy N k1_0_0 k1_0_1 k1_0_2 k1_1_0 k1_1_1 k1_1_2 k1_1_3 k1_1_4 k1_1_5 k1_1_6 k1_1_7 k1_1_8 k1_1_9 k1_1_10 a0 0 ()
def dF(N:Nat)(a0:List ah)(k1_0_0:List Txn)(k1_0_1:List ai)(k1_0_2:List aa)(k1_1_0:Int)(k1_1_1:Int)(k1_1_2:ByteArray)(k1_1_3:Int)(k1_1_4:List ah)(k1_1_5:Int)(k1_1_6:Int)(k1_1_7:Int)(k1_1_8:ByteArray)(k1_1_9:List Int)(k1_1_10:List ByteArray):Option Bool:=
 (bV N a0 k1_0_0 k1_0_1 k1_0_2 k1_1_0 k1_1_1 k1_1_2 k1_1_3 k1_1_4 k1_1_5 k1_1_6 k1_1_7 k1_1_8 k1_1_9 k1_1_10).bind fun r1=>
 some (decide (0<=r1))
def Ap(N:Nat)(a0:ae)(a1:Txn):Option Bool:=
 (dF N a1.Calls a0.Txns a0.Locks a0.Stacks a1.ID a1.Born a1.Client a1.Seq a1.Calls a1.Done a1.Last.Kind a1.Last.N a1.Last.S a1.Last.I a1.Last.L).bind fun r1=>
 some (!r1)
def mC(N:Nat)(a0:Txn)(c0_0:List Txn)(c0_1:List ai)(c0_2:List aa):Option Bool:=
 if a0.Done=(a0.Calls.length:Int)then
 (Ap N (ae.mk c0_0 c0_1 c0_2) a0).bind fun r2=>
 if r2 then
 (DC N (ae.mk c0_0 c0_1 c0_2) a0.ID []).bind fun r3=>
 some r3
 else
 some false
 else
 some false
def fa(N:Nat)(k1_0_0:List Txn)(k1_0_1:List ai)(k1_0_2:List aa):List Txn->Nat->Unit->Option Int
 | [],v2,()=>
  some (-1)
 | x5::xs,v2,()=>
  (mC N x5 k1_0_0 k1_0_1 k1_0_2).bind fun r8=>
  if r8 then
  some (v2:Int)
  else
  (fa N k1_0_0 k1_0_1 k1_0_2 xs (v2+1)) ()
def dg(N:Nat)(a0:List Txn)(k1_0_0:List Txn)(k1_0_1:List ai)(k1_0_2:List aa):Option Int:=
 fa N k1_0_0 k1_0_1 k1_0_2 a0 0 ()
def eu(kx6:Option (List Ref))(rec2:Int->Option (List Ref))(v1:Int)(c11:Bool):Option (List Ref):=
 if c11 then
 kx6
 else
 rec2 (IntKind.i64.wrap (v1+1))
def eo(a0:List Ref)(v1:Int):Option (List Ref):=
 gx a0 (IntKind.i64.wrap (v1-1)) fun x13=>
 gx a0 v1 fun x14=>
 none
def en(a1:Int)(v1:Int)(a0:List Ref)(N:Nat)(rec2:Int->Option (List Ref)):Nat->Unit->Option (List Ref)
 | 0,_=>none
 | n+1,()=>
  if a1<v1 then
  gx a0 v1 fun x8=>
  gx a0 (IntKind.i64.wrap (v1-1)) fun x9=>
  (jF N x8 x9).bind fun r10=>
  (eu (eo a0 v1) rec2 v1) (decide (r10<0))
  else
  (eu (eo a0 v1) rec2 v1) false
def bt(a2:Int)(a1:Int)(a0:List Ref)(N:Nat):Nat->Int->Option (List Ref)
 | 0,_=>none
 | n+1,v1=>
  if v1<a2 then
  en a1 v1 a0 N (bt a2 a1 a0 N n) N ()
  else
  some a0
def aT(N:Nat)(a0:List Ref)(a1:Int)(a2:Int):Option (List Ref):=
 GO (fun r=>r) a0 (
 (bt a2 a1 a0 N N (IntKind.i64.wrap (a1+1))))
def dI(a2:Int)(a1:Int)(N:Nat)(a0:List Ref)(a3:Int):Nat->Unit->Option (List Ref)
 | 0,_=>none
 | n+1,()=>
  if(IntKind.i64.wrap (a2-a1))<=12 then
  (aT N a0 a1 a2).bind fun r3=>
  some r3
  else
  if a3=0 then
  none
  else
  none
def aX(N:Nat)(a0:List Ref)(a1:Int)(a2:Int)(a3:Int):Option (List Ref):=
 GO (fun r=>r) a0 (
 (dI a2 a1 N a0 a3 N ()))
def bw(N:Nat)(a0:List Ref):Option (List Ref):=
 GO (fun r=>r) a0 (
 (zA N (IntKind.u64.wrap (a0.length:Int))).bind fun r1=>
 (aX N a0 0 (a0.length:Int) r1).bind fun r2=>
 some r2)
def bk(N:Nat)(a0:List Ref):Option (List Ref):=if a0.isEmpty then bw N a0  else Jn (fun x y=>jF N x y ) a0
def fW(a0:List Ref)(v3:Nat)(kx11:(List Ref)->Int->Option (List Ref)):Nat->List Ref×Int×Int->Option (List Ref)
 | 0,_=>none
 | n+1,(l12,v13,v14)=>
  if v14 <(((a0.length-v3):Nat):Int)then
  gx ((l12.drop v3).take (a0.length-v3)) v14 fun x18=>
  gx ((l12.drop v3).take (a0.length-v3)) (IntKind.i64.wrap (v14-1)) fun x19=>
  if(sEq x18.Type_ x19.Type_&&sEq x18.Key x19.Key)then
  (fW a0 v3 kx11 n) (l12,v13,IntKind.i64.wrap (v14+1))
  else
  gx l12 v13 fun x20=>
  (fW a0 v3 kx11 n) ((l12.set ((v13).toNat) x18),(IntKind.i64.wrap (v13+1)),IntKind.i64.wrap (v14+1))
  else
  kx11 l12 v13
def kO(l23:List Ref)(v24:Int):Option (List Ref):=
 slx l23 v24 (l23.length:Int) fun l25=>
 slx (yG (Ref.mk (⟨#[]⟩) (⟨#[]⟩)) (v24).toNat l23) 0 v24 fun l26=>
 some ((yG (Ref.mk (⟨#[]⟩) (⟨#[]⟩)) (v24).toNat l23).take ((v24).toNat))
def jd(a0:List Ref)(N:Nat):Nat->Nat->Unit->Option (List Ref)
 | 0,v3,()=>
  some a0
 | m+1,v3,()=>
  gx a0 (v3:Int) fun x8=>
  gx a0 (IntKind.i64.wrap ((v3:Int)-1)) fun x9=>
  if(sEq x8.Type_ x9.Type_&&sEq x8.Key x9.Key)then
  slx a0 (v3:Int) (a0.length:Int) fun l10=>
  fW a0 v3 kO N (a0,(v3:Int),1)
  else
  (jd a0 N m (v3+1)) ()
def kQ(N:Nat)(a0:List Ref):Option (List Ref):=
 if(a0.length:Int)< 2 then
 some a0
 else
 jd a0 N (a0.length-1) 1 ()
def iX(kx1:(List Ref)->Option (List Ref)):List ah->Nat->List Ref->Option (List Ref)
 | [],v3,l2=>
  kx1 l2
 | x6::xs,v3,l2=>
  apx 31 l2 [x6.Target] fun l9=>
  (iX kx1 xs (v3+1)) l9
def iG(N:Nat)(l10:List Ref):Option (List Ref):=
 (bk N l10).bind fun r11=>
 (kQ N r11).bind fun r12=>
 some r12
def fD(N:Nat)(a0:Txn):Option (List Ref):=
 iX (iG N) a0.Calls 0 []
def m6(kx13:(List aP)->Option (ae ×(List aB)))(N:Nat)(l4:List Txn)(l5:List ai)(l6:List aa)(x11:Txn):List Ref->Nat->List aP->Option (ae ×(List aB))
 | [],v16,l15=>
  kx13 l15
 | x19::xs,v16,l15=>
  (lB N (ae.mk l4 l5 l6) x19 x11.ID).bind fun r22=>
  (eI N r22.1.Fields).bind fun r23=>
  apx 55 l15 [(aP.mk x19 r23)] fun l24=>
  (m6 kx13 N l4 l5 l6 x11 xs (v16+1)) l24
def qX(N:Nat)(l4:List Txn)(l5:List ai)(l6:List aa)(x11:Txn)(l7:List aB)(r12:Value)(rec8:(List Txn×List ai×List aa×List aB)->Option (ae ×(List aB)))(l25:List aP):Option (ae ×(List aB)):=
 (yE N (ae.mk l4 l5 l6) [x11.ID]).bind fun r26=>
 apx 135 l7 [(aB.mk x11.ID x11.Client x11.Seq r12 l25)] fun l27=>
 rec8 (r26.Txns,r26.Locks,r26.Stacks,l27)
def im(N:Nat):Nat->List Txn×List ai×List aa×List aB->Option (ae ×(List aB))
 | 0,_=>none
 | n+1,(l4,l5,l6,l7)=>
  (dg N l4 l4 l5 l6).bind fun r9=>
  if r9<0 then
  some ((ae.mk l4 l5 l6),l7)
  else
  gx l4 r9 fun x11=>
  (jL N x11.Last).bind fun r12=>
  (fD N x11).bind fun r14=>
  m6 (qX N l4 l5 l6 x11 l7 r12 (im N n)) N l4 l5 l6 x11 r14 0 []
def lI(N:Nat)(a0:ae):Option (ae ×(List aB)):=
 (jm N a0).bind fun r2=>
 if r2 then
 (mI N a0).bind fun r3=>
 im N N (r3.Txns,r3.Locks,r3.Stacks,[])
 else
 some ((ae.mk [] [] []),[])
def u7(N:Nat)(a0:ae)(a1:Int):Option (Txn×Bool):=
 (gG N a0 a1).bind fun r2=>
 if 0<=r2 then
 gx a0.Txns r2 fun x3=>
 (kn N x3).bind fun r4=>
 some (r4,true)
 else
 some ((Txn.mk 0 0 (⟨#[]⟩) 0 [] 0 (Value.mk 0 0 (⟨#[]⟩) [] [])),false)
def zk(a0:ae)(r2:Int)(N:Nat)(kx1:Option (List Value))(c5:Bool):Option (List Value):=
 if c5 then
 gx a0.Stacks r2 fun x6=>
 gx x6.Layers (IntKind.i64.wrap ((x6.Layers.length:Int)-1)) fun x7=>
 (eI N x7.Fields).bind fun r8=>
 some r8
 else
 kx1
def CP(N:Nat)(a2:List Value):Option (List Value):=
 (eI N a2).bind fun r9=>
 some r9
def oY(N:Nat)(a0:ae)(a1:Ref)(a2:List Value):Option (List Value):=
 (uB N a0 a1).bind fun r2=>
 if 0<=r2 then
 gx a0.Stacks r2 fun x4=>
 (zk a0 r2 N (CP N a2)) (decide (0 <(x4.Layers.length:Int)))
 else
 (zk a0 r2 N (CP N a2)) false
def w4(kx14:Option Bool)(c16:Bool):Option Bool:=
 if c16 then
 some false
 else
 kx14
def w7(N:Nat)(v9:Int)(r13:ae×Int ×(List Int)× Int)(rec10:(List Txn×List ai×List aa×Int)->Option Bool):Option Bool:=
 (lZ N v9).bind fun r17=>
 (lZ N v9).bind fun r18=>
 (jy N r13.1 3 [r17] r18).bind fun r19=>
 if r19.2=0 then
 rec10 (r19.1.Txns,r19.1.Locks,r19.1.Stacks,IntKind.i64.wrap (v9+1))
 else
 some false
def fY(N:Nat)(kx5:(List Txn)->(List ai)->(List aa)->Option Bool):Nat->List Txn×List ai×List aa×Int->Option Bool
 | 0,_=>none
 | n+1,(l6,l7,l8,v9)=>
  if v9<2 then
  (iI N (ae.mk l6 l7 l8) 3).bind fun r13=>
  if r13.2.2.2=0 then
  (w4 (w7 N v9 r13 (fY N kx5 n))) (!decide (r13.2.1=1))
  else
  (w4 (w7 N v9 r13 (fY N kx5 n))) true
  else
  kx5 l6 l7 l8
def Bf(kx29:Option Bool)(c31:Bool):Option Bool:=
 if c31 then
 some false
 else
 kx29
def wW(kx35:Option Bool)(c39:Bool):Option Bool:=
 if c39 then
 some false
 else
 kx35
def Bk(kx41:Option Bool)(c43:Bool):Option Bool:=
 if c43 then
 some false
 else
 kx41
def yb(kx47:Option Bool)(c50:Bool):Option Bool:=
 if c50 then
 some false
 else
 kx47
def wG(N:Nat)(r46:ae ×(List aB)):Option Bool:=
 (u7 N r46.1 5).bind fun r51=>
 if r51.2 then
 (fD N r51.1).bind fun r53=>
 if(r53.length:Int)=1 then
 (oY N r46.1 (Ref.mk (⟨#[65]⟩) (⟨#[97]⟩)) []).bind fun r54=>
 some (decide ((r54.length:Int)=1))
 else
 some false
 else
 some false
def Bw(N:Nat)(r34:ae×Int):Option Bool:=
 (dS N r34.1 3 (Ref.mk (⟨#[65]⟩) (⟨#[98]⟩))).bind fun r44=>
 if r44.2=0 then
 (lI N r44.1).bind fun r46=>
 if(r46.2.length:Int)=1 then
 gx r46.2 0 fun x49=>
 if x49.ID=3 then
 (yb (wG N r46)) (!decide ((x49.Writes.length:Int)=2))
 else
 (yb (wG N r46)) true
 else
 (yb (wG N r46)) true
 else
 some false
def ye(N:Nat)(r34:ae×Int):Option Bool:=
 (lu N r34.1 3).bind fun r40=>
 if r40.2.2=0 then
 (Bk (Bw N r34)) (!decide ((r40.2.1.length:Int)=2))
 else
 (Bk (Bw N r34)) true
def Ab(N:Nat)(r28:ae×Int ×(List Int)× Int):Option Bool:=
 (lZ N 9).bind fun r32=>
 (lZ N 9).bind fun r33=>
 (jy N r28.1 5 [r32] r33).bind fun r34=>
 if r34.2=0 then
 (ky N r34.1 (Ref.mk (⟨#[65]⟩) (⟨#[97]⟩))).bind fun r37=>
 if(r37.length:Int)=2 then
 (jm N r34.1).bind fun r38=>
 (wW (ye N r34)) (!r38)
 else
 (wW (ye N r34)) true
 else
 (wW (ye N r34)) true
def uK(N:Nat)(l23:List Txn)(l24:List ai)(l25:List aa):Option Bool:=
 (dS N (ae.mk l23 l24 l25) 3 (Ref.mk (⟨#[65]⟩) (⟨#[97]⟩))).bind fun r26=>
 if r26.2=0 then
 (iI N r26.1 5).bind fun r28=>
 if r28.2.2.2=0 then
 (Bf (Ab N r28)) (!decide (r28.2.1=1))
 else
 (Bf (Ab N r28)) true
 else
 some false
def zS(N:Nat)  : Option Bool:=
 (iF N (ae.mk [] [] []) 3 0 (⟨#[99]⟩) 1 [(ah.mk (Ref.mk (⟨#[65]⟩) (⟨#[97]⟩)) (⟨#[109]⟩) []),(ah.mk (Ref.mk (⟨#[65]⟩) (⟨#[98]⟩)) (⟨#[109]⟩) [])]).bind fun r1=>
 if r1.2=0 then
 (iF N r1.1 5 0 (⟨#[99]⟩) 2 [(ah.mk (Ref.mk (⟨#[65]⟩) (⟨#[97]⟩)) (⟨#[109]⟩) [])]).bind fun r3=>
 if r3.2=0 then
 fY N (uK N) N (r3.1.Txns,r3.1.Locks,r3.1.Stacks,0)
 else
 some false
 else
 some false
def DU(N:Nat)(a0:ae)(a1:Int):Option Int:=
 if(a0.Txns.length:Int)=0 then
 some 0
 else
 dvx (a0.Txns.length:Int) <|
 gx a0.Txns (Int.tmod (IntKind.i64.wrap a1) (a0.Txns.length:Int)) fun x2=>
 some x2.ID
def DH(N:Nat)(a0:Int):Option Ref:=
 sls (⟨#[97,98,99,100]⟩) (IntKind.i64.wrap (Int.tmod a0 4)) (IntKind.i64.wrap ((IntKind.i64.wrap (Int.tmod a0 4))+1)) fun s1=>
 some (Ref.mk (⟨#[65]⟩) s1)
def qY(a0:al)(N:Nat):Nat->List ah×Int->Option (List ah)
 | 0,_=>none
 | n+1,(l2,v3)=>
  if v3<=(IntKind.i64.wrap (Int.tmod a0.Who 4))then
  shx (IntKind.u64.wrap (2 *(IntKind.u64.wrap (Int.tmod v3 4)))) <|
  (DH N (w8 .u8 a0.Arg (IntKind.u64.wrap (2 *(IntKind.u64.wrap (Int.tmod v3 4)))))).bind fun r7=>
  apx 71 l2 [(ah.mk r7 (⟨#[109]⟩) [])] fun l8=>
  (qY a0 N n) (l8,IntKind.i64.wrap (v3+1))
  else
  some l2
def Ch(N:Nat)(a0:al):Option (List ah):=
 qY a0 N N ([],0)
def iY(N:Nat)(a0:Value):Option Value:=
 apn 7 a0.I <|
 apn 15 a0.L <|
 some a0
def mU(N:Nat):List Value->Nat->List Value->Option (List Value)
 | [],v3,l2=>
  some l2
 | x6::xs,v3,l2=>
  (iY N x6).bind fun r9=>
  apx 79 l2 [r9] fun l10=>
  (mU N xs (v3+1)) l10
def dW(N:Nat)(a0:List Value):Option (List Value):=
 mU N a0 0 []
def pH(N:Nat):List ah->Nat->List ah->Option (List ah)
 | [],v3,l2=>
  some l2
 | x6::xs,v3,l2=>
  (dW N x6.Args).bind fun r9=>
  apx 71 l2 [(ah.mk x6.Target x6.Method r9)] fun l10=>
  (pH N xs (v3+1)) l10
def ug(N:Nat)(a0:List ah):Option (List ah):=
 pH N a0 0 []
def jG(N:Nat)(a0:Txn):Option Txn:=
 (ug N a0.Calls).bind fun r1=>
 (iY N a0.Last).bind fun r2=>
 some (Txn.mk a0.ID a0.Born a0.Client a0.Seq r1 a0.Done r2)
def mB(a1:Int)(N:Nat):List Txn->Nat->Unit->Option (Txn×Bool)
 | [],v2,()=>
  some ((Txn.mk 0 0 (⟨#[]⟩) 0 [] 0 (Value.mk 0 0 (⟨#[]⟩) [] [])),false)
 | x5::xs,v2,()=>
  if x5.ID=a1 then
  (jG N x5).bind fun r8=>
  some (r8,true)
  else
  (mB a1 N xs (v2+1)) ()
def iZ(N:Nat)(a0:ae)(a1:Int):Option (Txn×Bool):=
 mB a1 N a0.Txns 0 ()
def qE(N:Nat)(a0:Ref)(a1:Ref):Option Bool:=
 if(sLt a0.Type_ a1.Type_)then
 some true
 else
 if(sEq a0.Type_ a1.Type_)then
 some (sLt a0.Key a1.Key)
 else
 some false
def kM(rec11:Int->Option (List Ref))(v10:Int)(kx9:Int->Option (List Ref))(c16:Bool):Option (List Ref):=
 if c16 then
 rec11 (IntKind.i64.wrap (v10-1))
 else
 kx9 v10
def gP(l2:List Ref)(N:Nat)(x6:ah)(kx9:Int->Option (List Ref)):Nat->Int->Option (List Ref)
 | 0,_=>none
 | n+1,v10=>
  if 0<v10 then
  gx l2 (IntKind.i64.wrap (v10-1)) fun x14=>
  (qE N x14 x6.Target).bind fun r15=>
  (kM (gP l2 N x6 kx9 n) v10 kx9) (!r15)
  else
  (kM (gP l2 N x6 kx9 n) v10 kx9) false
def jz(rec4:List Ref->Option (List Ref))(l2:List Ref)(kx18:Option (List Ref))(c21:Bool):Option (List Ref):=
 if c21 then
 rec4 l2
 else
 kx18
def jE(l2:List Ref)(v17:Int)(x6:ah)(rec4:List Ref->Option (List Ref)):Option (List Ref):=
 slx l2 v17 (l2.length:Int) fun l22=>
 apn 31 ((l2.drop ((v17).toNat)).take (l2.length -(v17).toNat)) <|
 slt l2 v17 fun l23=>
 apx 31 (l2.take ((v17).toNat)) [x6.Target] fun l24=>
 apx 31 l24 ((l2.drop ((v17).toNat)).take (l2.length -(v17).toNat)) fun l25=>
 rec4 l25
def m7(l2:List Ref)(rec4:List Ref->Option (List Ref))(x6:ah)(v17:Int):Option (List Ref):=
 if v17 <(l2.length:Int)then
 gx l2 v17 fun x20=>
 (jz rec4 l2 (jE l2 v17 x6 rec4)) (sEq x20.Type_ x6.Target.Type_&&sEq x20.Key x6.Target.Key)
 else
 (jz rec4 l2 (jE l2 v17 x6 rec4)) false
def dy(N:Nat):List ah->Nat->List Ref->Option (List Ref)
 | [],v3,l2=>
  some l2
 | x6::xs,v3,l2=>
  gP l2 N x6 (m7 l2 (dy N xs (v3+1)) x6) N (l2.length:Int)
def kv(N:Nat)(a0:List ah):Option (List Ref):=
 dy N a0 0 []
def eE(N:Nat)(a0:Txn):Option (List Ref):=
 (kv N a0.Calls).bind fun r1=>
 some r1
def qq(N:Nat)(a0:ae)(a1:Int)(a2:Int):Option Ref:=
 (iZ N a0 a1).bind fun r1=>
 (eE N r1.1).bind fun r2=>
 if(r2.length:Int)=0 then
 (DH N a2).bind fun r4=>
 some r4
 else
 dvx (r2.length:Int) <|
 gx r2 (Int.tmod (IntKind.i64.wrap a2) (r2.length:Int)) fun x5=>
 some x5
def CE(N:Nat)(a0:ae)(r1:Int)(a2:al)(c17:Bool):Option (ae ×(List aB)):=
 if c17 then
 (qq N a0 r1 a2.Arg).bind fun r18=>
 (dS N a0 r1 r18).bind fun r19=>
 if r19.2=0 then
 some (r19.1,[])
 else
 some (a0,[])
 else
 if 0 <(Int.tmod a2.Arg 4)then
 (lI N a0).bind fun r21=>
 some (r21.1,r21.2)
 else
 (lu N a0 r1).bind fun r22=>
 if r22.2.2=0 then
 some (r22.1,[])
 else
 some (a0,[])
def s4(N:Nat)(a0:ae)(r1:Int)(a2:al)(c8:Bool):Option (ae ×(List aB)):=
 if c8 then
 (iI N a0 r1).bind fun r9=>
 if r9.2.2.2=0 then
 if r9.2.1=1 then
 (lZ N a2.N).bind fun r13=>
 (lZ N a2.N).bind fun r14=>
 (jy N r9.1 r1 [r13] r14).bind fun r15=>
 if r15.2=0 then
 some (r15.1,[])
 else
 some (r9.1,[])
 else
 some (r9.1,[])
 else
 some (a0,[])
 else
 if(Int.tmod a2.Kind 8)=5 then
 (CE N a0 r1 a2) true
 else
 (CE N a0 r1 a2) (decide ((Int.tmod a2.Kind 8)=6))
def zH(N:Nat)(a2:al)(a0:ae)(a1:Int)(r1:Int)(c4:Bool):Option (ae ×(List aB)):=
 if c4 then
 (Ch N a2).bind fun r5=>
 (iF N a0 (IntKind.i64.wrap (a1+1)) a1 (⟨#[99]⟩) (IntKind.i64.wrap (a1+1)) r5).bind fun r6=>
 if r6.2=0 then
 some (r6.1,[])
 else
 some (a0,[])
 else
 if(Int.tmod a2.Kind 8)=2 then
 (s4 N a0 r1 a2) true
 else
 if(Int.tmod a2.Kind 8)=3 then
 (s4 N a0 r1 a2) true
 else
 (s4 N a0 r1 a2) (decide ((Int.tmod a2.Kind 8)=4))
def Et(N:Nat)(a0:ae)(a1:Int)(a2:al):Option (ae ×(List aB)):=
 (DU N a0 a2.Who).bind fun r1=>
 if(Int.tmod a2.Kind 8)=0 then
 (zH N a2 a0 a1 r1) true
 else
 (zH N a2 a0 a1 r1) (decide ((Int.tmod a2.Kind 8)=1))
def og(a1:List Int):List Int->Nat->Unit->Option Bool
 | [],v3,()=>
  some true
 | x6::xs,v3,()=>
  gx a1 (v3:Int) fun x9=>
  if x6=x9 then
  (og a1 xs (v3+1)) ()
  else
  some false
def mD(N:Nat)(a0:List Int)(a1:List Int):Option Bool:=
 if(a0.length:Int)=(a1.length:Int)then
 og a1 a0 0 ()
 else
 some false
def kd(a1:List ByteArray):List ByteArray->Nat->Unit->Option Bool
 | [],v3,()=>
  some true
 | x6::xs,v3,()=>
  gx a1 (v3:Int) fun x9=>
  if(sEq x6 x9)then
  (kd a1 xs (v3+1)) ()
  else
  some false
def yI(N:Nat)(a0:List ByteArray)(a1:List ByteArray):Option Bool:=
 if(a0.length:Int)=(a1.length:Int)then
 kd a1 a0 0 ()
 else
 some false
def k9(N:Nat)(a0:Value)(a1:Value):Option Bool:=
 if a0.Kind=a1.Kind then
 if a0.N=a1.N then
 if(sEq a0.S a1.S)then
 (mD N a0.I a1.I).bind fun r2=>
 if r2 then
 (yI N a0.L a1.L).bind fun r3=>
 some r3
 else
 some false
 else
 some false
 else
 some false
 else
 some false
def sj(a1:List Value)(N:Nat):List Value->Nat->Unit->Option Bool
 | [],v3,()=>
  some true
 | x6::xs,v3,()=>
  gx a1 (v3:Int) fun x9=>
  (k9 N x6 x9).bind fun r10=>
  if r10 then
  (sj a1 N xs (v3+1)) ()
  else
  some false
def jv(N:Nat)(a0:List Value)(a1:List Value):Option Bool:=
 if(a0.length:Int)=(a1.length:Int)then
 sj a1 N a0 0 ()
 else
 some false
def sr(rec4:Unit->Option Bool)(c12:Bool):Option Bool:=
 if c12 then
 some false
 else
 rec4 ()
def fM(a1:List aj)(N:Nat):List aj->Nat->Unit->Option Bool
 | [],v3,()=>
  some true
 | x6::xs,v3,()=>
  gx a1 (v3:Int) fun x10=>
  if x6.Txn_=x10.Txn_ then
  if x6.Prepared=x10.Prepared then
  (jv N x6.Fields x10.Fields).bind fun r11=>
  (sr (fM a1 N xs (v3+1))) (!r11)
  else
  (sr (fM a1 N xs (v3+1))) true
  else
  (sr (fM a1 N xs (v3+1))) true
def mV(N:Nat)(a0:List aj)(a1:List aj):Option Bool:=
 if(a0.length:Int)=(a1.length:Int)then
 fM a1 N a0 0 ()
 else
 some false
def ig(N:Nat)(a0:Ref):Option Bool:=
 if 1<=(a0.Type_.size:Int)then
 if(a0.Type_.size:Int)<=32 then
 some (decide ((a0.Key.size:Int)<=32))
 else
 some false
 else
 some false
def u9(N:Nat)(a0:Int):Option Bool:=
 if 1<=a0 then
 some (decide (a0<=1099511627776))
 else
 some false
def fQ(kx9:Option Bool)(c15:Bool):Option Bool:=
 if c15 then
 some false
 else
 kx9
def j6(rec17:Unit->Option Bool)(c24:Bool):Option Bool:=
 if c24 then
 some false
 else
 rec17 ()
def fS(rec4:Unit->Option Bool)(x6:ai):List Int->Nat->Unit->Option Bool
 | [],v16,()=>
  rec4 ()
 | x19::xs,v16,()=>
  if x19<1 then
  (j6 (fS rec4 x6 xs (v16+1))) true
  else
  if x6.Owner<=x19 then
  (j6 (fS rec4 x6 xs (v16+1))) true
  else
  if 0 <(v16:Int)then
  gx x6.Waiters (IntKind.i64.wrap ((v16:Int)-1)) fun x23=>
  (j6 (fS rec4 x6 xs (v16+1))) (decide (x19<=x23))
  else
  (j6 (fS rec4 x6 xs (v16+1))) false
def fN(rec4:Unit->Option Bool)(x6:ai):Option Bool:=
 fS rec4 x6 x6.Waiters 0 ()
def dR(N:Nat)(a0:List ai):List ai->Nat->Unit->Option Bool
 | [],v3,()=>
  some true
 | x6::xs,v3,()=>
  (ig N x6.Actor).bind fun r11=>
  if r11 then
  (u9 N x6.Owner).bind fun r12=>
  if r12 then
  if 32 <(x6.Waiters.length:Int)then
  (fQ (fN (dR N a0 xs (v3+1)) x6)) true
  else
  if 0 <(v3:Int)then
  gx a0 (IntKind.i64.wrap ((v3:Int)-1)) fun x13=>
  (qE N x13.Actor x6.Actor).bind fun r14=>
  (fQ (fN (dR N a0 xs (v3+1)) x6)) (!r14)
  else
  (fQ (fN (dR N a0 xs (v3+1)) x6)) false
  else
  (fQ (fN (dR N a0 xs (v3+1)) x6)) true
  else
  (fQ (fN (dR N a0 xs (v3+1)) x6)) true
def fv(N:Nat)(a0:List ai):Option Bool:=
 if 128 <(a0.length:Int)then
 some false
 else
 dR N a0 a0 0 ()
def pP(N:Nat)(a0:ByteArray):Option Bool:=
 if 1<=(a0.size:Int)then
 some (decide ((a0.size:Int)<=32))
 else
 some false
def aH(kx1:Option Bool)(c3:Bool):Option Bool:=
 if c3 then
 some false
 else
 kx1
def bS(kx4:Option Bool)(c6:Bool):Option Bool:=
 if c6 then
 some false
 else
 kx4
def tI  : List ByteArray->Nat->Unit->Option Bool
 | [],v8,()=>
  some true
 | x11::xs,v8,()=>
  if 64 <(x11.size:Int)then
  some false
  else
  (tI xs (v8+1)) ()
def bR(a0:Value):Option Bool:=
 tI a0.L 0 ()
def aG(a0:Value)(N:Nat):Option Bool:=
 if a0.Kind<0 then
 (bS (bR a0)) true
 else
 if 5<a0.Kind then
 (bS (bR a0)) true
 else
 if a0.Kind=2 then
 if a0.N=0 then
 if 64 <(a0.S.size:Int)then
 (bS (bR a0)) true
 else
 if 16 <(a0.I.length:Int)then
 (bS (bR a0)) true
 else
 (bS (bR a0)) (decide (16 <(a0.L.length:Int)))
 else
 if a0.N=1 then
 if 64 <(a0.S.size:Int)then
 (bS (bR a0)) true
 else
 if 16 <(a0.I.length:Int)then
 (bS (bR a0)) true
 else
 (bS (bR a0)) (decide (16 <(a0.L.length:Int)))
 else
 (bS (bR a0)) true
 else
 if 64 <(a0.S.size:Int)then
 (bS (bR a0)) true
 else
 if 16 <(a0.I.length:Int)then
 (bS (bR a0)) true
 else
 (bS (bR a0)) (decide (16 <(a0.L.length:Int)))
def j5(N:Nat)(a0:Value):Option Bool:=
 if a0.Kind=1 then
 if a0.Kind=3 then
 if a0.Kind=4 then
 if a0.Kind=5 then
 (aH (aG a0 N)) false
 else
 (aH (aG a0 N)) (decide (0 <(a0.L.length:Int)))
 else
 if 0 <(a0.I.length:Int)then
 (aH (aG a0 N)) true
 else
 if a0.Kind=5 then
 (aH (aG a0 N)) false
 else
 (aH (aG a0 N)) (decide (0 <(a0.L.length:Int)))
 else
 if(sEq a0.S (⟨#[]⟩))then
 if a0.Kind=4 then
 if a0.Kind=5 then
 (aH (aG a0 N)) false
 else
 (aH (aG a0 N)) (decide (0 <(a0.L.length:Int)))
 else
 if 0 <(a0.I.length:Int)then
 (aH (aG a0 N)) true
 else
 if a0.Kind=5 then
 (aH (aG a0 N)) false
 else
 (aH (aG a0 N)) (decide (0 <(a0.L.length:Int)))
 else
 (aH (aG a0 N)) true
 else
 if a0.Kind=2 then
 if a0.Kind=3 then
 if a0.Kind=4 then
 if a0.Kind=5 then
 (aH (aG a0 N)) false
 else
 (aH (aG a0 N)) (decide (0 <(a0.L.length:Int)))
 else
 if 0 <(a0.I.length:Int)then
 (aH (aG a0 N)) true
 else
 if a0.Kind=5 then
 (aH (aG a0 N)) false
 else
 (aH (aG a0 N)) (decide (0 <(a0.L.length:Int)))
 else
 if(sEq a0.S (⟨#[]⟩))then
 if a0.Kind=4 then
 if a0.Kind=5 then
 (aH (aG a0 N)) false
 else
 (aH (aG a0 N)) (decide (0 <(a0.L.length:Int)))
 else
 if 0 <(a0.I.length:Int)then
 (aH (aG a0 N)) true
 else
 if a0.Kind=5 then
 (aH (aG a0 N)) false
 else
 (aH (aG a0 N)) (decide (0 <(a0.L.length:Int)))
 else
 (aH (aG a0 N)) true
 else
 if a0.N=0 then
 if a0.Kind=3 then
 if a0.Kind=4 then
 if a0.Kind=5 then
 (aH (aG a0 N)) false
 else
 (aH (aG a0 N)) (decide (0 <(a0.L.length:Int)))
 else
 if 0 <(a0.I.length:Int)then
 (aH (aG a0 N)) true
 else
 if a0.Kind=5 then
 (aH (aG a0 N)) false
 else
 (aH (aG a0 N)) (decide (0 <(a0.L.length:Int)))
 else
 if(sEq a0.S (⟨#[]⟩))then
 if a0.Kind=4 then
 if a0.Kind=5 then
 (aH (aG a0 N)) false
 else
 (aH (aG a0 N)) (decide (0 <(a0.L.length:Int)))
 else
 if 0 <(a0.I.length:Int)then
 (aH (aG a0 N)) true
 else
 if a0.Kind=5 then
 (aH (aG a0 N)) false
 else
 (aH (aG a0 N)) (decide (0 <(a0.L.length:Int)))
 else
 (aH (aG a0 N)) true
 else
 (aH (aG a0 N)) true
def uL(kx1:Option Bool)(c5:Bool):Option Bool:=
 if c5 then
 some false
 else
 kx1
def AL(rec8:Unit->Option Bool)(c15:Bool):Option Bool:=
 if c15 then
 some false
 else
 rec8 ()
def lf(N:Nat):List Value->Nat->Unit->Option Bool
 | [],v7,()=>
  some true
 | x10::xs,v7,()=>
  (j5 N x10).bind fun r14=>
  if r14 then
  (AL (lf N xs (v7+1))) (decide (x10.Kind=0))
  else
  (AL (lf N xs (v7+1))) true
def ta(N:Nat)(a0:ah):Option Bool:=
 lf N a0.Args 0 ()
def ua(N:Nat)(a0:ah):Option Bool:=
 (ig N a0.Target).bind fun r3=>
 if r3 then
 (pP N a0.Method).bind fun r4=>
 if r4 then
 (uL (ta N a0)) (decide (4 <(a0.Args.length:Int)))
 else
 (uL (ta N a0)) true
 else
 (uL (ta N a0)) true
def bA(kx1:Option Bool)(c5:Bool):Option Bool:=
 if c5 then
 some false
 else
 kx1
def mh(N:Nat):List ah->Nat->Unit->Option Bool
 | [],v7,()=>
  some true
 | x10::xs,v7,()=>
  (ua N x10).bind fun r13=>
  if r13 then
  (mh N xs (v7+1)) ()
  else
  some false
def bB(N:Nat)(a0:Txn):Option Bool:=
 mh N a0.Calls 0 ()
def kR(N:Nat)(a0:Txn):Option Bool:=
 if a0.ID<1 then
 (bA (bB N a0)) true
 else
 if 1099511627776<a0.ID then
 (bA (bB N a0)) true
 else
 if a0.Born<0 then
 (bA (bB N a0)) true
 else
 if 1099511627776<a0.Born then
 (bA (bB N a0)) true
 else
 (pP N a0.Client).bind fun r3=>
 if r3 then
 if a0.Seq<1 then
 (bA (bB N a0)) true
 else
 if 1099511627776<a0.Seq then
 (bA (bB N a0)) true
 else
 if(a0.Calls.length:Int)< 1 then
 (bA (bB N a0)) true
 else
 if 4 <(a0.Calls.length:Int)then
 (bA (bB N a0)) true
 else
 if a0.Done<0 then
 (bA (bB N a0)) true
 else
 if(a0.Calls.length:Int)< a0.Done then
 (bA (bB N a0)) true
 else
 ((j5 N a0.Last).bind fun r4=>
 if r4 then
 if a0.Done=0 then
 (bA (bB N a0)) (!decide (a0.Last.Kind=0))
 else
 (bA (bB N a0)) false
 else
 ((bA (bB N a0)) true))
 else
 (bA (bB N a0)) true
def Bq(a1:Int):List aj->Nat->Unit->Option Int
 | [],v2,()=>
  some (-1)
 | x5::xs,v2,()=>
  if x5.Txn_=a1 then
  some (v2:Int)
  else
  (Bq a1 xs (v2+1)) ()
def eY(N:Nat)(a0:List aj)(a1:Int):Option Int:=
 Bq a1 a0 0 ()
def qF(N:Nat):List Value->Nat->Unit->Option Bool
 | [],v3,()=>
  some true
 | x6::xs,v3,()=>
  (j5 N x6).bind fun r9=>
  if r9 then
  (qF N xs (v3+1)) ()
  else
  some false
def mv(N:Nat)(a0:List Value):Option Bool:=
 if 8 <(a0.length:Int)then
 some false
 else
 qF N a0 0 ()
def iQ(rec3:Unit->Option Bool)(c12:Bool):Option Bool:=
 if c12 then
 some false
 else
 rec3 ()
def eN(a1:aa)(N:Nat)(a0:ae):List aj->Nat->Unit->Option Bool
 | [],v2,()=>
  some (decide (0 <(a1.Layers.length:Int)))
 | x5::xs,v2,()=>
  (iZ N a0 x5.Txn_).bind fun r8=>
  if r8.2 then
  (eY N a1.Layers x5.Txn_).bind fun r10=>
  if r10=(v2:Int)then
  (mv N x5.Fields).bind fun r11=>
  if r11 then
  if x5.Prepared then
  (iQ (eN a1 N a0 xs (v2+1))) false
  else
  (iQ (eN a1 N a0 xs (v2+1))) (decide ((IntKind.i64.wrap ((v2:Int)+1))<(a1.Layers.length:Int)))
  else
  (iQ (eN a1 N a0 xs (v2+1))) true
  else
  (iQ (eN a1 N a0 xs (v2+1))) true
  else
  (iQ (eN a1 N a0 xs (v2+1))) true
def rO(N:Nat)(a0:ae)(a1:aa):Option Bool:=
 eN a1 N a0 a1.Layers 0 ()
def mQ(N:Nat):List aj->Nat->List aj->Option (List aj)
 | [],v3,l2=>
  some l2
 | x6::xs,v3,l2=>
  (dW N x6.Fields).bind fun r9=>
  apx 39 l2 [(aj.mk x6.Txn_ r9 x6.Prepared)] fun l10=>
  (mQ N xs (v3+1)) l10
def kK(N:Nat)(a0:List aj):Option (List aj):=
 mQ N a0 0 []
def pT(a1:Ref)(N:Nat):List aa->Nat->Unit->Option (List aj)
 | [],v2,()=>
  some []
 | x5::xs,v2,()=>
  if(sEq x5.Actor.Type_ a1.Type_&&sEq x5.Actor.Key a1.Key)then
  (kK N x5.Layers).bind fun r8=>
  some r8
  else
  (pT a1 N xs (v2+1)) ()
def gb(N:Nat)(a0:ae)(a1:Ref):Option (List aj):=
 pT a1 N a0.Stacks 0 ()
def tk(N:Nat)(a0:ae)(a1:Txn):List Ref->Nat->Unit->Option Bool
 | [],v4,()=>
  some true
 | x7::xs,v4,()=>
  (gb N a0 x7).bind fun r10=>
  (eY N r10 a1.ID).bind fun r11=>
  if r11<0 then
  some false
  else
  (tk N a0 a1 xs (v4+1)) ()
def tl(N:Nat)(a0:ae)(a1:Txn):Option Bool:=
 slx a1.Calls 0 a1.Done fun l1=>
 (kv N l1).bind fun r2=>
 tk N a0 a1 r2 0 ()
def uH(a0:List ai)(N:Nat)(a1:Ref):List ai->Nat->Unit->Option (Int×Bool)
 | [],v2,()=>
  some ((a0.length:Int),false)
 | x5::xs,v2,()=>
  (qE N x5.Actor a1).bind fun r8=>
  if r8 then
  (uH a0 N a1 xs (v2+1)) ()
  else
  some ((v2:Int),(sEq x5.Actor.Type_ a1.Type_&&sEq x5.Actor.Key a1.Key))
def rW(N:Nat)(a0:List ai)(a1:Ref):Option (Int×Bool):=
 uH a0 N a1 a0 0 ()
def Cq(N:Nat)(a0:List ai)(a1:Ref):Option Int:=
 (fv N a0).bind fun r2=>
 if r2 then
 (rW N a0 a1).bind fun r4=>
 if r4.2 then
 gx a0 r4.1 fun x5=>
 some x5.Owner
 else
 some 0
 else
 some 0
def DR(a1:Ref):List Ref->Nat->Unit->Option Bool
 | [],v2,()=>
  some false
 | x5::xs,v2,()=>
  if(sEq x5.Type_ a1.Type_&&sEq x5.Key a1.Key)then
  some true
  else
  (DR a1 xs (v2+1)) ()
def yy(N:Nat)(a0:List Ref)(a1:Ref):Option Bool:=
 DR a1 a0 0 ()
def sY(kx2:Option (ah×Bool))(c4:Bool):Option (ah×Bool):=
 if c4 then
 some ((ah.mk (Ref.mk (⟨#[]⟩) (⟨#[]⟩)) (⟨#[]⟩) []),false)
 else
 kx2
def CN(r1:Txn×Bool):Option (ah×Bool):=
 gx r1.1.Calls r1.1.Done fun x5=>
 some (x5,true)
def jK(N:Nat)(a0:ae)(a1:Int):Option (ah×Bool):=
 (iZ N a0 a1).bind fun r1=>
 if r1.2 then
 if r1.1.Done<0 then
 (sY (CN r1)) true
 else
 (sY (CN r1)) (decide ((r1.1.Calls.length:Int)<=r1.1.Done))
 else
 (sY (CN r1)) true
def iC(kx13:Option Bool)(c16:Bool):Option Bool:=
 if c16 then
 some false
 else
 kx13
def BX(rec18:Unit->Option Bool)(c25:Bool):Option Bool:=
 if c25 then
 some false
 else
 rec18 ()
def mA(rec3:Unit->Option Bool)(N:Nat)(a0:ae)(x5:ai):List Int->Nat->Unit->Option Bool
 | [],v17,()=>
  rec3 ()
 | x20::xs,v17,()=>
  (jK N a0 x20).bind fun r23=>
  if r23.2 then
  (BX (mA rec3 N a0 x5 xs (v17+1))) (!(sEq r23.1.Target.Type_ x5.Actor.Type_&&sEq r23.1.Target.Key x5.Actor.Key))
  else
  (BX (mA rec3 N a0 x5 xs (v17+1))) true
def iA(rec3:Unit->Option Bool)(N:Nat)(a0:ae)(x5:ai):Option Bool:=
 mA rec3 N a0 x5 x5.Waiters 0 ()
def de(N:Nat)(a0:ae):List ai->Nat->Unit->Option Bool
 | [],v2,()=>
  some true
 | x5::xs,v2,()=>
  (iZ N a0 x5.Owner).bind fun r8=>
  if r8.2 then
  (gb N a0 x5.Actor).bind fun r10=>
  (eY N r10 r8.1.ID).bind fun r11=>
  (jK N a0 r8.1.ID).bind fun r12=>
  if r12.2 then
  if r11<0 then
  (iC (iA (de N a0 xs (v2+1)) N a0 x5)) (!(sEq r12.1.Target.Type_ x5.Actor.Type_&&sEq r12.1.Target.Key x5.Actor.Key))
  else
  (iC (iA (de N a0 xs (v2+1)) N a0 x5)) false
  else
  if r11<0 then
  (iC (iA (de N a0 xs (v2+1)) N a0 x5)) true
  else
  gx r10 r11 fun x15=>
  if x15.Prepared then
  (iC (iA (de N a0 xs (v2+1)) N a0 x5)) true
  else
  if r11<0 then
  (iC (iA (de N a0 xs (v2+1)) N a0 x5)) (!(sEq r12.1.Target.Type_ x5.Actor.Type_&&sEq r12.1.Target.Key x5.Actor.Key))
  else
  (iC (iA (de N a0 xs (v2+1)) N a0 x5)) false
  else
  some false
def wB(N:Nat)(a0:ae):Option Bool:=
 de N a0 a0.Locks 0 ()
def vF(a1:Int):List Int->Nat->Unit->Option Bool
 | [],v2,()=>
  some false
 | x5::xs,v2,()=>
  if x5=a1 then
  some true
  else
  (vF a1 xs (v2+1)) ()
def iq(N:Nat)(a0:List Int)(a1:Int):Option Bool:=
 vF a1 a0 0 ()
def Ae(r8:Int)(x5:aa)(N:Nat)(a2:List Int)(rec3:Unit->Option Bool):Nat->Int->Option Bool
 | 0,_=>none
 | n+1,v9=>
  if v9<r8 then
  gx x5.Layers v9 fun x13=>
  (iq N a2 x13.Txn_).bind fun r14=>
  if r14 then
  (Ae r8 x5 N a2 rec3 n) (IntKind.i64.wrap (v9+1))
  else
  some false
  else
  rec3 ()
def tf(N:Nat)(a1:Int)(a2:List Int):List aa->Nat->Unit->Option Bool
 | [],v2,()=>
  some true
 | x5::xs,v2,()=>
  (eY N x5.Layers a1).bind fun r8=>
  Ae r8 x5 N a2 (tf N a1 a2 xs (v2+1)) N 0
def Ed(N:Nat)(a0:ae)(a1:Int)(a2:List Int):Option Bool:=
 tf N a1 a2 a0.Stacks 0 ()
def rK(l6:List Int)(x11:Txn)(rec9:(List Int×Bool)->Option Bool)(c7:Bool)(c17:Bool):Option Bool:=
 if c17 then
 apx 7 l6 [x11.ID] fun l18=>
 rec9 (l18,true)
 else
 rec9 (l6,c7)
def jD(kx5:(List Int)->Bool->Option Bool)(N:Nat)(a0:ae):List Txn->Nat->List Int×Bool->Option Bool
 | [],v8,(l6,c7)=>
  kx5 l6 c7
 | x11::xs,v8,(l6,c7)=>
  (iq N l6 x11.ID).bind fun r15=>
  if r15 then
  (rK l6 x11 (jD kx5 N a0 xs (v8+1)) c7) false
  else
  (Ed N a0 x11.ID l6).bind fun r16=>
  (rK l6 x11 (jD kx5 N a0 xs (v8+1)) c7) r16
def CZ(rec3:List Int->Option Bool)(l21:List Int)(c22:Bool):Option Bool:=
 if c22 then
 rec3 l21
 else
 some false
def mX(a0:ae)(N:Nat):Nat->List Int->Option Bool
 | 0,_=>none
 | n+1,l2=>
  if(l2.length:Int)<(a0.Txns.length:Int)then
  jD (CZ (mX a0 N n)) N a0 a0.Txns 0 (l2,false)
  else
  some true
def CH(N:Nat)(a0:ae):Option Bool:=
 mX a0 N N []
def Bv(kx1:Option Bool)(c4:Bool):Option Bool:=
 if c4 then
 some false
 else
 kx1
def wY(rec7:Unit->Option Bool)(c15:Bool):Option Bool:=
 if c15 then
 some false
 else
 rec7 ()
def oe(kx5:Option Bool)(N:Nat)(a0:ae):List Txn->Nat->Unit->Option Bool
 | [],v6,()=>
  kx5
 | x9::xs,v6,()=>
  (kR N x9).bind fun r13=>
  if r13 then
  if 0 <(v6:Int)then
  gx a0.Txns (IntKind.i64.wrap ((v6:Int)-1)) fun x14=>
  (wY (oe kx5 N a0 xs (v6+1))) (decide (x9.ID<=x14.ID))
  else
  (wY (oe kx5 N a0 xs (v6+1))) false
  else
  (wY (oe kx5 N a0 xs (v6+1))) true
def vP(rec18:Unit->Option Bool)(c27:Bool):Option Bool:=
 if c27 then
 some false
 else
 rec18 ()
def oq(kx16:Option Bool)(N:Nat)(a0:ae):List aa->Nat->Unit->Option Bool
 | [],v17,()=>
  kx16
 | x20::xs,v17,()=>
  (rO N a0 x20).bind fun r24=>
  if r24 then
  if 0 <(v17:Int)then
  gx a0.Stacks (IntKind.i64.wrap ((v17:Int)-1)) fun x25=>
  (qE N x25.Actor x20.Actor).bind fun r26=>
  (vP (oq kx16 N a0 xs (v17+1))) (!r26)
  else
  (vP (oq kx16 N a0 xs (v17+1))) false
  else
  (vP (oq kx16 N a0 xs (v17+1))) true
def wu(kx28:Option Bool)(N:Nat)(a0:ae):List Txn->Nat->Unit->Option Bool
 | [],v29,()=>
  kx28
 | x32::xs,v29,()=>
  (tl N a0 x32).bind fun r35=>
  if r35 then
  (wu kx28 N a0 xs (v29+1)) ()
  else
  some false
def Bg(kx44:Option Bool)(c47:Bool):Option Bool:=
 if c47 then
 some false
 else
 kx44
def vX(rec49:Unit->Option Bool)(c59:Bool):Option Bool:=
 if c59 then
 some false
 else
 rec49 ()
def oo(rec38:Unit->Option Bool)(N:Nat)(a0:ae)(x40:aa):List aj->Nat->Unit->Option Bool
 | [],v48,()=>
  rec38 ()
 | x51::xs,v48,()=>
  (iZ N a0 x51.Txn_).bind fun r54=>
  slx r54.1.Calls 0 r54.1.Done fun l56=>
  (kv N l56).bind fun r57=>
  (yy N r57 x40.Actor).bind fun r58=>
  if r58 then
  if x51.Prepared then
  (vX (oo rec38 N a0 x40 xs (v48+1))) (decide (r54.1.Done <(r54.1.Calls.length:Int)))
  else
  (vX (oo rec38 N a0 x40 xs (v48+1))) false
  else
  (vX (oo rec38 N a0 x40 xs (v48+1))) true
def BC(rec38:Unit->Option Bool)(N:Nat)(a0:ae)(x40:aa):Option Bool:=
 oo rec38 N a0 x40 x40.Layers 0 ()
def lv(kx36:Option Bool)(N:Nat)(a0:ae):List aa->Nat->Unit->Option Bool
 | [],v37,()=>
  kx36
 | x40::xs,v37,()=>
  gx x40.Layers (IntKind.i64.wrap ((x40.Layers.length:Int)-1)) fun x43=>
  if x43.Prepared then
  (Bg (BC (lv kx36 N a0 xs (v37+1)) N a0 x40)) false
  else
  (Cq N a0.Locks x40.Actor).bind fun r46=>
  (Bg (BC (lv kx36 N a0 xs (v37+1)) N a0 x40)) (!decide (r46=x43.Txn_))
def Fl(N:Nat)(a0:ae):Option Bool:=
 (wB N a0).bind fun r61=>
 if r61 then
 (CH N a0).bind fun r62=>
 some r62
 else
 some false
def FB(N:Nat)(a0:ae):Option Bool:=
 lv (Fl N a0) N a0 a0.Stacks 0 ()
def BM(N:Nat)(a0:ae):Option Bool:=
 wu (FB N a0) N a0 a0.Txns 0 ()
def Ad(N:Nat)(a0:ae):Option Bool:=
 oq (BM N a0) N a0 a0.Stacks 0 ()
def uG(N:Nat)(a0:ae):Option Bool:=
 oe (Ad N a0) N a0 a0.Txns 0 ()
def ib(N:Nat)(a0:ae):Option Bool:=
 if 32 <(a0.Txns.length:Int)then
 (Bv (uG N a0)) true
 else
 (fv N a0.Locks).bind fun r3=>
 (Bv (uG N a0)) (!r3)
def lq  : Nat->List ai×Int->Option (List ai)
 | 0,_=>none
 | n+1,(l2,v3)=>
  if v3 <(l2.length:Int)then
  gx l2 v3 fun x7=>
  apn 7 x7.Waiters <|
  ((lq n) ((l2.set ((v3).toNat) x7),IntKind.i64.wrap (v3+1)))
  else
  some l2
def dO(N:Nat)(a0:List ai):Option (List ai):=
 apn 63 a0 <|
 (lq N (a0,0))
def s6(kx2:(List Txn)->Option ae)(N:Nat):List Txn->Nat->List Txn->Option ae
 | [],v4,l3=>
  kx2 l3
 | x7::xs,v4,l3=>
  (jG N x7).bind fun r10=>
  apx 151 l3 [r10] fun l11=>
  (s6 kx2 N xs (v4+1)) l11
def zz(l12:List Txn)(r1:List ai)(N:Nat):List aa->Nat->List aa->Option ae
 | [],v15,l14=>
  some (ae.mk l12 r1 l14)
 | x18::xs,v15,l14=>
  (kK N x18.Layers).bind fun r21=>
  apx 55 l14 [(aa.mk x18.Actor r21)] fun l22=>
  (zz l12 r1 N xs (v15+1)) l22
def zm(r1:List ai)(N:Nat)(a0:ae)(l12:List Txn):Option ae:=
 zz l12 r1 N a0.Stacks 0 []
def lQ(N:Nat)(a0:ae):Option ae:=
 (dO N a0.Locks).bind fun r1=>
 s6 (zm r1 N a0) N a0.Txns 0 []
def ya(kx1:Option (ae×Int))(c5:Bool):Option (ae×Int):=
 if c5 then
 some ((ae.mk [] [] []),1)
 else
 kx1
def wI(kx6:Option (ae×Int))(c9:Bool):Option (ae×Int):=
 if c9 then
 some ((ae.mk [] [] []),8)
 else
 kx6
def vO(a0:ae)(N:Nat)(a1:Int)(a2:Int)(a3:ByteArray)(a4:Int)(a5:List ah):Option (ae×Int):=
 if(a0.Txns.length:Int)=32 then
 some ((ae.mk [] [] []),5)
 else
 (lQ N a0).bind fun r11=>
 (jG N (Txn.mk a1 a2 a3 a4 a5 0 (Value.mk 0 0 (⟨#[]⟩) [] []))).bind fun r12=>
 apx 151 r11.Txns [r12] fun l13=>
 some ((ae.mk l13 r11.Locks r11.Stacks),0)
def wK(a0:ae)(N:Nat)(a1:Int)(a2:Int)(a3:ByteArray)(a4:Int)(a5:List ah):Option (ae×Int):=
 if 0 <(a0.Txns.length:Int)then
 gx a0.Txns (IntKind.i64.wrap ((a0.Txns.length:Int)-1)) fun x8=>
 (wI (vO a0 N a1 a2 a3 a4 a5)) (decide (a1<=x8.ID))
 else
 (wI (vO a0 N a1 a2 a3 a4 a5)) false
def zN(N:Nat)(a0:ae)(a1:Int)(a2:Int)(a3:ByteArray)(a4:Int)(a5:List ah):Option (ae×Int):=
 (ib N a0).bind fun r3=>
 if r3 then
 (kR N (Txn.mk a1 a2 a3 a4 a5 0 (Value.mk 0 0 (⟨#[]⟩) [] []))).bind fun r4=>
 (ya (wK a0 N a1 a2 a3 a4 a5)) (!r4)
 else
 (ya (wK a0 N a1 a2 a3 a4 a5)) true
def A9(a1:Int):List Int->Nat->Unit->Option Bool
 | [],v2,()=>
  some false
 | x5::xs,v2,()=>
  if x5=a1 then
  some true
  else
  (A9 a1 xs (v2+1)) ()
def FR(N:Nat)(a0:ai)(a1:Int):Option Bool:=
 A9 a1 a0.Waiters 0 ()
def wD(rec3:Int->Option (List Int))(v2:Int)(kx1:Int->Option (List Int))(c7:Bool):Option (List Int):=
 if c7 then
 rec3 (IntKind.i64.wrap (v2-1))
 else
 kx1 v2
def rD(a0:List Int)(kx1:Int->Option (List Int))(a1:Int):Nat->Int->Option (List Int)
 | 0,_=>none
 | n+1,v2=>
  if 0<v2 then
  gx a0 (IntKind.i64.wrap (v2-1)) fun x6=>
  (wD (rD a0 kx1 a1 n) v2 kx1) (decide (a1<x6))
  else
  (wD (rD a0 kx1 a1 n) v2 kx1) false
def Ij(a0:List Int)(a1:Int)(v8:Int):Option (List Int):=
 slx a0 v8 (a0.length:Int) fun l9=>
 slx a0 0 v8 fun l10=>
 apn 7 l10 <|
 apx 7 l10 [a1] fun l11=>
 apx 7 l11 l9 fun l12=>
 some l12
def Dm(N:Nat)(a0:List Int)(a1:Int):Option (List Int):=
 rD a0 (Ij a0 a1) a1 N (a0.length:Int)
def rJ(kx1:Option ((List ai)× Int×Int))(c6:Bool):Option ((List ai)× Int×Int):=
 if c6 then
 some ([],0,1)
 else
 kx1
def rP(N:Nat)(a0:List ai)(a1:Ref)(a2:Int):Option ((List ai)× Int×Int):=
 (rW N a0 a1).bind fun r7=>
 if r7.2 then
 (dO N a0).bind fun r15=>
 gx r15 r7.1 fun x16=>
 if x16.Owner=a2 then
 some (r15,1,0)
 else
 if x16.Owner<a2 then
 some (r15,3,0)
 else
 (FR N x16 a2).bind fun r20=>
 if r20 then
 some (r15,2,0)
 else
 if(x16.Waiters.length:Int)=32 then
 some ([],0,5)
 else
 (Dm N x16.Waiters a2).bind fun r22=>
 some ((r15.set ((r7.1).toNat) (ai.mk x16.Actor x16.Owner r22)),2,0)
 else
 if(a0.length:Int)=128 then
 some ([],0,5)
 else
 (dO N a0).bind fun r10=>
 slx r10 r7.1 (r10.length:Int) fun l11=>
 apn 63 l11 <|
 slt r10 r7.1 fun l12=>
 apx 63 l12 [(ai.mk a1 a2 [])] fun l13=>
 apx 63 l13 l11 fun l14=>
 some (l14,1,0)
def zw(N:Nat)(a0:List ai)(a1:Ref)(a2:Int):Option ((List ai)× Int×Int):=
 (fv N a0).bind fun r3=>
 if r3 then
 (ig N a1).bind fun r4=>
 if r4 then
 (u9 N a2).bind fun r5=>
 (rJ (rP N a0 a1 a2)) (!r5)
 else
 (rJ (rP N a0 a1 a2)) true
 else
 (rJ (rP N a0 a1 a2)) true
def Bi(r8:Int)(x5:aa)(N:Nat)(a2:List Int)(rec3:Unit->Option Bool):Nat->Int->Option Bool
 | 0,_=>none
 | n+1,v9=>
  if v9<r8 then
  gx x5.Layers v9 fun x13=>
  (iq N a2 x13.Txn_).bind fun r14=>
  if r14 then
  some true
  else
  (Bi r8 x5 N a2 rec3 n) (IntKind.i64.wrap (v9+1))
  else
  rec3 ()
def wU(N:Nat)(a1:Int)(a2:List Int):List aa->Nat->Unit->Option Bool
 | [],v2,()=>
  some false
 | x5::xs,v2,()=>
  (eY N x5.Layers a1).bind fun r8=>
  Bi r8 x5 N a2 (wU N a1 a2 xs (v2+1)) N 0
def F0(N:Nat)(a0:ae)(a1:Int)(a2:List Int):Option Bool:=
 wU N a1 a2 a0.Stacks 0 ()
def mT(l6:List Int)(x11:Txn)(rec9:(List Int×Bool)->Option (List Int))(c7:Bool)(c17:Bool):Option (List Int):=
 if c17 then
 apx 7 l6 [x11.ID] fun l18=>
 rec9 (l18,true)
 else
 rec9 (l6,c7)
def iM(rec4:(List Int×Bool)->Option (List Int))(N:Nat)(a0:ae):List Txn->Nat->List Int×Bool->Option (List Int)
 | [],v8,(l6,c7)=>
  rec4 (l6,c7)
 | x11::xs,v8,(l6,c7)=>
  (iq N l6 x11.ID).bind fun r15=>
  if r15 then
  (mT l6 x11 (iM rec4 N a0 xs (v8+1)) c7) false
  else
  (F0 N a0 x11.ID l6).bind fun r16=>
  (mT l6 x11 (iM rec4 N a0 xs (v8+1)) c7) r16
def fP(N:Nat)(a0:ae)(kx1:(List Int)->Option (List Int)):Nat->List Int×Bool->Option (List Int)
 | 0,_=>none
 | n+1,(l2,c3)=>
  if c3 then
  iM (fP N a0 kx1 n) N a0 a0.Txns 0 (l2,false)
  else
  kx1 l2
def iV(N:Nat):List Txn->Nat->List Int×List Int->Option (List Int)
 | [],v25,(l23,l24)=>
  some l24
 | x28::xs,v25,(l23,l24)=>
  (iq N l23 x28.ID).bind fun r31=>
  if r31 then
  apx 7 l24 [x28.ID] fun l32=>
  (iV N xs (v25+1)) (l23,l32)
  else
  (iV N xs (v25+1)) (l23,l24)
def sp(N:Nat)(a0:ae)(l21:List Int):Option (List Int):=
 iV N a0.Txns 0 (l21,[])
def rV(N:Nat)(a0:ae)(a1:Int):Option (List Int):=
 fP N a0 (sp N a0) N ([a1],true)
def mE(kx2:(List Txn)->Option ae)(N:Nat)(a1:List Int):List Txn->Nat->List Txn->Option ae
 | [],v4,l3=>
  kx2 l3
 | x7::xs,v4,l3=>
  (iq N a1 x7.ID).bind fun r10=>
  if r10 then
  (mE kx2 N a1 xs (v4+1)) l3
  else
  (jG N x7).bind fun r11=>
  apx 151 l3 [r11] fun l12=>
  (mE kx2 N a1 xs (v4+1)) l12
def pZ(x20:aa)(N:Nat)(a1:List Int)(kx23:(List aj)->Option ae):Nat->List aj×Int->Option ae
 | 0,_=>none
 | n+1,(l24,v25)=>
  if v25 <(x20.Layers.length:Int)then
  gx x20.Layers v25 fun x29=>
  (iq N a1 x29.Txn_).bind fun r30=>
  if r30 then
  (pZ x20 N a1 kx23 n) (l24,IntKind.i64.wrap (v25+1))
  else
  apx 39 l24 [x29] fun l31=>
  (pZ x20 N a1 kx23 n) (l31,IntKind.i64.wrap (v25+1))
  else
  kx23 l24
def GW(N:Nat)(l16:List aa)(x20:aa)(rec18:List aa->Option ae)(l33:List aj):Option ae:=
 if 0 <(l33.length:Int)then
 (kK N l33).bind fun r34=>
 apx 55 l16 [(aa.mk x20.Actor r34)] fun l35=>
 rec18 l35
 else
 rec18 l16
def sX(l14:List Txn)(r1:List ai)(N:Nat)(a1:List Int):List aa->Nat->List aa->Option ae
 | [],v17,l16=>
  some (ae.mk l14 r1 l16)
 | x20::xs,v17,l16=>
  pZ x20 N a1 (GW N l16 x20 (sX l14 r1 N a1 xs (v17+1))) N ([],0)
def zu(r1:List ai)(N:Nat)(a1:List Int)(a0:ae)(l14:List Txn):Option ae:=
 sX l14 r1 N a1 a0.Stacks 0 []
def Bt(N:Nat)(a0:ae)(a1:List Int):Option ae:=
 (dO N a0.Locks).bind fun r1=>
 mE (zu r1 N a1 a0) N a1 a0.Txns 0 []
def jS(l5:List ai)(v6:Int)(a1:Int)(kx10:(List Int)->Option (List ai)):Nat->List Int×Int->Option (List ai)
 | 0,_=>none
 | n+1,(l11,v12)=>
  gx l5 v6 fun x15=>
  if v12 <(x15.Waiters.length:Int)then
  gx x15.Waiters v12 fun x17=>
  if x17=a1 then
  (jS l5 v6 a1 kx10 n) (l11,IntKind.i64.wrap (v12+1))
  else
  apx 7 l11 [x17] fun l18=>
  (jS l5 v6 a1 kx10 n) (l18,IntKind.i64.wrap (v12+1))
  else
  kx10 l11
def BW(l5:List ai)(v6:Int)(rec7:(List ai×Int)->Option (List ai))(l20:List Int):Option (List ai):=
 gx l5 v6 fun x21=>
 rec7 ((l5.set ((v6).toNat) (ai.mk x21.Actor x21.Owner l20)),IntKind.i64.wrap (v6+1))
def jY(a1:Int)(N:Nat):Nat->List ai×Int->Option (List ai)
 | 0,_=>none
 | n+1,(l5,v6)=>
  if v6 <(l5.length:Int)then
  jS l5 v6 a1 (BW l5 v6 (jY a1 N n)) N ([],0)
  else
  some l5
def yg(N:Nat)(a0:List ai)(a1:Int):Option (List ai):=
 (fv N a0).bind fun r2=>
 if r2 then
 (dO N a0).bind fun r3=>
 jY a1 N N (r3,0)
 else
 some []
def Bu(N:Nat)(a0:List ai)(a1:Int):Option ((List ai)× Int):=
 (dO N a0).bind fun r1=>
 gx r1 a1 fun x2=>
 if(x2.Waiters.length:Int)=0 then
 slt r1 a1 fun l4=>
 slx r1 (IntKind.i64.wrap (a1+1)) (r1.length:Int) fun l5=>
 apx 63 l4 l5 fun l6=>
 some (l6,0)
 else
 gx x2.Waiters (IntKind.i64.wrap ((x2.Waiters.length:Int)-1)) fun x7=>
 slx x2.Waiters 0 (IntKind.i64.wrap ((x2.Waiters.length:Int)-1)) fun l8=>
 some ((r1.set ((a1).toNat) (ai.mk x2.Actor x7 l8)),x7)
def fR(a1:Int)(N:Nat):List ai->Nat->List ai×List ay->Option ((List ai)×(List ay))
 | [],v7,(l5,l6)=>
  some (l5,l6)
 | x10::xs,v7,(l5,l6)=>
  if x10.Owner=a1 then
  (rW N l5 x10.Actor).bind fun r14=>
  (Bu N l5 r14.1).bind fun r15=>
  if r15.2=0 then
  (fR a1 N xs (v7+1)) (r15.1,l6)
  else
  apx 39 l6 [(ay.mk x10.Actor r15.2)] fun l16=>
  (fR a1 N xs (v7+1)) (r15.1,l16)
  else
  (fR a1 N xs (v7+1)) (l5,l6)
def rf(N:Nat)(a0:List ai)(a1:Int):Option ((List ai)×(List ay)):=
 (fv N a0).bind fun r2=>
 if r2 then
 (dO N a0).bind fun r3=>
 fR a1 N a0 0 (r3,[])
 else
 some ([],[])
def vR(kx7:(List ai)->Option (ae ×(List Int)× Int))(N:Nat):List Int->Nat->List ai->Option (ae ×(List Int)× Int)
 | [],v9,l8=>
  kx7 l8
 | x12::xs,v9,l8=>
  (yg N l8 x12).bind fun r15=>
  (vR kx7 N xs (v9+1)) r15
def wV(r6:ae)(r5:List Int)(N:Nat):List Int->Nat->List ai->Option (ae ×(List Int)× Int)
 | [],v19,l18=>
  some ((ae.mk r6.Txns l18 r6.Stacks),r5,0)
 | x22::xs,v19,l18=>
  (rf N l18 x22).bind fun r25=>
  (wV r6 r5 N xs (v19+1)) r25.1
def K1(r6:ae)(r5:List Int)(N:Nat)(l16:List ai):Option (ae ×(List Int)× Int):=
 wV r6 r5 N r5 0 l16
def uP(N:Nat)(a0:ae)(a1:Int):Option (ae ×(List Int)× Int):=
 (ib N a0).bind fun r2=>
 if r2 then
 (iZ N a0 a1).bind fun r4=>
 if r4.2 then
 (rV N a0 a1).bind fun r5=>
 (Bt N a0 r5).bind fun r6=>
 vR (K1 r6 r5 N) N r5 0 r6.Locks
 else
 some ((ae.mk [] [] []),[],6)
 else
 some ((ae.mk [] [] []),[],1)
def Hn(N:Nat)(a0:ae)(a1:Int):Option (ae×Int ×(List Int)× Int):=
 (ib N a0).bind fun r2=>
 if r2 then
 (jK N a0 a1).bind fun r3=>
 if r3.2 then
 (zw N a0.Locks r3.1.Target a1).bind fun r5=>
 if r5.2.2=0 then
 if r5.2.1=3 then
 (uP N a0 a1).bind fun r8=>
 some (r8.1,r5.2.1,r8.2.1,0)
 else
 (lQ N a0).bind fun r9=>
 some ((ae.mk r9.Txns r5.1 r9.Stacks),r5.2.1,[],0)
 else
 some ((ae.mk [] [] []),0,[],r5.2.2)
 else
 some ((ae.mk [] [] []),0,[],6)
 else
 some ((ae.mk [] [] []),0,[],1)
def tG(kx9:Option Bool)(c12:Bool):Option Bool:=
 if c12 then
 some false
 else
 kx9
def tK(x6:ai)(a1:List ai)(v3:Nat)(rec4:Unit->Option Bool):Nat->Int->Option Bool
 | 0,_=>none
 | n+1,v13=>
  if v13 <(x6.Waiters.length:Int)then
  gx x6.Waiters v13 fun x17=>
  gx a1 (v3:Int) fun x18=>
  gx x18.Waiters v13 fun x19=>
  if x17=x19 then
  (tK x6 a1 v3 rec4 n) (IntKind.i64.wrap (v13+1))
  else
  some false
  else
  rec4 ()
def tq(x6:ai)(a1:List ai)(v3:Nat)(rec4:Unit->Option Bool)(N:Nat):Option Bool:=
 tK x6 a1 v3 rec4 N 0
def k8(a1:List ai)(N:Nat):List ai->Nat->Unit->Option Bool
 | [],v3,()=>
  some true
 | x6::xs,v3,()=>
  gx a1 (v3:Int) fun x11=>
  if(sEq x6.Actor.Type_ x11.Actor.Type_&&sEq x6.Actor.Key x11.Actor.Key)then
  if x6.Owner=x11.Owner then
  (tG (tq x6 a1 v3 (k8 a1 N xs (v3+1)) N)) (!decide ((x6.Waiters.length:Int)=(x11.Waiters.length:Int)))
  else
  (tG (tq x6 a1 v3 (k8 a1 N xs (v3+1)) N)) true
  else
  (tG (tq x6 a1 v3 (k8 a1 N xs (v3+1)) N)) true
def uj(N:Nat)(a0:List ai)(a1:List ai):Option Bool:=
 if(a0.length:Int)=(a1.length:Int)then
 k8 a1 N a0 0 ()
 else
 some false
def Eg(N:Nat)(a0:ae)(a1:ae):Option Bool:=
 (uj N a0.Locks a1.Locks).bind fun r1=>
 some r1
def qS(N:Nat)(a0:ah)(a1:ah):Option Bool:=
 if(sEq a0.Target.Type_ a1.Target.Type_&&sEq a0.Target.Key a1.Target.Key)then
 if(sEq a0.Method a1.Method)then
 (jv N a0.Args a1.Args).bind fun r2=>
 some r2
 else
 some false
 else
 some false
def uy(a1:List ah)(N:Nat):List ah->Nat->Unit->Option Bool
 | [],v3,()=>
  some true
 | x6::xs,v3,()=>
  gx a1 (v3:Int) fun x9=>
  (qS N x6 x9).bind fun r10=>
  if r10 then
  (uy a1 N xs (v3+1)) ()
  else
  some false
def tL(N:Nat)(a0:List ah)(a1:List ah):Option Bool:=
 if(a0.length:Int)=(a1.length:Int)then
 uy a1 N a0 0 ()
 else
 some false
def sZ(N:Nat)(a0:Txn)(a1:Txn):Option Bool:=
 if a0.ID=a1.ID then
 if a0.Born=a1.Born then
 if(sEq a0.Client a1.Client)then
 if a0.Seq=a1.Seq then
 if a0.Done=a1.Done then
 (k9 N a0.Last a1.Last).bind fun r2=>
 if r2 then
 (tL N a0.Calls a1.Calls).bind fun r3=>
 some r3
 else
 some false
 else
 some false
 else
 some false
 else
 some false
 else
 some false
 else
 some false
def tn(kx1:Option Bool)(c4:Bool):Option Bool:=
 if c4 then
 some false
 else
 kx1
def tg(kx5:Option Bool)(a1:ae)(N:Nat):List Txn->Nat->Unit->Option Bool
 | [],v6,()=>
  kx5
 | x9::xs,v6,()=>
  gx a1.Txns (v6:Int) fun x12=>
  (sZ N x9 x12).bind fun r13=>
  if r13 then
  (tg kx5 a1 N xs (v6+1)) ()
  else
  some false
def Ay(rec16:Unit->Option Bool)(c24:Bool):Option Bool:=
 if c24 then
 some false
 else
 rec16 ()
def pg(a1:ae)(N:Nat):List aa->Nat->Unit->Option Bool
 | [],v15,()=>
  some true
 | x18::xs,v15,()=>
  gx a1.Stacks (v15:Int) fun x22=>
  if(sEq x18.Actor.Type_ x22.Actor.Type_&&sEq x18.Actor.Key x22.Actor.Key)then
  (mV N x18.Layers x22.Layers).bind fun r23=>
  (Ay (pg a1 N xs (v15+1))) (!r23)
  else
  (Ay (pg a1 N xs (v15+1))) true
def AF(a1:ae)(N:Nat)(a0:ae):Option Bool:=
 pg a1 N a0.Stacks 0 ()
def tX(a1:ae)(N:Nat)(a0:ae):Option Bool:=
 tg (AF a1 N a0) a1 N a0.Txns 0 ()
def gl(N:Nat)(a0:ae)(a1:ae):Option Bool:=
 if(a0.Txns.length:Int)=(a1.Txns.length:Int)then
 if(a0.Stacks.length:Int)=(a1.Stacks.length:Int)then
 (Eg N a0 a1).bind fun r3=>
 (tn (tX a1 N a0)) (!r3)
 else
 (tn (tX a1 N a0)) true
 else
 (tn (tX a1 N a0)) true
def zs(kx1:Option (ae×Int))(c6:Bool):Option (ae×Int):=
 if c6 then
 some ((ae.mk [] [] []),1)
 else
 kx1
def gZ(a1:Int)(N:Nat)(a3:Value)(kx12:(List Txn)->Option (ae×Int)):Nat->List Txn×Int->Option (ae×Int)
 | 0,_=>none
 | n+1,(l13,v14)=>
  if v14 <(l13.length:Int)then
  gx l13 v14 fun x18=>
  if x18.ID=a1 then
  (iY N a3).bind fun r19=>
  (gZ a1 N a3 kx12 n) ((l13.set ((v14).toNat) (Txn.mk x18.ID x18.Born x18.Client x18.Seq x18.Calls (IntKind.i64.wrap (x18.Done+1)) r19)),IntKind.i64.wrap (v14+1))
  else
  (gZ a1 N a3 kx12 n) (l13,IntKind.i64.wrap (v14+1))
  else
  kx12 l13
def mF(kx22:Int->Option (ae×Int))(N:Nat)(r7:ah×Bool):List aa->Nat->Unit->Option (ae×Int)
 | [],v23,()=>
  kx22 (v23:Int)
 | x27::xs,v23,()=>
  (qE N x27.Actor r7.1.Target).bind fun r30=>
  if r30 then
  (mF kx22 N r7 xs (v23+1)) ()
  else
  kx22 (v23:Int)
def CS(l39:List aa)(v31:Int)(N:Nat)(a2:List Value)(l21:List Txn)(r11:ae)(r7:ah×Bool)(l43:List aj)(v44:Int):Option (ae×Int):=
 gx l39 v31 fun x45=>
 (dW N a2).bind fun r46=>
 gx l43 v44 fun x47=>
 some ((ae.mk l21 r11.Locks (l39.set ((v31).toNat) (aa.mk r7.1.Target (l43.set ((v44).toNat) (aj.mk x47.Txn_ r46 x47.Prepared))))),0)
def zy(v31:Int)(N:Nat)(a2:List Value)(l21:List Txn)(r11:ae)(l52:List aa)(v53:Int):Option (ae×Int):=
 gx l52 v31 fun x54=>
 (dW N a2).bind fun r55=>
 gx x54.Layers v53 fun x56=>
 some ((ae.mk l21 r11.Locks (l52.set ((v31).toNat) (aa.mk x54.Actor (x54.Layers.set ((v53).toNat) (aj.mk x56.Txn_ r55 x56.Prepared))))),0)
def qg(r11:ae)(v31:Int)(r7:ah×Bool)(N:Nat)(a1:Int)(a2:List Value)(l21:List Txn)(c35:Bool):Option (ae×Int):=
 if c35 then
 slx r11.Stacks v31 (r11.Stacks.length:Int) fun l36=>
 apn 55 ((r11.Stacks.drop ((v31).toNat)).take (r11.Stacks.length -(v31).toNat)) <|
 slt r11.Stacks v31 fun l37=>
 apx 55 (r11.Stacks.take ((v31).toNat)) [(aa.mk r7.1.Target [])] fun l38=>
 apx 55 l38 ((r11.Stacks.drop ((v31).toNat)).take (r11.Stacks.length -(v31).toNat)) fun l39=>
 gx l39 v31 fun x40=>
 (eY N [] a1).bind fun r41=>
 if r41<0 then
 apn 39 [(aj.mk a1 [] false)] <|
 ((CS l39 v31 N a2 l21 r11 r7) [(aj.mk a1 [] false)] 0)
 else
 (CS l39 v31 N a2 l21 r11 r7) [] r41
 else
 gx r11.Stacks v31 fun x48=>
 (eY N x48.Layers a1).bind fun r49=>
 if r49<0 then
 apx 39 x48.Layers [(aj.mk a1 [] false)] fun l51=>
 (zy v31 N a2 l21 r11) (r11.Stacks.set ((v31).toNat) (aa.mk x48.Actor l51)) (x48.Layers.length:Int)
 else
 (zy v31 N a2 l21 r11) r11.Stacks r49
def s5(r11:ae)(r7:ah×Bool)(N:Nat)(a1:Int)(a2:List Value)(l21:List Txn)(v31:Int):Option (ae×Int):=
 if v31=(r11.Stacks.length:Int)then
 (qg r11 v31 r7 N a1 a2 l21) true
 else
 gx r11.Stacks v31 fun x34=>
 (qg r11 v31 r7 N a1 a2 l21) (!(sEq x34.Actor.Type_ r7.1.Target.Type_&&sEq x34.Actor.Key r7.1.Target.Key))
def GQ(r11:ae)(r7:ah×Bool)(N:Nat)(a1:Int)(a2:List Value)(l21:List Txn):Option (ae×Int):=
 mF (s5 r11 r7 N a1 a2 l21) N r7 r11.Stacks 0 ()
def p9(N:Nat)(a0:ae)(a1:Int)(a3:Value)(a2:List Value):Option (ae×Int):=
 (jK N a0 a1).bind fun r7=>
 if r7.2 then
 (Cq N a0.Locks r7.1.Target).bind fun r10=>
 if r10=a1 then
 (lQ N a0).bind fun r11=>
 gZ a1 N a3 (GQ r11 r7 N a1 a2) N (r11.Txns,0)
 else
 some ((ae.mk [] [] []),10)
 else
 some ((ae.mk [] [] []),6)
def Bn(N:Nat)(a0:ae)(a1:Int)(a2:List Value)(a3:Value):Option (ae×Int):=
 (ib N a0).bind fun r3=>
 if r3 then
 (mv N a2).bind fun r4=>
 if r4 then
 (j5 N a3).bind fun r5=>
 (zs (p9 N a0 a1 a3 a2)) (!r5)
 else
 (zs (p9 N a0 a1 a3 a2)) true
 else
 (zs (p9 N a0 a1 a3 a2)) true
def y8(kx1:Option ((List ai)× Int×Int))(c6:Bool):Option ((List ai)× Int×Int):=
 if c6 then
 some ([],0,1)
 else
 kx1
def rS(kx8:Option ((List ai)× Int×Int))(c11:Bool):Option ((List ai)× Int×Int):=
 if c11 then
 some ([],0,10)
 else
 kx8
def Df(N:Nat)(a0:List ai)(r7:Int×Bool):Option ((List ai)× Int×Int):=
 (Bu N a0 r7.1).bind fun r12=>
 some (r12.1,r12.2,0)
def za(N:Nat)(a0:List ai)(a1:Ref)(a2:Int):Option ((List ai)× Int×Int):=
 (rW N a0 a1).bind fun r7=>
 if r7.2 then
 gx a0 r7.1 fun x10=>
 (rS (Df N a0 r7)) (!decide (x10.Owner=a2))
 else
 (rS (Df N a0 r7)) true
def CM(N:Nat)(a0:List ai)(a1:Ref)(a2:Int):Option ((List ai)× Int×Int):=
 (fv N a0).bind fun r3=>
 if r3 then
 (ig N a1).bind fun r4=>
 if r4 then
 (u9 N a2).bind fun r5=>
 (y8 (za N a0 a1 a2)) (!r5)
 else
 (y8 (za N a0 a1 a2)) true
 else
 (y8 (za N a0 a1 a2)) true
def ju(kx4:Option (ae×Int))(c8:Bool):Option (ae×Int):=
 if c8 then
 some ((ae.mk [] [] []),6)
 else
 kx4
def dY(a2:Ref)(N:Nat)(a1:Int)(kx11:(List aa)->Option (ae×Int)):Nat->List aa×Int->Option (ae×Int)
 | 0,_=>none
 | n+1,(l12,v13)=>
  if v13 <(l12.length:Int)then
  gx l12 v13 fun x18=>
  if(sEq x18.Actor.Type_ a2.Type_&&sEq x18.Actor.Key a2.Key)then
  (eY N x18.Layers a1).bind fun r19=>
  gx x18.Layers r19 fun x21=>
  if x21.Prepared then
  some ((ae.mk [] [] []),7)
  else
  (dY a2 N a1 kx11 n) ((l12.set ((v13).toNat) (aa.mk x18.Actor (x18.Layers.set ((r19).toNat) (aj.mk x21.Txn_ x21.Fields true)))),IntKind.i64.wrap (v13+1))
  else
  (dY a2 N a1 kx11 n) (l12,IntKind.i64.wrap (v13+1))
  else
  kx11 l12
def rM(N:Nat)(r10:ae)(a2:Ref)(a1:Int)(l23:List aa):Option (ae×Int):=
 (CM N r10.Locks a2 a1).bind fun r24=>
 some ((ae.mk r10.Txns r24.1 l23),0)
def om(r3:Txn×Bool)(N:Nat)(a0:ae)(a2:Ref)(a1:Int):Option (ae×Int):=
 if r3.1.Done <(r3.1.Calls.length:Int)then
 some ((ae.mk [] [] []),12)
 else
 (lQ N a0).bind fun r10=>
 dY a2 N a1 (rM N r10 a2 a1) N (r10.Stacks,0)
def mJ(N:Nat)(a0:ae)(a1:Int)(a2:Ref):Option (ae×Int):=
 (ib N a0).bind fun r2=>
 if r2 then
 (iZ N a0 a1).bind fun r3=>
 if r3.2 then
 (eE N r3.1).bind fun r6=>
 (yy N r6 a2).bind fun r7=>
 (ju (om r3 N a0 a2 a1)) (!r7)
 else
 (ju (om r3 N a0 a2 a1)) true
 else
 some ((ae.mk [] [] []),1)
def qV(rec4:Unit->Option Bool)(c12:Bool):Option Bool:=
 if c12 then
 some false
 else
 rec4 ()
def kP(N:Nat)(a1:Txn):List aa->Nat->Unit->Option Bool
 | [],v3,()=>
  some true
 | x6::xs,v3,()=>
  (eY N x6.Layers a1.ID).bind fun r9=>
  if 0<r9 then
  (qV (kP N a1 xs (v3+1))) true
  else
  if r9=0 then
  gx x6.Layers 0 fun x11=>
  (qV (kP N a1 xs (v3+1))) (!x11.Prepared)
  else
  (qV (kP N a1 xs (v3+1))) false
def Cu(N:Nat)(a0:ae)(a1:Txn):Option Bool:=
 if a1.Done <(a1.Calls.length:Int)then
 some false
 else
 kP N a1 a0.Stacks 0 ()
def jr(kx16:(List aP)->Option (ae ×(List aB)))(N:Nat)(x12:Txn):List aa->Nat->List aP->Option (ae ×(List aB))
 | [],v18,l17=>
  kx16 l17
 | x21::xs,v18,l17=>
  (eY N x21.Layers x12.ID).bind fun r24=>
  if 0<=r24 then
  gx x21.Layers r24 fun x25=>
  (dW N x25.Fields).bind fun r26=>
  apx 55 l17 [(aP.mk x21.Actor r26)] fun l27=>
  (jr kx16 N x12 xs (v18+1)) l27
  else
  (jr kx16 N x12 xs (v18+1)) l17
def zf(l8:List aB)(x12:Txn)(r15:Value)(N:Nat)(l5:List Txn)(l6:List ai)(l7:List aa)(rec10:(List Txn×List ai×List aa×List aB×Int)->Option (ae ×(List aB)))(l29:List aP):Option (ae ×(List aB)):=
 apx 135 l8 [(aB.mk x12.ID x12.Client x12.Seq r15 l29)] fun l30=>
 (Bt N (ae.mk l5 l6 l7) [x12.ID]).bind fun r31=>
 rec10 (r31.Txns,r31.Locks,r31.Stacks,l30,0)
def dX(N:Nat):Nat->List Txn×List ai×List aa×List aB×Int->Option (ae ×(List aB))
 | 0,_=>none
 | n+1,(l5,l6,l7,l8,v9)=>
  if v9 <(l5.length:Int)then
  gx l5 v9 fun x12=>
  (Cu N (ae.mk l5 l6 l7) x12).bind fun r14=>
  if r14 then
  (iY N x12.Last).bind fun r15=>
  jr (zf l8 x12 r15 N l5 l6 l7 (dX N n)) N x12 l7 0 []
  else
  (dX N n) (l5,l6,l7,l8,IntKind.i64.wrap (v9+1))
  else
  some ((ae.mk l5 l6 l7),l8)
def zr(N:Nat)(a0:ae):Option (ae ×(List aB)):=
 (ib N a0).bind fun r2=>
 if r2 then
 (lQ N a0).bind fun r3=>
 dX N N (r3.Txns,r3.Locks,r3.Stacks,[],0)
 else
 some ((ae.mk [] [] []),[])
def zZ(rec4:Unit->Option Bool)(c12:Bool):Option Bool:=
 if c12 then
 some false
 else
 rec4 ()
def iR(a1:List aP)(N:Nat):List aP->Nat->Unit->Option Bool
 | [],v3,()=>
  some true
 | x6::xs,v3,()=>
  gx a1 (v3:Int) fun x10=>
  if(sEq x6.Actor.Type_ x10.Actor.Type_&&sEq x6.Actor.Key x10.Actor.Key)then
  (jv N x6.Fields x10.Fields).bind fun r11=>
  (zZ (iR a1 N xs (v3+1))) (!r11)
  else
  (zZ (iR a1 N xs (v3+1))) true
def rp(N:Nat)(a0:List aP)(a1:List aP):Option Bool:=
 if(a0.length:Int)=(a1.length:Int)then
 iR a1 N a0 0 ()
 else
 some false
def jN(rec4:Unit->Option Bool)(c13:Bool):Option Bool:=
 if c13 then
 some false
 else
 rec4 ()
def eC(a1:List aB)(N:Nat):List aB->Nat->Unit->Option Bool
 | [],v3,()=>
  some true
 | x6::xs,v3,()=>
  gx a1 (v3:Int) fun x10=>
  if x6.ID=x10.ID then
  if(sEq x6.Client x10.Client)then
  if x6.Seq=x10.Seq then
  (k9 N x6.Value_ x10.Value_).bind fun r11=>
  if r11 then
  (rp N x6.Writes x10.Writes).bind fun r12=>
  (jN (eC a1 N xs (v3+1))) (!r12)
  else
  (jN (eC a1 N xs (v3+1))) true
  else
  (jN (eC a1 N xs (v3+1))) true
  else
  (jN (eC a1 N xs (v3+1))) true
  else
  (jN (eC a1 N xs (v3+1))) true
def mo(N:Nat)(a0:List aB)(a1:List aB):Option Bool:=
 if(a0.length:Int)=(a1.length:Int)then
 eC a1 N a0 0 ()
 else
 some false
def vT(l4:List Int)(x8:Txn)(rec6:List Int->Option (List Int))(c13:Bool):Option (List Int):=
 if c13 then
 apx 7 l4 [x8.ID] fun l14=>
 rec6 l14
 else
 rec6 l4
def m8(N:Nat)(a0:ae)(a1:Int):List Txn->Nat->List Int->Option (List Int)
 | [],v5,l4=>
  some l4
 | x8::xs,v5,l4=>
  (Ap N a0 x8).bind fun r12=>
  if r12 then
  (vT l4 x8 (m8 N a0 a1 xs (v5+1))) false
  else
  (vT l4 x8 (m8 N a0 a1 xs (v5+1))) (decide ((IntKind.i64.wrap (x8.Born+40))<=a1))
def zO(N:Nat)(a0:ae)(a1:Int):Option (List Int):=
 (jm N a0).bind fun r2=>
 if r2 then
 m8 N a0 a1 a0.Txns 0 []
 else
 some []
def fB(kx13:Bool->Option (List Int))(N:Nat)(a0:ae)(x8:Txn):List Ref->Nat->Bool->Option (List Int)
 | [],v15,c14=>
  kx13 c14
 | x18::xs,v15,c14=>
  (gb N a0 x18).bind fun r21=>
  (eY N r21 x8.ID).bind fun r22=>
  if c14 then
  (fB kx13 N a0 x8 xs (v15+1)) true
  else
  if r22<0 then
  (fB kx13 N a0 x8 xs (v15+1)) true
  else
  gx r21 r22 fun x23=>
  (fB kx13 N a0 x8 xs (v15+1)) (!x23.Prepared)
def CW(l4:List Int)(x8:Txn)(rec6:List Int->Option (List Int))(c25:Bool):Option (List Int):=
 if c25 then
 apx 7 l4 [x8.ID] fun l26=>
 rec6 l26
 else
 rec6 l4
def kF(a1:Int)(N:Nat)(a0:ae):List Txn->Nat->List Int->Option (List Int)
 | [],v5,l4=>
  some l4
 | x8::xs,v5,l4=>
  if a1 <(IntKind.i64.wrap (x8.Born+40))then
  (kF a1 N a0 xs (v5+1)) l4
  else
  (eE N x8).bind fun r12=>
  fB (CW l4 x8 (kF a1 N a0 xs (v5+1))) N a0 x8 r12 0 false
def zB(N:Nat)(a0:ae)(a1:Int):Option (List Int):=
 (ib N a0).bind fun r2=>
 if r2 then
 kF a1 N a0 a0.Txns 0 []
 else
 some []
def my(a1:List Ref):List Ref->Nat->Unit->Option Bool
 | [],v3,()=>
  some true
 | x6::xs,v3,()=>
  gx a1 (v3:Int) fun x9=>
  if(sEq x6.Type_ x9.Type_&&sEq x6.Key x9.Key)then
  (my a1 xs (v3+1)) ()
  else
  some false
def yf(N:Nat)(a0:List Ref)(a1:List Ref):Option Bool:=
 if(a0.length:Int)=(a1.length:Int)then
 my a1 a0 0 ()
 else
 some false
def AE(N:Nat)(a0:ae)(a1:Ref)(a2:List Value):Option (List Value):=
 (gb N a0 a1).bind fun r1=>
 if(r1.length:Int)=0 then
 (dW N a2).bind fun r3=>
 some r3
 else
 gx r1 (IntKind.i64.wrap ((r1.length:Int)-1)) fun x4=>
 some x4.Fields
def oc(kx5:Option Bool)(c12:Bool):Option Bool:=
 if c12 then
 some false
 else
 kx5
def k7(N:Nat)(a0:ae)(r1:Txn×Bool)(r2:Txn×Bool)(a3:Ref)(a4:List Value):Option Bool:=
 (jm N a0).bind fun r14=>
 (ib N a0).bind fun r15=>
 if r14=r15 then
 (fD N r1.1).bind fun r16=>
 (eE N r2.1).bind fun r17=>
 (yf N r16 r17).bind fun r18=>
 if r18 then
 (ky N a0 a3).bind fun r19=>
 (gb N a0 a3).bind fun r20=>
 (mV N r19 r20).bind fun r21=>
 if r21 then
 (oY N a0 a3 a4).bind fun r22=>
 (AE N a0 a3 a4).bind fun r23=>
 (jv N r22 r23).bind fun r24=>
 some r24
 else
 some false
 else
 some false
 else
 some false
def Cc(N:Nat)(a0:ae)(a1:Int)(a2:Int)(a3:Ref)(a4:List Value):Option Bool:=
 (u7 N a0 a1).bind fun r1=>
 (iZ N a0 a1).bind fun r2=>
 (jU N a0 a1).bind fun r3=>
 (jK N a0 a1).bind fun r4=>
 if r1.2=r2.2 then
 (sZ N r1.1 r2.1).bind fun r7=>
 if r7 then
 if r3.2=r4.2 then
 (qS N r3.1 r4.1).bind fun r8=>
 if r8 then
 (zO N a0 a2).bind fun r9=>
 (zB N a0 a2).bind fun r10=>
 (mD N r9 r10).bind fun r11=>
 (oc (k7 N a0 r1 r2 a3 a4)) (!r11)
 else
 (oc (k7 N a0 r1 r2 a3 a4)) true
 else
 (oc (k7 N a0 r1 r2 a3 a4)) true
 else
 (oc (k7 N a0 r1 r2 a3 a4)) true
 else
 (oc (k7 N a0 r1 r2 a3 a4)) true
def fO(kx5:Option Bool)(c10:Bool):Option Bool:=
 if c10 then
 some false
 else
 kx5
def mS(kx15:Option Bool)(c19:Bool):Option Bool:=
 if c19 then
 some false
 else
 kx15
def ke(kx24:Option Bool)(c30:Bool):Option Bool:=
 if c30 then
 some false
 else
 kx24
def iH(N:Nat)(a0:ae)(a1:Int)(a2:Int)(a5:Ref)(a7:List Value):Option Bool:=
 (Cc N a0 a1 a2 a5 a7).bind fun r31=>
 some r31
def j7(N:Nat)(a0:ae)(a1:Int)(a2:Int)(a5:Ref)(a7:List Value):Option Bool:=
 (lu N a0 a1).bind fun r20=>
 (uP N a0 a1).bind fun r21=>
 (lI N a0).bind fun r22=>
 (zr N a0).bind fun r23=>
 if r20.2.2=r21.2.2 then
 (mD N r20.2.1 r21.2.1).bind fun r26=>
 if r26 then
 (gl N r20.1 r21.1).bind fun r27=>
 if r27 then
 (gl N r22.1 r23.1).bind fun r28=>
 if r28 then
 (mo N r22.2 r23.2).bind fun r29=>
 (ke (iH N a0 a1 a2 a5 a7)) (!r29)
 else
 (ke (iH N a0 a1 a2 a5 a7)) true
 else
 (ke (iH N a0 a1 a2 a5 a7)) true
 else
 (ke (iH N a0 a1 a2 a5 a7)) true
 else
 (ke (iH N a0 a1 a2 a5 a7)) true
def eQ(N:Nat)(a0:ae)(a1:Int)(a7:List Value)(a8:Value)(a5:Ref)(a2:Int):Option Bool:=
 (jy N a0 a1 a7 a8).bind fun r11=>
 (Bn N a0 a1 a7 a8).bind fun r12=>
 (dS N a0 a1 a5).bind fun r13=>
 (mJ N a0 a1 a5).bind fun r14=>
 if r11.2=r12.2 then
 (gl N r11.1 r12.1).bind fun r17=>
 if r17 then
 if r13.2=r14.2 then
 (gl N r13.1 r14.1).bind fun r18=>
 (mS (j7 N a0 a1 a2 a5 a7)) (!r18)
 else
 (mS (j7 N a0 a1 a2 a5 a7)) true
 else
 (mS (j7 N a0 a1 a2 a5 a7)) true
 else
 (mS (j7 N a0 a1 a2 a5 a7)) true
def mY(N:Nat)(a0:ae)(a1:Int)(a2:Int)(a3:ByteArray)(a4:Int)(a5:Ref)(a6:List ah)(a7:List Value)(a8:Value):Option Bool:=
 (iF N a0 a1 a2 a3 a4 a6).bind fun r1=>
 (zN N a0 a1 a2 a3 a4 a6).bind fun r2=>
 (iI N a0 a1).bind fun r3=>
 (Hn N a0 a1).bind fun r4=>
 if r1.2=r2.2 then
 (gl N r1.1 r2.1).bind fun r7=>
 if r7 then
 if r3.2.2.2=r4.2.2.2 then
 if r3.2.1=r4.2.1 then
 (mD N r3.2.2.1 r4.2.2.1).bind fun r8=>
 if r8 then
 (gl N r3.1 r4.1).bind fun r9=>
 (fO (eQ N a0 a1 a7 a8 a5 a2)) (!r9)
 else
 (fO (eQ N a0 a1 a7 a8 a5 a2)) true
 else
 (fO (eQ N a0 a1 a7 a8 a5 a2)) true
 else
 (fO (eQ N a0 a1 a7 a8 a5 a2)) true
 else
 (fO (eQ N a0 a1 a7 a8 a5 a2)) true
 else
 (fO (eQ N a0 a1 a7 a8 a5 a2)) true
def vM(kx15:Option Bool)(c19:Bool):Option Bool:=
 if c19 then
 some false
 else
 kx15
def w6(N:Nat)(r14:ae ×(List aB))(x11:al)(v8:Nat)(rec9:(List Txn×List ai×List aa)->Option Bool):Option Bool:=
 (DU N r14.1 x11.Who).bind fun r20=>
 (qq N r14.1 r20 x11.Arg).bind fun r21=>
 (Ch N x11).bind fun r22=>
 (lZ N (v8:Int)).bind fun r23=>
 (lZ N x11.N).bind fun r24=>
 (mY N r14.1 r20 (v8:Int) (⟨#[99]⟩) (IntKind.i64.wrap (1000+(v8:Int))) r21 r22 [r23] r24).bind fun r25=>
 if r25 then
 rec9 (r14.1.Txns,r14.1.Locks,r14.1.Stacks)
 else
 some false
def fV(N:Nat):List al->Nat->List Txn×List ai×List aa->Option Bool
 | [],v8,(l5,l6,l7)=>
  some true
 | x11::xs,v8,(l5,l6,l7)=>
  (Et N (ae.mk l5 l6 l7) (v8:Int) x11).bind fun r14=>
  (jm N r14.1).bind fun r17=>
  if r17 then
  (ib N r14.1).bind fun r18=>
  (vM (w6 N r14 x11 v8 (fV N xs (v8+1)))) (!r18)
  else
  (vM (w6 N r14 x11 v8 (fV N xs (v8+1)))) true
def lz(N:Nat)(a0:List al):Option Bool:=
 (zS N).bind fun r2=>
 if r2 then
 if 60 <(a0.length:Int)then
 some true
 else
 fV N a0 0 ([],[],[])
 else
 some false
end
end Go.Proofs.YtmacaidmhchpgaaGreat
