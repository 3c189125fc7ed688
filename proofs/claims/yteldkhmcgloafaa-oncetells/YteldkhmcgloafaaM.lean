/- The models of the functions. No statement. -/
import Derived.Test.YteldkhmcgloafaaT
/- The functions of the program as plain functions on plain data. -/
set_option maxHeartbeats 40000000
set_option synthInstance.maxHeartbeats 2000000
set_option synthInstance.maxSize 4000
set_option linter.unusedSimpArgs false
set_option linter.unusedVariables false
set_option maxRecDepth 100000
namespace Go.Proofs.Yteldkhmcgloafaa
open Go Go.Proofs Go.Abs
def delAck (N:Nat) (l:List Answer) (lo:Int):Option (List Answer):=if l.length < N/\l.length<=4611686018427387904 then some (l.filter fun a=>!decide (a.Seq<=lo)) else none
def iv (N:Nat) (a0:ByteArray):Option (Bool):=
 if 1<=((a0.size:Nat):Int) then
 ((some (decide (((a0.size:Nat):Int)<=32))))
 else
 ((some false))
def fb (a1:Int):List Int->Nat->Unit->Option (Int)
 | [],v2,()=>
  (some (-1))
 | x5::xs,v2,()=>
  (if a1=x5 then
  (some ((v2:Nat):Int))
  else
  ((((fb a1 xs (v2+1)) ()))))
def iZ (N:Nat) (a0:(List Int)) (a1:Int):Option (Int):=
 (fb a1 a0 0 ())
def ff (N:Nat) (a0:(List Int)) (a1:Int):Option (Bool):=
 (iZ N a0 a1).bind fun r1=>
 some (decide (0<=r1))
def gM (N:Nat) (a0:Int):Option (Bool):=
 if 1<=a0 then
 ((some (decide (a0<=1099511627776))))
 else
 ((some false))
def jM (kx1:Option (Bool)) (c3:Bool):Option (Bool):=
 if c3=true then
 (some false)
 else
 (kx1)
def jY (kx7:Bool->Option (Bool)) (a0:Value) (c11:Bool):Option (Bool):=
 if c11=true then
 ((kx7 true))
 else
 (if 0 < ((a0.L.length:Nat):Int) then
 ((kx7 (!decide (a0.Kind=5))))
 else
 ((kx7 false)))
def jS (kx7:Bool->Option (Bool)) (a0:Value) (c9:Bool):Option (Bool):=
 if c9=true then
 ((kx7 true))
 else
 (if 0 < ((a0.I.length:Nat):Int) then
 (((jY kx7 a0) (!decide (a0.Kind=4))))
 else
 (((jY kx7 a0) false)))
def jE (kx4:Option (Bool)) (c12:Bool):Option (Bool):=
 if c12=true then
 (some false)
 else
 (kx4)
def fA (a0:Value) (kx4:Option (Bool)) (c6:Bool):Option (Bool):=
 if c6=true then
 (some false)
 else
 (if (sEq a0.S (⟨#[]⟩))=true then
 (((jS (jE kx4) a0) false))
 else
 (((jS (jE kx4) a0) (!decide (a0.Kind=3)))))
def gI (kx13:Option (Bool)) (c15:Bool):Option (Bool):=
 if c15=true then
 (some false)
 else
 (kx13)
def fF  : List ByteArray->Nat->Unit->Option (Bool)
 | [],v17,()=>
  (some true)
 | x20::xs,v17,()=>
  (if 64 < ((x20.size:Nat):Int) then
  (some false)
  else
  ((((fF xs (v17+1)) ()))))
def gL (a0:Value):Option (Bool):=
 (fF a0.L 0 ())
def fG (a0:Value):Option (Bool):=
 if 64 < ((a0.S.size:Nat):Int) then
 (((gI (gL a0)) true))
 else
 (if 16 < ((a0.I.length:Nat):Int) then
 (((gI (gL a0)) true))
 else
 (((gI (gL a0)) (decide (16 < ((a0.L.length:Nat):Int))))))
def jL (a0:Value) (N:Nat):Option (Bool):=
 if a0.N=0 then
 (((fA a0 (fG a0)) false))
 else
 (if a0.Kind=1 then
 (((fA a0 (fG a0)) false))
 else
 (if a0.Kind=2 then
 (((fA a0 (fG a0)) (!decide (a0.N=1))))
 else
 (((fA a0 (fG a0)) true))))
def gP (N:Nat) (a0:Value):Option (Bool):=
 if a0.Kind < 0 then
 (((jM (jL a0 N)) true))
 else
 (((jM (jL a0 N)) (decide (5 < a0.Kind))))
def eI (N:Nat) (a0:Reply):Option (Bool):=
 (iv N a0.Client_).bind fun r2=>
 if r2=true then
 ((gM N a0.Seq).bind fun r3=>
 if r3=true then
 (if ((a0.Path.length:Nat):Int)=0 then
 (if 0<=a0.Err then
 (if a0.Err<=27 then
 ((gP N a0.Value_).bind fun r4=>
 if r4=true then
 (if a0.Err=0 then
 ((some true))
 else
 ((some (decide (a0.Value_.Kind=0)))))
 else
 ((some false)))
 else
 ((some false)))
 else
 ((some false)))
 else
 ((some false)))
 else
 ((some false)))
 else
 ((some false))
def eP (kx1:Option (Bool)) (c4:Bool):Option (Bool):=
 if c4=true then
 (some false)
 else
 (kx1)
def iA (kx13:Option (Bool)) (c15:Bool):Option (Bool):=
 if c15=true then
 (some false)
 else
 (kx13)
def iw (rec8:Int->Option (Bool)) (x10:Int):Option (Bool):=
 ((rec8 x10))
def ef (kx5:Option (Bool)):List Int->Nat->Int->Option (Bool)
 | [],v7,v6=>
  kx5
 | x10::xs,v7,v6=>
  (if x10<=v6 then
  (((iA (iw (ef kx5 xs (v7+1)) x10)) true))
  else
  (((iA (iw (ef kx5 xs (v7+1)) x10)) (decide (1099511627776 < x10)))))
def ed (kx24:Option (Bool)) (c28:Bool):Option (Bool):=
 if c28=true then
 (some false)
 else
 (kx24)
def ek (rec19:Int->Option (Bool)) (x21:Answer):Option (Bool):=
 ((rec19 x21.Seq))
def bW (N:Nat) (a0:Client):List Answer->Nat->Int->Option (Bool)
 | [],v18,v17=>
  (some true)
 | x21::xs,v18,v17=>
  (if x21.Seq<=v17 then
  (((ed (ek (bW N a0 xs (v18+1)) x21)) true))
  else
  ((ff N a0.Open x21.Seq).bind fun r26=>
  if r26=true then
  (((ed (ek (bW N a0 xs (v18+1)) x21)) true))
  else
  ((eI N x21.Reply_).bind fun r27=>
  if r27=true then
  (if (sEq x21.Reply_.Client_ a0.Name)=true then
  (((ed (ek (bW N a0 xs (v18+1)) x21)) (!decide (x21.Reply_.Seq=x21.Seq))))
  else
  (((ed (ek (bW N a0 xs (v18+1)) x21)) true)))
  else
  (((ed (ek (bW N a0 xs (v18+1)) x21)) true)))))
def kW (N:Nat) (a0:Client):Option (Bool):=
 (bW N a0 a0.Done 0 a0.Low)
def eT (N:Nat) (a0:Client):Option (Bool):=
 (ef (kW N a0) a0.Open 0 a0.Low)
def fW (N:Nat) (a0:Client):Option (Bool):=
 (iv N a0.Name).bind fun r3=>
 if r3=true then
 (if a0.Low < 0 then
 (((eP (eT N a0)) true))
 else
 (if 1099511627776 < a0.Low then
 (((eP (eT N a0)) true))
 else
 (((eP (eT N a0)) (decide (16 < (IntKind.i64.wrap (((a0.Open.length:Nat):Int)+((a0.Done.length:Nat):Int)))))))))
 else
 (((eP (eT N a0)) true))
def kG (rec4:Unit->Option (Bool)) (c12:Bool):Option (Bool):=
 if c12=true then
 (some false)
 else
 (((rec4 ())))
def fC (N:Nat) (a0:(List Client)):List Client->Nat->Unit->Option (Bool)
 | [],v3,()=>
  (some true)
 | x6::xs,v3,()=>
  ((fW N x6).bind fun r10=>
  if r10=true then
  (if 0 < ((v3:Nat):Int) then
  (gx a0 (IntKind.i64.wrap (((v3:Nat):Int) - 1)) fun x11=>
  ((kG (fC N a0 xs (v3+1))) (!(sLt x11.Name x6.Name))))
  else
  (((kG (fC N a0 xs (v3+1))) false)))
  else
  (((kG (fC N a0 xs (v3+1))) true)))
def fg (N:Nat) (a0:(List Client)):Option (Bool):=
 if 32 < ((a0.length:Nat):Int) then
 (some false)
 else
 (((fC N a0 a0 0 ())))
def dD (N:Nat) (a0:(List Int)):Option ((List Int)):=
 (apn 7 a0 <|
 some a0)
def dE (N:Nat) (a0:(List ByteArray)):Option ((List ByteArray)):=
 (apn 15 a0 <|
 some a0)
def ei (N:Nat) (a0:Reply):Option (Reply):=
 (dD N a0.Value_.I).bind fun r1=>
 (dE N a0.Value_.L).bind fun r2=>
 some (Reply.mk a0.Client_ a0.Seq [] a0.Err (Value.mk a0.Value_.Kind a0.Value_.N a0.Value_.S r1 r2))
def fL (kx12:Option (Int × Reply)) (a2:Int):List Int->Nat->Unit->Option (Int × Reply)
 | [],v13,()=>
  kx12
 | x16::xs,v13,()=>
  (if x16=a2 then
  (some (1,(Reply.mk (⟨#[]⟩) 0 [] 0 (Value.mk 0 0 (⟨#[]⟩) [] []))))
  else
  ((((fL kx12 a2 xs (v13+1)) ()))))
def gV (kx19:Option (Int × Reply)) (a2:Int) (N:Nat):List Answer->Nat->Unit->Option (Int × Reply)
 | [],v20,()=>
  kx19
 | x23::xs,v20,()=>
  (if x23.Seq=a2 then
  ((ei N x23.Reply_).bind fun r26=>
  some (2,r26))
  else
  ((((gV kx19 a2 N xs (v20+1)) ()))))
def oO  : Option (Int × Reply):=
 (some (0,(Reply.mk (⟨#[]⟩) 0 [] 0 (Value.mk 0 0 (⟨#[]⟩) [] []))))
def oI (a2:Int) (N:Nat) (x7:Client):Option (Int × Reply):=
 (gV oO a2 N x7.Done 0 ())
def gQ (a1:ByteArray) (a2:Int) (N:Nat):List Client->Nat->Unit->Option (Int × Reply)
 | [],v4,()=>
  (some (0,(Reply.mk (⟨#[]⟩) 0 [] 0 (Value.mk 0 0 (⟨#[]⟩) [] []))))
 | x7::xs,v4,()=>
  (if (sEq x7.Name a1)=true then
  ((if a2<=x7.Low then
  (some (3,(Reply.mk (⟨#[]⟩) 0 [] 0 (Value.mk 0 0 (⟨#[]⟩) [] []))))
  else
  (((fL (oI a2 N x7) a2 x7.Open 0 ())))))
  else
  ((((gQ a1 a2 N xs (v4+1)) ()))))
def fm (N:Nat) (a0:(List Client)) (a1:ByteArray) (a2:Int):Option (Int × Reply):=
 (fg N a0).bind fun r2=>
 if r2=true then
 (((gQ a1 a2 N a0 0 ())))
 else
 (some (0,(Reply.mk (⟨#[]⟩) 0 [] 0 (Value.mk 0 0 (⟨#[]⟩) [] []))))
def dV (N:Nat) (a0:(List Client)) (a1:ByteArray) (a2:Int):Option (Int):=
 (fm N a0 a1 a2).bind fun r1=>
 some r1.1
def iY (N:Nat) (a0:Client) (a1:ByteArray):Option (Int):=
 if (sLt a0.Name a1)=true then
 (some (-1))
 else
 (if (sLt a0.Name a1 || sEq a0.Name a1)=true then
 ((some 0))
 else
 (some 1))
def aH (a0:(List Client)) (N:Nat) (a1:ByteArray) (kx1:Int->Option (Int × Bool)):Nat->Int × Int->Option (Int × Bool)
 | 0,_=>none
 | n+1,(v2,v3)=>
  if v2 < v3 then
  ((gx a0 (IntKind.i64.wrap (shrI .u64 (IntKind.u64.wrap (IntKind.i64.wrap (v2+v3))) 1)) fun x6=>
  (iY N x6 a1).bind fun r7=>
  if r7 < 0 then
  (((aH a0 N a1 kx1 n) (IntKind.i64.wrap ((IntKind.i64.wrap (shrI .u64 (IntKind.u64.wrap (IntKind.i64.wrap (v2+v3))) 1))+1),v3)))
  else
  (((aH a0 N a1 kx1 n) (v2,IntKind.i64.wrap (shrI .u64 (IntKind.u64.wrap (IntKind.i64.wrap (v2+v3))) 1))))))
  else
  ((kx1 v2))
def bQ (a0:(List Client)) (N:Nat) (a1:ByteArray) (v8:Int):Option (Int × Bool):=
 if v8 < ((a0.length:Nat):Int) then
 (gx a0 v8 fun x10=>
 (iY N x10 a1).bind fun r11=>
 (some (v8,(decide (r11=0)))))
 else
 ((some (v8,false)))
def bq (N:Nat) (a0:(List Client)) (a1:ByteArray):Option (Int × Bool):=
 (aH a0 N a1 (bQ a0 N a1) N (0,((a0.length:Nat):Int)))
def jG (N:Nat) (a0:(List Client)) (a1:ByteArray):Option (Int × Bool):=
 (bq N a0 a1).bind fun r1=>
 some (r1.1,r1.2)
def dG (N:Nat) (a0:(List Client)):Option ((List Client)):=
 (apn 71 a0 <|
 some a0)
def dI (N:Nat) (a0:(List Answer)):Option ((List Answer)):=
 (apn 143 a0 <|
 some a0)
def gi (rec5:List Client->Option ((List Client))) (l3:List Client) (v4:Nat) (x9:Client) (r10:(List Int)) (N:Nat):Nat->Nat->List Answer->Option ((List Client))
 | 0,v13,l12=>
  ((rec5 (l3.set v4 (Client.mk x9.Name x9.Low r10 l12))))
 | m+1,v13,l12=>
  (gx l3 ((v4:Nat):Int) fun x18=>
  gx l12 ((v13:Nat):Int) fun x19=>
  (ei N x19.Reply_).bind fun r20=>
  (((gi rec5 l3 v4 x9 r10 N m (v13+1)) (l12.set v13 (Answer.mk x19.Seq r20)))))
def gh (N:Nat):Nat->Nat->List Client->Option ((List Client))
 | 0,v4,l3=>
  lenG l3 v4 <|
  (some l3)
 | m+1,v4,l3=>
  (gx l3 ((v4:Nat):Int) fun x9=>
  (dD N x9.Open).bind fun r10=>
  (dI N x9.Done).bind fun r11=>
  (gi (gh N m (v4+1)) l3 v4 x9 r10 N (r11.length - 0) 0 r11))
def fK (N:Nat) (a0:(List Client)):Option ((List Client)):=
 (dG N a0).bind fun r1=>
 (gh N (r1.length - 0) 0 r1)
def bX (N:Nat) (a0:List Client) (a1:Int) (a2:List Client):Option (List Client):=insM 71 a0 a1 a2 fun l=>some l
def jt (N:Nat) (a0:Int):Option (Bool):=
 some (!decide (a0=a0))
def kO (N:Nat) (a0:Int) (a1:Int):Option (Bool):=
 (jt N a0).bind fun r2=>
 if r2=true then
 ((jt N a1).bind fun r3=>
 if r3=true then
 ((some (decide (a0 < a1))))
 else
 ((some true)))
 else
 ((some (decide (a0 < a1))))
def gm (N:Nat) (a0:Int):Option (Bool):=
 some (!decide (a0=a0))
def dh (a0:(List Int)) (N:Nat) (a1:Int) (kx1:Int->Option (Int × Bool)):Nat->Int × Int->Option (Int × Bool)
 | 0,_=>none
 | n+1,(v2,v3)=>
  if v2 < v3 then
  ((gx a0 (IntKind.i64.wrap (shrI .u64 (IntKind.u64.wrap (IntKind.i64.wrap (v2+v3))) 1)) fun x6=>
  (kO N x6 a1).bind fun r7=>
  if r7=true then
  (((dh a0 N a1 kx1 n) (IntKind.i64.wrap ((IntKind.i64.wrap (shrI .u64 (IntKind.u64.wrap (IntKind.i64.wrap (v2+v3))) 1))+1),v3)))
  else
  (((dh a0 N a1 kx1 n) (v2,IntKind.i64.wrap (shrI .u64 (IntKind.u64.wrap (IntKind.i64.wrap (v2+v3))) 1))))))
  else
  ((kx1 v2))
def fw (a0:(List Int)) (a1:Int) (N:Nat) (v8:Int):Option (Int × Bool):=
 if v8 < ((a0.length:Nat):Int) then
 (gx a0 v8 fun x10=>
 if x10=a1 then
 ((some (v8,true)))
 else
 ((gm N x10).bind fun r11=>
 if r11=true then
 ((gm N a1).bind fun r12=>
 (some (v8,r12)))
 else
 ((some (v8,false)))))
 else
 ((some (v8,false)))
def dN (N:Nat) (a0:(List Int)) (a1:Int):Option (Int × Bool):=
 (dh a0 N a1 (fw a0 a1 N) N (0,((a0.length:Nat):Int)))
def eW (N:Nat) (a0:List Int) (a1:Int) (a2:List Int):Option (List Int):=insM 7 a0 a1 a2 fun l=>some l
def fX (kx1:Option ((List Client) × Int)) (c6:Bool):Option ((List Client) × Int):=
 if c6=true then
 (some ([],1))
 else
 (kx1)
def jv (kx7:Option ((List Client) × Int)) (c10:Bool):Option ((List Client) × Int):=
 if c10=true then
 (some ([],7))
 else
 (kx7)
def jq (kx12:Bool->Option ((List Client) × Int)) (c15:Bool) (c16:Bool):Option ((List Client) × Int):=
 if c16=true then
 (some ([],5))
 else
 ((kx12 c15))
def jx (N:Nat) (a0:(List Client)) (r11:Int × Bool) (a2:Int) (a1:ByteArray) (c17:Bool):Option ((List Client) × Int):=
 (fK N a0).bind fun r18=>
 if c17=true then
 ((gx r18 r11.1 fun x21=>
 (dN N x21.Open a2).bind fun r22=>
 (eW N x21.Open r22.1 [a2]).bind fun r23=>
 some ((r18.set ((r11.1).toNat) (Client.mk x21.Name x21.Low r23 x21.Done)),0)))
 else
 ((bX N r18 r11.1 [(Client.mk a1 0 [] [])]).bind fun r20=>
 (gx r20 r11.1 fun x24=>
 (dN N [] a2).bind fun r25=>
 (eW N [] r25.1 [a2]).bind fun r26=>
 some ((r20.set ((r11.1).toNat) (Client.mk a1 0 r26 [])),0)))
def mX (N:Nat) (a0:(List Client)) (a1:ByteArray) (a2:Int):Option ((List Client) × Int):=
 (jG N a0 a1).bind fun r11=>
 if r11.2=true then
 (gx a0 r11.1 fun x14=>
 if (IntKind.i64.wrap (((x14.Open.length:Nat):Int)+((x14.Done.length:Nat):Int)))=16 then
 (((jq (jx N a0 r11 a2 a1)) true true))
 else
 (((jq (jx N a0 r11 a2 a1)) true false)))
 else
 (((jq (jx N a0 r11 a2 a1)) false (decide (((a0.length:Nat):Int)=32))))
def lh (N:Nat) (a0:(List Client)) (a1:ByteArray) (a2:Int):Option ((List Client) × Int):=
 (dV N a0 a1 a2).bind fun r8=>
 if r8=3 then
 (some ([],8))
 else
 (if r8=1 then
 (((jv (mX N a0 a1 a2)) true))
 else
 (((jv (mX N a0 a1 a2)) (decide (r8=2)))))
def fQ (N:Nat) (a0:(List Client)) (a1:ByteArray) (a2:Int):Option ((List Client) × Int):=
 (fg N a0).bind fun r3=>
 if r3=true then
 ((iv N a1).bind fun r4=>
 if r4=true then
 ((gM N a2).bind fun r5=>
 ((fX (lh N a0 a1 a2)) (!r5)))
 else
 (((fX (lh N a0 a1 a2)) true)))
 else
 (((fX (lh N a0 a1 a2)) true))
def gw (N:Nat) (a0:Int) (c0_0:ByteArray) (c0_1:Int) (c0_2:(List Int)) (c0_3:Int) (c0_4:Int) (c0_5:Int) (c0_6:ByteArray) (c0_7:(List Int)) (c0_8:(List ByteArray)):Option (Bool):=
 some (decide (a0=c0_1))
def bk (N:Nat) (k1_0_0:ByteArray) (k1_0_1:Int) (k1_0_2:(List Int)) (k1_0_3:Int) (k1_0_4:Int) (k1_0_5:Int) (k1_0_6:ByteArray) (k1_0_7:(List Int)) (k1_0_8:(List ByteArray)):List Int->Nat->Unit->Option (Int)
 | [],v2,()=>
  (some (-1))
 | x5::xs,v2,()=>
  ((gw N x5 k1_0_0 k1_0_1 k1_0_2 k1_0_3 k1_0_4 k1_0_5 k1_0_6 k1_0_7 k1_0_8).bind fun r8=>
  if r8=true then
  (some ((v2:Nat):Int))
  else
  ((((bk N k1_0_0 k1_0_1 k1_0_2 k1_0_3 k1_0_4 k1_0_5 k1_0_6 k1_0_7 k1_0_8 xs (v2+1)) ()))))
def bZ (N:Nat) (a0:(List Int)) (k1_0_0:ByteArray) (k1_0_1:Int) (k1_0_2:(List Int)) (k1_0_3:Int) (k1_0_4:Int) (k1_0_5:Int) (k1_0_6:ByteArray) (k1_0_7:(List Int)) (k1_0_8:(List ByteArray)):Option (Int):=
 (bk N k1_0_0 k1_0_1 k1_0_2 k1_0_3 k1_0_4 k1_0_5 k1_0_6 k1_0_7 k1_0_8 a0 0 ())
def aS (N:Nat) (k1_0_0:ByteArray) (k1_0_1:Int) (k1_0_2:(List Int)) (k1_0_3:Int) (k1_0_4:Int) (k1_0_5:Int) (k1_0_6:ByteArray) (k1_0_7:(List Int)) (k1_0_8:(List ByteArray)) (kx3:(List Int)->Int->Option ((List Int))):Nat->List Int × Int × Int->Option ((List Int))
 | 0,_=>none
 | n+1,(l4,v5,v6)=>
  if v6 < ((l4.length:Nat):Int) then
  ((gx l4 v6 fun x10=>
  (gw N x10 k1_0_0 k1_0_1 k1_0_2 k1_0_3 k1_0_4 k1_0_5 k1_0_6 k1_0_7 k1_0_8).bind fun r11=>
  if r11=true then
  ((((aS N k1_0_0 k1_0_1 k1_0_2 k1_0_3 k1_0_4 k1_0_5 k1_0_6 k1_0_7 k1_0_8 kx3 n) (l4,v5,IntKind.i64.wrap (v6+1)))))
  else
  (gx l4 v5 fun x12=>
  (((aS N k1_0_0 k1_0_1 k1_0_2 k1_0_3 k1_0_4 k1_0_5 k1_0_6 k1_0_7 k1_0_8 kx3 n) ((l4.set ((v5).toNat) x10),(IntKind.i64.wrap (v5+1)),IntKind.i64.wrap (v6+1)))))))
  else
  ((kx3 l4 v5))
def bL (l15:List Int) (v16:Int):Option ((List Int)):=
 slx l15 v16 ((l15.length:Nat):Int) fun l17=>
 slx (clrL 0 (v16).toNat l15) 0 v16 fun l18=>
 some ((clrL 0 (v16).toNat l15).take ((v16).toNat))
def bu (N:Nat) (a0:(List Int)) (k1_0_0:ByteArray) (k1_0_1:Int) (k1_0_2:(List Int)) (k1_0_3:Int) (k1_0_4:Int) (k1_0_5:Int) (k1_0_6:ByteArray) (k1_0_7:(List Int)) (k1_0_8:(List ByteArray)):Option ((List Int)):=
 (bZ N a0 k1_0_0 k1_0_1 k1_0_2 k1_0_3 k1_0_4 k1_0_5 k1_0_6 k1_0_7 k1_0_8).bind fun r1=>
 if r1=(-1) then
 (some a0)
 else
 (((aS N k1_0_0 k1_0_1 k1_0_2 k1_0_3 k1_0_4 k1_0_5 k1_0_6 k1_0_7 k1_0_8 bL N (a0,r1,IntKind.i64.wrap (r1+1)))))
def eN (N:Nat) (a0:List Answer) (a1:Int) (a2:List Answer):Option (List Answer):=insM 143 a0 a1 a2 fun l=>some l
def j4 (N:Nat) (a0:(List Client)) (a1:Reply) (kx1:Option ((List Client) × Int)) (c5:Bool):Option ((List Client) × Int):=
 if c5=true then
 (some ([],1))
 else
 ((dV N a0 a1.Client_ a1.Seq).bind fun r6=>
 if r6=1 then
 (kx1)
 else
 (some ([],6)))
def gS (kx11:Int->Option ((List Client) × Int)) (a1:Reply):List Answer->Nat->Unit->Option ((List Client) × Int)
 | [],v12,()=>
  ((kx11 ((v12:Nat):Int)))
 | x16::xs,v12,()=>
  (if x16.Seq < a1.Seq then
  ((((gS kx11 a1 xs (v12+1)) ())))
  else
  ((kx11 ((v12:Nat):Int))))
def oU (N:Nat) (a1:Reply) (x9:Client) (r7:(List Client)) (r8:Int × Bool) (r10:(List Int)) (v19:Int):Option ((List Client) × Int):=
 (ei N a1).bind fun r20=>
 (eN N x9.Done v19 [(Answer.mk a1.Seq r20)]).bind fun r21=>
 some ((r7.set ((r8.1).toNat) (Client.mk x9.Name x9.Low r10 r21)),0)
def lS (N:Nat) (a0:(List Client)) (a1:Reply):Option ((List Client) × Int):=
 (fK N a0).bind fun r7=>
 (jG N r7 a1.Client_).bind fun r8=>
 gx r7 r8.1 fun x9=>
 (bu N x9.Open a1.Client_ a1.Seq a1.Path a1.Err a1.Value_.Kind a1.Value_.N a1.Value_.S a1.Value_.I a1.Value_.L).bind fun r10=>
 (gS (oU N a1 x9 r7 r8 r10) a1 x9.Done 0 ())
def fj (N:Nat) (a0:(List Client)) (a1:Reply):Option ((List Client) × Int):=
 (fg N a0).bind fun r3=>
 if r3=true then
 ((eI N a1).bind fun r4=>
 ((j4 N a0 a1 (lS N a0 a1)) (!r4)))
 else
 (((j4 N a0 a1 (lS N a0 a1)) true))
def iI (N:Nat) (a0:(List Client)) (a1:ByteArray) (a2:Int):Option (Reply × Bool):=
 (fm N a0 a1 a2).bind fun r1=>
 some (r1.2,(decide (r1.1=2)))
def dQ (kx1:Option ((List Client) × Int)) (c6:Bool):Option ((List Client) × Int):=
 if c6=true then
 (some ([],1))
 else
 (kx1)
def eS (kx8:Option ((List Client) × Int)) (c12:Bool):Option ((List Client) × Int):=
 if c12=true then
 (some ([],12))
 else
 (kx8)
def fO (N:Nat) (a0:(List Client)) (r7:Int × Bool) (a2:Int):Option ((List Client) × Int):=
 (fK N a0).bind fun r13=>
 gx r13 r7.1 fun x14=>
 (delAck N x14.Done (if a2 > x14.Low then a2 else x14.Low)).bind fun r15=>
 some ((r13.set ((r7.1).toNat) (Client.mk x14.Name (if a2 > x14.Low then a2 else x14.Low) x14.Open r15)),0)
def fN (N:Nat) (a0:(List Client)) (a1:ByteArray) (a2:Int):Option ((List Client) × Int):=
 (jG N a0 a1).bind fun r7=>
 if r7.2=true then
 (gx a0 r7.1 fun x10=>
 if 0 < ((x10.Open.length:Nat):Int) then
 (gx x10.Open 0 fun x11=>
 ((eS (fO N a0 r7 a2)) (decide (x11<=a2))))
 else
 (((eS (fO N a0 r7 a2)) false)))
 else
 (some ([],6))
def dL (N:Nat) (a0:(List Client)) (a1:ByteArray) (a2:Int):Option ((List Client) × Int):=
 (fg N a0).bind fun r3=>
 if r3=true then
 ((iv N a1).bind fun r4=>
 if r4=true then
 ((gM N a2).bind fun r5=>
 ((dQ (fN N a0 a1 a2)) (!r5)))
 else
 (((dQ (fN N a0 a1 a2)) true)))
 else
 (((dQ (fN N a0 a1 a2)) true))
def mO (N:Nat)  : Option (Bool):=
 (fQ N [] (⟨#[99]⟩) 1).bind fun r1=>
 (fQ N r1.1 (⟨#[99]⟩) 1).bind fun r2=>
 (fj N r1.1 (Reply.mk (⟨#[99]⟩) 1 [] 0 (Value.mk 1 5 (⟨#[]⟩) [] []))).bind fun r3=>
 (iI N r3.1 (⟨#[99]⟩) 1).bind fun r4=>
 (dL N r3.1 (⟨#[99]⟩) 1).bind fun r5=>
 if r1.2=0 then
 (if r2.2=7 then
 (if r3.2=0 then
 (if r4.2=true then
 (if r4.1.Value_.N=5 then
 (if r5.2=0 then
 ((dV N r1.1 (⟨#[99]⟩) 1).bind fun r7=>
 if r7=1 then
 ((dV N r3.1 (⟨#[99]⟩) 1).bind fun r8=>
 if r8=2 then
 ((dV N r5.1 (⟨#[99]⟩) 1).bind fun r9=>
 if r9=3 then
 ((dV N r5.1 (⟨#[99]⟩) 2).bind fun r10=>
 (some (decide (r10=0))))
 else
 ((some false)))
 else
 ((some false)))
 else
 ((some false)))
 else
 ((some false)))
 else
 ((some false)))
 else
 ((some false)))
 else
 ((some false)))
 else
 ((some false)))
 else
 ((some false))
def iQ (kx1:Option (Bool)):List ByteArray->Nat->Unit->Option (Bool)
 | [],v2,()=>
  kx1
 | x5::xs,v2,()=>
  (if 200 < ((x5.size:Nat):Int) then
  (some false)
  else
  ((((iQ kx1 xs (v2+1)) ()))))
def pP (a0:Reply):Option (Bool):=
 if ((a0.Client_.size:Nat):Int)<=100 then
 (if ((a0.Path.length:Nat):Int)<=40 then
 (if ((a0.Value_.S.size:Nat):Int)<=200 then
 (if ((a0.Value_.I.length:Nat):Int)<=40 then
 ((some (decide (((a0.Value_.L.length:Nat):Int)<=40))))
 else
 ((some false)))
 else
 ((some false)))
 else
 ((some false)))
 else
 ((some false))
def kj (N:Nat) (a0:Reply):Option (Bool):=
 (iQ (pP a0) a0.Value_.L 0 ())
def kC (kx8:Option (Bool)) (c10:Bool):Option (Bool):=
 if c10=true then
 (some false)
 else
 (kx8)
def iJ (x5:Client) (N:Nat) (rec3:Unit->Option (Bool)):Nat->Int->Option (Bool)
 | 0,_=>none
 | n+1,v11=>
  if v11 < ((x5.Done.length:Nat):Int) then
  ((gx x5.Done v11 fun x15=>
  (kj N x15.Reply_).bind fun r16=>
  if r16=true then
  ((((iJ x5 N rec3 n) (IntKind.i64.wrap (v11+1)))))
  else
  (some false)))
  else
  (((rec3 ())))
def kH (x5:Client) (N:Nat) (rec3:Unit->Option (Bool)):Option (Bool):=
 (iJ x5 N rec3 N 0)
def fE (a0:(List Client)) (N:Nat):List Client->Nat->Unit->Option (Bool)
 | [],v2,()=>
  (some (decide (((a0.length:Nat):Int)<=40)))
 | x5::xs,v2,()=>
  (if 100 < ((x5.Name.size:Nat):Int) then
  (((kC (kH x5 N (fE a0 N xs (v2+1)))) true))
  else
  (if 40 < ((x5.Open.length:Nat):Int) then
  (((kC (kH x5 N (fE a0 N xs (v2+1)))) true))
  else
  (((kC (kH x5 N (fE a0 N xs (v2+1)))) (decide (40 < ((x5.Done.length:Nat):Int)))))))
def lC (N:Nat) (a0:(List Client)):Option (Bool):=
 (fE a0 N a0 0 ())
def eH (N:Nat) (a0:ByteArray):Option (Bool):=
 if 1<=((a0.size:Nat):Int) then
 ((some (decide (((a0.size:Nat):Int)<=32))))
 else
 ((some false))
def jy (a1:Int):List Int->Nat->Unit->Option (Int)
 | [],v2,()=>
  (some (-1))
 | x5::xs,v2,()=>
  (if x5=a1 then
  (some ((v2:Nat):Int))
  else
  ((((jy a1 xs (v2+1)) ()))))
def oP (N:Nat) (a0:(List Int)) (a1:Int):Option (Int):=
 (jy a1 a0 0 ())
def fq (N:Nat) (a0:(List Int)) (a1:Int):Option (Bool):=
 (oP N a0 a1).bind fun r1=>
 some (decide (0<=r1))
def ai (kx1:Option (Bool)) (c3:Bool):Option (Bool):=
 if c3=true then
 (some false)
 else
 (kx1)
def bg (kx4:Option (Bool)) (c6:Bool):Option (Bool):=
 if c6=true then
 (some false)
 else
 (kx4)
def fI  : List ByteArray->Nat->Unit->Option (Bool)
 | [],v8,()=>
  (some true)
 | x11::xs,v8,()=>
  (if 64 < ((x11.size:Nat):Int) then
  (some false)
  else
  ((((fI xs (v8+1)) ()))))
def bj (a0:Value):Option (Bool):=
 (fI a0.L 0 ())
def aj (a0:Value) (N:Nat):Option (Bool):=
 if a0.Kind < 0 then
 (((bg (bj a0)) true))
 else
 (if 5 < a0.Kind then
 (((bg (bj a0)) true))
 else
 (if a0.Kind=2 then
 (if a0.N=0 then
 (if 64 < ((a0.S.size:Nat):Int) then
 (((bg (bj a0)) true))
 else
 (if 16 < ((a0.I.length:Nat):Int) then
 (((bg (bj a0)) true))
 else
 (((bg (bj a0)) (decide (16 < ((a0.L.length:Nat):Int)))))))
 else
 (if a0.N=1 then
 (if 64 < ((a0.S.size:Nat):Int) then
 (((bg (bj a0)) true))
 else
 (if 16 < ((a0.I.length:Nat):Int) then
 (((bg (bj a0)) true))
 else
 (((bg (bj a0)) (decide (16 < ((a0.L.length:Nat):Int)))))))
 else
 (((bg (bj a0)) true))))
 else
 (if 64 < ((a0.S.size:Nat):Int) then
 (((bg (bj a0)) true))
 else
 (if 16 < ((a0.I.length:Nat):Int) then
 (((bg (bj a0)) true))
 else
 (((bg (bj a0)) (decide (16 < ((a0.L.length:Nat):Int)))))))))
def gU (N:Nat) (a0:Value):Option (Bool):=
 if a0.Kind=1 then
 (if a0.Kind=3 then
 (if a0.Kind=4 then
 (if a0.Kind=5 then
 (((ai (aj a0 N)) false))
 else
 (((ai (aj a0 N)) (decide (0 < ((a0.L.length:Nat):Int))))))
 else
 (if 0 < ((a0.I.length:Nat):Int) then
 (((ai (aj a0 N)) true))
 else
 (if a0.Kind=5 then
 (((ai (aj a0 N)) false))
 else
 (((ai (aj a0 N)) (decide (0 < ((a0.L.length:Nat):Int))))))))
 else
 (if (sEq a0.S (⟨#[]⟩))=true then
 (if a0.Kind=4 then
 (if a0.Kind=5 then
 (((ai (aj a0 N)) false))
 else
 (((ai (aj a0 N)) (decide (0 < ((a0.L.length:Nat):Int))))))
 else
 (if 0 < ((a0.I.length:Nat):Int) then
 (((ai (aj a0 N)) true))
 else
 (if a0.Kind=5 then
 (((ai (aj a0 N)) false))
 else
 (((ai (aj a0 N)) (decide (0 < ((a0.L.length:Nat):Int))))))))
 else
 (((ai (aj a0 N)) true))))
 else
 (if a0.Kind=2 then
 (if a0.Kind=3 then
 (if a0.Kind=4 then
 (if a0.Kind=5 then
 (((ai (aj a0 N)) false))
 else
 (((ai (aj a0 N)) (decide (0 < ((a0.L.length:Nat):Int))))))
 else
 (if 0 < ((a0.I.length:Nat):Int) then
 (((ai (aj a0 N)) true))
 else
 (if a0.Kind=5 then
 (((ai (aj a0 N)) false))
 else
 (((ai (aj a0 N)) (decide (0 < ((a0.L.length:Nat):Int))))))))
 else
 (if (sEq a0.S (⟨#[]⟩))=true then
 (if a0.Kind=4 then
 (if a0.Kind=5 then
 (((ai (aj a0 N)) false))
 else
 (((ai (aj a0 N)) (decide (0 < ((a0.L.length:Nat):Int))))))
 else
 (if 0 < ((a0.I.length:Nat):Int) then
 (((ai (aj a0 N)) true))
 else
 (if a0.Kind=5 then
 (((ai (aj a0 N)) false))
 else
 (((ai (aj a0 N)) (decide (0 < ((a0.L.length:Nat):Int))))))))
 else
 (((ai (aj a0 N)) true))))
 else
 (if a0.N=0 then
 (if a0.Kind=3 then
 (if a0.Kind=4 then
 (if a0.Kind=5 then
 (((ai (aj a0 N)) false))
 else
 (((ai (aj a0 N)) (decide (0 < ((a0.L.length:Nat):Int))))))
 else
 (if 0 < ((a0.I.length:Nat):Int) then
 (((ai (aj a0 N)) true))
 else
 (if a0.Kind=5 then
 (((ai (aj a0 N)) false))
 else
 (((ai (aj a0 N)) (decide (0 < ((a0.L.length:Nat):Int))))))))
 else
 (if (sEq a0.S (⟨#[]⟩))=true then
 (if a0.Kind=4 then
 (if a0.Kind=5 then
 (((ai (aj a0 N)) false))
 else
 (((ai (aj a0 N)) (decide (0 < ((a0.L.length:Nat):Int))))))
 else
 (if 0 < ((a0.I.length:Nat):Int) then
 (((ai (aj a0 N)) true))
 else
 (if a0.Kind=5 then
 (((ai (aj a0 N)) false))
 else
 (((ai (aj a0 N)) (decide (0 < ((a0.L.length:Nat):Int))))))))
 else
 (((ai (aj a0 N)) true))))
 else
 (((ai (aj a0 N)) true))))
def eg (N:Nat) (a0:Reply):Option (Bool):=
 (eH N a0.Client_).bind fun r2=>
 if r2=true then
 (if 1<=a0.Seq then
 (if a0.Seq<=1099511627776 then
 (if ((a0.Path.length:Nat):Int)=0 then
 (if 0<=a0.Err then
 (if a0.Err<=27 then
 ((gU N a0.Value_).bind fun r3=>
 if r3=true then
 (if a0.Err=0 then
 ((some true))
 else
 ((some (decide (a0.Value_.Kind=0)))))
 else
 ((some false)))
 else
 ((some false)))
 else
 ((some false)))
 else
 ((some false)))
 else
 ((some false)))
 else
 ((some false)))
 else
 ((some false))
def iT (kx1:Option (Bool)) (c4:Bool):Option (Bool):=
 if c4=true then
 (some false)
 else
 (kx1)
def iO (rec7:Unit->Option (Bool)) (c14:Bool):Option (Bool):=
 if c14=true then
 (some false)
 else
 (((rec7 ())))
def eA (kx5:Option (Bool)) (a0:Client):List Int->Nat->Unit->Option (Bool)
 | [],v6,()=>
  kx5
 | x9::xs,v6,()=>
  (if x9<=a0.Low then
  (((iO (eA kx5 a0 xs (v6+1))) true))
  else
  (if 1099511627776 < x9 then
  (((iO (eA kx5 a0 xs (v6+1))) true))
  else
  (if 0 < ((v6:Nat):Int) then
  (gx a0.Open (IntKind.i64.wrap (((v6:Nat):Int) - 1)) fun x13=>
  ((iO (eA kx5 a0 xs (v6+1))) (decide (x9<=x13))))
  else
  (((iO (eA kx5 a0 xs (v6+1))) false)))))
def dP (rec17:Unit->Option (Bool)) (c28:Bool):Option (Bool):=
 if c28=true then
 (some false)
 else
 (((rec17 ())))
def bK (a0:Client) (N:Nat):List Answer->Nat->Unit->Option (Bool)
 | [],v16,()=>
  (some true)
 | x19::xs,v16,()=>
  (if x19.Seq<=a0.Low then
  (((dP (bK a0 N xs (v16+1))) true))
  else
  (if 0 < ((v16:Nat):Int) then
  (gx a0.Done (IntKind.i64.wrap (((v16:Nat):Int) - 1)) fun x23=>
  if x19.Seq<=x23.Seq then
  (((dP (bK a0 N xs (v16+1))) true))
  else
  ((fq N a0.Open x19.Seq).bind fun r24=>
  if r24=true then
  (((dP (bK a0 N xs (v16+1))) true))
  else
  ((eg N x19.Reply_).bind fun r25=>
  if r25=true then
  (if (sEq x19.Reply_.Client_ a0.Name)=true then
  (((dP (bK a0 N xs (v16+1))) (!decide (x19.Reply_.Seq=x19.Seq))))
  else
  (((dP (bK a0 N xs (v16+1))) true)))
  else
  (((dP (bK a0 N xs (v16+1))) true)))))
  else
  ((fq N a0.Open x19.Seq).bind fun r26=>
  if r26=true then
  (((dP (bK a0 N xs (v16+1))) true))
  else
  ((eg N x19.Reply_).bind fun r27=>
  if r27=true then
  (if (sEq x19.Reply_.Client_ a0.Name)=true then
  (((dP (bK a0 N xs (v16+1))) (!decide (x19.Reply_.Seq=x19.Seq))))
  else
  (((dP (bK a0 N xs (v16+1))) true)))
  else
  (((dP (bK a0 N xs (v16+1))) true))))))
def pB (a0:Client) (N:Nat):Option (Bool):=
 (bK a0 N a0.Done 0 ())
def iK (a0:Client) (N:Nat):Option (Bool):=
 (eA (pB a0 N) a0 a0.Open 0 ())
def lA (N:Nat) (a0:Client):Option (Bool):=
 (eH N a0.Name).bind fun r3=>
 if r3=true then
 (if a0.Low < 0 then
 (((iT (iK a0 N)) true))
 else
 (if 1099511627776 < a0.Low then
 (((iT (iK a0 N)) true))
 else
 (((iT (iK a0 N)) (decide (16 < (IntKind.i64.wrap (((a0.Open.length:Nat):Int)+((a0.Done.length:Nat):Int)))))))))
 else
 (((iT (iK a0 N)) true))
def kB (rec4:Unit->Option (Bool)) (c12:Bool):Option (Bool):=
 if c12=true then
 (some false)
 else
 (((rec4 ())))
def fD (N:Nat) (a0:(List Client)):List Client->Nat->Unit->Option (Bool)
 | [],v3,()=>
  (some true)
 | x6::xs,v3,()=>
  ((lA N x6).bind fun r10=>
  if r10=true then
  (if 0 < ((v3:Nat):Int) then
  (gx a0 (IntKind.i64.wrap (((v3:Nat):Int) - 1)) fun x11=>
  ((kB (fD N a0 xs (v3+1))) (sLt x6.Name x11.Name || sEq x6.Name x11.Name)))
  else
  (((kB (fD N a0 xs (v3+1))) false)))
  else
  (((kB (fD N a0 xs (v3+1))) true)))
def fi (N:Nat) (a0:(List Client)):Option (Bool):=
 if 32 < ((a0.length:Nat):Int) then
 (some false)
 else
 (((fD N a0 a0 0 ())))
def lz (a1:ByteArray):List Client->Nat->Unit->Option (Client × Bool)
 | [],v2,()=>
  (some ((Client.mk a1 0 [] []),false))
 | x5::xs,v2,()=>
  (if (sEq x5.Name a1)=true then
  (some (x5,true))
  else
  ((((lz a1 xs (v2+1)) ()))))
def kV (N:Nat) (a0:(List Client)) (a1:ByteArray):Option (Client × Bool):=
 (lz a1 a0 0 ())
def jB (a1:Int):List Answer->Nat->Unit->Option (Int)
 | [],v2,()=>
  (some (-1))
 | x5::xs,v2,()=>
  (if x5.Seq=a1 then
  (some ((v2:Nat):Int))
  else
  ((((jB a1 xs (v2+1)) ()))))
def mA (N:Nat) (a0:Client) (a1:Int):Option (Int):=
 (jB a1 a0.Done 0 ())
def lQ (a2:Int) (r1:Client × Bool) (N:Nat) (c5:Bool):Option (Int):=
 if c5=true then
 (some 0)
 else
 (if a2<=r1.1.Low then
 (some 3)
 else
 ((fq N r1.1.Open a2).bind fun r6=>
 if r6=true then
 (some 1)
 else
 ((mA N r1.1 a2).bind fun r7=>
 if 0<=r7 then
 (some 2)
 else
 ((some 0)))))
def fR (N:Nat) (a0:(List Client)) (a1:ByteArray) (a2:Int):Option (Int):=
 (kV N a0 a1).bind fun r1=>
 (fi N a0).bind fun r4=>
 if r4=true then
 (((lQ a2 r1 N) (!r1.2)))
 else
 (((lQ a2 r1 N) true))
def kN (l2:List Int) (a1:Int) (kx10:(List Int)->Bool->Option ((List Int))) (c12:Bool) (c13:Bool):Option ((List Int)):=
 if c13=true then
 (apx 7 l2 [a1] fun l14=>
 (kx10 l14 true))
 else
 ((kx10 l2 c12))
def kE (x7:Int) (rec5:(List Int × Bool)->Option ((List Int))) (l15:List Int) (c16:Bool):Option ((List Int)):=
 apx 7 l15 [x7] fun l17=>
 ((rec5 (l17,c16)))
def et (kx1:(List Int)->Bool->Option ((List Int))) (a1:Int):List Int->Nat->List Int × Bool->Option ((List Int))
 | [],v4,(l2,c3)=>
  (kx1 l2 c3)
 | x7::xs,v4,(l2,c3)=>
  (if c3=true then
  (((kN l2 a1 (kE x7 (et kx1 a1 xs (v4+1)))) true false))
  else
  (((kN l2 a1 (kE x7 (et kx1 a1 xs (v4+1)))) false (decide (a1 < x7)))))
def pL (a1:Int) (l20:List Int) (c21:Bool):Option ((List Int)):=
 if c21=true then
 ((some l20))
 else
 (apx 7 l20 [a1] fun l23=>
 (some l23))
def kh (N:Nat) (a0:(List Int)) (a1:Int):Option ((List Int)):=
 (et (pL a1) a1 a0 0 ([],false))
def l5 (l2:List Client) (a1:Client) (kx10:(List Client)->Bool->Option ((List Client))) (c12:Bool) (c13:Bool):Option ((List Client)):=
 if c13=true then
 (apx 71 l2 [a1] fun l14=>
 (kx10 l14 true))
 else
 ((kx10 l2 c12))
def mh (x7:Client) (a1:Client) (rec5:(List Client × Bool)->Option ((List Client))) (l15:List Client) (c16:Bool):Option ((List Client)):=
 if (sEq x7.Name a1.Name)=true then
 (((rec5 (l15,c16))))
 else
 (apx 71 l15 [x7] fun l17=>
 ((rec5 (l17,c16))))
def fh (kx1:(List Client)->Bool->Option ((List Client))) (a1:Client):List Client->Nat->List Client × Bool->Option ((List Client))
 | [],v4,(l2,c3)=>
  (kx1 l2 c3)
 | x7::xs,v4,(l2,c3)=>
  (if c3=true then
  (((l5 l2 a1 (mh x7 a1 (fh kx1 a1 xs (v4+1)))) true false))
  else
  (((l5 l2 a1 (mh x7 a1 (fh kx1 a1 xs (v4+1)))) false (!(sLt x7.Name a1.Name)))))
def qY (a1:Client) (l20:List Client) (c21:Bool):Option ((List Client)):=
 if c21=true then
 ((some l20))
 else
 (apx 71 l20 [a1] fun l23=>
 (some l23))
def jZ (N:Nat) (a0:(List Client)) (a1:Client):Option ((List Client)):=
 (fh (qY a1) a1 a0 0 ([],false))
def gZ (kx1:Option ((List Client) × Int)) (c5:Bool):Option ((List Client) × Int):=
 if c5=true then
 (some ([],1))
 else
 (kx1)
def ju (kx6:Option ((List Client) × Int)) (c9:Bool):Option ((List Client) × Int):=
 if c9=true then
 (some ([],7))
 else
 (kx6)
def jr (kx11:Option ((List Client) × Int)) (c13:Bool):Option ((List Client) × Int):=
 if c13=true then
 (some ([],5))
 else
 (kx11)
def jn (N:Nat) (r10:Client × Bool) (a2:Int) (a0:(List Client)):Option ((List Client) × Int):=
 (kh N r10.1.Open a2).bind fun r14=>
 (jZ N a0 (Client.mk r10.1.Name r10.1.Low r14 r10.1.Done)).bind fun r15=>
 some (r15,0)
def mY (N:Nat) (a0:(List Client)) (a1:ByteArray) (a2:Int):Option ((List Client) × Int):=
 (kV N a0 a1).bind fun r10=>
 if 16<=(IntKind.i64.wrap (((r10.1.Open.length:Nat):Int)+((r10.1.Done.length:Nat):Int))) then
 (((jr (jn N r10 a2 a0)) true))
 else
 (if r10.2=true then
 (((jr (jn N r10 a2 a0)) false))
 else
 (((jr (jn N r10 a2 a0)) (decide (32<=((a0.length:Nat):Int))))))
def ib (N:Nat) (a0:(List Client)) (a1:ByteArray) (a2:Int):Option ((List Client) × Int):=
 (fR N a0 a1 a2).bind fun r7=>
 if r7=3 then
 (some ([],8))
 else
 (if r7=1 then
 (((ju (mY N a0 a1 a2)) true))
 else
 (((ju (mY N a0 a1 a2)) (decide (r7=2)))))
def gF (N:Nat) (a0:(List Client)) (a1:ByteArray) (a2:Int):Option ((List Client) × Int):=
 (fi N a0).bind fun r3=>
 if r3=true then
 ((eH N a1).bind fun r4=>
 if r4=true then
 (if a2 < 1 then
 (((gZ (ib N a0 a1 a2)) true))
 else
 (((gZ (ib N a0 a1 a2)) (decide (1099511627776 < a2)))))
 else
 (((gZ (ib N a0 a1 a2)) true)))
 else
 (((gZ (ib N a0 a1 a2)) true))
def fY (N:Nat) (a1:(List Int)) (a2:Bool):List Int->Nat->List Int->Option ((List Int))
 | [],v3,l2=>
  (some l2)
 | x6::xs,v3,l2=>
  ((fq N a1 x6).bind fun r9=>
  if r9=a2 then
  (apx 7 l2 [x6] fun l10=>
  (((fY N a1 a2 xs (v3+1)) l10)))
  else
  ((((fY N a1 a2 xs (v3+1)) l2))))
def my (N:Nat) (a0:(List Int)) (a1:(List Int)) (a2:Bool):Option ((List Int)):=
 (fY N a1 a2 a0 0 [])
def jX (kx1:Option ((List Client) × Int)) (c5:Bool):Option ((List Client) × Int):=
 if c5=true then
 (some ([],1))
 else
 (kx1)
def jO (l11:List Answer) (a1:Reply) (kx19:(List Answer)->Bool->Option ((List Client) × Int)) (c21:Bool) (c22:Bool):Option ((List Client) × Int):=
 if c22=true then
 (apx 143 l11 [(Answer.mk a1.Seq a1)] fun l23=>
 (kx19 l23 true))
 else
 ((kx19 l11 c21))
def jR (x16:Answer) (rec14:(List Answer × Bool)->Option ((List Client) × Int)) (l24:List Answer) (c25:Bool):Option ((List Client) × Int):=
 apx 143 l24 [x16] fun l26=>
 ((rec14 (l26,c25)))
def dY (kx10:(List Answer)->Bool->Option ((List Client) × Int)) (a1:Reply):List Answer->Nat->List Answer × Bool->Option ((List Client) × Int)
 | [],v13,(l11,c12)=>
  (kx10 l11 c12)
 | x16::xs,v13,(l11,c12)=>
  (if c12=true then
  (((jO l11 a1 (jR x16 (dY kx10 a1 xs (v13+1)))) true false))
  else
  (((jO l11 a1 (jR x16 (dY kx10 a1 xs (v13+1)))) false (decide (a1.Seq < x16.Seq)))))
def lK (N:Nat) (a0:(List Client)) (r8:Client × Bool) (r9:(List Int)) (l33:List Answer):Option ((List Client) × Int):=
 (jZ N a0 (Client.mk r8.1.Name r8.1.Low r9 l33)).bind fun r34=>
 some (r34,0)
def oR (N:Nat) (a0:(List Client)) (r8:Client × Bool) (r9:(List Int)) (a1:Reply) (l29:List Answer) (c30:Bool):Option ((List Client) × Int):=
 if c30=true then
 (((lK N a0 r8 r9) l29))
 else
 (apx 143 l29 [(Answer.mk a1.Seq a1)] fun l32=>
 ((lK N a0 r8 r9) l32))
def lL (N:Nat) (a0:(List Client)) (a1:Reply):Option ((List Client) × Int):=
 (fR N a0 a1.Client_ a1.Seq).bind fun r7=>
 if r7=1 then
 (((kV N a0 a1.Client_).bind fun r8=>
 (my N r8.1.Open [a1.Seq] false).bind fun r9=>
 (dY (oR N a0 r8 r9 a1) a1 r8.1.Done 0 ([],false))))
 else
 (some ([],6))
def fT (N:Nat) (a0:(List Client)) (a1:Reply):Option ((List Client) × Int):=
 (fi N a0).bind fun r3=>
 if r3=true then
 ((eg N a1).bind fun r4=>
 ((jX (lL N a0 a1)) (!r4)))
 else
 (((jX (lL N a0 a1)) true))
def ej (kx1:Option ((List Client) × Int)) (c5:Bool):Option ((List Client) × Int):=
 if c5=true then
 (some ([],1))
 else
 (kx1)
def eQ (kx8:Option ((List Client) × Int)) (c11:Bool):Option ((List Client) × Int):=
 if c11=true then
 (some ([],12))
 else
 (kx8)
def dR (kx12:(List Answer)->Option ((List Client) × Int)) (a2:Int) (r6:Client × Bool):List Answer->Nat->List Answer->Option ((List Client) × Int)
 | [],v14,l13=>
  (kx12 l13)
 | x17::xs,v14,l13=>
  (if (if a2 > r6.1.Low then a2 else r6.1.Low) < x17.Seq then
  (apx 143 l13 [x17] fun l20=>
  (((dR kx12 a2 r6 xs (v14+1)) l20)))
  else
  ((((dR kx12 a2 r6 xs (v14+1)) l13))))
def ld (N:Nat) (a0:(List Client)) (r6:Client × Bool) (a2:Int) (l22:List Answer):Option ((List Client) × Int):=
 (jZ N a0 (Client.mk r6.1.Name (if a2 > r6.1.Low then a2 else r6.1.Low) r6.1.Open l22)).bind fun r23=>
 some (r23,0)
def fP (N:Nat) (a0:(List Client)) (r6:Client × Bool) (a2:Int):Option ((List Client) × Int):=
 (dR (ld N a0 r6 a2) a2 r6 r6.1.Done 0 [])
def eh (N:Nat) (a0:(List Client)) (a1:ByteArray) (a2:Int):Option ((List Client) × Int):=
 (kV N a0 a1).bind fun r6=>
 if r6.2=true then
 ((if 0 < ((r6.1.Open.length:Nat):Int) then
 (gx r6.1.Open 0 fun x10=>
 ((eQ (fP N a0 r6 a2)) (decide (x10<=a2))))
 else
 (((eQ (fP N a0 r6 a2)) false))))
 else
 (some ([],6))
def dM (N:Nat) (a0:(List Client)) (a1:ByteArray) (a2:Int):Option ((List Client) × Int):=
 (fi N a0).bind fun r3=>
 if r3=true then
 ((eH N a1).bind fun r4=>
 if r4=true then
 (if a2 < 1 then
 (((ej (eh N a0 a1 a2)) true))
 else
 (((ej (eh N a0 a1 a2)) (decide (1099511627776 < a2)))))
 else
 (((ej (eh N a0 a1 a2)) true)))
 else
 (((ej (eh N a0 a1 a2)) true))
def lu (N:Nat) (a0:(List Client)) (a1:ByteArray) (a2:Int):Option (Reply × Bool):=
 (fR N a0 a1 a2).bind fun r2=>
 if r2=2 then
 (((kV N a0 a1).bind fun r3=>
 (mA N r3.1 a2).bind fun r4=>
 gx r3.1.Done r4 fun x5=>
 some (x5.Reply_,true)))
 else
 (some ((Reply.mk (⟨#[]⟩) 0 [] 0 (Value.mk 0 0 (⟨#[]⟩) [] [])),false))
def gB (a1:(List Int)):List Int->Nat->Unit->Option (Bool)
 | [],v3,()=>
  (some true)
 | x6::xs,v3,()=>
  (gx a1 ((v3:Nat):Int) fun x9=>
  if x6=x9 then
  ((((gB a1 xs (v3+1)) ())))
  else
  (some false))
def ia (N:Nat) (a0:(List Int)) (a1:(List Int)):Option (Bool):=
 if ((a0.length:Nat):Int)=((a1.length:Nat):Int) then
 (((gB a1 a0 0 ())))
 else
 (some false)
def fe (a1:(List ByteArray)):List ByteArray->Nat->Unit->Option (Bool)
 | [],v3,()=>
  (some true)
 | x6::xs,v3,()=>
  (gx a1 ((v3:Nat):Int) fun x9=>
  if (sEq x6 x9)=true then
  ((((fe a1 xs (v3+1)) ())))
  else
  (some false))
def jd (N:Nat) (a0:(List ByteArray)) (a1:(List ByteArray)):Option (Bool):=
 if ((a0.length:Nat):Int)=((a1.length:Nat):Int) then
 (((fe a1 a0 0 ())))
 else
 (some false)
def iS (N:Nat) (a0:Value) (a1:Value):Option (Bool):=
 if a0.Kind=a1.Kind then
 (if a0.N=a1.N then
 (if (sEq a0.S a1.S)=true then
 ((ia N a0.I a1.I).bind fun r2=>
 if r2=true then
 ((jd N a0.L a1.L).bind fun r3=>
 (some r3))
 else
 ((some false)))
 else
 ((some false)))
 else
 ((some false)))
 else
 ((some false))
def fM (N:Nat) (a0:Reply) (a1:Reply):Option (Bool):=
 if (sEq a0.Client_ a1.Client_)=true then
 (if a0.Seq=a1.Seq then
 ((ia N a0.Path a1.Path).bind fun r2=>
 if r2=true then
 (if a0.Err=a1.Err then
 ((iS N a0.Value_ a1.Value_).bind fun r3=>
 (some r3))
 else
 ((some false)))
 else
 ((some false)))
 else
 ((some false)))
 else
 ((some false))
def jw (kx10:Option (Bool)) (c13:Bool):Option (Bool):=
 if c13=true then
 (some false)
 else
 (kx10)
def mU (rec15:Unit->Option (Bool)) (c23:Bool):Option (Bool):=
 if c23=true then
 (some false)
 else
 (((rec15 ())))
def ic (rec4:Unit->Option (Bool)) (x9:Client) (N:Nat):List Answer->Nat->Unit->Option (Bool)
 | [],v14,()=>
  ((rec4 ()))
 | x17::xs,v14,()=>
  (gx x9.Done ((v14:Nat):Int) fun x21=>
  if x17.Seq=x21.Seq then
  ((fM N x17.Reply_ x21.Reply_).bind fun r22=>
  ((mU (ic rec4 x9 N xs (v14+1))) (!r22)))
  else
  (((mU (ic rec4 x9 N xs (v14+1))) true)))
def jz (rec4:Unit->Option (Bool)) (x9:Client) (N:Nat) (x6:Client):Option (Bool):=
 (ic rec4 x9 N x6.Done 0 ())
def fu (a1:(List Client)) (N:Nat):List Client->Nat->Unit->Option (Bool)
 | [],v3,()=>
  (some true)
 | x6::xs,v3,()=>
  (gx a1 ((v3:Nat):Int) fun x9=>
  if (sEq x6.Name x9.Name)=true then
  (if x6.Low=x9.Low then
  ((ia N x6.Open x9.Open).bind fun r12=>
  if r12=true then
  (((jw (jz (fu a1 N xs (v3+1)) x9 N x6)) (!decide (((x6.Done.length:Nat):Int)=((x9.Done.length:Nat):Int)))))
  else
  (((jw (jz (fu a1 N xs (v3+1)) x9 N x6)) true)))
  else
  (((jw (jz (fu a1 N xs (v3+1)) x9 N x6)) true)))
  else
  (((jw (jz (fu a1 N xs (v3+1)) x9 N x6)) true)))
def j8 (N:Nat) (a0:(List Client)) (a1:(List Client)):Option (Bool):=
 if ((a0.length:Nat):Int)=((a1.length:Nat):Int) then
 (((fu a1 N a0 0 ())))
 else
 (some false)
def gJ (kx3:Option (Bool)) (c7:Bool):Option (Bool):=
 if c7=true then
 (some true)
 else
 (kx3)
def eJ (N:Nat) (a0:(List Client)) (a1:ByteArray) (a2:Int) (a3:Reply):Option (Bool):=
 (fQ N a0 a1 a2).bind fun r8=>
 (gF N a0 a1 a2).bind fun r9=>
 (fj N a0 a3).bind fun r10=>
 (fT N a0 a3).bind fun r11=>
 (dL N a0 a1 a2).bind fun r12=>
 (dM N a0 a1 a2).bind fun r13=>
 (iI N a0 a1 a2).bind fun r14=>
 (lu N a0 a1 a2).bind fun r15=>
 (j8 N r8.1 r9.1).bind fun r17=>
 if r17=true then
 (if r8.2=r9.2 then
 ((j8 N r10.1 r11.1).bind fun r18=>
 if r18=true then
 (if r10.2=r11.2 then
 ((j8 N r12.1 r13.1).bind fun r19=>
 if r19=true then
 (if r12.2=r13.2 then
 ((fM N r14.1 r15.1).bind fun r20=>
 if r20=true then
 (if r14.2=r15.2 then
 ((dV N a0 a1 a2).bind fun r21=>
 (fR N a0 a1 a2).bind fun r22=>
 if r21=r22 then
 ((fg N a0).bind fun r23=>
 (fi N a0).bind fun r24=>
 if r23=r24 then
 ((eI N a3).bind fun r25=>
 (eg N a3).bind fun r26=>
 (some (decide (r25=r26))))
 else
 ((some false)))
 else
 ((some false)))
 else
 ((some false)))
 else
 ((some false)))
 else
 ((some false)))
 else
 ((some false)))
 else
 ((some false)))
 else
 ((some false)))
 else
 ((some false)))
 else
 ((some false))
def gR (N:Nat) (a0:(List Client)) (a1:ByteArray) (a2:Int) (a3:Reply):Option (Bool):=
 (mO N).bind fun r2=>
 if r2=true then
 (((lC N a0).bind fun r5=>
 if r5=true then
 (if 100 < ((a1.size:Nat):Int) then
 (((gJ (eJ N a0 a1 a2 a3)) true))
 else
 ((kj N a3).bind fun r6=>
 ((gJ (eJ N a0 a1 a2 a3)) (!r6))))
 else
 (((gJ (eJ N a0 a1 a2 a3)) true))))
 else
 (some false)
end Go.Proofs.Yteldkhmcgloafaa
