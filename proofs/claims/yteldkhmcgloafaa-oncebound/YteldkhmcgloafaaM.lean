/- The models of the functions. No statement. -/
import Derived.Test.YteldkhmcgloafaaT
/- The functions of the program as plain functions on plain data. -/
set_option maxHeartbeats 40000000
set_option synthInstance.maxHeartbeats 2000000
set_option synthInstance.maxSize 4000
set_option linter.unusedSimpArgs false
set_option linter.unusedVariables false
set_option maxRecDepth 100000
namespace Go.Proofs.Yteldkhmcgloafaa
open Go Go.Proofs Go.Abs
def delAck (N:Nat) (l:List Answer) (lo:Int):Option (List Answer):=if l.length < N/\l.length<=4611686018427387904 then some (l.filter fun a=>!decide (a.Seq<=lo)) else none
def fS (N:Nat) (a0:ByteArray):Option (Bool):=
 if 1<=((a0.size:Nat):Int) then
 ((some (decide (((a0.size:Nat):Int)<=32))))
 else
 ((some false))
def eb (a1:Int):List Int->Nat->Unit->Option (Int)
 | [],v2,()=>
  (some (-1))
 | x5::xs,v2,()=>
  (if a1=x5 then
  (some ((v2:Nat):Int))
  else
  ((((eb a1 xs (v2+1)) ()))))
def gj (N:Nat) (a0:(List Int)) (a1:Int):Option (Int):=
 (eb a1 a0 0 ())
def ed (N:Nat) (a0:(List Int)) (a1:Int):Option (Bool):=
 (gj N a0 a1).bind fun r1=>
 some (decide (0<=r1))
def fq (N:Nat) (a0:Int):Option (Bool):=
 if 1<=a0 then
 ((some (decide (a0<=1099511627776))))
 else
 ((some false))
def gV (kx1:Option (Bool)) (c3:Bool):Option (Bool):=
 if c3=true then
 (some false)
 else
 (kx1)
def gM (kx7:Bool->Option (Bool)) (a0:Value) (c11:Bool):Option (Bool):=
 if c11=true then
 ((kx7 true))
 else
 (if 0 < ((a0.L.length:Nat):Int) then
 ((kx7 (!decide (a0.Kind=5))))
 else
 ((kx7 false)))
def il (kx7:Bool->Option (Bool)) (a0:Value) (c9:Bool):Option (Bool):=
 if c9=true then
 ((kx7 true))
 else
 (if 0 < ((a0.I.length:Nat):Int) then
 (((gM kx7 a0) (!decide (a0.Kind=4))))
 else
 (((gM kx7 a0) false)))
def gN (kx4:Option (Bool)) (c12:Bool):Option (Bool):=
 if c12=true then
 (some false)
 else
 (kx4)
def eu (a0:Value) (kx4:Option (Bool)) (c6:Bool):Option (Bool):=
 if c6=true then
 (some false)
 else
 (if (sEq a0.S (⟨#[]⟩))=true then
 (((il (gN kx4) a0) false))
 else
 (((il (gN kx4) a0) (!decide (a0.Kind=3)))))
def fu (kx13:Option (Bool)) (c15:Bool):Option (Bool):=
 if c15=true then
 (some false)
 else
 (kx13)
def ew  : List ByteArray->Nat->Unit->Option (Bool)
 | [],v17,()=>
  (some true)
 | x20::xs,v17,()=>
  (if 64 < ((x20.size:Nat):Int) then
  (some false)
  else
  ((((ew xs (v17+1)) ()))))
def fw (a0:Value):Option (Bool):=
 (ew a0.L 0 ())
def eE (a0:Value):Option (Bool):=
 if 64 < ((a0.S.size:Nat):Int) then
 (((fu (fw a0)) true))
 else
 (if 16 < ((a0.I.length:Nat):Int) then
 (((fu (fw a0)) true))
 else
 (((fu (fw a0)) (decide (16 < ((a0.L.length:Nat):Int))))))
def ij (a0:Value) (N:Nat):Option (Bool):=
 if a0.N=0 then
 (((eu a0 (eE a0)) false))
 else
 (if a0.Kind=1 then
 (((eu a0 (eE a0)) false))
 else
 (if a0.Kind=2 then
 (((eu a0 (eE a0)) (!decide (a0.N=1))))
 else
 (((eu a0 (eE a0)) true))))
def fF (N:Nat) (a0:Value):Option (Bool):=
 if a0.Kind < 0 then
 (((gV (ij a0 N)) true))
 else
 (((gV (ij a0 N)) (decide (5 < a0.Kind))))
def ej (N:Nat) (a0:Reply):Option (Bool):=
 (fS N a0.Client_).bind fun r2=>
 if r2=true then
 ((fq N a0.Seq).bind fun r3=>
 if r3=true then
 (if ((a0.Path.length:Nat):Int)=0 then
 (if 0<=a0.Err then
 (if a0.Err<=27 then
 ((fF N a0.Value_).bind fun r4=>
 if r4=true then
 (if a0.Err=0 then
 ((some true))
 else
 ((some (decide (a0.Value_.Kind=0)))))
 else
 ((some false)))
 else
 ((some false)))
 else
 ((some false)))
 else
 ((some false)))
 else
 ((some false)))
 else
 ((some false))
def dR (kx1:Option (Bool)) (c4:Bool):Option (Bool):=
 if c4=true then
 (some false)
 else
 (kx1)
def fR (kx13:Option (Bool)) (c15:Bool):Option (Bool):=
 if c15=true then
 (some false)
 else
 (kx13)
def fT (rec8:Int->Option (Bool)) (x10:Int):Option (Bool):=
 ((rec8 x10))
def dw (kx5:Option (Bool)):List Int->Nat->Int->Option (Bool)
 | [],v7,v6=>
  kx5
 | x10::xs,v7,v6=>
  (if x10<=v6 then
  (((fR (fT (dw kx5 xs (v7+1)) x10)) true))
  else
  (((fR (fT (dw kx5 xs (v7+1)) x10)) (decide (1099511627776 < x10)))))
def du (kx24:Option (Bool)) (c28:Bool):Option (Bool):=
 if c28=true then
 (some false)
 else
 (kx24)
def dz (rec19:Int->Option (Bool)) (x21:Answer):Option (Bool):=
 ((rec19 x21.Seq))
def bz (N:Nat) (a0:Client):List Answer->Nat->Int->Option (Bool)
 | [],v18,v17=>
  (some true)
 | x21::xs,v18,v17=>
  (if x21.Seq<=v17 then
  (((du (dz (bz N a0 xs (v18+1)) x21)) true))
  else
  ((ed N a0.Open x21.Seq).bind fun r26=>
  if r26=true then
  (((du (dz (bz N a0 xs (v18+1)) x21)) true))
  else
  ((ej N x21.Reply_).bind fun r27=>
  if r27=true then
  (if (sEq x21.Reply_.Client_ a0.Name)=true then
  (((du (dz (bz N a0 xs (v18+1)) x21)) (!decide (x21.Reply_.Seq=x21.Seq))))
  else
  (((du (dz (bz N a0 xs (v18+1)) x21)) true)))
  else
  (((du (dz (bz N a0 xs (v18+1)) x21)) true)))))
def iQ (N:Nat) (a0:Client):Option (Bool):=
 (bz N a0 a0.Done 0 a0.Low)
def dT (N:Nat) (a0:Client):Option (Bool):=
 (dw (iQ N a0) a0.Open 0 a0.Low)
def eQ (N:Nat) (a0:Client):Option (Bool):=
 (fS N a0.Name).bind fun r3=>
 if r3=true then
 (if a0.Low < 0 then
 (((dR (dT N a0)) true))
 else
 (if 1099511627776 < a0.Low then
 (((dR (dT N a0)) true))
 else
 (((dR (dT N a0)) (decide (16 < (IntKind.i64.wrap (((a0.Open.length:Nat):Int)+((a0.Done.length:Nat):Int)))))))))
 else
 (((dR (dT N a0)) true))
def iJ (rec4:Unit->Option (Bool)) (c12:Bool):Option (Bool):=
 if c12=true then
 (some false)
 else
 (((rec4 ())))
def eo (N:Nat) (a0:(List Client)):List Client->Nat->Unit->Option (Bool)
 | [],v3,()=>
  (some true)
 | x6::xs,v3,()=>
  ((eQ N x6).bind fun r10=>
  if r10=true then
  (if 0 < ((v3:Nat):Int) then
  (gx a0 (IntKind.i64.wrap (((v3:Nat):Int) - 1)) fun x11=>
  ((iJ (eo N a0 xs (v3+1))) (!(sLt x11.Name x6.Name))))
  else
  (((iJ (eo N a0 xs (v3+1))) false)))
  else
  (((iJ (eo N a0 xs (v3+1))) true)))
def eG (N:Nat) (a0:(List Client)):Option (Bool):=
 if 32 < ((a0.length:Nat):Int) then
 (some false)
 else
 (((eo N a0 a0 0 ())))
def bQ (N:Nat) (a0:(List Int)):Option ((List Int)):=
 (apn 7 a0 <|
 some a0)
def bR (N:Nat) (a0:(List ByteArray)):Option ((List ByteArray)):=
 (apn 15 a0 <|
 some a0)
def dt (N:Nat) (a0:Reply):Option (Reply):=
 (bQ N a0.Value_.I).bind fun r1=>
 (bR N a0.Value_.L).bind fun r2=>
 some (Reply.mk a0.Client_ a0.Seq [] a0.Err (Value.mk a0.Value_.Kind a0.Value_.N a0.Value_.S r1 r2))
def eK (kx12:Option (Int × Reply)) (a2:Int):List Int->Nat->Unit->Option (Int × Reply)
 | [],v13,()=>
  kx12
 | x16::xs,v13,()=>
  (if x16=a2 then
  (some (1,(Reply.mk (⟨#[]⟩) 0 [] 0 (Value.mk 0 0 (⟨#[]⟩) [] []))))
  else
  ((((eK kx12 a2 xs (v13+1)) ()))))
def fG (kx19:Option (Int × Reply)) (a2:Int) (N:Nat):List Answer->Nat->Unit->Option (Int × Reply)
 | [],v20,()=>
  kx19
 | x23::xs,v20,()=>
  (if x23.Seq=a2 then
  ((dt N x23.Reply_).bind fun r26=>
  some (2,r26))
  else
  ((((fG kx19 a2 N xs (v20+1)) ()))))
def ky  : Option (Int × Reply):=
 (some (0,(Reply.mk (⟨#[]⟩) 0 [] 0 (Value.mk 0 0 (⟨#[]⟩) [] []))))
def kF (a2:Int) (N:Nat) (x7:Client):Option (Int × Reply):=
 (fG ky a2 N x7.Done 0 ())
def fC (a1:ByteArray) (a2:Int) (N:Nat):List Client->Nat->Unit->Option (Int × Reply)
 | [],v4,()=>
  (some (0,(Reply.mk (⟨#[]⟩) 0 [] 0 (Value.mk 0 0 (⟨#[]⟩) [] []))))
 | x7::xs,v4,()=>
  (if (sEq x7.Name a1)=true then
  ((if a2<=x7.Low then
  (some (3,(Reply.mk (⟨#[]⟩) 0 [] 0 (Value.mk 0 0 (⟨#[]⟩) [] []))))
  else
  (((eK (kF a2 N x7) a2 x7.Open 0 ())))))
  else
  ((((fC a1 a2 N xs (v4+1)) ()))))
def fx (N:Nat) (a0:(List Client)) (a1:ByteArray) (a2:Int):Option (Int × Reply):=
 (eG N a0).bind fun r2=>
 if r2=true then
 (((fC a1 a2 N a0 0 ())))
 else
 (some (0,(Reply.mk (⟨#[]⟩) 0 [] 0 (Value.mk 0 0 (⟨#[]⟩) [] []))))
def bJ (N:Nat) (a0:(List Client)) (a1:ByteArray) (a2:Int):Option (Int):=
 (fx N a0 a1 a2).bind fun r1=>
 some r1.1
def gi (N:Nat) (a0:Client) (a1:ByteArray):Option (Int):=
 if (sLt a0.Name a1)=true then
 (some (-1))
 else
 (if (sLt a0.Name a1 || sEq a0.Name a1)=true then
 ((some 0))
 else
 (some 1))
def aw (a0:(List Client)) (N:Nat) (a1:ByteArray) (kx1:Int->Option (Int × Bool)):Nat->Int × Int->Option (Int × Bool)
 | 0,_=>none
 | n+1,(v2,v3)=>
  if v2 < v3 then
  ((gx a0 (IntKind.i64.wrap (shrI .u64 (IntKind.u64.wrap (IntKind.i64.wrap (v2+v3))) 1)) fun x6=>
  (gi N x6 a1).bind fun r7=>
  if r7 < 0 then
  (((aw a0 N a1 kx1 n) (IntKind.i64.wrap ((IntKind.i64.wrap (shrI .u64 (IntKind.u64.wrap (IntKind.i64.wrap (v2+v3))) 1))+1),v3)))
  else
  (((aw a0 N a1 kx1 n) (v2,IntKind.i64.wrap (shrI .u64 (IntKind.u64.wrap (IntKind.i64.wrap (v2+v3))) 1))))))
  else
  ((kx1 v2))
def bp (a0:(List Client)) (N:Nat) (a1:ByteArray) (v8:Int):Option (Int × Bool):=
 if v8 < ((a0.length:Nat):Int) then
 (gx a0 v8 fun x10=>
 (gi N x10 a1).bind fun r11=>
 (some (v8,(decide (r11=0)))))
 else
 ((some (v8,false)))
def aS (N:Nat) (a0:(List Client)) (a1:ByteArray):Option (Int × Bool):=
 (aw a0 N a1 (bp a0 N a1) N (0,((a0.length:Nat):Int)))
def iq (N:Nat) (a0:(List Client)) (a1:ByteArray):Option (Int × Bool):=
 (aS N a0 a1).bind fun r1=>
 some (r1.1,r1.2)
def bT (N:Nat) (a0:(List Client)):Option ((List Client)):=
 (apn 71 a0 <|
 some a0)
def bU (N:Nat) (a0:(List Answer)):Option ((List Answer)):=
 (apn 143 a0 <|
 some a0)
def fb (rec5:List Client->Option ((List Client))) (l3:List Client) (v4:Nat) (x9:Client) (r10:(List Int)) (N:Nat):Nat->Nat->List Answer->Option ((List Client))
 | 0,v13,l12=>
  ((rec5 (l3.set v4 (Client.mk x9.Name x9.Low r10 l12))))
 | m+1,v13,l12=>
  (gx l3 ((v4:Nat):Int) fun x18=>
  gx l12 ((v13:Nat):Int) fun x19=>
  (dt N x19.Reply_).bind fun r20=>
  (((fb rec5 l3 v4 x9 r10 N m (v13+1)) (l12.set v13 (Answer.mk x19.Seq r20)))))
def fg (N:Nat):Nat->Nat->List Client->Option ((List Client))
 | 0,v4,l3=>
  lenG l3 v4 <|
  (some l3)
 | m+1,v4,l3=>
  (gx l3 ((v4:Nat):Int) fun x9=>
  (bQ N x9.Open).bind fun r10=>
  (bU N x9.Done).bind fun r11=>
  (fb (fg N m (v4+1)) l3 v4 x9 r10 N (r11.length - 0) 0 r11))
def eI (N:Nat) (a0:(List Client)):Option ((List Client)):=
 (bT N a0).bind fun r1=>
 (fg N (r1.length - 0) 0 r1)
def bx (N:Nat) (a0:List Client) (a1:Int) (a2:List Client):Option (List Client):=insM 71 a0 a1 a2 fun l=>some l
def gK (N:Nat) (a0:Int):Option (Bool):=
 some (!decide (a0=a0))
def iK (N:Nat) (a0:Int) (a1:Int):Option (Bool):=
 (gK N a0).bind fun r2=>
 if r2=true then
 ((gK N a1).bind fun r3=>
 if r3=true then
 ((some (decide (a0 < a1))))
 else
 ((some true)))
 else
 ((some (decide (a0 < a1))))
def fh (N:Nat) (a0:Int):Option (Bool):=
 some (!decide (a0=a0))
def bH (a0:(List Int)) (N:Nat) (a1:Int) (kx1:Int->Option (Int × Bool)):Nat->Int × Int->Option (Int × Bool)
 | 0,_=>none
 | n+1,(v2,v3)=>
  if v2 < v3 then
  ((gx a0 (IntKind.i64.wrap (shrI .u64 (IntKind.u64.wrap (IntKind.i64.wrap (v2+v3))) 1)) fun x6=>
  (iK N x6 a1).bind fun r7=>
  if r7=true then
  (((bH a0 N a1 kx1 n) (IntKind.i64.wrap ((IntKind.i64.wrap (shrI .u64 (IntKind.u64.wrap (IntKind.i64.wrap (v2+v3))) 1))+1),v3)))
  else
  (((bH a0 N a1 kx1 n) (v2,IntKind.i64.wrap (shrI .u64 (IntKind.u64.wrap (IntKind.i64.wrap (v2+v3))) 1))))))
  else
  ((kx1 v2))
def ei (a0:(List Int)) (a1:Int) (N:Nat) (v8:Int):Option (Int × Bool):=
 if v8 < ((a0.length:Nat):Int) then
 (gx a0 v8 fun x10=>
 if x10=a1 then
 ((some (v8,true)))
 else
 ((fh N x10).bind fun r11=>
 if r11=true then
 ((fh N a1).bind fun r12=>
 (some (v8,r12)))
 else
 ((some (v8,false)))))
 else
 ((some (v8,false)))
def bW (N:Nat) (a0:(List Int)) (a1:Int):Option (Int × Bool):=
 (bH a0 N a1 (ei a0 a1 N) N (0,((a0.length:Nat):Int)))
def dV (N:Nat) (a0:List Int) (a1:Int) (a2:List Int):Option (List Int):=insM 7 a0 a1 a2 fun l=>some l
def fL (kx1:Option ((List Client) × Int)) (c6:Bool):Option ((List Client) × Int):=
 if c6=true then
 (some ([],1))
 else
 (kx1)
def gH (kx7:Option ((List Client) × Int)) (c10:Bool):Option ((List Client) × Int):=
 if c10=true then
 (some ([],7))
 else
 (kx7)
def gI (kx12:Bool->Option ((List Client) × Int)) (c15:Bool) (c16:Bool):Option ((List Client) × Int):=
 if c16=true then
 (some ([],5))
 else
 ((kx12 c15))
def gG (N:Nat) (a0:(List Client)) (r11:Int × Bool) (a2:Int) (a1:ByteArray) (c17:Bool):Option ((List Client) × Int):=
 (eI N a0).bind fun r18=>
 if c17=true then
 ((gx r18 r11.1 fun x21=>
 (bW N x21.Open a2).bind fun r22=>
 (dV N x21.Open r22.1 [a2]).bind fun r23=>
 some ((r18.set ((r11.1).toNat) (Client.mk x21.Name x21.Low r23 x21.Done)),0)))
 else
 ((bx N r18 r11.1 [(Client.mk a1 0 [] [])]).bind fun r20=>
 (gx r20 r11.1 fun x24=>
 (bW N [] a2).bind fun r25=>
 (dV N [] r25.1 [a2]).bind fun r26=>
 some ((r20.set ((r11.1).toNat) (Client.mk a1 0 r26 [])),0)))
def jZ (N:Nat) (a0:(List Client)) (a1:ByteArray) (a2:Int):Option ((List Client) × Int):=
 (iq N a0 a1).bind fun r11=>
 if r11.2=true then
 (gx a0 r11.1 fun x14=>
 if (IntKind.i64.wrap (((x14.Open.length:Nat):Int)+((x14.Done.length:Nat):Int)))=16 then
 (((gI (gG N a0 r11 a2 a1)) true true))
 else
 (((gI (gG N a0 r11 a2 a1)) true false)))
 else
 (((gI (gG N a0 r11 a2 a1)) false (decide (((a0.length:Nat):Int)=32))))
def iX (N:Nat) (a0:(List Client)) (a1:ByteArray) (a2:Int):Option ((List Client) × Int):=
 (bJ N a0 a1 a2).bind fun r8=>
 if r8=3 then
 (some ([],8))
 else
 (if r8=1 then
 (((gH (jZ N a0 a1 a2)) true))
 else
 (((gH (jZ N a0 a1 a2)) (decide (r8=2)))))
def dJ (N:Nat) (a0:(List Client)) (a1:ByteArray) (a2:Int):Option ((List Client) × Int):=
 (eG N a0).bind fun r3=>
 if r3=true then
 ((fS N a1).bind fun r4=>
 if r4=true then
 ((fq N a2).bind fun r5=>
 ((fL (iX N a0 a1 a2)) (!r5)))
 else
 (((fL (iX N a0 a1 a2)) true)))
 else
 (((fL (iX N a0 a1 a2)) true))
def ff (N:Nat) (a0:Int) (c0_0:ByteArray) (c0_1:Int) (c0_2:(List Int)) (c0_3:Int) (c0_4:Int) (c0_5:Int) (c0_6:ByteArray) (c0_7:(List Int)) (c0_8:(List ByteArray)):Option (Bool):=
 some (decide (a0=c0_1))
def aP (N:Nat) (k1_0_0:ByteArray) (k1_0_1:Int) (k1_0_2:(List Int)) (k1_0_3:Int) (k1_0_4:Int) (k1_0_5:Int) (k1_0_6:ByteArray) (k1_0_7:(List Int)) (k1_0_8:(List ByteArray)):List Int->Nat->Unit->Option (Int)
 | [],v2,()=>
  (some (-1))
 | x5::xs,v2,()=>
  ((ff N x5 k1_0_0 k1_0_1 k1_0_2 k1_0_3 k1_0_4 k1_0_5 k1_0_6 k1_0_7 k1_0_8).bind fun r8=>
  if r8=true then
  (some ((v2:Nat):Int))
  else
  ((((aP N k1_0_0 k1_0_1 k1_0_2 k1_0_3 k1_0_4 k1_0_5 k1_0_6 k1_0_7 k1_0_8 xs (v2+1)) ()))))
def bD (N:Nat) (a0:(List Int)) (k1_0_0:ByteArray) (k1_0_1:Int) (k1_0_2:(List Int)) (k1_0_3:Int) (k1_0_4:Int) (k1_0_5:Int) (k1_0_6:ByteArray) (k1_0_7:(List Int)) (k1_0_8:(List ByteArray)):Option (Int):=
 (aP N k1_0_0 k1_0_1 k1_0_2 k1_0_3 k1_0_4 k1_0_5 k1_0_6 k1_0_7 k1_0_8 a0 0 ())
def aH (N:Nat) (k1_0_0:ByteArray) (k1_0_1:Int) (k1_0_2:(List Int)) (k1_0_3:Int) (k1_0_4:Int) (k1_0_5:Int) (k1_0_6:ByteArray) (k1_0_7:(List Int)) (k1_0_8:(List ByteArray)) (kx3:(List Int)->Int->Option ((List Int))):Nat->List Int × Int × Int->Option ((List Int))
 | 0,_=>none
 | n+1,(l4,v5,v6)=>
  if v6 < ((l4.length:Nat):Int) then
  ((gx l4 v6 fun x10=>
  (ff N x10 k1_0_0 k1_0_1 k1_0_2 k1_0_3 k1_0_4 k1_0_5 k1_0_6 k1_0_7 k1_0_8).bind fun r11=>
  if r11=true then
  ((((aH N k1_0_0 k1_0_1 k1_0_2 k1_0_3 k1_0_4 k1_0_5 k1_0_6 k1_0_7 k1_0_8 kx3 n) (l4,v5,IntKind.i64.wrap (v6+1)))))
  else
  (gx l4 v5 fun x12=>
  (((aH N k1_0_0 k1_0_1 k1_0_2 k1_0_3 k1_0_4 k1_0_5 k1_0_6 k1_0_7 k1_0_8 kx3 n) ((l4.set ((v5).toNat) x10),(IntKind.i64.wrap (v5+1)),IntKind.i64.wrap (v6+1)))))))
  else
  ((kx3 l4 v5))
def bm (l15:List Int) (v16:Int):Option ((List Int)):=
 slx l15 v16 ((l15.length:Nat):Int) fun l17=>
 slx (clrL 0 (v16).toNat l15) 0 v16 fun l18=>
 some ((clrL 0 (v16).toNat l15).take ((v16).toNat))
def aU (N:Nat) (a0:(List Int)) (k1_0_0:ByteArray) (k1_0_1:Int) (k1_0_2:(List Int)) (k1_0_3:Int) (k1_0_4:Int) (k1_0_5:Int) (k1_0_6:ByteArray) (k1_0_7:(List Int)) (k1_0_8:(List ByteArray)):Option ((List Int)):=
 (bD N a0 k1_0_0 k1_0_1 k1_0_2 k1_0_3 k1_0_4 k1_0_5 k1_0_6 k1_0_7 k1_0_8).bind fun r1=>
 if r1=(-1) then
 (some a0)
 else
 (((aH N k1_0_0 k1_0_1 k1_0_2 k1_0_3 k1_0_4 k1_0_5 k1_0_6 k1_0_7 k1_0_8 bm N (a0,r1,IntKind.i64.wrap (r1+1)))))
def dP (N:Nat) (a0:List Answer) (a1:Int) (a2:List Answer):Option (List Answer):=insM 143 a0 a1 a2 fun l=>some l
def jf (N:Nat) (a0:(List Client)) (a1:Reply) (kx1:Option ((List Client) × Int)) (c5:Bool):Option ((List Client) × Int):=
 if c5=true then
 (some ([],1))
 else
 ((bJ N a0 a1.Client_ a1.Seq).bind fun r6=>
 if r6=1 then
 (kx1)
 else
 (some ([],6)))
def fE (kx11:Int->Option ((List Client) × Int)) (a1:Reply):List Answer->Nat->Unit->Option ((List Client) × Int)
 | [],v12,()=>
  ((kx11 ((v12:Nat):Int)))
 | x16::xs,v12,()=>
  (if x16.Seq < a1.Seq then
  ((((fE kx11 a1 xs (v12+1)) ())))
  else
  ((kx11 ((v12:Nat):Int))))
def kH (N:Nat) (a1:Reply) (x9:Client) (r7:(List Client)) (r8:Int × Bool) (r10:(List Int)) (v19:Int):Option ((List Client) × Int):=
 (dt N a1).bind fun r20=>
 (dP N x9.Done v19 [(Answer.mk a1.Seq r20)]).bind fun r21=>
 some ((r7.set ((r8.1).toNat) (Client.mk x9.Name x9.Low r10 r21)),0)
def jk (N:Nat) (a0:(List Client)) (a1:Reply):Option ((List Client) × Int):=
 (eI N a0).bind fun r7=>
 (iq N r7 a1.Client_).bind fun r8=>
 gx r7 r8.1 fun x9=>
 (aU N x9.Open a1.Client_ a1.Seq a1.Path a1.Err a1.Value_.Kind a1.Value_.N a1.Value_.S a1.Value_.I a1.Value_.L).bind fun r10=>
 (fE (kH N a1 x9 r7 r8 r10) a1 x9.Done 0 ())
def fy (N:Nat) (a0:(List Client)) (a1:Reply):Option ((List Client) × Int):=
 (eG N a0).bind fun r3=>
 if r3=true then
 ((ej N a1).bind fun r4=>
 ((jf N a0 a1 (jk N a0 a1)) (!r4)))
 else
 (((jf N a0 a1 (jk N a0 a1)) true))
def lE (N:Nat) (a0:(List Client)) (a1:ByteArray) (a2:Int):Option (Reply × Bool):=
 (fx N a0 a1 a2).bind fun r1=>
 some (r1.2,(decide (r1.1=2)))
def dy (kx1:Option ((List Client) × Int)) (c6:Bool):Option ((List Client) × Int):=
 if c6=true then
 (some ([],1))
 else
 (kx1)
def dS (kx8:Option ((List Client) × Int)) (c12:Bool):Option ((List Client) × Int):=
 if c12=true then
 (some ([],12))
 else
 (kx8)
def eN (N:Nat) (a0:(List Client)) (r7:Int × Bool) (a2:Int):Option ((List Client) × Int):=
 (eI N a0).bind fun r13=>
 gx r13 r7.1 fun x14=>
 (delAck N x14.Done (if a2 > x14.Low then a2 else x14.Low)).bind fun r15=>
 some ((r13.set ((r7.1).toNat) (Client.mk x14.Name (if a2 > x14.Low then a2 else x14.Low) x14.Open r15)),0)
def eJ (N:Nat) (a0:(List Client)) (a1:ByteArray) (a2:Int):Option ((List Client) × Int):=
 (iq N a0 a1).bind fun r7=>
 if r7.2=true then
 (gx a0 r7.1 fun x10=>
 if 0 < ((x10.Open.length:Nat):Int) then
 (gx x10.Open 0 fun x11=>
 ((dS (eN N a0 r7 a2)) (decide (x11<=a2))))
 else
 (((dS (eN N a0 r7 a2)) false)))
 else
 (some ([],6))
def b9 (N:Nat) (a0:(List Client)) (a1:ByteArray) (a2:Int):Option ((List Client) × Int):=
 (eG N a0).bind fun r3=>
 if r3=true then
 ((fS N a1).bind fun r4=>
 if r4=true then
 ((fq N a2).bind fun r5=>
 ((dy (eJ N a0 a1 a2)) (!r5)))
 else
 (((dy (eJ N a0 a1 a2)) true)))
 else
 (((dy (eJ N a0 a1 a2)) true))
def jS (N:Nat)  : Option (Bool):=
 (dJ N [] (⟨#[99]⟩) 1).bind fun r1=>
 (dJ N r1.1 (⟨#[99]⟩) 1).bind fun r2=>
 (fy N r1.1 (Reply.mk (⟨#[99]⟩) 1 [] 0 (Value.mk 1 5 (⟨#[]⟩) [] []))).bind fun r3=>
 (lE N r3.1 (⟨#[99]⟩) 1).bind fun r4=>
 (b9 N r3.1 (⟨#[99]⟩) 1).bind fun r5=>
 if r1.2=0 then
 (if r2.2=7 then
 (if r3.2=0 then
 (if r4.2=true then
 (if r4.1.Value_.N=5 then
 (if r5.2=0 then
 ((bJ N r1.1 (⟨#[99]⟩) 1).bind fun r7=>
 if r7=1 then
 ((bJ N r3.1 (⟨#[99]⟩) 1).bind fun r8=>
 if r8=2 then
 ((bJ N r5.1 (⟨#[99]⟩) 1).bind fun r9=>
 if r9=3 then
 ((bJ N r5.1 (⟨#[99]⟩) 2).bind fun r10=>
 (some (decide (r10=0))))
 else
 ((some false)))
 else
 ((some false)))
 else
 ((some false)))
 else
 ((some false)))
 else
 ((some false)))
 else
 ((some false)))
 else
 ((some false)))
 else
 ((some false)))
 else
 ((some false))
def eF (N:Nat) (a0:Int) (kx3:(List Client)->Option (Bool)):Nat->List Client × Int->Option (Bool)
 | 0,_=>none
 | n+1,(l4,v5)=>
  if v5 < 16 then
  (((dJ N l4 (⟨#[99]⟩) (IntKind.i64.wrap ((IntKind.i64.wrap (1+(IntKind.i64.wrap a0)))+v5))).bind fun r9=>
  if r9.2=0 then
  (((((eF N a0 kx3 n) (r9.1,IntKind.i64.wrap (v5+1))))))
  else
  (some false)))
  else
  ((kx3 l4))
def et (a1:Int) (N:Nat) (a0:Int) (kx13:(List Client)->Option (Bool)):Nat->List Client × Int->Option (Bool)
 | 0,_=>none
 | n+1,(l14,v15)=>
  if v15 < (Int.tmod (IntKind.i64.wrap a1) 17) then
  (((fy N l14 (Reply.mk (⟨#[99]⟩) (IntKind.i64.wrap ((IntKind.i64.wrap (1+(IntKind.i64.wrap a0)))+v15)) [] 0 (Value.mk 0 0 (⟨#[]⟩) [] []))).bind fun r19=>
  if r19.2=0 then
  (((((et a1 N a0 kx13 n) (r19.1,IntKind.i64.wrap (v15+1))))))
  else
  (some false)))
  else
  ((kx13 l14))
def gL (kx23:Option (Bool)) (c25:Bool):Option (Bool):=
 if c25=true then
 (some false)
 else
 (kx23)
def fv (a1:Int) (r26:(List Client) × Int) (kx27:Option (Bool)) (c29:Bool):Option (Bool):=
 if c29=true then
 (if (Int.tmod (IntKind.i64.wrap a1) 17)=0 then
 ((some (decide (r26.2=12))))
 else
 ((some false)))
 else
 (kx27)
def ey (N:Nat) (l21:List Client) (a0:Int) (a1:Int):Option (Bool):=
 (b9 N l21 (⟨#[99]⟩) (IntKind.i64.wrap ((IntKind.i64.wrap a0)+(Int.tmod (IntKind.i64.wrap a1) 17)))).bind fun r32=>
 (dJ N r32.1 (⟨#[99]⟩) (IntKind.i64.wrap ((IntKind.i64.wrap (1+(IntKind.i64.wrap a0)))+16))).bind fun r33=>
 if r32.2=0 then
 (if r33.2=0 then
 ((bJ N r33.1 (⟨#[99]⟩) (IntKind.i64.wrap ((IntKind.i64.wrap (1+(IntKind.i64.wrap a0)))+16))).bind fun r35=>
 if r35=1 then
 ((bJ N r33.1 (⟨#[99]⟩) (IntKind.i64.wrap (1+(IntKind.i64.wrap a0)))).bind fun r36=>
 (some (decide (r36=3))))
 else
 ((some false)))
 else
 ((some false)))
 else
 ((some false))
def gW (N:Nat) (l21:List Client) (a0:Int) (a1:Int):Option (Bool):=
 (b9 N l21 (⟨#[99]⟩) (IntKind.i64.wrap ((IntKind.i64.wrap (1+(IntKind.i64.wrap a0)))+(Int.tmod (IntKind.i64.wrap a1) 17)))).bind fun r26=>
 if (Int.tmod (IntKind.i64.wrap a1) 17) < 16 then
 (if r26.2=12 then
 (((fv a1 r26 (ey N l21 a0 a1)) (decide ((Int.tmod (IntKind.i64.wrap a1) 17)=0))))
 else
 (((fv a1 r26 (ey N l21 a0 a1)) true)))
 else
 (((fv a1 r26 (ey N l21 a0 a1)) (decide ((Int.tmod (IntKind.i64.wrap a1) 17)=0))))
def gU (N:Nat) (a0:Int) (r12:(List Client) × Int) (a1:Int) (l21:List Client):Option (Bool):=
 (dJ N l21 (⟨#[99]⟩) (IntKind.i64.wrap ((IntKind.i64.wrap (1+(IntKind.i64.wrap a0)))+16))).bind fun r22=>
 if r12.2=5 then
 (((gL (gW N l21 a0 a1)) (!decide (r22.2=5))))
 else
 (((gL (gW N l21 a0 a1)) true))
def gR (N:Nat) (a0:Int) (a1:Int) (l11:List Client):Option (Bool):=
 (dJ N l11 (⟨#[99]⟩) (IntKind.i64.wrap ((IntKind.i64.wrap (1+(IntKind.i64.wrap a0)))+16))).bind fun r12=>
 (et a1 N a0 (gU N a0 r12 a1) N (l11,0))
def fH (N:Nat) (a0:Int) (a1:Int):Option (Bool):=
 (jS N).bind fun r2=>
 if r2=true then
 (((eF N a0 (gR N a0 a1) N ([],0))))
 else
 (some false)
end Go.Proofs.Yteldkhmcgloafaa
