/- The models of the functions. No statement. -/
import Derived.Test.YteldkhmcgloafaaT
/- The functions of the program as plain functions on plain data. -/
set_option maxHeartbeats 40000000
set_option synthInstance.maxHeartbeats 2000000
set_option synthInstance.maxSize 4000
set_option linter.unusedSimpArgs false
set_option linter.unusedVariables false
set_option maxRecDepth 100000
namespace Go.Proofs.Yteldkhmcgloafaa
open Go Go.Proofs Go.Abs
def delAck (N:Nat) (l:List Answer) (lo:Int):Option (List Answer):=if l.length < N/\l.length<=4611686018427387904 then some (l.filter fun a=>!decide (a.Seq<=lo)) else none
def gD (N:Nat) (a0:ByteArray):Option (Bool):=
 if 1<=((a0.size:Nat):Int) then
 ((some (decide (((a0.size:Nat):Int)<=32))))
 else
 ((some false))
def eL (a1:Int):List Int->Nat->Unit->Option (Int)
 | [],v2,()=>
  (some (-1))
 | x5::xs,v2,()=>
  (if a1=x5 then
  (some ((v2:Nat):Int))
  else
  ((((eL a1 xs (v2+1)) ()))))
def gV (N:Nat) (a0:(List Int)) (a1:Int):Option (Int):=
 (eL a1 a0 0 ())
def eM (N:Nat) (a0:(List Int)) (a1:Int):Option (Bool):=
 (gV N a0 a1).bind fun r1=>
 some (decide (0<=r1))
def fX (N:Nat) (a0:Int):Option (Bool):=
 if 1<=a0 then
 ((some (decide (a0<=1099511627776))))
 else
 ((some false))
def iE (kx1:Option (Bool)) (c3:Bool):Option (Bool):=
 if c3=true then
 (some false)
 else
 (kx1)
def iI (kx7:Bool->Option (Bool)) (a0:Value) (c11:Bool):Option (Bool):=
 if c11=true then
 ((kx7 true))
 else
 (if 0 < ((a0.L.length:Nat):Int) then
 ((kx7 (!decide (a0.Kind=5))))
 else
 ((kx7 false)))
def iD (kx7:Bool->Option (Bool)) (a0:Value) (c9:Bool):Option (Bool):=
 if c9=true then
 ((kx7 true))
 else
 (if 0 < ((a0.I.length:Nat):Int) then
 (((iI kx7 a0) (!decide (a0.Kind=4))))
 else
 (((iI kx7 a0) false)))
def iF (kx4:Option (Bool)) (c12:Bool):Option (Bool):=
 if c12=true then
 (some false)
 else
 (kx4)
def fh (a0:Value) (kx4:Option (Bool)) (c6:Bool):Option (Bool):=
 if c6=true then
 (some false)
 else
 (if (sEq a0.S (⟨#[]⟩))=true then
 (((iD (iF kx4) a0) false))
 else
 (((iD (iF kx4) a0) (!decide (a0.Kind=3)))))
def fW (kx13:Option (Bool)) (c15:Bool):Option (Bool):=
 if c15=true then
 (some false)
 else
 (kx13)
def fa  : List ByteArray->Nat->Unit->Option (Bool)
 | [],v17,()=>
  (some true)
 | x20::xs,v17,()=>
  (if 64 < ((x20.size:Nat):Int) then
  (some false)
  else
  ((((fa xs (v17+1)) ()))))
def fY (a0:Value):Option (Bool):=
 (fa a0.L 0 ())
def fi (a0:Value):Option (Bool):=
 if 64 < ((a0.S.size:Nat):Int) then
 (((fW (fY a0)) true))
 else
 (if 16 < ((a0.I.length:Nat):Int) then
 (((fW (fY a0)) true))
 else
 (((fW (fY a0)) (decide (16 < ((a0.L.length:Nat):Int))))))
def iV (a0:Value) (N:Nat):Option (Bool):=
 if a0.N=0 then
 (((fh a0 (fi a0)) false))
 else
 (if a0.Kind=1 then
 (((fh a0 (fi a0)) false))
 else
 (if a0.Kind=2 then
 (((fh a0 (fi a0)) (!decide (a0.N=1))))
 else
 (((fh a0 (fi a0)) true))))
def gh (N:Nat) (a0:Value):Option (Bool):=
 if a0.Kind < 0 then
 (((iE (iV a0 N)) true))
 else
 (((iE (iV a0 N)) (decide (5 < a0.Kind))))
def eW (N:Nat) (a0:Reply):Option (Bool):=
 (gD N a0.Client_).bind fun r2=>
 if r2=true then
 ((fX N a0.Seq).bind fun r3=>
 if r3=true then
 (if ((a0.Path.length:Nat):Int)=0 then
 (if 0<=a0.Err then
 (if a0.Err<=27 then
 ((gh N a0.Value_).bind fun r4=>
 if r4=true then
 (if a0.Err=0 then
 ((some true))
 else
 ((some (decide (a0.Value_.Kind=0)))))
 else
 ((some false)))
 else
 ((some false)))
 else
 ((some false)))
 else
 ((some false)))
 else
 ((some false)))
 else
 ((some false))
def eC (kx1:Option (Bool)) (c4:Bool):Option (Bool):=
 if c4=true then
 (some false)
 else
 (kx1)
def gI (kx13:Option (Bool)) (c15:Bool):Option (Bool):=
 if c15=true then
 (some false)
 else
 (kx13)
def gH (rec8:Int->Option (Bool)) (x10:Int):Option (Bool):=
 ((rec8 x10))
def dN (kx5:Option (Bool)):List Int->Nat->Int->Option (Bool)
 | [],v7,v6=>
  kx5
 | x10::xs,v7,v6=>
  (if x10<=v6 then
  (((gI (gH (dN kx5 xs (v7+1)) x10)) true))
  else
  (((gI (gH (dN kx5 xs (v7+1)) x10)) (decide (1099511627776 < x10)))))
def dR (kx24:Option (Bool)) (c28:Bool):Option (Bool):=
 if c28=true then
 (some false)
 else
 (kx24)
def dP (rec19:Int->Option (Bool)) (x21:Answer):Option (Bool):=
 ((rec19 x21.Seq))
def bG (N:Nat) (a0:Client):List Answer->Nat->Int->Option (Bool)
 | [],v18,v17=>
  (some true)
 | x21::xs,v18,v17=>
  (if x21.Seq<=v17 then
  (((dR (dP (bG N a0 xs (v18+1)) x21)) true))
  else
  ((eM N a0.Open x21.Seq).bind fun r26=>
  if r26=true then
  (((dR (dP (bG N a0 xs (v18+1)) x21)) true))
  else
  ((eW N x21.Reply_).bind fun r27=>
  if r27=true then
  (if (sEq x21.Reply_.Client_ a0.Name)=true then
  (((dR (dP (bG N a0 xs (v18+1)) x21)) (!decide (x21.Reply_.Seq=x21.Seq))))
  else
  (((dR (dP (bG N a0 xs (v18+1)) x21)) true)))
  else
  (((dR (dP (bG N a0 xs (v18+1)) x21)) true)))))
def jx (N:Nat) (a0:Client):Option (Bool):=
 (bG N a0 a0.Done 0 a0.Low)
def ew (N:Nat) (a0:Client):Option (Bool):=
 (dN (jx N a0) a0.Open 0 a0.Low)
def fC (N:Nat) (a0:Client):Option (Bool):=
 (gD N a0.Name).bind fun r3=>
 if r3=true then
 (if a0.Low < 0 then
 (((eC (ew N a0)) true))
 else
 (if 1099511627776 < a0.Low then
 (((eC (ew N a0)) true))
 else
 (((eC (ew N a0)) (decide (16 < (IntKind.i64.wrap (((a0.Open.length:Nat):Int)+((a0.Done.length:Nat):Int)))))))))
 else
 (((eC (ew N a0)) true))
def jl (rec4:Unit->Option (Bool)) (c12:Bool):Option (Bool):=
 if c12=true then
 (some false)
 else
 (((rec4 ())))
def ff (N:Nat) (a0:(List Client)):List Client->Nat->Unit->Option (Bool)
 | [],v3,()=>
  (some true)
 | x6::xs,v3,()=>
  ((fC N x6).bind fun r10=>
  if r10=true then
  (if 0 < ((v3:Nat):Int) then
  (gx a0 (IntKind.i64.wrap (((v3:Nat):Int) - 1)) fun x11=>
  ((jl (ff N a0 xs (v3+1))) (!(sLt x11.Name x6.Name))))
  else
  (((jl (ff N a0 xs (v3+1))) false)))
  else
  (((jl (ff N a0 xs (v3+1))) true)))
def eP (N:Nat) (a0:(List Client)):Option (Bool):=
 if 32 < ((a0.length:Nat):Int) then
 (some false)
 else
 (((ff N a0 a0 0 ())))
def bY (N:Nat) (a0:(List Int)):Option ((List Int)):=
 (apn 7 a0 <|
 some a0)
def da (N:Nat) (a0:(List ByteArray)):Option ((List ByteArray)):=
 (apn 15 a0 <|
 some a0)
def dO (N:Nat) (a0:Reply):Option (Reply):=
 (bY N a0.Value_.I).bind fun r1=>
 (da N a0.Value_.L).bind fun r2=>
 some (Reply.mk a0.Client_ a0.Seq [] a0.Err (Value.mk a0.Value_.Kind a0.Value_.N a0.Value_.S r1 r2))
def fu (kx12:Option (Int × Reply)) (a2:Int):List Int->Nat->Unit->Option (Int × Reply)
 | [],v13,()=>
  kx12
 | x16::xs,v13,()=>
  (if x16=a2 then
  (some (1,(Reply.mk (⟨#[]⟩) 0 [] 0 (Value.mk 0 0 (⟨#[]⟩) [] []))))
  else
  ((((fu kx12 a2 xs (v13+1)) ()))))
def gg (kx19:Option (Int × Reply)) (a2:Int) (N:Nat):List Answer->Nat->Unit->Option (Int × Reply)
 | [],v20,()=>
  kx19
 | x23::xs,v20,()=>
  (if x23.Seq=a2 then
  ((dO N x23.Reply_).bind fun r26=>
  some (2,r26))
  else
  ((((gg kx19 a2 N xs (v20+1)) ()))))
def lH  : Option (Int × Reply):=
 (some (0,(Reply.mk (⟨#[]⟩) 0 [] 0 (Value.mk 0 0 (⟨#[]⟩) [] []))))
def lF (a2:Int) (N:Nat) (x7:Client):Option (Int × Reply):=
 (gg lH a2 N x7.Done 0 ())
def gf (a1:ByteArray) (a2:Int) (N:Nat):List Client->Nat->Unit->Option (Int × Reply)
 | [],v4,()=>
  (some (0,(Reply.mk (⟨#[]⟩) 0 [] 0 (Value.mk 0 0 (⟨#[]⟩) [] []))))
 | x7::xs,v4,()=>
  (if (sEq x7.Name a1)=true then
  ((if a2<=x7.Low then
  (some (3,(Reply.mk (⟨#[]⟩) 0 [] 0 (Value.mk 0 0 (⟨#[]⟩) [] []))))
  else
  (((fu (lF a2 N x7) a2 x7.Open 0 ())))))
  else
  ((((gf a1 a2 N xs (v4+1)) ()))))
def fZ (N:Nat) (a0:(List Client)) (a1:ByteArray) (a2:Int):Option (Int × Reply):=
 (eP N a0).bind fun r2=>
 if r2=true then
 (((gf a1 a2 N a0 0 ())))
 else
 (some (0,(Reply.mk (⟨#[]⟩) 0 [] 0 (Value.mk 0 0 (⟨#[]⟩) [] []))))
def dS (N:Nat) (a0:(List Client)) (a1:ByteArray) (a2:Int):Option (Int):=
 (fZ N a0 a1 a2).bind fun r1=>
 some r1.1
def gW (N:Nat) (a0:Client) (a1:ByteArray):Option (Int):=
 if (sLt a0.Name a1)=true then
 (some (-1))
 else
 (if (sLt a0.Name a1 || sEq a0.Name a1)=true then
 ((some 0))
 else
 (some 1))
def aB (a0:(List Client)) (N:Nat) (a1:ByteArray) (kx1:Int->Option (Int × Bool)):Nat->Int × Int->Option (Int × Bool)
 | 0,_=>none
 | n+1,(v2,v3)=>
  if v2 < v3 then
  ((gx a0 (IntKind.i64.wrap (shrI .u64 (IntKind.u64.wrap (IntKind.i64.wrap (v2+v3))) 1)) fun x6=>
  (gW N x6 a1).bind fun r7=>
  if r7 < 0 then
  (((aB a0 N a1 kx1 n) (IntKind.i64.wrap ((IntKind.i64.wrap (shrI .u64 (IntKind.u64.wrap (IntKind.i64.wrap (v2+v3))) 1))+1),v3)))
  else
  (((aB a0 N a1 kx1 n) (v2,IntKind.i64.wrap (shrI .u64 (IntKind.u64.wrap (IntKind.i64.wrap (v2+v3))) 1))))))
  else
  ((kx1 v2))
def bA (a0:(List Client)) (N:Nat) (a1:ByteArray) (v8:Int):Option (Int × Bool):=
 if v8 < ((a0.length:Nat):Int) then
 (gx a0 v8 fun x10=>
 (gW N x10 a1).bind fun r11=>
 (some (v8,(decide (r11=0)))))
 else
 ((some (v8,false)))
def aZ (N:Nat) (a0:(List Client)) (a1:ByteArray):Option (Int × Bool):=
 (aB a0 N a1 (bA a0 N a1) N (0,((a0.length:Nat):Int)))
def iO (N:Nat) (a0:(List Client)) (a1:ByteArray):Option (Int × Bool):=
 (aZ N a0 a1).bind fun r1=>
 some (r1.1,r1.2)
def db (N:Nat) (a0:(List Client)):Option ((List Client)):=
 (apn 71 a0 <|
 some a0)
def dc (N:Nat) (a0:(List Answer)):Option ((List Answer)):=
 (apn 143 a0 <|
 some a0)
def fK (rec5:List Client->Option ((List Client))) (l3:List Client) (v4:Nat) (x9:Client) (r10:(List Int)) (N:Nat):Nat->Nat->List Answer->Option ((List Client))
 | 0,v13,l12=>
  ((rec5 (l3.set v4 (Client.mk x9.Name x9.Low r10 l12))))
 | m+1,v13,l12=>
  (gx l3 ((v4:Nat):Int) fun x18=>
  gx l12 ((v13:Nat):Int) fun x19=>
  (dO N x19.Reply_).bind fun r20=>
  (((fK rec5 l3 v4 x9 r10 N m (v13+1)) (l12.set v13 (Answer.mk x19.Seq r20)))))
def fO (N:Nat):Nat->Nat->List Client->Option ((List Client))
 | 0,v4,l3=>
  lenG l3 v4 <|
  (some l3)
 | m+1,v4,l3=>
  (gx l3 ((v4:Nat):Int) fun x9=>
  (bY N x9.Open).bind fun r10=>
  (dc N x9.Done).bind fun r11=>
  (fK (fO N m (v4+1)) l3 v4 x9 r10 N (r11.length - 0) 0 r11))
def fj (N:Nat) (a0:(List Client)):Option ((List Client)):=
 (db N a0).bind fun r1=>
 (fO N (r1.length - 0) 0 r1)
def bH (N:Nat) (a0:List Client) (a1:Int) (a2:List Client):Option (List Client):=insM 71 a0 a1 a2 fun l=>some l
def iw (N:Nat) (a0:Int):Option (Bool):=
 some (!decide (a0=a0))
def jh (N:Nat) (a0:Int) (a1:Int):Option (Bool):=
 (iw N a0).bind fun r2=>
 if r2=true then
 ((iw N a1).bind fun r3=>
 if r3=true then
 ((some (decide (a0 < a1))))
 else
 ((some true)))
 else
 ((some (decide (a0 < a1))))
def fL (N:Nat) (a0:Int):Option (Bool):=
 some (!decide (a0=a0))
def bO (a0:(List Int)) (N:Nat) (a1:Int) (kx1:Int->Option (Int × Bool)):Nat->Int × Int->Option (Int × Bool)
 | 0,_=>none
 | n+1,(v2,v3)=>
  if v2 < v3 then
  ((gx a0 (IntKind.i64.wrap (shrI .u64 (IntKind.u64.wrap (IntKind.i64.wrap (v2+v3))) 1)) fun x6=>
  (jh N x6 a1).bind fun r7=>
  if r7=true then
  (((bO a0 N a1 kx1 n) (IntKind.i64.wrap ((IntKind.i64.wrap (shrI .u64 (IntKind.u64.wrap (IntKind.i64.wrap (v2+v3))) 1))+1),v3)))
  else
  (((bO a0 N a1 kx1 n) (v2,IntKind.i64.wrap (shrI .u64 (IntKind.u64.wrap (IntKind.i64.wrap (v2+v3))) 1))))))
  else
  ((kx1 v2))
def eU (a0:(List Int)) (a1:Int) (N:Nat) (v8:Int):Option (Int × Bool):=
 if v8 < ((a0.length:Nat):Int) then
 (gx a0 v8 fun x10=>
 if x10=a1 then
 ((some (v8,true)))
 else
 ((fL N x10).bind fun r11=>
 if r11=true then
 ((fL N a1).bind fun r12=>
 (some (v8,r12)))
 else
 ((some (v8,false)))))
 else
 ((some (v8,false)))
def dj (N:Nat) (a0:(List Int)) (a1:Int):Option (Int × Bool):=
 (bO a0 N a1 (eU a0 a1 N) N (0,((a0.length:Nat):Int)))
def eH (N:Nat) (a0:List Int) (a1:Int) (a2:List Int):Option (List Int):=insM 7 a0 a1 a2 fun l=>some l
def gA (kx1:Option ((List Client) × Int)) (c6:Bool):Option ((List Client) × Int):=
 if c6=true then
 (some ([],1))
 else
 (kx1)
def iq (kx7:Option ((List Client) × Int)) (c10:Bool):Option ((List Client) × Int):=
 if c10=true then
 (some ([],7))
 else
 (kx7)
def iy (kx12:Bool->Option ((List Client) × Int)) (c15:Bool) (c16:Bool):Option ((List Client) × Int):=
 if c16=true then
 (some ([],5))
 else
 ((kx12 c15))
def iz (N:Nat) (a0:(List Client)) (r11:Int × Bool) (a2:Int) (a1:ByteArray) (c17:Bool):Option ((List Client) × Int):=
 (fj N a0).bind fun r18=>
 if c17=true then
 ((gx r18 r11.1 fun x21=>
 (dj N x21.Open a2).bind fun r22=>
 (eH N x21.Open r22.1 [a2]).bind fun r23=>
 some ((r18.set ((r11.1).toNat) (Client.mk x21.Name x21.Low r23 x21.Done)),0)))
 else
 ((bH N r18 r11.1 [(Client.mk a1 0 [] [])]).bind fun r20=>
 (gx r20 r11.1 fun x24=>
 (dj N [] a2).bind fun r25=>
 (eH N [] r25.1 [a2]).bind fun r26=>
 some ((r20.set ((r11.1).toNat) (Client.mk a1 0 r26 [])),0)))
def kM (N:Nat) (a0:(List Client)) (a1:ByteArray) (a2:Int):Option ((List Client) × Int):=
 (iO N a0 a1).bind fun r11=>
 if r11.2=true then
 (gx a0 r11.1 fun x14=>
 if (IntKind.i64.wrap (((x14.Open.length:Nat):Int)+((x14.Done.length:Nat):Int)))=16 then
 (((iy (iz N a0 r11 a2 a1)) true true))
 else
 (((iy (iz N a0 r11 a2 a1)) true false)))
 else
 (((iy (iz N a0 r11 a2 a1)) false (decide (((a0.length:Nat):Int)=32))))
def jE (N:Nat) (a0:(List Client)) (a1:ByteArray) (a2:Int):Option ((List Client) × Int):=
 (dS N a0 a1 a2).bind fun r8=>
 if r8=3 then
 (some ([],8))
 else
 (if r8=1 then
 (((iq (kM N a0 a1 a2)) true))
 else
 (((iq (kM N a0 a1 a2)) (decide (r8=2)))))
def fR (N:Nat) (a0:(List Client)) (a1:ByteArray) (a2:Int):Option ((List Client) × Int):=
 (eP N a0).bind fun r3=>
 if r3=true then
 ((gD N a1).bind fun r4=>
 if r4=true then
 ((fX N a2).bind fun r5=>
 ((gA (jE N a0 a1 a2)) (!r5)))
 else
 (((gA (jE N a0 a1 a2)) true)))
 else
 (((gA (jE N a0 a1 a2)) true))
def fI (N:Nat) (a0:Int) (c0_0:ByteArray) (c0_1:Int) (c0_2:(List Int)) (c0_3:Int) (c0_4:Int) (c0_5:Int) (c0_6:ByteArray) (c0_7:(List Int)) (c0_8:(List ByteArray)):Option (Bool):=
 some (decide (a0=c0_1))
def aU (N:Nat) (k1_0_0:ByteArray) (k1_0_1:Int) (k1_0_2:(List Int)) (k1_0_3:Int) (k1_0_4:Int) (k1_0_5:Int) (k1_0_6:ByteArray) (k1_0_7:(List Int)) (k1_0_8:(List ByteArray)):List Int->Nat->Unit->Option (Int)
 | [],v2,()=>
  (some (-1))
 | x5::xs,v2,()=>
  ((fI N x5 k1_0_0 k1_0_1 k1_0_2 k1_0_3 k1_0_4 k1_0_5 k1_0_6 k1_0_7 k1_0_8).bind fun r8=>
  if r8=true then
  (some ((v2:Nat):Int))
  else
  ((((aU N k1_0_0 k1_0_1 k1_0_2 k1_0_3 k1_0_4 k1_0_5 k1_0_6 k1_0_7 k1_0_8 xs (v2+1)) ()))))
def bN (N:Nat) (a0:(List Int)) (k1_0_0:ByteArray) (k1_0_1:Int) (k1_0_2:(List Int)) (k1_0_3:Int) (k1_0_4:Int) (k1_0_5:Int) (k1_0_6:ByteArray) (k1_0_7:(List Int)) (k1_0_8:(List ByteArray)):Option (Int):=
 (aU N k1_0_0 k1_0_1 k1_0_2 k1_0_3 k1_0_4 k1_0_5 k1_0_6 k1_0_7 k1_0_8 a0 0 ())
def aM (N:Nat) (k1_0_0:ByteArray) (k1_0_1:Int) (k1_0_2:(List Int)) (k1_0_3:Int) (k1_0_4:Int) (k1_0_5:Int) (k1_0_6:ByteArray) (k1_0_7:(List Int)) (k1_0_8:(List ByteArray)) (kx3:(List Int)->Int->Option ((List Int))):Nat->List Int × Int × Int->Option ((List Int))
 | 0,_=>none
 | n+1,(l4,v5,v6)=>
  if v6 < ((l4.length:Nat):Int) then
  ((gx l4 v6 fun x10=>
  (fI N x10 k1_0_0 k1_0_1 k1_0_2 k1_0_3 k1_0_4 k1_0_5 k1_0_6 k1_0_7 k1_0_8).bind fun r11=>
  if r11=true then
  ((((aM N k1_0_0 k1_0_1 k1_0_2 k1_0_3 k1_0_4 k1_0_5 k1_0_6 k1_0_7 k1_0_8 kx3 n) (l4,v5,IntKind.i64.wrap (v6+1)))))
  else
  (gx l4 v5 fun x12=>
  (((aM N k1_0_0 k1_0_1 k1_0_2 k1_0_3 k1_0_4 k1_0_5 k1_0_6 k1_0_7 k1_0_8 kx3 n) ((l4.set ((v5).toNat) x10),(IntKind.i64.wrap (v5+1)),IntKind.i64.wrap (v6+1)))))))
  else
  ((kx3 l4 v5))
def bu (l15:List Int) (v16:Int):Option ((List Int)):=
 slx l15 v16 ((l15.length:Nat):Int) fun l17=>
 slx (clrL 0 (v16).toNat l15) 0 v16 fun l18=>
 some ((clrL 0 (v16).toNat l15).take ((v16).toNat))
def bf (N:Nat) (a0:(List Int)) (k1_0_0:ByteArray) (k1_0_1:Int) (k1_0_2:(List Int)) (k1_0_3:Int) (k1_0_4:Int) (k1_0_5:Int) (k1_0_6:ByteArray) (k1_0_7:(List Int)) (k1_0_8:(List ByteArray)):Option ((List Int)):=
 (bN N a0 k1_0_0 k1_0_1 k1_0_2 k1_0_3 k1_0_4 k1_0_5 k1_0_6 k1_0_7 k1_0_8).bind fun r1=>
 if r1=(-1) then
 (some a0)
 else
 (((aM N k1_0_0 k1_0_1 k1_0_2 k1_0_3 k1_0_4 k1_0_5 k1_0_6 k1_0_7 k1_0_8 bu N (a0,r1,IntKind.i64.wrap (r1+1)))))
def eB (N:Nat) (a0:List Answer) (a1:Int) (a2:List Answer):Option (List Answer):=insM 143 a0 a1 a2 fun l=>some l
def jM (N:Nat) (a0:(List Client)) (a1:Reply) (kx1:Option ((List Client) × Int)) (c5:Bool):Option ((List Client) × Int):=
 if c5=true then
 (some ([],1))
 else
 ((dS N a0 a1.Client_ a1.Seq).bind fun r6=>
 if r6=1 then
 (kx1)
 else
 (some ([],6)))
def gj (kx11:Int->Option ((List Client) × Int)) (a1:Reply):List Answer->Nat->Unit->Option ((List Client) × Int)
 | [],v12,()=>
  ((kx11 ((v12:Nat):Int)))
 | x16::xs,v12,()=>
  (if x16.Seq < a1.Seq then
  ((((gj kx11 a1 xs (v12+1)) ())))
  else
  ((kx11 ((v12:Nat):Int))))
def lC (N:Nat) (a1:Reply) (x9:Client) (r7:(List Client)) (r8:Int × Bool) (r10:(List Int)) (v19:Int):Option ((List Client) × Int):=
 (dO N a1).bind fun r20=>
 (eB N x9.Done v19 [(Answer.mk a1.Seq r20)]).bind fun r21=>
 some ((r7.set ((r8.1).toNat) (Client.mk x9.Name x9.Low r10 r21)),0)
def jR (N:Nat) (a0:(List Client)) (a1:Reply):Option ((List Client) × Int):=
 (fj N a0).bind fun r7=>
 (iO N r7 a1.Client_).bind fun r8=>
 gx r7 r8.1 fun x9=>
 (bf N x9.Open a1.Client_ a1.Seq a1.Path a1.Err a1.Value_.Kind a1.Value_.N a1.Value_.S a1.Value_.I a1.Value_.L).bind fun r10=>
 (gj (lC N a1 x9 r7 r8 r10) a1 x9.Done 0 ())
def fw (N:Nat) (a0:(List Client)) (a1:Reply):Option ((List Client) × Int):=
 (eP N a0).bind fun r3=>
 if r3=true then
 ((eW N a1).bind fun r4=>
 ((jM N a0 a1 (jR N a0 a1)) (!r4)))
 else
 (((jM N a0 a1 (jR N a0 a1)) true))
def iZ (N:Nat) (a0:(List Client)) (a1:ByteArray) (a2:Int):Option (Reply × Bool):=
 (fZ N a0 a1 a2).bind fun r1=>
 some (r1.2,(decide (r1.1=2)))
def dQ (kx1:Option ((List Client) × Int)) (c6:Bool):Option ((List Client) × Int):=
 if c6=true then
 (some ([],1))
 else
 (kx1)
def eE (kx8:Option ((List Client) × Int)) (c12:Bool):Option ((List Client) × Int):=
 if c12=true then
 (some ([],12))
 else
 (kx8)
def fx (N:Nat) (a0:(List Client)) (r7:Int × Bool) (a2:Int):Option ((List Client) × Int):=
 (fj N a0).bind fun r13=>
 gx r13 r7.1 fun x14=>
 (delAck N x14.Done (if a2 > x14.Low then a2 else x14.Low)).bind fun r15=>
 some ((r13.set ((r7.1).toNat) (Client.mk x14.Name (if a2 > x14.Low then a2 else x14.Low) x14.Open r15)),0)
def fp (N:Nat) (a0:(List Client)) (a1:ByteArray) (a2:Int):Option ((List Client) × Int):=
 (iO N a0 a1).bind fun r7=>
 if r7.2=true then
 (gx a0 r7.1 fun x10=>
 if 0 < ((x10.Open.length:Nat):Int) then
 (gx x10.Open 0 fun x11=>
 ((eE (fx N a0 r7 a2)) (decide (x11<=a2))))
 else
 (((eE (fx N a0 r7 a2)) false)))
 else
 (some ([],6))
def dC (N:Nat) (a0:(List Client)) (a1:ByteArray) (a2:Int):Option ((List Client) × Int):=
 (eP N a0).bind fun r3=>
 if r3=true then
 ((gD N a1).bind fun r4=>
 if r4=true then
 ((fX N a2).bind fun r5=>
 ((dQ (fp N a0 a1 a2)) (!r5)))
 else
 (((dQ (fp N a0 a1 a2)) true)))
 else
 (((dQ (fp N a0 a1 a2)) true))
def kD (N:Nat)  : Option (Bool):=
 (fR N [] (⟨#[99]⟩) 1).bind fun r1=>
 (fR N r1.1 (⟨#[99]⟩) 1).bind fun r2=>
 (fw N r1.1 (Reply.mk (⟨#[99]⟩) 1 [] 0 (Value.mk 1 5 (⟨#[]⟩) [] []))).bind fun r3=>
 (iZ N r3.1 (⟨#[99]⟩) 1).bind fun r4=>
 (dC N r3.1 (⟨#[99]⟩) 1).bind fun r5=>
 if r1.2=0 then
 (if r2.2=7 then
 (if r3.2=0 then
 (if r4.2=true then
 (if r4.1.Value_.N=5 then
 (if r5.2=0 then
 ((dS N r1.1 (⟨#[99]⟩) 1).bind fun r7=>
 if r7=1 then
 ((dS N r3.1 (⟨#[99]⟩) 1).bind fun r8=>
 if r8=2 then
 ((dS N r5.1 (⟨#[99]⟩) 1).bind fun r9=>
 if r9=3 then
 ((dS N r5.1 (⟨#[99]⟩) 2).bind fun r10=>
 (some (decide (r10=0))))
 else
 ((some false)))
 else
 ((some false)))
 else
 ((some false)))
 else
 ((some false)))
 else
 ((some false)))
 else
 ((some false)))
 else
 ((some false)))
 else
 ((some false)))
 else
 ((some false))
def eZ (kx18:Option (Bool)) (c22:Bool):Option (Bool):=
 if c22=true then
 (some false)
 else
 (kx18)
def fb (x13:aa) (l5:List Bool) (kx16:(List Bool)->(List Bool)->(List Bool)->(List Int)->(List Client)->Int->Option (Bool)) (l6:List Bool) (l7:List Bool) (l8:List Int) (r17:(List Client) × Int):Option (Bool):=
 rng (IntKind.i64.wrap (Int.tmod x13.Client_ 3)) 3 <|
 rng (IntKind.i64.wrap (1+(IntKind.i64.wrap (Int.tmod x13.Seq 31)))) 32 <|
 gN l5 (((IntKind.i64.wrap (Int.tmod x13.Client_ 3)).toNat * 32)+(IntKind.i64.wrap (1+(IntKind.i64.wrap (Int.tmod x13.Seq 31)))).toNat * 1) fun x23=>
 if x23=true then
 (rng (IntKind.i64.wrap (Int.tmod x13.Client_ 3)) 3 <|
 rng (IntKind.i64.wrap (1+(IntKind.i64.wrap (Int.tmod x13.Seq 31)))) 32 <|
 (kx16 (l5.set (((IntKind.i64.wrap (Int.tmod x13.Client_ 3)).toNat * 32)+(IntKind.i64.wrap (1+(IntKind.i64.wrap (Int.tmod x13.Seq 31)))).toNat * 1) true) l6 l7 l8 r17.1 r17.2))
 else
 (rng (IntKind.i64.wrap (Int.tmod x13.Client_ 3)) 3 <|
 rng (IntKind.i64.wrap (1+(IntKind.i64.wrap (Int.tmod x13.Seq 31)))) 32 <|
 (kx16 (l5.set (((IntKind.i64.wrap (Int.tmod x13.Client_ 3)).toNat * 32)+(IntKind.i64.wrap (1+(IntKind.i64.wrap (Int.tmod x13.Seq 31)))).toNat * 1) (decide (r17.2=0))) l6 l7 l8 r17.1 r17.2))
def fg (kx25:Option (Bool)) (c30:Bool):Option (Bool):=
 if c30=true then
 (some false)
 else
 (kx25)
def eo (r24:(List Client) × Int) (x13:aa) (l6:List Bool) (l8:List Int) (kx16:(List Bool)->(List Bool)->(List Bool)->(List Int)->(List Client)->Int->Option (Bool)) (l5:List Bool) (l7:List Bool):Option (Bool):=
 if r24.2=0 then
 (rng (IntKind.i64.wrap (Int.tmod x13.Client_ 3)) 3 <|
 rng (IntKind.i64.wrap (1+(IntKind.i64.wrap (Int.tmod x13.Seq 31)))) 32 <|
 gN l6 (((IntKind.i64.wrap (Int.tmod x13.Client_ 3)).toNat * 32)+(IntKind.i64.wrap (1+(IntKind.i64.wrap (Int.tmod x13.Seq 31)))).toNat * 1) fun x31=>
 rng (IntKind.i64.wrap (Int.tmod x13.Client_ 3)) 3 <|
 rng (IntKind.i64.wrap (1+(IntKind.i64.wrap (Int.tmod x13.Seq 31)))) 32 <|
 gN l8 (((IntKind.i64.wrap (Int.tmod x13.Client_ 3)).toNat * 32)+(IntKind.i64.wrap (1+(IntKind.i64.wrap (Int.tmod x13.Seq 31)))).toNat * 1) fun x32=>
 (kx16 l5 (l6.set (((IntKind.i64.wrap (Int.tmod x13.Client_ 3)).toNat * 32)+(IntKind.i64.wrap (1+(IntKind.i64.wrap (Int.tmod x13.Seq 31)))).toNat * 1) true) l7 (l8.set (((IntKind.i64.wrap (Int.tmod x13.Client_ 3)).toNat * 32)+(IntKind.i64.wrap (1+(IntKind.i64.wrap (Int.tmod x13.Seq 31)))).toNat * 1) x13.Value_) r24.1 r24.2))
 else
 ((kx16 l5 l6 l7 l8 r24.1 r24.2))
def fV (kx37:Option (Bool)) (kx16:(List Bool)->(List Bool)->(List Bool)->(List Int)->(List Client)->Int->Option (Bool)) (l5:List Bool) (l6:List Bool) (l34:List Bool) (l8:List Int) (r33:(List Client) × Int) (c39:Bool):Option (Bool):=
 if c39=true then
 (kx37)
 else
 ((kx16 l5 l6 l34 l8 r33.1 r33.2))
def iS (x13:aa) (v35:Int) (l34:List Bool) (rec36:(List Bool × Int)->Option (Bool)):Option (Bool):=
 rng (IntKind.i64.wrap (Int.tmod x13.Client_ 3)) 3 <|
 rng v35 32 <|
 gN l34 (((IntKind.i64.wrap (Int.tmod x13.Client_ 3)).toNat * 32)+(v35).toNat * 1) fun x41=>
 ((rec36 ((l34.set (((IntKind.i64.wrap (Int.tmod x13.Client_ 3)).toNat * 32)+(v35).toNat * 1) true),IntKind.i64.wrap (v35+1))))
def dt (x13:aa) (kx16:(List Bool)->(List Bool)->(List Bool)->(List Int)->(List Client)->Int->Option (Bool)) (l5:List Bool) (l6:List Bool) (l8:List Int) (r33:(List Client) × Int):Nat->List Bool × Int->Option (Bool)
 | 0,_=>none
 | n+1,(l34,v35)=>
  if v35<=(IntKind.i64.wrap (1+(IntKind.i64.wrap (Int.tmod x13.Seq 31)))) then
  (((fV (iS x13 v35 l34 (dt x13 kx16 l5 l6 l8 r33 n)) kx16 l5 l6 l34 l8 r33) (decide (r33.2=0))))
  else
  (((fV (iS x13 v35 l34 (dt x13 kx16 l5 l6 l8 r33 n)) kx16 l5 l6 l34 l8 r33) false))
def dK (kx53:Option (Bool)) (c59:Bool):Option (Bool):=
 if c59=true then
 (some false)
 else
 (kx53)
def eY (N:Nat) (l49:List Client) (x13:aa) (rec11:(List Bool × List Bool × List Bool × List Int × List Client)->Option (Bool)) (l42:List Bool) (l43:List Bool) (l44:List Bool) (l45:List Int) (v64:Int):Option (Bool):=
 (dS N l49 (bstr [IntKind.u8.wrap (97+(IntKind.u8.wrap (IntKind.i64.wrap (Int.tmod x13.Client_ 3))))]) (IntKind.i64.wrap (1+(IntKind.i64.wrap (Int.tmod x13.Seq 31))))).bind fun r65=>
 if r65=v64 then
 (((rec11 (l42,l43,l44,l45,l49))))
 else
 (some false)
def dJ (x13:aa) (l44:List Bool) (N:Nat) (l49:List Client) (rec11:(List Bool × List Bool × List Bool × List Int × List Client)->Option (Bool)) (l42:List Bool) (l43:List Bool) (l45:List Int):Option (Bool):=
 rng (IntKind.i64.wrap (Int.tmod x13.Client_ 3)) 3 <|
 rng (IntKind.i64.wrap (1+(IntKind.i64.wrap (Int.tmod x13.Seq 31)))) 32 <|
 gN l44 (((IntKind.i64.wrap (Int.tmod x13.Client_ 3)).toNat * 32)+(IntKind.i64.wrap (1+(IntKind.i64.wrap (Int.tmod x13.Seq 31)))).toNat * 1) fun x61=>
 if x61=true then
 (((eY N l49 x13 rec11 l42 l43 l44 l45) 3))
 else
 (rng (IntKind.i64.wrap (Int.tmod x13.Client_ 3)) 3 <|
 rng (IntKind.i64.wrap (1+(IntKind.i64.wrap (Int.tmod x13.Seq 31)))) 32 <|
 gN l43 (((IntKind.i64.wrap (Int.tmod x13.Client_ 3)).toNat * 32)+(IntKind.i64.wrap (1+(IntKind.i64.wrap (Int.tmod x13.Seq 31)))).toNat * 1) fun x62=>
 if x62=true then
 (((eY N l49 x13 rec11 l42 l43 l44 l45) 2))
 else
 (rng (IntKind.i64.wrap (Int.tmod x13.Client_ 3)) 3 <|
 rng (IntKind.i64.wrap (1+(IntKind.i64.wrap (Int.tmod x13.Seq 31)))) 32 <|
 gN l42 (((IntKind.i64.wrap (Int.tmod x13.Client_ 3)).toNat * 32)+(IntKind.i64.wrap (1+(IntKind.i64.wrap (Int.tmod x13.Seq 31)))).toNat * 1) fun x63=>
 if x63=true then
 (((eY N l49 x13 rec11 l42 l43 l44 l45) 1))
 else
 (((eY N l49 x13 rec11 l42 l43 l44 l45) 0))))
def eh (N:Nat) (x13:aa) (l43:List Bool) (l44:List Bool) (l45:List Int) (rec11:(List Bool × List Bool × List Bool × List Int × List Client)->Option (Bool)) (l42:List Bool) (l49:List Client):Option (Bool):=
 (eP N l49).bind fun r51=>
 if r51=true then
 (((iZ N l49 (bstr [IntKind.u8.wrap (97+(IntKind.u8.wrap (IntKind.i64.wrap (Int.tmod x13.Client_ 3))))]) (IntKind.i64.wrap (1+(IntKind.i64.wrap (Int.tmod x13.Seq 31))))).bind fun r52=>
 rng (IntKind.i64.wrap (Int.tmod x13.Client_ 3)) 3 <|
 rng (IntKind.i64.wrap (1+(IntKind.i64.wrap (Int.tmod x13.Seq 31)))) 32 <|
 gN l43 (((IntKind.i64.wrap (Int.tmod x13.Client_ 3)).toNat * 32)+(IntKind.i64.wrap (1+(IntKind.i64.wrap (Int.tmod x13.Seq 31)))).toNat * 1) fun x55=>
 if x55=true then
 (rng (IntKind.i64.wrap (Int.tmod x13.Client_ 3)) 3 <|
 rng (IntKind.i64.wrap (1+(IntKind.i64.wrap (Int.tmod x13.Seq 31)))) 32 <|
 gN l44 (((IntKind.i64.wrap (Int.tmod x13.Client_ 3)).toNat * 32)+(IntKind.i64.wrap (1+(IntKind.i64.wrap (Int.tmod x13.Seq 31)))).toNat * 1) fun x56=>
 if r52.2=(!x56) then
 (if r52.2=true then
 (rng (IntKind.i64.wrap (Int.tmod x13.Client_ 3)) 3 <|
 rng (IntKind.i64.wrap (1+(IntKind.i64.wrap (Int.tmod x13.Seq 31)))) 32 <|
 gN l45 (((IntKind.i64.wrap (Int.tmod x13.Client_ 3)).toNat * 32)+(IntKind.i64.wrap (1+(IntKind.i64.wrap (Int.tmod x13.Seq 31)))).toNat * 1) fun x57=>
 ((dK (dJ x13 l44 N l49 rec11 l42 l43 l45)) (!decide (r52.1.Value_.N=x57))))
 else
 (((dK (dJ x13 l44 N l49 rec11 l42 l43 l45)) false)))
 else
 (((dK (dJ x13 l44 N l49 rec11 l42 l43 l45)) true)))
 else
 (if r52.2=false then
 (if r52.2=true then
 (rng (IntKind.i64.wrap (Int.tmod x13.Client_ 3)) 3 <|
 rng (IntKind.i64.wrap (1+(IntKind.i64.wrap (Int.tmod x13.Seq 31)))) 32 <|
 gN l45 (((IntKind.i64.wrap (Int.tmod x13.Client_ 3)).toNat * 32)+(IntKind.i64.wrap (1+(IntKind.i64.wrap (Int.tmod x13.Seq 31)))).toNat * 1) fun x58=>
 ((dK (dJ x13 l44 N l49 rec11 l42 l43 l45)) (!decide (r52.1.Value_.N=x58))))
 else
 (((dK (dJ x13 l44 N l49 rec11 l42 l43 l45)) false)))
 else
 (((dK (dJ x13 l44 N l49 rec11 l42 l43 l45)) true)))))
 else
 (some false)
def aR (N:Nat) (x13:aa) (rec11:(List Bool × List Bool × List Bool × List Int × List Client)->Option (Bool)) (l9:List Client) (l42:List Bool) (l43:List Bool) (l44:List Bool) (l45:List Int) (l46:List Client) (v47:Int):Option (Bool):=
 if v47=0 then
 (((eh N x13 l43 l44 l45 rec11 l42) l46))
 else
 (((eh N x13 l43 l44 l45 rec11 l42) l9))
def aJ (N:Nat):List aa->Nat->List Bool × List Bool × List Bool × List Int × List Client->Option (Bool)
 | [],v10,(l5,l6,l7,l8,l9)=>
  (some true)
 | x13::xs,v10,(l5,l6,l7,l8,l9)=>
  (if (Int.tmod x13.Kind 3)=0 then
  ((fR N l9 (bstr [IntKind.u8.wrap (97+(IntKind.u8.wrap (IntKind.i64.wrap (Int.tmod x13.Client_ 3))))]) (IntKind.i64.wrap (1+(IntKind.i64.wrap (Int.tmod x13.Seq 31))))).bind fun r17=>
  if r17.2=0 then
  (rng (IntKind.i64.wrap (Int.tmod x13.Client_ 3)) 3 <|
  rng (IntKind.i64.wrap (1+(IntKind.i64.wrap (Int.tmod x13.Seq 31)))) 32 <|
  gN l5 (((IntKind.i64.wrap (Int.tmod x13.Client_ 3)).toNat * 32)+(IntKind.i64.wrap (1+(IntKind.i64.wrap (Int.tmod x13.Seq 31)))).toNat * 1) fun x20=>
  if x20=true then
  (((eZ (fb x13 l5 (aR N x13 (aJ N xs (v10+1)) l9) l6 l7 l8 r17)) true))
  else
  (rng (IntKind.i64.wrap (Int.tmod x13.Client_ 3)) 3 <|
  rng (IntKind.i64.wrap (1+(IntKind.i64.wrap (Int.tmod x13.Seq 31)))) 32 <|
  gN l7 (((IntKind.i64.wrap (Int.tmod x13.Client_ 3)).toNat * 32)+(IntKind.i64.wrap (1+(IntKind.i64.wrap (Int.tmod x13.Seq 31)))).toNat * 1) fun x21=>
  ((eZ (fb x13 l5 (aR N x13 (aJ N xs (v10+1)) l9) l6 l7 l8 r17)) x21)))
  else
  (((eZ (fb x13 l5 (aR N x13 (aJ N xs (v10+1)) l9) l6 l7 l8 r17)) false)))
  else
  (if (Int.tmod x13.Kind 3)=1 then
  ((fw N l9 (Reply.mk (bstr [IntKind.u8.wrap (97+(IntKind.u8.wrap (IntKind.i64.wrap (Int.tmod x13.Client_ 3))))]) (IntKind.i64.wrap (1+(IntKind.i64.wrap (Int.tmod x13.Seq 31)))) [] 0 (Value.mk 1 x13.Value_ (⟨#[]⟩) [] []))).bind fun r24=>
  rng (IntKind.i64.wrap (Int.tmod x13.Client_ 3)) 3 <|
  rng (IntKind.i64.wrap (1+(IntKind.i64.wrap (Int.tmod x13.Seq 31)))) 32 <|
  gN l5 (((IntKind.i64.wrap (Int.tmod x13.Client_ 3)).toNat * 32)+(IntKind.i64.wrap (1+(IntKind.i64.wrap (Int.tmod x13.Seq 31)))).toNat * 1) fun x27=>
  if x27=true then
  (rng (IntKind.i64.wrap (Int.tmod x13.Client_ 3)) 3 <|
  rng (IntKind.i64.wrap (1+(IntKind.i64.wrap (Int.tmod x13.Seq 31)))) 32 <|
  gN l6 (((IntKind.i64.wrap (Int.tmod x13.Client_ 3)).toNat * 32)+(IntKind.i64.wrap (1+(IntKind.i64.wrap (Int.tmod x13.Seq 31)))).toNat * 1) fun x28=>
  if x28=true then
  (((fg (eo r24 x13 l6 l8 (aR N x13 (aJ N xs (v10+1)) l9) l5 l7)) (!decide ((decide (r24.2=0))=false))))
  else
  (rng (IntKind.i64.wrap (Int.tmod x13.Client_ 3)) 3 <|
  rng (IntKind.i64.wrap (1+(IntKind.i64.wrap (Int.tmod x13.Seq 31)))) 32 <|
  gN l7 (((IntKind.i64.wrap (Int.tmod x13.Client_ 3)).toNat * 32)+(IntKind.i64.wrap (1+(IntKind.i64.wrap (Int.tmod x13.Seq 31)))).toNat * 1) fun x29=>
  ((fg (eo r24 x13 l6 l8 (aR N x13 (aJ N xs (v10+1)) l9) l5 l7)) (!decide ((decide (r24.2=0))=(!x29))))))
  else
  (((fg (eo r24 x13 l6 l8 (aR N x13 (aJ N xs (v10+1)) l9) l5 l7)) (!decide ((decide (r24.2=0))=false)))))
  else
  ((dC N l9 (bstr [IntKind.u8.wrap (97+(IntKind.u8.wrap (IntKind.i64.wrap (Int.tmod x13.Client_ 3))))]) (IntKind.i64.wrap (1+(IntKind.i64.wrap (Int.tmod x13.Seq 31))))).bind fun r33=>
  (dt x13 (aR N x13 (aJ N xs (v10+1)) l9) l5 l6 l8 r33 N (l7,1)))))
def gl (N:Nat) (a0:(List aa)):Option (Bool):=
 (kD N).bind fun r2=>
 if r2=true then
 ((if 120 < ((a0.length:Nat):Int) then
 (some true)
 else
 (((aJ N a0 0 ((List.replicate 96 false),(List.replicate 96 false),(List.replicate 96 false),(List.replicate 96 (0:Int)),[]))))))
 else
 (some false)
end Go.Proofs.Yteldkhmcgloafaa
