/- The models of the functions. No statement. -/
import Derived.Test.YteldkhmcgloafaaT
/- The functions of the program as plain functions on plain data. -/
set_option maxHeartbeats 40000000
set_option synthInstance.maxHeartbeats 2000000
set_option synthInstance.maxSize 4000
set_option linter.unusedSimpArgs false
set_option linter.unusedVariables false
set_option maxRecDepth 100000
namespace Go.Proofs.Yteldkhmcgloafaa
open Go Go.Proofs Go.Abs
def delAck (N:Nat) (l:List Answer) (lo:Int):Option (List Answer):=if l.length < N/\l.length<=4611686018427387904 then some (l.filter fun a=>!decide (a.Seq<=lo)) else none
def gb (N:Nat) (a0:ByteArray):Option (Bool):=
 if 1<=((a0.size:Nat):Int) then
 ((some (decide (((a0.size:Nat):Int)<=32))))
 else
 ((some false))
def eu (a1:Int):List Int->Nat->Unit->Option (Int)
 | [],v2,()=>
  (some (-1))
 | x5::xs,v2,()=>
  (if a1=x5 then
  (some ((v2:Nat):Int))
  else
  ((((eu a1 xs (v2+1)) ()))))
def gC (N:Nat) (a0:(List Int)) (a1:Int):Option (Int):=
 (eu a1 a0 0 ())
def et (N:Nat) (a0:(List Int)) (a1:Int):Option (Bool):=
 (gC N a0 a1).bind fun r1=>
 some (decide (0<=r1))
def fB (N:Nat) (a0:Int):Option (Bool):=
 if 1<=a0 then
 ((some (decide (a0<=1099511627776))))
 else
 ((some false))
def iz (kx1:Option (Bool)) (c3:Bool):Option (Bool):=
 if c3=true then
 (some false)
 else
 (kx1)
def ij (kx7:Bool->Option (Bool)) (a0:Value) (c11:Bool):Option (Bool):=
 if c11=true then
 ((kx7 true))
 else
 (if 0 < ((a0.L.length:Nat):Int) then
 ((kx7 (!decide (a0.Kind=5))))
 else
 ((kx7 false)))
def iy (kx7:Bool->Option (Bool)) (a0:Value) (c9:Bool):Option (Bool):=
 if c9=true then
 ((kx7 true))
 else
 (if 0 < ((a0.I.length:Nat):Int) then
 (((ij kx7 a0) (!decide (a0.Kind=4))))
 else
 (((ij kx7 a0) false)))
def iB (kx4:Option (Bool)) (c12:Bool):Option (Bool):=
 if c12=true then
 (some false)
 else
 (kx4)
def eP (a0:Value) (kx4:Option (Bool)) (c6:Bool):Option (Bool):=
 if c6=true then
 (some false)
 else
 (if (sEq a0.S (⟨#[]⟩))=true then
 (((iy (iB kx4) a0) false))
 else
 (((iy (iB kx4) a0) (!decide (a0.Kind=3)))))
def fC (kx13:Option (Bool)) (c15:Bool):Option (Bool):=
 if c15=true then
 (some false)
 else
 (kx13)
def eJ  : List ByteArray->Nat->Unit->Option (Bool)
 | [],v17,()=>
  (some true)
 | x20::xs,v17,()=>
  (if 64 < ((x20.size:Nat):Int) then
  (some false)
  else
  ((((eJ xs (v17+1)) ()))))
def fE (a0:Value):Option (Bool):=
 (eJ a0.L 0 ())
def eN (a0:Value):Option (Bool):=
 if 64 < ((a0.S.size:Nat):Int) then
 (((fC (fE a0)) true))
 else
 (if 16 < ((a0.I.length:Nat):Int) then
 (((fC (fE a0)) true))
 else
 (((fC (fE a0)) (decide (16 < ((a0.L.length:Nat):Int))))))
def iw (a0:Value) (N:Nat):Option (Bool):=
 if a0.N=0 then
 (((eP a0 (eN a0)) false))
 else
 (if a0.Kind=1 then
 (((eP a0 (eN a0)) false))
 else
 (if a0.Kind=2 then
 (((eP a0 (eN a0)) (!decide (a0.N=1))))
 else
 (((eP a0 (eN a0)) true))))
def fJ (N:Nat) (a0:Value):Option (Bool):=
 if a0.Kind < 0 then
 (((iz (iw a0 N)) true))
 else
 (((iz (iw a0 N)) (decide (5 < a0.Kind))))
def eF (N:Nat) (a0:Reply):Option (Bool):=
 (gb N a0.Client_).bind fun r2=>
 if r2=true then
 ((fB N a0.Seq).bind fun r3=>
 if r3=true then
 (if ((a0.Path.length:Nat):Int)=0 then
 (if 0<=a0.Err then
 (if a0.Err<=27 then
 ((fJ N a0.Value_).bind fun r4=>
 if r4=true then
 (if a0.Err=0 then
 ((some true))
 else
 ((some (decide (a0.Value_.Kind=0)))))
 else
 ((some false)))
 else
 ((some false)))
 else
 ((some false)))
 else
 ((some false)))
 else
 ((some false)))
 else
 ((some false))
def eb (kx1:Option (Bool)) (c4:Bool):Option (Bool):=
 if c4=true then
 (some false)
 else
 (kx1)
def gf (kx13:Option (Bool)) (c15:Bool):Option (Bool):=
 if c15=true then
 (some false)
 else
 (kx13)
def fW (rec8:Int->Option (Bool)) (x10:Int):Option (Bool):=
 ((rec8 x10))
def dD (kx5:Option (Bool)):List Int->Nat->Int->Option (Bool)
 | [],v7,v6=>
  kx5
 | x10::xs,v7,v6=>
  (if x10<=v6 then
  (((gf (fW (dD kx5 xs (v7+1)) x10)) true))
  else
  (((gf (fW (dD kx5 xs (v7+1)) x10)) (decide (1099511627776 < x10)))))
def dK (kx24:Option (Bool)) (c28:Bool):Option (Bool):=
 if c28=true then
 (some false)
 else
 (kx24)
def dF (rec19:Int->Option (Bool)) (x21:Answer):Option (Bool):=
 ((rec19 x21.Seq))
def bA (N:Nat) (a0:Client):List Answer->Nat->Int->Option (Bool)
 | [],v18,v17=>
  (some true)
 | x21::xs,v18,v17=>
  (if x21.Seq<=v17 then
  (((dK (dF (bA N a0 xs (v18+1)) x21)) true))
  else
  ((et N a0.Open x21.Seq).bind fun r26=>
  if r26=true then
  (((dK (dF (bA N a0 xs (v18+1)) x21)) true))
  else
  ((eF N x21.Reply_).bind fun r27=>
  if r27=true then
  (if (sEq x21.Reply_.Client_ a0.Name)=true then
  (((dK (dF (bA N a0 xs (v18+1)) x21)) (!decide (x21.Reply_.Seq=x21.Seq))))
  else
  (((dK (dF (bA N a0 xs (v18+1)) x21)) true)))
  else
  (((dK (dF (bA N a0 xs (v18+1)) x21)) true)))))
def jf (N:Nat) (a0:Client):Option (Bool):=
 (bA N a0 a0.Done 0 a0.Low)
def ed (N:Nat) (a0:Client):Option (Bool):=
 (dD (jf N a0) a0.Open 0 a0.Low)
def fb (N:Nat) (a0:Client):Option (Bool):=
 (gb N a0.Name).bind fun r3=>
 if r3=true then
 (if a0.Low < 0 then
 (((eb (ed N a0)) true))
 else
 (if 1099511627776 < a0.Low then
 (((eb (ed N a0)) true))
 else
 (((eb (ed N a0)) (decide (16 < (IntKind.i64.wrap (((a0.Open.length:Nat):Int)+((a0.Done.length:Nat):Int)))))))))
 else
 (((eb (ed N a0)) true))
def iW (rec4:Unit->Option (Bool)) (c12:Bool):Option (Bool):=
 if c12=true then
 (some false)
 else
 (((rec4 ())))
def eI (N:Nat) (a0:(List Client)):List Client->Nat->Unit->Option (Bool)
 | [],v3,()=>
  (some true)
 | x6::xs,v3,()=>
  ((fb N x6).bind fun r10=>
  if r10=true then
  (if 0 < ((v3:Nat):Int) then
  (gx a0 (IntKind.i64.wrap (((v3:Nat):Int) - 1)) fun x11=>
  ((iW (eI N a0 xs (v3+1))) (!(sLt x11.Name x6.Name))))
  else
  (((iW (eI N a0 xs (v3+1))) false)))
  else
  (((iW (eI N a0 xs (v3+1))) true)))
def ey (N:Nat) (a0:(List Client)):Option (Bool):=
 if 32 < ((a0.length:Nat):Int) then
 (some false)
 else
 (((eI N a0 a0 0 ())))
def bS (N:Nat) (a0:(List Int)):Option ((List Int)):=
 (apn 7 a0 <|
 some a0)
def bV (N:Nat) (a0:(List ByteArray)):Option ((List ByteArray)):=
 (apn 15 a0 <|
 some a0)
def dE (N:Nat) (a0:Reply):Option (Reply):=
 (bS N a0.Value_.I).bind fun r1=>
 (bV N a0.Value_.L).bind fun r2=>
 some (Reply.mk a0.Client_ a0.Seq [] a0.Err (Value.mk a0.Value_.Kind a0.Value_.N a0.Value_.S r1 r2))
def eV (kx12:Option (Int × Reply)) (a2:Int):List Int->Nat->Unit->Option (Int × Reply)
 | [],v13,()=>
  kx12
 | x16::xs,v13,()=>
  (if x16=a2 then
  (some (1,(Reply.mk (⟨#[]⟩) 0 [] 0 (Value.mk 0 0 (⟨#[]⟩) [] []))))
  else
  ((((eV kx12 a2 xs (v13+1)) ()))))
def fN (kx19:Option (Int × Reply)) (a2:Int) (N:Nat):List Answer->Nat->Unit->Option (Int × Reply)
 | [],v20,()=>
  kx19
 | x23::xs,v20,()=>
  (if x23.Seq=a2 then
  ((dE N x23.Reply_).bind fun r26=>
  some (2,r26))
  else
  ((((fN kx19 a2 N xs (v20+1)) ()))))
def lk  : Option (Int × Reply):=
 (some (0,(Reply.mk (⟨#[]⟩) 0 [] 0 (Value.mk 0 0 (⟨#[]⟩) [] []))))
def kU (a2:Int) (N:Nat) (x7:Client):Option (Int × Reply):=
 (fN lk a2 N x7.Done 0 ())
def fL (a1:ByteArray) (a2:Int) (N:Nat):List Client->Nat->Unit->Option (Int × Reply)
 | [],v4,()=>
  (some (0,(Reply.mk (⟨#[]⟩) 0 [] 0 (Value.mk 0 0 (⟨#[]⟩) [] []))))
 | x7::xs,v4,()=>
  (if (sEq x7.Name a1)=true then
  ((if a2<=x7.Low then
  (some (3,(Reply.mk (⟨#[]⟩) 0 [] 0 (Value.mk 0 0 (⟨#[]⟩) [] []))))
  else
  (((eV (kU a2 N x7) a2 x7.Open 0 ())))))
  else
  ((((fL a1 a2 N xs (v4+1)) ()))))
def fF (N:Nat) (a0:(List Client)) (a1:ByteArray) (a2:Int):Option (Int × Reply):=
 (ey N a0).bind fun r2=>
 if r2=true then
 (((fL a1 a2 N a0 0 ())))
 else
 (some (0,(Reply.mk (⟨#[]⟩) 0 [] 0 (Value.mk 0 0 (⟨#[]⟩) [] []))))
def bR (N:Nat) (a0:(List Client)) (a1:ByteArray) (a2:Int):Option (Int):=
 (fF N a0 a1 a2).bind fun r1=>
 some r1.1
def gG (N:Nat) (a0:Client) (a1:ByteArray):Option (Int):=
 if (sLt a0.Name a1)=true then
 (some (-1))
 else
 (if (sLt a0.Name a1 || sEq a0.Name a1)=true then
 ((some 0))
 else
 (some 1))
def aB (a0:(List Client)) (N:Nat) (a1:ByteArray) (kx1:Int->Option (Int × Bool)):Nat->Int × Int->Option (Int × Bool)
 | 0,_=>none
 | n+1,(v2,v3)=>
  if v2 < v3 then
  ((gx a0 (IntKind.i64.wrap (shrI .u64 (IntKind.u64.wrap (IntKind.i64.wrap (v2+v3))) 1)) fun x6=>
  (gG N x6 a1).bind fun r7=>
  if r7 < 0 then
  (((aB a0 N a1 kx1 n) (IntKind.i64.wrap ((IntKind.i64.wrap (shrI .u64 (IntKind.u64.wrap (IntKind.i64.wrap (v2+v3))) 1))+1),v3)))
  else
  (((aB a0 N a1 kx1 n) (v2,IntKind.i64.wrap (shrI .u64 (IntKind.u64.wrap (IntKind.i64.wrap (v2+v3))) 1))))))
  else
  ((kx1 v2))
def br (a0:(List Client)) (N:Nat) (a1:ByteArray) (v8:Int):Option (Int × Bool):=
 if v8 < ((a0.length:Nat):Int) then
 (gx a0 v8 fun x10=>
 (gG N x10 a1).bind fun r11=>
 (some (v8,(decide (r11=0)))))
 else
 ((some (v8,false)))
def aV (N:Nat) (a0:(List Client)) (a1:ByteArray):Option (Int × Bool):=
 (aB a0 N a1 (br a0 N a1) N (0,((a0.length:Nat):Int)))
def ia (N:Nat) (a0:(List Client)) (a1:ByteArray):Option (Int × Bool):=
 (aV N a0 a1).bind fun r1=>
 some (r1.1,r1.2)
def bX (N:Nat) (a0:(List Client)):Option ((List Client)):=
 (apn 71 a0 <|
 some a0)
def bU (N:Nat) (a0:(List Answer)):Option ((List Answer)):=
 (apn 143 a0 <|
 some a0)
def fj (rec5:List Client->Option ((List Client))) (l3:List Client) (v4:Nat) (x9:Client) (r10:(List Int)) (N:Nat):Nat->Nat->List Answer->Option ((List Client))
 | 0,v13,l12=>
  ((rec5 (l3.set v4 (Client.mk x9.Name x9.Low r10 l12))))
 | m+1,v13,l12=>
  (gx l3 ((v4:Nat):Int) fun x18=>
  gx l12 ((v13:Nat):Int) fun x19=>
  (dE N x19.Reply_).bind fun r20=>
  (((fj rec5 l3 v4 x9 r10 N m (v13+1)) (l12.set v13 (Answer.mk x19.Seq r20)))))
def fq (N:Nat):Nat->Nat->List Client->Option ((List Client))
 | 0,v4,l3=>
  lenG l3 v4 <|
  (some l3)
 | m+1,v4,l3=>
  (gx l3 ((v4:Nat):Int) fun x9=>
  (bS N x9.Open).bind fun r10=>
  (bU N x9.Done).bind fun r11=>
  (fj (fq N m (v4+1)) l3 v4 x9 r10 N (r11.length - 0) 0 r11))
def eS (N:Nat) (a0:(List Client)):Option ((List Client)):=
 (bX N a0).bind fun r1=>
 (fq N (r1.length - 0) 0 r1)
def bB (N:Nat) (a0:List Client) (a1:Int) (a2:List Client):Option (List Client):=insM 71 a0 a1 a2 fun l=>some l
def gT (N:Nat) (a0:Int):Option (Bool):=
 some (!decide (a0=a0))
def iT (N:Nat) (a0:Int) (a1:Int):Option (Bool):=
 (gT N a0).bind fun r2=>
 if r2=true then
 ((gT N a1).bind fun r3=>
 if r3=true then
 ((some (decide (a0 < a1))))
 else
 ((some true)))
 else
 ((some (decide (a0 < a1))))
def fv (N:Nat) (a0:Int):Option (Bool):=
 some (!decide (a0=a0))
def bI (a0:(List Int)) (N:Nat) (a1:Int) (kx1:Int->Option (Int × Bool)):Nat->Int × Int->Option (Int × Bool)
 | 0,_=>none
 | n+1,(v2,v3)=>
  if v2 < v3 then
  ((gx a0 (IntKind.i64.wrap (shrI .u64 (IntKind.u64.wrap (IntKind.i64.wrap (v2+v3))) 1)) fun x6=>
  (iT N x6 a1).bind fun r7=>
  if r7=true then
  (((bI a0 N a1 kx1 n) (IntKind.i64.wrap ((IntKind.i64.wrap (shrI .u64 (IntKind.u64.wrap (IntKind.i64.wrap (v2+v3))) 1))+1),v3)))
  else
  (((bI a0 N a1 kx1 n) (v2,IntKind.i64.wrap (shrI .u64 (IntKind.u64.wrap (IntKind.i64.wrap (v2+v3))) 1))))))
  else
  ((kx1 v2))
def eA (a0:(List Int)) (a1:Int) (N:Nat) (v8:Int):Option (Int × Bool):=
 if v8 < ((a0.length:Nat):Int) then
 (gx a0 v8 fun x10=>
 if x10=a1 then
 ((some (v8,true)))
 else
 ((fv N x10).bind fun r11=>
 if r11=true then
 ((fv N a1).bind fun r12=>
 (some (v8,r12)))
 else
 ((some (v8,false)))))
 else
 ((some (v8,false)))
def b8 (N:Nat) (a0:(List Int)) (a1:Int):Option (Int × Bool):=
 (bI a0 N a1 (eA a0 a1 N) N (0,((a0.length:Nat):Int)))
def ef (N:Nat) (a0:List Int) (a1:Int) (a2:List Int):Option (List Int):=insM 7 a0 a1 a2 fun l=>some l
def fS (kx1:Option ((List Client) × Int)) (c6:Bool):Option ((List Client) × Int):=
 if c6=true then
 (some ([],1))
 else
 (kx1)
def gS (kx7:Option ((List Client) × Int)) (c10:Bool):Option ((List Client) × Int):=
 if c10=true then
 (some ([],7))
 else
 (kx7)
def gR (kx12:Bool->Option ((List Client) × Int)) (c15:Bool) (c16:Bool):Option ((List Client) × Int):=
 if c16=true then
 (some ([],5))
 else
 ((kx12 c15))
def gP (N:Nat) (a0:(List Client)) (r11:Int × Bool) (a2:Int) (a1:ByteArray) (c17:Bool):Option ((List Client) × Int):=
 (eS N a0).bind fun r18=>
 if c17=true then
 ((gx r18 r11.1 fun x21=>
 (b8 N x21.Open a2).bind fun r22=>
 (ef N x21.Open r22.1 [a2]).bind fun r23=>
 some ((r18.set ((r11.1).toNat) (Client.mk x21.Name x21.Low r23 x21.Done)),0)))
 else
 ((bB N r18 r11.1 [(Client.mk a1 0 [] [])]).bind fun r20=>
 (gx r20 r11.1 fun x24=>
 (b8 N [] a2).bind fun r25=>
 (ef N [] r25.1 [a2]).bind fun r26=>
 some ((r20.set ((r11.1).toNat) (Client.mk a1 0 r26 [])),0)))
def kt (N:Nat) (a0:(List Client)) (a1:ByteArray) (a2:Int):Option ((List Client) × Int):=
 (ia N a0 a1).bind fun r11=>
 if r11.2=true then
 (gx a0 r11.1 fun x14=>
 if (IntKind.i64.wrap (((x14.Open.length:Nat):Int)+((x14.Done.length:Nat):Int)))=16 then
 (((gR (gP N a0 r11 a2 a1)) true true))
 else
 (((gR (gP N a0 r11 a2 a1)) true false)))
 else
 (((gR (gP N a0 r11 a2 a1)) false (decide (((a0.length:Nat):Int)=32))))
def jm (N:Nat) (a0:(List Client)) (a1:ByteArray) (a2:Int):Option ((List Client) × Int):=
 (bR N a0 a1 a2).bind fun r8=>
 if r8=3 then
 (some ([],8))
 else
 (if r8=1 then
 (((gS (kt N a0 a1 a2)) true))
 else
 (((gS (kt N a0 a1 a2)) (decide (r8=2)))))
def fZ (N:Nat) (a0:(List Client)) (a1:ByteArray) (a2:Int):Option ((List Client) × Int):=
 (ey N a0).bind fun r3=>
 if r3=true then
 ((gb N a1).bind fun r4=>
 if r4=true then
 ((fB N a2).bind fun r5=>
 ((fS (jm N a0 a1 a2)) (!r5)))
 else
 (((fS (jm N a0 a1 a2)) true)))
 else
 (((fS (jm N a0 a1 a2)) true))
def fi (N:Nat) (a0:Int) (c0_0:ByteArray) (c0_1:Int) (c0_2:(List Int)) (c0_3:Int) (c0_4:Int) (c0_5:Int) (c0_6:ByteArray) (c0_7:(List Int)) (c0_8:(List ByteArray)):Option (Bool):=
 some (decide (a0=c0_1))
def aQ (N:Nat) (k1_0_0:ByteArray) (k1_0_1:Int) (k1_0_2:(List Int)) (k1_0_3:Int) (k1_0_4:Int) (k1_0_5:Int) (k1_0_6:ByteArray) (k1_0_7:(List Int)) (k1_0_8:(List ByteArray)):List Int->Nat->Unit->Option (Int)
 | [],v2,()=>
  (some (-1))
 | x5::xs,v2,()=>
  ((fi N x5 k1_0_0 k1_0_1 k1_0_2 k1_0_3 k1_0_4 k1_0_5 k1_0_6 k1_0_7 k1_0_8).bind fun r8=>
  if r8=true then
  (some ((v2:Nat):Int))
  else
  ((((aQ N k1_0_0 k1_0_1 k1_0_2 k1_0_3 k1_0_4 k1_0_5 k1_0_6 k1_0_7 k1_0_8 xs (v2+1)) ()))))
def bH (N:Nat) (a0:(List Int)) (k1_0_0:ByteArray) (k1_0_1:Int) (k1_0_2:(List Int)) (k1_0_3:Int) (k1_0_4:Int) (k1_0_5:Int) (k1_0_6:ByteArray) (k1_0_7:(List Int)) (k1_0_8:(List ByteArray)):Option (Int):=
 (aQ N k1_0_0 k1_0_1 k1_0_2 k1_0_3 k1_0_4 k1_0_5 k1_0_6 k1_0_7 k1_0_8 a0 0 ())
def aI (N:Nat) (k1_0_0:ByteArray) (k1_0_1:Int) (k1_0_2:(List Int)) (k1_0_3:Int) (k1_0_4:Int) (k1_0_5:Int) (k1_0_6:ByteArray) (k1_0_7:(List Int)) (k1_0_8:(List ByteArray)) (kx3:(List Int)->Int->Option ((List Int))):Nat->List Int × Int × Int->Option ((List Int))
 | 0,_=>none
 | n+1,(l4,v5,v6)=>
  if v6 < ((l4.length:Nat):Int) then
  ((gx l4 v6 fun x10=>
  (fi N x10 k1_0_0 k1_0_1 k1_0_2 k1_0_3 k1_0_4 k1_0_5 k1_0_6 k1_0_7 k1_0_8).bind fun r11=>
  if r11=true then
  ((((aI N k1_0_0 k1_0_1 k1_0_2 k1_0_3 k1_0_4 k1_0_5 k1_0_6 k1_0_7 k1_0_8 kx3 n) (l4,v5,IntKind.i64.wrap (v6+1)))))
  else
  (gx l4 v5 fun x12=>
  (((aI N k1_0_0 k1_0_1 k1_0_2 k1_0_3 k1_0_4 k1_0_5 k1_0_6 k1_0_7 k1_0_8 kx3 n) ((l4.set ((v5).toNat) x10),(IntKind.i64.wrap (v5+1)),IntKind.i64.wrap (v6+1)))))))
  else
  ((kx3 l4 v5))
def bo (l15:List Int) (v16:Int):Option ((List Int)):=
 slx l15 v16 ((l15.length:Nat):Int) fun l17=>
 slx (clrL 0 (v16).toNat l15) 0 v16 fun l18=>
 some ((clrL 0 (v16).toNat l15).take ((v16).toNat))
def aW (N:Nat) (a0:(List Int)) (k1_0_0:ByteArray) (k1_0_1:Int) (k1_0_2:(List Int)) (k1_0_3:Int) (k1_0_4:Int) (k1_0_5:Int) (k1_0_6:ByteArray) (k1_0_7:(List Int)) (k1_0_8:(List ByteArray)):Option ((List Int)):=
 (bH N a0 k1_0_0 k1_0_1 k1_0_2 k1_0_3 k1_0_4 k1_0_5 k1_0_6 k1_0_7 k1_0_8).bind fun r1=>
 if r1=(-1) then
 (some a0)
 else
 (((aI N k1_0_0 k1_0_1 k1_0_2 k1_0_3 k1_0_4 k1_0_5 k1_0_6 k1_0_7 k1_0_8 bo N (a0,r1,IntKind.i64.wrap (r1+1)))))
def fV (N:Nat) (a0:List Answer) (a1:Int) (a2:List Answer):Option (List Answer):=insM 143 a0 a1 a2 fun l=>some l
def lh (N:Nat) (a0:(List Client)) (a1:Reply) (kx1:Option ((List Client) × Int)) (c5:Bool):Option ((List Client) × Int):=
 if c5=true then
 (some ([],1))
 else
 ((bR N a0 a1.Client_ a1.Seq).bind fun r6=>
 if r6=1 then
 (kx1)
 else
 (some ([],6)))
def jB (kx11:Int->Option ((List Client) × Int)) (a1:Reply):List Answer->Nat->Unit->Option ((List Client) × Int)
 | [],v12,()=>
  ((kx11 ((v12:Nat):Int)))
 | x16::xs,v12,()=>
  (if x16.Seq < a1.Seq then
  ((((jB kx11 a1 xs (v12+1)) ())))
  else
  ((kx11 ((v12:Nat):Int))))
def oN (N:Nat) (a1:Reply) (x9:Client) (r7:(List Client)) (r8:Int × Bool) (r10:(List Int)) (v19:Int):Option ((List Client) × Int):=
 (dE N a1).bind fun r20=>
 (fV N x9.Done v19 [(Answer.mk a1.Seq r20)]).bind fun r21=>
 some ((r7.set ((r8.1).toNat) (Client.mk x9.Name x9.Low r10 r21)),0)
def kT (N:Nat) (a0:(List Client)) (a1:Reply):Option ((List Client) × Int):=
 (eS N a0).bind fun r7=>
 (ia N r7 a1.Client_).bind fun r8=>
 gx r7 r8.1 fun x9=>
 (aW N x9.Open a1.Client_ a1.Seq a1.Path a1.Err a1.Value_.Kind a1.Value_.N a1.Value_.S a1.Value_.I a1.Value_.L).bind fun r10=>
 (jB (oN N a1 x9 r7 r8 r10) a1 x9.Done 0 ())
def jP (N:Nat) (a0:(List Client)) (a1:Reply):Option ((List Client) × Int):=
 (ey N a0).bind fun r3=>
 if r3=true then
 ((eF N a1).bind fun r4=>
 ((lh N a0 a1 (kT N a0 a1)) (!r4)))
 else
 (((lh N a0 a1 (kT N a0 a1)) true))
def eT (N:Nat) (a0:(List Client)) (a1:ByteArray) (a2:Int):Option (Reply × Bool):=
 (fF N a0 a1 a2).bind fun r1=>
 some (r1.2,(decide (r1.1=2)))
def dJ (kx1:Option ((List Client) × Int)) (c6:Bool):Option ((List Client) × Int):=
 if c6=true then
 (some ([],1))
 else
 (kx1)
def dZ (kx8:Option ((List Client) × Int)) (c12:Bool):Option ((List Client) × Int):=
 if c12=true then
 (some ([],12))
 else
 (kx8)
def eW (N:Nat) (a0:(List Client)) (r7:Int × Bool) (a2:Int):Option ((List Client) × Int):=
 (eS N a0).bind fun r13=>
 gx r13 r7.1 fun x14=>
 (delAck N x14.Done (if a2 > x14.Low then a2 else x14.Low)).bind fun r15=>
 some ((r13.set ((r7.1).toNat) (Client.mk x14.Name (if a2 > x14.Low then a2 else x14.Low) x14.Open r15)),0)
def eX (N:Nat) (a0:(List Client)) (a1:ByteArray) (a2:Int):Option ((List Client) × Int):=
 (ia N a0 a1).bind fun r7=>
 if r7.2=true then
 (gx a0 r7.1 fun x10=>
 if 0 < ((x10.Open.length:Nat):Int) then
 (gx x10.Open 0 fun x11=>
 ((dZ (eW N a0 r7 a2)) (decide (x11<=a2))))
 else
 (((dZ (eW N a0 r7 a2)) false)))
 else
 (some ([],6))
def dO (N:Nat) (a0:(List Client)) (a1:ByteArray) (a2:Int):Option ((List Client) × Int):=
 (ey N a0).bind fun r3=>
 if r3=true then
 ((gb N a1).bind fun r4=>
 if r4=true then
 ((fB N a2).bind fun r5=>
 ((dJ (eX N a0 a1 a2)) (!r5)))
 else
 (((dJ (eX N a0 a1 a2)) true)))
 else
 (((dJ (eX N a0 a1 a2)) true))
def ko (N:Nat)  : Option (Bool):=
 (fZ N [] (⟨#[99]⟩) 1).bind fun r1=>
 (fZ N r1.1 (⟨#[99]⟩) 1).bind fun r2=>
 (jP N r1.1 (Reply.mk (⟨#[99]⟩) 1 [] 0 (Value.mk 1 5 (⟨#[]⟩) [] []))).bind fun r3=>
 (eT N r3.1 (⟨#[99]⟩) 1).bind fun r4=>
 (dO N r3.1 (⟨#[99]⟩) 1).bind fun r5=>
 if r1.2=0 then
 (if r2.2=7 then
 (if r3.2=0 then
 (if r4.2=true then
 (if r4.1.Value_.N=5 then
 (if r5.2=0 then
 ((bR N r1.1 (⟨#[99]⟩) 1).bind fun r7=>
 if r7=1 then
 ((bR N r3.1 (⟨#[99]⟩) 1).bind fun r8=>
 if r8=2 then
 ((bR N r5.1 (⟨#[99]⟩) 1).bind fun r9=>
 if r9=3 then
 ((bR N r5.1 (⟨#[99]⟩) 2).bind fun r10=>
 (some (decide (r10=0))))
 else
 ((some false)))
 else
 ((some false)))
 else
 ((some false)))
 else
 ((some false)))
 else
 ((some false)))
 else
 ((some false)))
 else
 ((some false)))
 else
 ((some false)))
 else
 ((some false))
def gu (kx1:Option (Bool)):List ByteArray->Nat->Unit->Option (Bool)
 | [],v2,()=>
  kx1
 | x5::xs,v2,()=>
  (if 200 < ((x5.size:Nat):Int) then
  (some false)
  else
  ((((gu kx1 xs (v2+1)) ()))))
def lO (a0:Reply):Option (Bool):=
 if ((a0.Client_.size:Nat):Int)<=100 then
 (if ((a0.Path.length:Nat):Int)<=40 then
 (if ((a0.Value_.S.size:Nat):Int)<=200 then
 (if ((a0.Value_.I.length:Nat):Int)<=40 then
 ((some (decide (((a0.Value_.L.length:Nat):Int)<=40))))
 else
 ((some false)))
 else
 ((some false)))
 else
 ((some false)))
 else
 ((some false))
def js (N:Nat) (a0:Reply):Option (Bool):=
 (gu (lO a0) a0.Value_.L 0 ())
def iP (kx8:Option (Bool)) (c10:Bool):Option (Bool):=
 if c10=true then
 (some false)
 else
 (kx8)
def gw (x5:Client) (N:Nat) (rec3:Unit->Option (Bool)):Nat->Int->Option (Bool)
 | 0,_=>none
 | n+1,v11=>
  if v11 < ((x5.Done.length:Nat):Int) then
  ((gx x5.Done v11 fun x15=>
  (js N x15.Reply_).bind fun r16=>
  if r16=true then
  ((((gw x5 N rec3 n) (IntKind.i64.wrap (v11+1)))))
  else
  (some false)))
  else
  (((rec3 ())))
def iQ (x5:Client) (N:Nat) (rec3:Unit->Option (Bool)):Option (Bool):=
 (gw x5 N rec3 N 0)
def eG (a0:(List Client)) (N:Nat):List Client->Nat->Unit->Option (Bool)
 | [],v2,()=>
  (some (decide (((a0.length:Nat):Int)<=40)))
 | x5::xs,v2,()=>
  (if 100 < ((x5.Name.size:Nat):Int) then
  (((iP (iQ x5 N (eG a0 N xs (v2+1)))) true))
  else
  (if 40 < ((x5.Open.length:Nat):Int) then
  (((iP (iQ x5 N (eG a0 N xs (v2+1)))) true))
  else
  (((iP (iQ x5 N (eG a0 N xs (v2+1)))) (decide (40 < ((x5.Done.length:Nat):Int)))))))
def jr (N:Nat) (a0:(List Client)):Option (Bool):=
 (eG a0 N a0 0 ())
def fg (a1:(List Int)):List Int->Nat->Unit->Option (Bool)
 | [],v3,()=>
  (some true)
 | x6::xs,v3,()=>
  (gx a1 ((v3:Nat):Int) fun x9=>
  if x6=x9 then
  ((((fg a1 xs (v3+1)) ())))
  else
  (some false))
def gU (N:Nat) (a0:(List Int)) (a1:(List Int)):Option (Bool):=
 if ((a0.length:Nat):Int)=((a1.length:Nat):Int) then
 (((fg a1 a0 0 ())))
 else
 (some false)
def en (a1:(List ByteArray)):List ByteArray->Nat->Unit->Option (Bool)
 | [],v3,()=>
  (some true)
 | x6::xs,v3,()=>
  (gx a1 ((v3:Nat):Int) fun x9=>
  if (sEq x6 x9)=true then
  ((((en a1 xs (v3+1)) ())))
  else
  (some false))
def gE (N:Nat) (a0:(List ByteArray)) (a1:(List ByteArray)):Option (Bool):=
 if ((a0.length:Nat):Int)=((a1.length:Nat):Int) then
 (((en a1 a0 0 ())))
 else
 (some false)
def gm (N:Nat) (a0:Value) (a1:Value):Option (Bool):=
 if a0.Kind=a1.Kind then
 (if a0.N=a1.N then
 (if (sEq a0.S a1.S)=true then
 ((gU N a0.I a1.I).bind fun r2=>
 if r2=true then
 ((gE N a0.L a1.L).bind fun r3=>
 (some r3))
 else
 ((some false)))
 else
 ((some false)))
 else
 ((some false)))
 else
 ((some false))
def eU (N:Nat) (a0:Reply) (a1:Reply):Option (Bool):=
 if (sEq a0.Client_ a1.Client_)=true then
 (if a0.Seq=a1.Seq then
 ((gU N a0.Path a1.Path).bind fun r2=>
 if r2=true then
 (if a0.Err=a1.Err then
 ((gm N a0.Value_ a1.Value_).bind fun r3=>
 (some r3))
 else
 ((some false)))
 else
 ((some false)))
 else
 ((some false)))
 else
 ((some false))
def dT (kx3:Option (Bool)) (c7:Bool):Option (Bool):=
 if c7=true then
 (some true)
 else
 (kx3)
def fD (kx12:Option (Bool)) (c17:Bool):Option (Bool):=
 if c17=true then
 (some false)
 else
 (kx12)
def dz (r11:(List Client) × Int) (N:Nat) (a2:ByteArray) (a4:Int) (r8:Int) (r9:Reply × Bool):Option (Bool):=
 if r11.2=0 then
 ((eT N r11.1 a2 a4).bind fun r19=>
 (bR N r11.1 a2 a4).bind fun r21=>
 if r21=r8 then
 (if r19.2=r9.2 then
 ((eU N r19.1 r9.1).bind fun r22=>
 (some r22))
 else
 ((some false)))
 else
 ((some false)))
 else
 ((some true))
def dy (N:Nat) (a0:(List Client)) (a2:ByteArray) (a4:Int) (a1:ByteArray) (a3:Int):Option (Bool):=
 (bR N a0 a2 a4).bind fun r8=>
 (eT N a0 a2 a4).bind fun r9=>
 (fZ N a0 a1 a3).bind fun r10=>
 (dO N a0 a1 a3).bind fun r11=>
 if r10.2=0 then
 ((eT N r10.1 a2 a4).bind fun r13=>
 (bR N r10.1 a2 a4).bind fun r15=>
 if r15=r8 then
 (if r13.2=r9.2 then
 ((eU N r13.1 r9.1).bind fun r16=>
 ((fD (dz r11 N a2 a4 r8 r9)) (!r16)))
 else
 (((fD (dz r11 N a2 a4 r8 r9)) true)))
 else
 (((fD (dz r11 N a2 a4 r8 r9)) true)))
 else
 ((dz r11 N a2 a4 r8 r9))
def fK (N:Nat) (a0:(List Client)) (a1:ByteArray) (a2:ByteArray) (a3:Int) (a4:Int):Option (Bool):=
 (ko N).bind fun r2=>
 if r2=true then
 (((jr N a0).bind fun r5=>
 if r5=true then
 (if 100 < ((a1.size:Nat):Int) then
 (((dT (dy N a0 a2 a4 a1 a3)) true))
 else
 (if 100 < ((a2.size:Nat):Int) then
 (((dT (dy N a0 a2 a4 a1 a3)) true))
 else
 (if (sEq a1 a2)=true then
 (((dT (dy N a0 a2 a4 a1 a3)) true))
 else
 ((ey N a0).bind fun r6=>
 ((dT (dy N a0 a2 a4 a1 a3)) (!r6))))))
 else
 (((dT (dy N a0 a2 a4 a1 a3)) true))))
 else
 (some false)
end Go.Proofs.Yteldkhmcgloafaa
