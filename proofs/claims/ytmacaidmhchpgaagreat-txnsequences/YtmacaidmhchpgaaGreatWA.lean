import Derived.Test.YtmacaidmhchpgaaGreatB
/- Each Go function computes its model: proofs laid by a program of ours. -/
set_option linter.defProp false
set_option maxHeartbeats 40000000
set_option synthInstance.maxHeartbeats 2000000
set_option synthInstance.maxSize 4000
set_option linter.unusedSimpArgs false
set_option linter.unusedVariables false
set_option maxRecDepth 100000
namespace Go.Proofs.YtmacaidmhchpgaaGreat
open Go Go.Proofs Go.Abs Tryz
noncomputable section
@[go_sem] def Pd(N:Nat):FnS:=⟨[],true,fn1 Value.decA fun q0=>(j3 N q0).map fun r=>vB r,false⟩
def pJ(N:Nat):ar prog 61 (Pd N):=om1 fun a0 _ h=>by
 refine fk (G:=(aL [])) func61 gn ?_;simp only[f61];unfold j3 at h;refine z0 ?_;refine aN ?_;apply aS (fun(c3:Bool)=>⟨tab 86 (af (af au 1 (pF 1)) 12 (vB c3)),(upd RZ 1 (vA 5 (Value.row a0)))⟩)
 .intro hJ1;refine iD h (fun hc2 hc2d h=>?_) fun hc2 hc2d h=>?_
  .have hJ:=hJ1;exact go
  have hJ:=hJ1;exact go
 intro c3 h;unfold tM at h;refine cB h (fun hc3 h=>?_) fun hc3 h=>?_
 .exact go
 refine bm (pp ?_);unfold tT at h;refine aN (aK ?_);apply aS (fun(c12:Bool)=>⟨tab 86 (af (af au 1 (pF 1)) 13 (vB c12)),(upd RZ 1 (vA 5 (Value.row a0)))⟩)
 .intro hJ4;refine iD h (fun hc5 hc5d h=>?_) fun hc5 hc5d h=>?_
  .refine z1 (k2 hc3 hc5d) ?_;have hJ:=hJ4;exact go
  have hJ:=hJ4;exact go
 intro c12 h;unfold lg at h;refine cB h (fun hc8 h=>?_) fun hc8 h=>?_
 .exact go
 apply aS (fun(c17:Bool)=>⟨tab 86 (af (af au 1 (pF 1)) 32 (vB c17)),(upd RZ 1 (vA 5 (Value.row a0)))⟩)
 .intro hJ9;apply aS (fun(c18:Bool)=>⟨tab 86 (af (af au 1 (pF 1)) 32 (vB c18)),(upd RZ 1 (vA 5 (Value.row a0)))⟩)
  .intro hJ10;refine iBs h (fun hc11 h=>?_) fun hc11 h=>?_
   .have hJ:=hJ10;exact go
   have hJ:=hJ10;exact go
  intro c18 h;unfold tN at h;refine cB h (fun hc12 h=>?_) fun hc12 h=>?_
  .refine bm (pp (hJ9 _ true ?_ h));exact wF hc12
  apply aS (fun(c19:Bool)=>⟨tab 86 (af (af au 1 (pF 1)) 32 (vB c19)),(upd RZ 1 (vA 5 (Value.row a0)))⟩)
  .intro hJ13;refine iD h (fun hc14 hc14d h=>?_) fun hc14 hc14d h=>?_
   .have hJ:=hJ13;exact go
   have hJ:=hJ13;exact go
  intro c19 h;unfold s8 at h;refine cB h (fun hc15 h=>?_) fun hc15 h=>?_
  .refine bm (pp (hJ9 _ true ?_ h));exact wF hc15
  have hJ:=hJ9;exact go
 intro c17 h;unfold uC at h;refine cB h (fun hc17 h=>?_) fun hc17 h=>?_
 .exact go
 refine bm (pp ?_);unfold kU at h;refine aN ?_;apply aS (fun(c22:Bool)=>⟨tab 86 (af (af au 1 (pF 1)) 74 (vB c22)),(upd RZ 1 (vA 5 (Value.row a0)))⟩)
 .intro hJ18;refine iD h (fun hc19 hc19d h=>?_) fun hc19 hc19d h=>?_
  .have hJ:=hJ18;exact go
  have hJ:=hJ18;exact go
 intro c22 h;unfold pD at h;refine cB h (fun hc21 h=>?_) fun hc21 h=>?_
 .exact go
 unfold pE at h;refine z1 hc21 ?_;refine lT 76 (fun(v17:Nat) (b:Unit)=>⟨tab 86 (af (af (af au 76 (sF 1 (a0.L.map dA))) 77 (vI (a0.L.length:Int))) 78 (vI (v17:Int))),RZ⟩) () h ?_ ?_ (h0:=wF (k4 hc3 hc8 hc17 hc21))
 .exact go
 rintro v17 ⟨⟩ x20 hi24' hx25 hw26 h;exact go
@[go_sem] def Gc(N:Nat):FnS:=⟨[],true,fn1 Value.decA fun q0=>(uD N q0).map fun r=>vB r,false⟩
def KM(N:Nat):ar prog 213 (Gc N):=om1 fun _ _ h=>by
 refine fk func213 (gc 8 (pJ N) gn) ?_;simp only[f213];unfold uD at h;exact go
@[go_sem] def yU(N d f:Nat):Option FnS:=aL [(16,213,Gc N)] d f
def yL(N:Nat)(a0:List Value)(r:Int)(h:dp N a0=some r):Con prog 201 [] true [sF 5 (a0.map Value.row),.clo 213 []] (vI r):=by
 refine fk (G:=(yU N)) func201 (gc 16 (KM N) gn) ?_;simp only[f201];unfold dp at h;have:LT 2 [0,1,7] [] 0 (fun f (v2:Nat) (b:Unit)=>(af f 8 (.val (.int .i64 (v2:Int))))) (fun R _ _=>R):=⟨⟩;exact go
@[go_sem] def lE(N:Nat):FnS:={own:=[],pure:=true,fn:=fun cs=>match cs with
 | [c0,.clo 213 []]=>((aD 5 Value.dec) c0).bind fun qc0=>(dp N qc0).map fun r=>vI r
 | _=>none}
def uQ(N:Nat):ar prog 201 (lE N):=oz (yL N)
@[go_sem] def vo(N d f:Nat):Option FnS:=aL [(7,201,lE N)] d f
def vm(N:Nat)(a0:List Value)(r:Bool)(h:bT N a0=some r):Con prog 134 [] true [sF 5 (a0.map Value.row),.clo 213 []] (vB r):=by
 refine fk (G:=(vo N)) func134 (gc 7 (uQ N) gn) ?_;simp only[f134];exact go
@[go_sem] def u6(N:Nat):FnS:={own:=[],pure:=true,fn:=fun cs=>match cs with
 | [c0,.clo 213 []]=>((aD 5 Value.dec) c0).bind fun qc0=>(bT N qc0).map fun r=>vB r
 | _=>none}
def sy(N:Nat):ar prog 134 (u6 N):=oz (vm N)
@[go_sem] def QW(N:Nat):FnS:=⟨[],true,fn1 ah.decA fun q0=>(zF N q0).map fun r=>vB r,false⟩
def NO(N:Nat):ar prog 172 (QW N):=om1 fun _ _ h=>by
 refine fk func172 (gc 42 (sy N) gn) ?_;simp only[f172];unfold zF at h;have:J1 1 0 [1] [1] (fun f (c3:Bool)=>(af f 39 (.val (.bool c3)))) (fun R _=>R):=⟨⟩;exact go
@[go_sem] def Hm(N:Nat):FnS:=⟨[],true,fn1 ah.decA fun q0=>(Bm N q0).map fun r=>vB r,false⟩
def MF(N:Nat):ar prog 171 (Hm N):=om1 fun _ _ h=>by
 refine fk func171 (gc 4 (NO N) gn) ?_;simp only[f171];exact go
@[go_sem] def vq(N d f:Nat):Option FnS:=aL [(16,171,Hm N)] d f
def vk(N:Nat)(a0:List ah)(r:Int)(h:bW N a0=some r):Con prog 203 [] true [sF 4 (a0.map ah.row),.clo 171 []] (vI r):=by
 refine fk (G:=(vq N)) func203 (gc 16 (MF N) gn) ?_;simp only[f203];unfold bW at h;have:LT 2 [0,1,7] [] 0 (fun f (v2:Nat) (b:Unit)=>(af f 8 (.val (.int .i64 (v2:Int))))) (fun R _ _=>R):=⟨⟩;exact go
@[go_sem] def kg(N:Nat):FnS:={own:=[],pure:=true,fn:=fun cs=>match cs with
 | [c0,.clo 171 []]=>((aD 4 ah.dec) c0).bind fun qc0=>(bW N qc0).map fun r=>vI r
 | _=>none}
def sB(N:Nat):ar prog 203 (kg N):=oz (vk N)
@[go_sem] def sH(N d f:Nat):Option FnS:=aL [(7,203,kg N)] d f
def sW(N:Nat)(a0:List ah)(r:Bool)(h:bK N a0=some r):Con prog 140 [] true [sF 4 (a0.map ah.row),.clo 171 []] (vB r):=by
 refine fk (G:=(sH N)) func140 (gc 7 (sB N) gn) ?_;simp only[f140];exact go
@[go_sem] def sx(N:Nat):FnS:={own:=[],pure:=true,fn:=fun cs=>match cs with
 | [c0,.clo 171 []]=>((aD 4 ah.dec) c0).bind fun qc0=>(bK N qc0).map fun r=>vB r
 | _=>none}
def qG(N:Nat):ar prog 140 (sx N):=oz (sW N)
@[go_sem] def SI(N:Nat):FnS:=⟨[],true,fn1 Txn.decA fun q0=>(rH N q0).map fun r=>vB r,false⟩
def Gt(N:Nat):ar prog 98 (SI N):=om1 fun a0 _ h=>by
 refine fk func98 (gc 69 (pJ N) (gc 85 (qG N) gn)) ?_;simp only[f98];unfold rH at h;have:J1 3 0 [1] [1] (fun f (c8:Bool)=>(af f 82 (.val (.bool c8)))) (fun R _=>R):=⟨⟩;refine z0 ?_;refine aN ?_;apply aS (fun(c3:Bool)=>⟨tab 87 (af (af au 1 (pF 1)) 42 (vB c3)),(upd RZ 1 (vA 11 (Txn.row a0)))⟩)
 .intro hJ1;refine iD h (fun hc2 hc2d h=>?_) fun hc2 hc2d h=>?_
  .have hJ:=hJ1;exact go
  have hJ:=hJ1;exact go
 intro c3 h;unfold gu at h;refine cB h (fun hc9 h=>?_) fun hc9 h=>?_
 .exact go
 refine bm (pp ?_);unfold gg at h;exact go
@[go_sem] def QE(N:Nat):FnS:=⟨[],true,fn1 ae.decA fun q0=>(CQ N q0).map fun r=>vB r,false⟩
def Ns(N:Nat):ar prog 52 (QE N):=om1 fun _ _ h=>by
 refine fk func52 (gc 14 (Gt N) gn) ?_;simp only[f52];unfold CQ at h;have:LT 2 [1,6,7] [1] 6 (fun f (v2:Nat) (b:Unit)=>(af f 8 (.val (.int .i64 (v2:Int))))) (fun R _ _=>R):=⟨⟩;have:J1 4 0 [1,6,7,8] [1] (fun f (c3:Bool)=>(af f 31 (.val (.bool c3)))) (fun R _=>R):=⟨⟩;exact go
@[go_sem] def NW(N:Nat):FnS:=⟨[],true,fn1 Ref.decA fun q0=>(kH N q0).map fun r=>vB r,false⟩
def uV(N:Nat):ar prog 124 (NW N):=om1 fun _ _ h=>by
 refine fk (G:=(aL [])) func124 gn ?_;simp only[f124];unfold kH at h;exact go
@[go_sem] def PM(N:Nat):FnS:=⟨[],true,fn1 (aC .i64) fun q0=>(oE N q0).map fun r=>vB r,false⟩
def zh(N:Nat):ar prog 125 (PM N):=om1 fun _ _ h=>by
 refine fk (G:=(aL [])) func125 gn ?_;simp only[f125];unfold oE at h;exact go
@[go_sem] def OU(N:Nat):FnS:=⟨[],true,fn1 ai.decA fun q0=>(tA N q0).map fun r=>vB r,false⟩
def Lw(N:Nat):ar prog 187 (OU N):=om1 fun a0 _ h=>by
 refine fk func187 (gc 7 (uV N) (gc 12 (zh N) gn)) ?_;simp only[f187];unfold tA at h;have:J1 6 0 [1,22,23,24] [1] (fun f (c12:Bool)=>(af f 50 (.val (.bool c12)))) (fun R _=>R):=⟨⟩;refine z0 ?_;refine aN ?_;apply aS (fun(c7:Bool)=>⟨tab 52 (af (af au 1 (pF 1)) 20 (vB c7)),(upd RZ 1 (vA 4 (ai.row a0)))⟩)
 .intro hJ1;obtain⟨r8,hr2,h⟩:=bI h;have hJ:=hJ1;exact go
 intro c7 h;unfold pC at h;refine cB h (fun hc6 h=>?_) fun hc6 h=>?_
 .exact go
 unfold pt at h;refine z1 hc6 ?_;refine lT 22 (fun(v7:Nat) (b:Unit)=>⟨tab 52 (af (af (af (af au 1 (pF 1)) 22 (sF 1 (a0.Waiters.map (aA .i64)))) 23 (vI (a0.Waiters.length:Int))) 24 (vI (v7:Int))),(upd RZ 1 (vA 4 (ai.row a0)))⟩) () h ?_ ?_
 .exact go
 rintro v7 ⟨⟩ x10 hi9' hx10 hw11 h;simp only[gF]at h;exact go
@[go_sem] def NR(N:Nat):FnS:=⟨[],true,fn1 bG fun q0=>(yZ N q0).map fun r=>vB r,false⟩
def CB(N:Nat):ar prog 183 (NR N):=om1 fun _ _ h=>by
 refine fk (G:=(aL [])) func183 gn ?_;simp only[f183];exact go
@[go_sem] def wL(N:Nat):FnS:=⟨[],true,fn2 bG bG fun q0 q1=>(gJ N q0 q1).map fun r=>vI r,false⟩
def lK(N:Nat):ar prog 104 (wL N):=om2 fun _ _ _ h=>by
 refine fk func104 (gc 8 (CB N) (gc 10 (CB N) gn)) ?_;simp only[f104];unfold gJ at h;refine z0 ?_;obtain⟨r1,hr1,h⟩:=bI h;refine z2 ?_;obtain⟨r2,hr2,h⟩:=bI h;refine z2 ?_;refine z0 ?_;refine pe rfl (fun hc3=>?_) (fun hc3=>?_)
 .rw[if_pos hc3]at h;exact go
 rw[if_neg (ne_true_of_eq_false hc3)]at h;refine z2 ?_;refine pe rfl (fun hc5=>?_) (fun hc5=>?_)
 .rw[if_pos hc5]at h;exact go
 rw[if_neg (ne_true_of_eq_false hc5)]at h;refine z2 ?_;refine pe rfl (fun hc6=>?_) (fun hc6=>?_)
 .rw[if_pos hc6]at h;exact go
 rw[if_neg (ne_true_of_eq_false hc6)]at h;refine z2 ?_;refine p7 rfl (fun hc7=>?_) (fun hc7=>?_)
 .simp only[hc7,hc6,xm,cS,if_false]at h;exact go
 simp only[hc7,hc6,n8,if_true]at h;exact go
@[go_sem] def Na(N:Nat):FnS:=⟨[],true,fn1 (aD 1 (bO (aC .i64))) fun q0=>(BJ N q0).map fun r=>vI r,false⟩
def Iz(N:Nat):ar prog 103 (Na N):=om1 fun _ _ h=>by
 refine fk (G:=(aL [])) func103 gn ?_;simp only[f103];unfold BJ at h;have:LT 3 [3,6,7] [] 0 (fun f (v2:Nat) (b:Unit)=>(af f 8 (.val (.int .i64 (v2:Int))))) (fun R _ _=>R):=⟨⟩;exact go
@[go_sem] def Q8(N:Nat):FnS:=⟨[],true,fn2 Ref.decA Ref.decA fun q0 q1=>(zt N q0 q1).map fun r=>vI r,false⟩
def EV(N:Nat):ar prog 188 (Q8 N):=om2 fun _ _ _ h=>by
 refine fk func188 (gc 9 (lK N) (gc 14 (lK N) (gc 16 (Iz N) gn))) ?_;simp only[f188];exact go
@[go_sem] def Uf(N:Nat):FnS:=⟨[],true,fn1 (aD 4 ai.dec) fun q0=>(lH N q0).map fun r=>vB r,false⟩
def mg(N:Nat):ar prog 116 (Uf N):=om1 fun _ _ h=>by
 refine fk func116 (gc 16 (Lw N) (gc 30 (EV N) gn)) ?_;simp only[f116];unfold lH at h;have:LT 4 [0,8,9] [] 0 (fun f (v3:Nat) (b:Unit)=>(af f 10 (.val (.int .i64 (v3:Int))))) (fun R _ _=>R):=⟨⟩;have:J1 6 0 [0,8,9,10] [] (fun f (c4:Bool)=>(af f 33 (.val (.bool c4)))) (fun R _=>R):=⟨⟩;exact go
def Vg(N:Nat)(a0:Txn)(c0_0:Int)(r:Bool)(h:FQ N a0 c0_0=some r):Con prog 99 [] true [.agg (Txn.row a0),.iref 1 [[vI c0_0]] 0 0] (vB r):=by
 refine fk (G:=(aL [])) func99 gn ?_;simp only[f99];exact go
@[go_sem] def KO(N:Nat):FnS:={own:=[],pure:=true,fn:=fun cs=>match cs with
 | [c0,.iref 1 [[c1_0]] 0 0]=>(Txn.decA c0).bind fun qc0=>((aC .i64) c1_0).bind fun qc1_0=>(FQ N qc0 qc1_0).map fun r=>vB r
 | _=>none}
def P4(N:Nat):ar prog 99 (KO N):=oz (Vg N)
@[go_sem] def B2(N d f:Nat):Option FnS:=aL [(16,99,KO N)] d f
def B3(N:Nat)(a0:List Txn)(k1_0_0:Int)(r:Int)(h:eM N a0 k1_0_0=some r):Con prog 71 [] true [sF 11 (a0.map Txn.row),.clo 99 [.iref 1 [[vI k1_0_0]] 0 0]] (vI r):=by
 refine fk (G:=(B2 N)) func71 (gc 16 (P4 N) gn) ?_;simp only[f71];unfold eM at h;have:LT 2 [0,1,7] [] 0 (fun f (v2:Nat) (b:Unit)=>(af f 8 (.val (.int .i64 (v2:Int))))) (fun R _ _=>R):=⟨⟩;exact go
@[go_sem] def Bb(N:Nat):FnS:={own:=[],pure:=true,fn:=fun cs=>match cs with
 | [c0,.clo 99 [.iref 1 [[k1_0_0]] 0 0]]=>((aD 11 Txn.dec) c0).bind fun qc0=>((aC .i64) k1_0_0).bind fun qk1_0_0=>(eM N qc0 qk1_0_0).map fun r=>vI r
 | _=>none}
def zW(N:Nat):ar prog 71 (Bb N):=oz (B3 N)
@[go_sem] def OA(N:Nat):FnS:=⟨[],true,fn2 ae.decA (aC .i64) fun q0 q1=>(gG N q0 q1).map fun r=>vI r,false⟩
def fh(N:Nat):ar prog 40 (OA N):=om2 fun _ _ _ h=>by
 refine fk func40 (gc 8 (zW N) gn) ?_;simp only[f40];exact go
@[go_sem] def Pb(N d f:Nat):Option FnS:=aL [(6,40,OA N)] d f
def Pe(N:Nat)(a0:Int)(c0_0:List Txn)(c0_1:List ai)(c0_2:List aa)(r:Bool)(h:rN N a0 c0_0 c0_1 c0_2=some r):Con prog 122 [] true [vI a0,.iref 3 [[sF 11 (c0_0.map Txn.row),sF 4 (c0_1.map ai.row),sF 3 (c0_2.map aa.row)]] 0 0] (vB r):=by
 refine fk (G:=(Pb N)) func122 (gc 6 (fh N) gn) ?_;simp only[f122];exact go
@[go_sem] def E0(N:Nat):FnS:={own:=[],pure:=true,fn:=fun cs=>match cs with
 | [c0,.iref 3 [[c1_0,c1_1,c1_2]] 0 0]=>((aC .i64) c0).bind fun qc0=>((aD 11 Txn.dec) c1_0).bind fun qc1_0=>((aD 4 ai.dec) c1_1).bind fun qc1_1=>((aD 3 aa.dec) c1_2).bind fun qc1_2=>(rN N qc0 qc1_0 qc1_1 qc1_2).map fun r=>vB r
 | _=>none}
def JW(N:Nat):ar prog 122 (E0 N):=oz (Pe N)
@[go_sem] def zl(N d f:Nat):Option FnS:=aL [(16,122,E0 N)] d f
def zG(N:Nat)(a0:List Int)(k1_0_0:List Txn)(k1_0_1:List ai)(k1_0_2:List aa)(r:Int)(h:dE N a0 k1_0_0 k1_0_1 k1_0_2=some r):Con prog 189 [] true [sF 1 (a0.map (aA .i64)),.clo 122 [.iref 3 [[sF 11 (k1_0_0.map Txn.row),sF 4 (k1_0_1.map ai.row),sF 3 (k1_0_2.map aa.row)]] 0 0]] (vI r):=by
 refine fk (G:=(zl N)) func189 (gc 16 (JW N) gn) ?_;simp only[f189];unfold dE at h;have:LT 2 [0,1,7] [] 0 (fun f (v2:Nat) (b:Unit)=>(af f 8 (.val (.int .i64 (v2:Int))))) (fun R _ _=>R):=⟨⟩;exact go
@[go_sem] def lN(N:Nat):FnS:={own:=[],pure:=true,fn:=fun cs=>match cs with
 | [c0,.clo 122 [.iref 3 [[k1_0_0,k1_0_1,k1_0_2]] 0 0]]=>((aD 1 (bO (aC .i64))) c0).bind fun qc0=>((aD 11 Txn.dec) k1_0_0).bind fun qk1_0_0=>((aD 4 ai.dec) k1_0_1).bind fun qk1_0_1=>((aD 3 aa.dec) k1_0_2).bind fun qk1_0_2=>(dE N qc0 qk1_0_0 qk1_0_1 qk1_0_2).map fun r=>vI r
 | _=>none}
def vx(N:Nat):ar prog 189 (lN N):=oz (zG N)
@[go_sem] def w5(N d f:Nat):Option FnS:=aL [(7,189,lN N)] d f
def vU(N:Nat)(a0:List Int)(k1_0_0:List Txn)(k1_0_1:List ai)(k1_0_2:List aa)(r:Bool)(h:ew N a0 k1_0_0 k1_0_1 k1_0_2=some r):Con prog 121 [] true [sF 1 (a0.map (aA .i64)),.clo 122 [.iref 3 [[sF 11 (k1_0_0.map Txn.row),sF 4 (k1_0_1.map ai.row),sF 3 (k1_0_2.map aa.row)]] 0 0]] (vB r):=by
 refine fk (G:=(w5 N)) func121 (gc 7 (vx N) gn) ?_;simp only[f121];exact go
@[go_sem] def vi(N:Nat):FnS:={own:=[],pure:=true,fn:=fun cs=>match cs with
 | [c0,.clo 122 [.iref 3 [[k1_0_0,k1_0_1,k1_0_2]] 0 0]]=>((aD 1 (bO (aC .i64))) c0).bind fun qc0=>((aD 11 Txn.dec) k1_0_0).bind fun qk1_0_0=>((aD 4 ai.dec) k1_0_1).bind fun qk1_0_1=>((aD 3 aa.dec) k1_0_2).bind fun qk1_0_2=>(ew N qc0 qk1_0_0 qk1_0_1 qk1_0_2).map fun r=>vB r
 | _=>none}
def sI(N:Nat):ar prog 121 (vi N):=oz (vU N)
@[go_sem] def PJ(N:Nat):FnS:=⟨[],true,fn1 ae.decA fun q0=>(vZ N q0).map fun r=>vB r,false⟩
def Mb(N:Nat):ar prog 53 (PJ N):=om1 fun _ _ h=>by
 refine fk func53 (gc 7 (mg N) (gc 19 (fh N) (gc 25 (sI N) gn))) ?_;simp only[f53];unfold vZ at h;have:LT 4 [1,10,11] [1] 6 (fun f (v4:Nat) (b:Unit)=>(af f 12 (.val (.int .i64 (v4:Int))))) (fun R _ _=>R):=⟨⟩;have:J1 6 0 [1,10,11,12] [1] (fun f (c4:Bool)=>(af f 26 (.val (.bool c4)))) (fun R _=>R):=⟨⟩;exact go
@[go_sem] def D3(N:Nat):FnS:=⟨[],true,fn1 Value.decA fun q0=>(vK N q0).map fun r=>vB r,false⟩
def I6(N:Nat):ar prog 135 (D3 N):=om1 fun _ _ h=>by
 refine fk func135 (gc 4 (pJ N) gn) ?_;simp only[f135];exact go
@[go_sem] def yd(N d f:Nat):Option FnS:=aL [(16,135,D3 N)] d f
def we(N:Nat)(a0:List Value)(r:Int)(h:da N a0=some r):Con prog 201 [] true [sF 5 (a0.map Value.row),.clo 135 []] (vI r):=by
 refine fk (G:=(yd N)) func201 (gc 16 (I6 N) gn) ?_;simp only[f201];unfold da at h;have:LT 2 [0,1,7] [] 0 (fun f (v2:Nat) (b:Unit)=>(af f 8 (.val (.int .i64 (v2:Int))))) (fun R _ _=>R):=⟨⟩;exact go
@[go_sem] def kC(N:Nat):FnS:={own:=[],pure:=true,fn:=fun cs=>match cs with
 | [c0,.clo 135 []]=>((aD 5 Value.dec) c0).bind fun qc0=>(da N qc0).map fun r=>vI r
 | _=>none}
def sM(N:Nat):ar prog 201 (kC N):=oz (we N)
@[go_sem] def ub(N d f:Nat):Option FnS:=aL [(7,201,kC N)] d f
def s9(N:Nat)(a0:List Value)(r:Bool)(h:dK N a0=some r):Con prog 134 [] true [sF 5 (a0.map Value.row),.clo 135 []] (vB r):=by
 refine fk (G:=(ub N)) func134 (gc 7 (sM N) gn) ?_;simp only[f134];exact go
@[go_sem] def sK(N:Nat):FnS:={own:=[],pure:=true,fn:=fun cs=>match cs with
 | [c0,.clo 135 []]=>((aD 5 Value.dec) c0).bind fun qc0=>(dK N qc0).map fun r=>vB r
 | _=>none}
def qT(N:Nat):ar prog 134 (sK N):=oz (s9 N)
@[go_sem] def OL(N:Nat):FnS:=⟨[],true,fn1 (aD 5 Value.dec) fun q0=>(pN N q0).map fun r=>vB r,false⟩
def Dn(N:Nat):ar prog 60 (OL N):=om1 fun _ _ h=>by
 refine fk func60 (gc 8 (qT N) gn) ?_;simp only[f60];unfold pN at h;exact go
def ND(N:Nat)(a0:aj)(c0_0:Int)(c0_1:List Value)(c0_2:Bool)(r:Bool)(h:ql N a0 c0_0 c0_1 c0_2=some r):Con prog 192 [] true [.agg (aj.row a0),.iref 3 [[vI c0_0,sF 5 (c0_1.map Value.row),vB c0_2]] 0 0] (vB r):=by
 refine fk (G:=(aL [])) func192 gn ?_;simp only[f192];exact go
@[go_sem] def DT(N:Nat):FnS:={own:=[],pure:=true,fn:=fun cs=>match cs with
 | [c0,.iref 3 [[c1_0,c1_1,c1_2]] 0 0]=>(aj.decA c0).bind fun qc0=>((aC .i64) c1_0).bind fun qc1_0=>((aD 5 Value.dec) c1_1).bind fun qc1_1=>(IU c1_2).bind fun qc1_2=>(ql N qc0 qc1_0 qc1_1 qc1_2).map fun r=>vB r
 | _=>none}
def I2(N:Nat):ar prog 192 (DT N):=oz (ND N)
@[go_sem] def wS(N d f:Nat):Option FnS:=aL [(16,192,DT N)] d f
def wj(N:Nat)(a0:List aj)(k1_0_0:Int)(k1_0_1:List Value)(k1_0_2:Bool)(r:Int)(h:db N a0 k1_0_0 k1_0_1 k1_0_2=some r):Con prog 186 [] true [sF 3 (a0.map aj.row),.clo 192 [.iref 3 [[vI k1_0_0,sF 5 (k1_0_1.map Value.row),vB k1_0_2]] 0 0]] (vI r):=by
 refine fk (G:=(wS N)) func186 (gc 16 (I2 N) gn) ?_;simp only[f186];unfold db at h;have:LT 2 [0,1,7] [] 0 (fun f (v2:Nat) (b:Unit)=>(af f 8 (.val (.int .i64 (v2:Int))))) (fun R _ _=>R):=⟨⟩;exact go
@[go_sem] def kE(N:Nat):FnS:={own:=[],pure:=true,fn:=fun cs=>match cs with
 | [c0,.clo 192 [.iref 3 [[k1_0_0,k1_0_1,k1_0_2]] 0 0]]=>((aD 3 aj.dec) c0).bind fun qc0=>((aC .i64) k1_0_0).bind fun qk1_0_0=>((aD 5 Value.dec) k1_0_1).bind fun qk1_0_1=>(IU k1_0_2).bind fun qk1_0_2=>(db N qc0 qk1_0_0 qk1_0_1 qk1_0_2).map fun r=>vI r
 | _=>none}
def sU(N:Nat):ar prog 186 (kE N):=oz (wj N)
@[go_sem] def uA(N d f:Nat):Option FnS:=aL [(7,186,kE N)] d f
def tQ(N:Nat)(a0:List aj)(k1_0_0:Int)(k1_0_1:List Value)(k1_0_2:Bool)(r:Bool)(h:br N a0 k1_0_0 k1_0_1 k1_0_2=some r):Con prog 191 [] true [sF 3 (a0.map aj.row),.clo 192 [.iref 3 [[vI k1_0_0,sF 5 (k1_0_1.map Value.row),vB k1_0_2]] 0 0]] (vB r):=by
 refine fk (G:=(uA N)) func191 (gc 7 (sU N) gn) ?_;simp only[f191];exact go
@[go_sem] def sV(N:Nat):FnS:={own:=[],pure:=true,fn:=fun cs=>match cs with
 | [c0,.clo 192 [.iref 3 [[k1_0_0,k1_0_1,k1_0_2]] 0 0]]=>((aD 3 aj.dec) c0).bind fun qc0=>((aC .i64) k1_0_0).bind fun qk1_0_0=>((aD 5 Value.dec) k1_0_1).bind fun qk1_0_1=>(IU k1_0_2).bind fun qk1_0_2=>(br N qc0 qk1_0_0 qk1_0_1 qk1_0_2).map fun r=>vB r
 | _=>none}
def qR(N:Nat):ar prog 191 (sV N):=oz (tQ N)
@[go_sem] def Ol(N:Nat):FnS:=⟨[],true,fn2 ae.decA (aD 3 aj.dec) fun q0 q1=>(pR N q0 q1).map fun r=>vB r,false⟩
def K5(N:Nat):ar prog 123 (Ol N):=om2 fun a0 a1 _ h=>by
 refine fk func123 (gc 17 (fh N) (gc 22 (Dn N) (gc 42 (qR N) gn))) ?_;simp only[f123];unfold pR at h;refine z0 ?_;refine z0 ?_;refine aK (dc fun hreal2=>?_);have hl1:=hreal2.lenT 1 oZh oZa;rw[cr]at hl1;refine fb (fun(v2:Nat) (b:Unit)=>⟨tab 48 (af (af (af (af (af au 1 (sF 3 (a1.map aj.row))) 2 (pF 2)) 7 (sF 3 (a1.map aj.row))) 8 (vI (a1.length:Int))) 9 (vI (v2:Int))),(upd RZ 2 (vA 3 (ae.row a0)))⟩) () h ?_ ?_
 .refine wr ?_ ?_<;>repeat' first|rfl|constructor|simp only[go_sem,seval,cY,cL,nj,nk]
 rintro v2 ⟨⟩ hi3 h -;rcases(dj a1 v2 hi3).symm with⟨hi3',_,hd6⟩|⟨x5,hi3',hx4,hd6⟩
 .rw[hd6]at h;exact go
 rw[hd6]at h;simp only[fj]at h;have hw5:=bn hi3' hl1;refine z2 ?_;refine ct ?_;refine z2 ?_;apply aS (fun(c7:Bool)=>⟨tab 48 (af (af (af (af (af (af au 1 (sF 3 (a1.map aj.row))) 2 (pF 2)) 7 (sF 3 (a1.map aj.row))) 8 (vI (a1.length:Int))) 9 (vI (v2:Int))) 43 (vB c7)),(upd RZ 2 (vA 3 (ae.row a0)))⟩)
 .intro hJ7;obtain⟨r8,hr8,h⟩:=bI h;refine eB fun Z hZ=>?_;simp (config := { maxSteps := 4000000 }) only[go_sem,seval,hr8];refine jx rfl (fun hc9=>?_) (fun hc9=>?_)
  .have hc9d:=decide_eq_true hc9;have hJ:=hJ7;exact go
  have hc9d:=decide_eq_false hc9;rw[if_neg hc9]at h;obtain⟨r9,hr10,h⟩:=bI h;simp (config := { maxSteps := 4000000 }) only[go_sem,seval,hc9d,hr10];refine Fe rfl (fun hc11=>?_) (fun hc11=>?_)
  .rw[if_neg (ne_true_of_eq_false hc11)]at h;have hJ:=hJ7;exact go
  rw[if_pos hc11]at h;simp (config := { maxSteps := 4000000 }) only[go_sem,seval,hc11];refine sw (Fe rfl) (fun hc12=>?_) (fun hc12=>?_)
  .rw[if_pos hc12]at h;obtain⟨hs16,h⟩:=fC h;try simp only[cu,nE,cR,nu]at hs16 h
   obtain⟨r11,hr17,h⟩:=bI h;try simp only[hc12]at hr17
   have hJ:=hJ7;exact go
  rw[if_neg (ne_true_of_eq_false hc12)]at h;simp (config := { maxSteps := 4000000 }) only[go_sem,seval,hc12];refine jx rfl (fun hc13=>?_) (fun hc13=>?_)
  .have hc13d:=decide_eq_true hc13;have hJ:=hJ7;exact go
  have hc13d:=decide_eq_false hc13;rw[if_neg hc13]at h;obtain⟨hs14,h⟩:=fC h;try simp only[cu,nE,cR,nu]at hs14 h
  obtain⟨r10,hr15,h⟩:=bI h;try simp only[hc12]at hr15
  have hJ:=hJ7;exact go
 exact go
@[go_sem] def El(N:Nat):FnS:=⟨[],true,fn2 ai.decA Ref.decA fun q0 q1=>(As N q0 q1).map fun r=>vI r,false⟩
def Gl(N:Nat):ar prog 194 (El N):=om2 fun _ _ _ h=>by
 refine fk func194 (gc 8 (EV N) gn) ?_;simp only[f194];exact go
@[go_sem] def wE(N d f:Nat):Option FnS:=aL [(30,194,El N),(46,194,El N)] d f
def wT(N:Nat)(a0:List ai)(a1:Ref)(r:Int×Bool)(h:b9 N a0 a1=some r):Con prog 193 [] true [sF 4 (a0.map ai.row),.agg [vS a1.Type_,vS a1.Key],.clo 194 []] (.tup [vI r.1,vB r.2]):=by
 refine fk (G:=(wE N)) func193 (gc 30 (Gl N) (gc 46 (Gl N) gn)) ?_;simp only[f193];unfold b9 at h;refine z0 ?_;refine z0 ?_;refine z0 ?_;refine aN (aK (dw (fun(b:Int×Int)=>⟨tab 49 (af (af (af (af (af (af au 0 (sF 4 (a0.map ai.row))) 2 (.clo 194 [])) 4 (pF 4)) 8 (vI (a0.length:Int))) 9 (vI b.1)) 10 (vI b.2)),(upd RZ 4 (vA 2 [vS a1.Type_,vS a1.Key]))⟩) (0,(a0.length:Int)) h ?_ ?_))
 .exact wR
 rintro n ⟨v2,v3⟩ h -;cases n with
 | zero=>simp[bc]at h
 | succ n=>
 simp only[bc]at h;refine z0 ?_;refine cDs h (fun hc1 hc1d h=>?_) fun hc1 hc1d h=>?_
 .refine eV (pp ?_);unfold dM at h;exact go
 exact go
@[go_sem] def vj(N:Nat):FnS:={own:=[],pure:=true,fn:=fun cs=>match cs with
 | [c0,c1,.clo 194 []]=>((aD 4 ai.dec) c0).bind fun qc0=>(Ref.decA c1).bind fun qc1=>(b9 N qc0 qc1).map fun r=>.tup [vI r.1,vB r.2]
 | _=>none}
def sS(N:Nat):ar prog 193 (vj N):=oz (wT N)
@[go_sem] def VE(N:Nat):FnS:=⟨[],true,fn2 (aD 4 ai.dec) Ref.decA fun q0 q1=>(BN N q0 q1).map fun r=>.tup [vI r.1,vB r.2],false⟩
def C4(N:Nat):ar prog 126 (VE N):=om2 fun _ _ _ h=>by
 refine fk func126 (gc 8 (sS N) gn) ?_;simp only[f126];exact go
@[go_sem] def TO(N:Nat):FnS:=⟨[],true,fn2 (aD 4 ai.dec) Ref.decA fun q0 q1=>(qH N q0 q1).map fun r=>vI r,false⟩
def G9(N:Nat):ar prog 62 (TO N):=om2 fun _ _ _ h=>by
 refine fk func62 (gc 8 (mg N) (gc 13 (C4 N) gn)) ?_;simp only[f62];exact go
def R6(N:Nat)(a0:ah)(c0_0:ByteArray)(c0_1:ByteArray)(r:Bool)(h:CJ N a0 c0_0 c0_1=some r):Con prog 141 [] true [.agg (ah.row a0),.iref 2 [[vS c0_0,vS c0_1]] 0 0] (vB r):=by
 refine fk (G:=(aL [])) func141 gn ?_;simp only[f141];exact go
@[go_sem] def Im(N:Nat):FnS:={own:=[],pure:=true,fn:=fun cs=>match cs with
 | [c0,.iref 2 [[c1_0,c1_1]] 0 0]=>(ah.decA c0).bind fun qc0=>(bG c1_0).bind fun qc1_0=>(bG c1_1).bind fun qc1_1=>(CJ N qc0 qc1_0 qc1_1).map fun r=>vB r
 | _=>none}
def NX(N:Nat):ar prog 141 (Im N):=oz (R6 N)
@[go_sem] def wi(N d f:Nat):Option FnS:=aL [(16,141,Im N)] d f
def w9(N:Nat)(a0:List ah)(k1_0_0:ByteArray)(k1_0_1:ByteArray)(r:Int)(h:bZ N a0 k1_0_0 k1_0_1=some r):Con prog 203 [] true [sF 4 (a0.map ah.row),.clo 141 [.iref 2 [[vS k1_0_0,vS k1_0_1]] 0 0]] (vI r):=by
 refine fk (G:=(wi N)) func203 (gc 16 (NX N) gn) ?_;simp only[f203];unfold bZ at h;have:LT 2 [0,1,7] [] 0 (fun f (v2:Nat) (b:Unit)=>(af f 8 (.val (.int .i64 (v2:Int))))) (fun R _ _=>R):=⟨⟩;exact go
@[go_sem] def kD(N:Nat):FnS:={own:=[],pure:=true,fn:=fun cs=>match cs with
 | [c0,.clo 141 [.iref 2 [[k1_0_0,k1_0_1]] 0 0]]=>((aD 4 ah.dec) c0).bind fun qc0=>(bG k1_0_0).bind fun qk1_0_0=>(bG k1_0_1).bind fun qk1_0_1=>(bZ N qc0 qk1_0_0 qk1_0_1).map fun r=>vI r
 | _=>none}
def sR(N:Nat):ar prog 203 (kD N):=oz (w9 N)
@[go_sem] def tZ(N d f:Nat):Option FnS:=aL [(7,203,kD N)] d f
def uF(N:Nat)(a0:List ah)(k1_0_0:ByteArray)(k1_0_1:ByteArray)(r:Bool)(h:dL N a0 k1_0_0 k1_0_1=some r):Con prog 140 [] true [sF 4 (a0.map ah.row),.clo 141 [.iref 2 [[vS k1_0_0,vS k1_0_1]] 0 0]] (vB r):=by
 refine fk (G:=(tZ N)) func140 (gc 7 (sR N) gn) ?_;simp only[f140];exact go
@[go_sem] def sJ(N:Nat):FnS:={own:=[],pure:=true,fn:=fun cs=>match cs with
 | [c0,.clo 141 [.iref 2 [[k1_0_0,k1_0_1]] 0 0]]=>((aD 4 ah.dec) c0).bind fun qc0=>(bG k1_0_0).bind fun qk1_0_0=>(bG k1_0_1).bind fun qk1_0_1=>(dL N qc0 qk1_0_0 qk1_0_1).map fun r=>vB r
 | _=>none}
def qW(N:Nat):ar prog 140 (sJ N):=oz (uF N)
@[go_sem] def T9(N:Nat):FnS:=⟨[],true,fn2 (aD 4 ah.dec) Ref.decA fun q0 q1=>(vd N q0 q1).map fun r=>vB r,false⟩
def Hb(N:Nat):ar prog 68 (T9 N):=om2 fun _ _ _ h=>by
 refine fk func68 (gc 7 (qW N) gn) ?_;simp only[f68];exact go
@[go_sem] def Vt(N d f:Nat):Option FnS:=aL [(9,104,wL N),(14,104,wL N),(16,103,Na N)] d f
def Nh(N:Nat)(a0:Ref)(a1:Ref)(r:Int)(h:jF N a0 a1=some r):Con prog 43 [] true [.agg [vS a0.Type_,vS a0.Key],.agg [vS a1.Type_,vS a1.Key]] (vI r):=by
 refine fk (G:=(Vt N)) func43 (gc 9 (lK N) (gc 14 (lK N) (gc 16 (Iz N) gn))) ?_;simp only[f43];exact go
@[go_sem] def Ky(N:Nat):FnS:=⟨[],true,fn2 Ref.decA Ref.decA fun q0 q1=>(jF N q0 q1).map fun r=>vI r,false⟩
def B4(N:Nat):ar prog 43 (Ky N):=om2 (Nh N)
@[go_sem] def O4(N:Nat):FnS:=⟨[],true,fn1 ae.decA fun q0=>(tj N q0).map fun r=>vB r,false⟩
def K7(N:Nat):ar prog 54 (O4 N):=om1 fun a0 _ h=>by
 refine fk func54 (gc 36 (K5 N) (gc 55 (G9 N) (gc 72 (fh N) (gc 82 (Hb N) (gc 29 (B4 N) gn))))) ?_;simp only[f54];unfold tj at h;have:J1 4 0 [1,4,10,11,12] [1,4] (fun f (c11:Bool)=>(af f 38 (.val (.bool c11)))) (fun R _=>R):=⟨⟩;have:J1 7 0 [1,4,10,11,12] [1,4] (fun f (c21:Bool)=>(af f 59 (.val (.bool c21)))) (fun R _=>R):=⟨⟩;have:LT 10 [1,4,10,11,12,61,62] [1,4] 61 (fun f (v20:Nat) (b:Unit)=>(af f 63 (.val (.int .i64 (v20:Int))))) (fun R _ _=>R):=⟨⟩;have:J1 13 0 [1,4,10,11,12,61,62,63] [1,4] (fun f (c27:Bool)=>(af f 95 (.val (.bool c27)))) (fun R _=>R):=⟨⟩;refine z0 ?_;refine z0 ?_;refine lT 10 (fun(v2:Nat) (b:Unit)=>⟨tab 98 (af (af (af (af au 1 (pF 1)) 10 (sF 3 (a0.Stacks.map aa.row))) 11 (vI (a0.Stacks.length:Int))) 12 (vI (v2:Int))),(upd RZ 1 (vA 3 (ae.row a0)))⟩) () h ?_ ?_
 .exact go
 rintro v2 ⟨⟩ x5 hi3' hx4 hw5 h;simp only[fp]at h;exact go
def Vm(N:Nat)(a0:aa)(c0_0:ByteArray)(c0_1:ByteArray)(r:Bool)(h:FP N a0 c0_0 c0_1=some r):Con prog 106 [] true [.agg (aa.row a0),.iref 2 [[vS c0_0,vS c0_1]] 0 0] (vB r):=by
 refine fk (G:=(aL [])) func106 gn ?_;simp only[f106];exact go
@[go_sem] def Ku(N:Nat):FnS:={own:=[],pure:=true,fn:=fun cs=>match cs with
 | [c0,.iref 2 [[c1_0,c1_1]] 0 0]=>(aa.decA c0).bind fun qc0=>(bG c1_0).bind fun qc1_0=>(bG c1_1).bind fun qc1_1=>(FP N qc0 qc1_0 qc1_1).map fun r=>vB r
 | _=>none}
def PS(N:Nat):ar prog 106 (Ku N):=oz (Vm N)
@[go_sem] def yl(N d f:Nat):Option FnS:=aL [(16,106,Ku N)] d f
def ym(N:Nat)(a0:List aa)(k1_0_0:ByteArray)(k1_0_1:ByteArray)(r:Int)(h:dh N a0 k1_0_0 k1_0_1=some r):Con prog 105 [] true [sF 3 (a0.map aa.row),.clo 106 [.iref 2 [[vS k1_0_0,vS k1_0_1]] 0 0]] (vI r):=by
 refine fk (G:=(yl N)) func105 (gc 16 (PS N) gn) ?_;simp only[f105];unfold dh at h;have:LT 2 [0,1,7] [] 0 (fun f (v2:Nat) (b:Unit)=>(af f 8 (.val (.int .i64 (v2:Int))))) (fun R _ _=>R):=⟨⟩;exact go
@[go_sem] def wJ(N:Nat):FnS:={own:=[],pure:=true,fn:=fun cs=>match cs with
 | [c0,.clo 106 [.iref 2 [[k1_0_0,k1_0_1]] 0 0]]=>((aD 3 aa.dec) c0).bind fun qc0=>(bG k1_0_0).bind fun qk1_0_0=>(bG k1_0_1).bind fun qk1_0_1=>(dh N qc0 qk1_0_0 qk1_0_1).map fun r=>vI r
 | _=>none}
def tB(N:Nat):ar prog 105 (wJ N):=oz (ym N)
@[go_sem] def XO(N:Nat):FnS:=⟨[],true,fn2 ae.decA Ref.decA fun q0 q1=>(uB N q0 q1).map fun r=>vI r,false⟩
def Aa(N:Nat):ar prog 46 (XO N):=om2 fun _ _ _ h=>by
 refine fk func46 (gc 8 (tB N) gn) ?_;simp only[f46];exact go
@[go_sem] def Ot(N:Nat):FnS:=⟨[],false,fn3 ae.decA Ref.decA (aC .i64) fun q0 q1 q2=>(lB N q0 q1 q2).map fun r=>.tup [.agg (aj.row r.1),vB r.2],false⟩
def th(N:Nat):ar prog 69 (Ot N):=om3 fun _ _ _ _ h=>by
 refine fk func69 (gc 13 (Aa N) gn) ?_;simp only[f69];unfold lB at h;have:LT 4 [2,6,21,22] [6] 21 (fun f (v4:Nat) (b:Unit)=>(af f 23 (.val (.int .i64 (v4:Int))))) (fun R _ _=>R):=⟨⟩;exact go
@[go_sem] def Mo(N:Nat):FnS:=⟨[],true,fn1 ae.decA fun q0=>(qm N q0).map fun r=>vB r,false⟩
def I7(N:Nat):ar prog 55 (Mo N):=om1 fun a0 _ h=>by
 refine fk func55 (gc 41 (th N) (gc 60 (fh N) (gc 69 (th N) (gc 115 (fh N) gn)))) ?_;simp only[f55];unfold qm at h;have:LT 5 [1,4,19,20,21,29,30] [1,4] 29 (fun f (v9:Nat) (b:Unit)=>(af f 31 (.val (.int .i64 (v9:Int))))) (fun R _ _=>R):=⟨⟩;have:LT 13 [1,49,50] [1] 49 (fun f (v17:Nat) (b:Unit)=>(af f 51 (.val (.int .i64 (v17:Int))))) (fun R _ _=>R):=⟨⟩;have:J1 18 0 [1,10,49,50,51] [1,10] (fun f (c24:Bool)=>(af f 103 (.val (.bool c24)))) (fun R _=>R):=⟨⟩;have:LT 21 [1,10,49,50,51,105,106] [1,10] 105 (fun f (v30:Nat) (b:Unit)=>(af f 107 (.val (.int .i64 (v30:Int))))) (fun R _ _=>R):=⟨⟩;have:J1 24 0 [1,10,49,50,51,105,106,107] [1,10] (fun f (c29:Bool)=>(af f 135 (.val (.bool c29)))) (fun R _=>R):=⟨⟩;refine z0 ?_;refine z0 ?_;refine lTs 19 (fun(v2:Nat) (b:Unit)=>⟨tab 138 (af (af (af (af au 1 (pF 1)) 19 (sF 11 (a0.Txns.map Txn.row))) 20 (vI (a0.Txns.length:Int))) 21 (vI (v2:Int))),(upd RZ 1 (vA 3 (ae.row a0)))⟩) () h ?_ ?_
 .rintro v2 ⟨⟩ x5 hi3' hx4 hw5 h;exact go
 exact go
@[go_sem] def Nv(N:Nat):FnS:=⟨[],true,fn2 (aD 1 (bO (aC .i64))) (aC .i64) fun q0 q1=>(yJ N q0 q1).map fun r=>vI r,false⟩
def Kh(N:Nat):ar prog 184 (Nv N):=om2 fun _ _ _ h=>by
 refine fk (G:=(aL [])) func184 gn ?_;simp only[f184];unfold yJ at h;have:LT 2 [0,1,7] [] 0 (fun f (v2:Nat) (b:Unit)=>(af f 8 (.val (.int .i64 (v2:Int))))) (fun R _ _=>R):=⟨⟩;exact go
@[go_sem] def uT(N:Nat):FnS:=⟨[],true,fn2 (aD 1 (bO (aC .i64))) (aC .i64) fun q0 q1=>(eP N q0 q1).map fun r=>vB r,false⟩
def fH(N:Nat):ar prog 108 (uT N):=om2 fun _ _ _ h=>by
 refine fk func108 (gc 7 (Kh N) gn) ?_;simp only[f108];exact go
@[go_sem] def N3(N:Nat):FnS:=⟨[],true,fn3 ae.decA (aC .i64) (aD 1 (bO (aC .i64))) fun q0 q1 q2=>(DC N q0 q1 q2).map fun r=>vB r,false⟩
def Jw(N:Nat):ar prog 74 (N3 N):=om3 fun a0 a1 a2 _ h=>by
 refine fk func74 (gc 38 (fH N) gn) ?_;simp only[f74];unfold DC at h;refine z0 ?_;refine z0 ?_;refine lT 13 (fun(v2:Nat) (b:Unit)=>⟨tab 43 (af (af (af (af (af au 1 (vI a1)) 2 (sF 1 (a2.map (aA .i64)))) 13 (sF 3 (a0.Stacks.map aa.row))) 14 (vI (a0.Stacks.length:Int))) 15 (vI (v2:Int))),RZ⟩) () h ?_ ?_
 .exact go
 rintro v2 ⟨⟩ x5 hi3' hx4 hw5 h;simp only[wN]at h;refine z1 hi3' ?_;refine ct ?_;refine z1 (k2 hx4 hi3') ?_;refine z0 ?_;refine z0 ?_;refine lT 20 (fun(v9:Nat) (b:Bool)=>⟨tab 43 (af (af (af (af (af (af (af (af (af au 1 (vI a1)) 2 (sF 1 (a2.map (aA .i64)))) 9 (vB b)) 13 (sF 3 (a0.Stacks.map aa.row))) 14 (vI (a0.Stacks.length:Int))) 15 (vI (v2:Int))) 20 (sF 3 (x5.Layers.map aj.row))) 21 (vI (x5.Layers.length:Int))) 22 (vI (v9:Int))),RZ⟩) false h ?_ ?_
 .rintro v9 c8 hi9' h;simp only[lW]at h;exact go
 rintro v9 c8 x12 hi9' hx10 hw11 h;simp only[lW]at h;refine z1 hi9' ?_;refine ct ?_;refine z1 (k2 hx10 hi9') ?_;refine aN ?_;apply aS (fun(c3:Bool)=>⟨tab 43 (af (af (af (af (af (af (af (af (af (af (af au 1 (vI a1)) 2 (sF 1 (a2.map (aA .i64)))) 9 (vB c8)) 11 (pF 11)) 13 (sF 3 (a0.Stacks.map aa.row))) 14 (vI (a0.Stacks.length:Int))) 15 (vI (v2:Int))) 20 (sF 3 (x5.Layers.map aj.row))) 21 (vI (x5.Layers.length:Int))) 22 (vI (v9:Int))) 32 (vB c3)),(upd RZ 11 (vA 3 (aj.row x12)))⟩)
 .intro hJ13;refine iD h (fun hc14 hc14d h=>?_) fun hc14 hc14d h=>?_
  .refine z1 hc14d ?_;exact hJ13 _ c8 wR h
  have hJ:=hJ13;exact go
 intro c3 h;unfold DQ at h;refine cB h (fun hc15 h=>?_) fun hc15 h=>?_
 .exact go
 refine bm (pp ?_);unfold AX at h;exact go
@[go_sem] def Ub(N:Nat):FnS:=⟨[],true,fn1 ae.decA fun q0=>(Cs N q0).map fun r=>vB r,false⟩
def PV(N:Nat):ar prog 56 (Ub N):=om1 fun a0 _ h=>by
 refine fk func56 (gc 21 (fH N) (gc 28 (Jw N) gn)) ?_;simp only[f56];unfold Cs at h;refine z0 ?_;refine z0 ?_;refine z0 ?_;refine aK (dc fun hreal2=>?_);have hl1:=hreal2.lenT 7 oZh oZa;rw[cr]at hl1;refine rI (fun(v3:Nat) (b:List Int)=>⟨tab 43 (af (af (af (af au 1 (pF 1)) 3 (.pal 34 [] 0 b.length none)) 8 (vI (a0.Txns.length:Int))) 9 (vI (v3:Int))),(upd (upd RZ 1 (vA 3 (ae.row a0))) 34 (sO 1 (b.map (aA .i64))))⟩) [] h ?_ ?_
 .refine aM.trans (fm 3 34 1 oZb oZb) ?_;refine wr ?_ ?_<;>repeat' first|rfl|constructor|simp only[go_sem,seval,cY,cL,nj,nk]
 rintro v3 l2 _ h -;rcases(kf a0.Txns.length v3).symm with⟨hi3',hd6⟩|⟨hi3',hd6⟩
 .rw[hd6]at h;exact go
 rw[hd6]at h;simp only[re]at h;have hw5:=bn hi3' hl1;refine z2 ?_;refine ct ?_;refine z0 ?_;refine lT 12 (fun(v9:Nat) (b:List Int)=>⟨tab 43 (af (af (af (af (af (af (af au 1 (pF 1)) 3 (.pal 34 [] 0 b.length none)) 8 (vI (a0.Txns.length:Int))) 9 (vI (v3:Int))) 12 (sF 11 (a0.Txns.map Txn.row))) 13 (vI (a0.Txns.length:Int))) 14 (vI (v9:Int))),(upd (upd RZ 1 (vA 3 (ae.row a0))) 34 (sO 1 (b.map (aA .i64))))⟩) l2 h ?_ ?_ (h0:=w2)
 .exact go
 rintro v9 l8 x12 hi9' hx10 hw11 h;simp only[ou]at h;refine z2 ?_;refine ct ?_;refine z2 ?_;apply aS (fun(c3:Bool)=>⟨tab 43 (af (af (af (af (af (af (af (af (af au 1 (pF 1)) 3 (.pal 34 [] 0 l8.length none)) 5 (pF 5)) 8 (vI (a0.Txns.length:Int))) 9 (vI (v3:Int))) 12 (sF 11 (a0.Txns.map Txn.row))) 13 (vI (a0.Txns.length:Int))) 14 (vI (v9:Int))) 29 (vB c3)),(upd (upd (upd RZ 1 (vA 3 (ae.row a0))) 5 (vA 11 (Txn.row x12))) 34 (sO 1 (l8.map (aA .i64))))⟩)
 .intro hJ13;obtain⟨r4,hr14,h⟩:=bI h;have hJ:=hJ13;exact go
 intro c3 h;unfold wo at h;refine cBs h (fun hc17 h=>?_) fun hc17 h=>?_
 .exact go
 obtain⟨ha18,h⟩:=bq h;simp only[cn,cw,cy,Nat.reduceAdd]at ha18;refine z2 ?_;refine z2 ?_;refine⟨hi9',(l8++[x12.ID]),?_,h⟩;refine wr ?_ ?_<;>repeat' first|rfl|constructor|simp only[go_sem,seval]
@[go_sem] def HY(N:Nat):FnS:=⟨[],true,fn1 ae.decA fun q0=>(jm N q0).map fun r=>vB r,false⟩
def gv(N:Nat):ar prog 23 (HY N):=om1 fun _ _ h=>by
 refine fk func23 (gc 4 (Ns N) (gc 7 (Mb N) (gc 11 (K7 N) (gc 15 (I7 N) (gc 19 (PV N) gn))))) ?_;simp only[f23];unfold jm at h;refine z0 ?_;refine aN ?_;obtain⟨r1,hr1,h⟩:=bI h;refine iBs h (fun hc2 h=>?_) fun hc2 h=>?_
 .exact go
 obtain⟨r2,hr3,h⟩:=bI h;refine iBs h (fun hc4 h=>?_) fun hc4 h=>?_
 .exact go
 exact go
def La(N:Nat)(a0:List Txn)(r:List Txn)(h:oh N a0=some r):Con prog 130 [] false [.sl false (some false) 11 none (a0.map Txn.row)] (sO 11 (r.map Txn.row)):=by
 refine fk (G:=(aL [])) func130 gn ?_;simp only[f130];exact go
def Ko(N:Nat)  (r:List Txn) (h:oh N []=some r):Con prog 130 [] false [.val (.slice none 0 0)] (sO 11 (r.map Txn.row)):=by
 refine fk (G:=(aL [])) func130 gn ?_;simp only[f130];exact go
def O8(N:Nat)(a0:List Txn)(r:List Txn)(h:oh N a0=some r):Con prog 130 [] false [sF 11 (a0.map Txn.row)] (sO 11 (r.map Txn.row)):=
 Gu (fun e=>by obtain rfl:a0=[]:=xu.1 e;exact Ko N r h) (La N a0 r h)
@[go_sem] def En(N:Nat):FnS:=⟨[],false,fn1 (aD 11 Txn.dec) fun q0=>(oh N q0).map fun r=>sO 11 (r.map Txn.row),false⟩
def I0(N:Nat):ar prog 130 (En N):=om1 (O8 N)
def J9(N:Nat)(a0:List ai)(r:List ai)(h:iz N a0=some r):Con prog 131 [] false [.sl false (some false) 4 none (a0.map ai.row)] (sO 4 (r.map ai.row)):=by
 refine fk (G:=(aL [])) func131 gn ?_;simp only[f131];exact go
def IX(N:Nat)  (r:List ai) (h:iz N []=some r):Con prog 131 [] false [.val (.slice none 0 0)] (sO 4 (r.map ai.row)):=by
 refine fk (G:=(aL [])) func131 gn ?_;simp only[f131];exact go
def NG(N:Nat)(a0:List ai)(r:List ai)(h:iz N a0=some r):Con prog 131 [] false [sF 4 (a0.map ai.row)] (sO 4 (r.map ai.row)):=
 Gu (fun e=>by obtain rfl:a0=[]:=xu.1 e;exact IX N r h) (J9 N a0 r h)
@[go_sem] def wA(N:Nat):FnS:=⟨[],false,fn1 (aD 4 ai.dec) fun q0=>(iz N q0).map fun r=>sO 4 (r.map ai.row),false⟩
def Au(N:Nat):ar prog 131 (wA N):=om1 (NG N)
def FA(N:Nat)(a0:List aa)(r:List aa)(h:gL N a0=some r):Con prog 132 [] false [.sl false (some false) 3 none (a0.map aa.row)] (sO 3 (r.map aa.row)):=by
 refine fk (G:=(aL [])) func132 gn ?_;simp only[f132];exact go
def EI(N:Nat)  (r:List aa) (h:gL N []=some r):Con prog 132 [] false [.val (.slice none 0 0)] (sO 3 (r.map aa.row)):=by
 refine fk (G:=(aL [])) func132 gn ?_;simp only[f132];exact go
def HF(N:Nat)(a0:List aa)(r:List aa)(h:gL N a0=some r):Con prog 132 [] false [sF 3 (a0.map aa.row)] (sO 3 (r.map aa.row)):=
 Gu (fun e=>by obtain rfl:a0=[]:=xu.1 e;exact EI N r h) (FA N a0 r h)
@[go_sem] def yw(N:Nat):FnS:=⟨[],false,fn1 (aD 3 aa.dec) fun q0=>(gL N q0).map fun r=>sO 3 (r.map aa.row),false⟩
def D8(N:Nat):ar prog 132 (yw N):=om1 (HF N)
def Gz(N:Nat)(a0:List ah)(r:List ah)(h:iw N a0=some r):Con prog 100 [] false [.sl false (some false) 4 none (a0.map ah.row)] (sO 4 (r.map ah.row)):=by
 refine fk (G:=(aL [])) func100 gn ?_;simp only[f100];exact go
def E8(N:Nat)  (r:List ah) (h:iw N []=some r):Con prog 100 [] false [.val (.slice none 0 0)] (sO 4 (r.map ah.row)):=by
 refine fk (G:=(aL [])) func100 gn ?_;simp only[f100];exact go
def IJ(N:Nat)(a0:List ah)(r:List ah)(h:iw N a0=some r):Con prog 100 [] false [sF 4 (a0.map ah.row)] (sO 4 (r.map ah.row)):=
 Gu (fun e=>by obtain rfl:a0=[]:=xu.1 e;exact E8 N r h) (Gz N a0 r h)
@[go_sem] def zo(N:Nat):FnS:=⟨[],false,fn1 (aD 4 ah.dec) fun q0=>(iw N q0).map fun r=>sO 4 (r.map ah.row),false⟩
def EJ(N:Nat):ar prog 100 (zo N):=om1 (IJ N)
def IW(N:Nat)(a0:List Value)(r:List Value)(h:kY N a0=some r):Con prog 139 [] false [.sl false (some false) 5 none (a0.map Value.row)] (sO 5 (r.map Value.row)):=by
 refine fk (G:=(aL [])) func139 gn ?_;simp only[f139];exact go
def Ih(N:Nat)  (r:List Value) (h:kY N []=some r):Con prog 139 [] false [.val (.slice none 0 0)] (sO 5 (r.map Value.row)):=by
 refine fk (G:=(aL [])) func139 gn ?_;simp only[f139];exact go
def Mu(N:Nat)(a0:List Value)(r:List Value)(h:kY N a0=some r):Con prog 139 [] false [sF 5 (a0.map Value.row)] (sO 5 (r.map Value.row)):=
 Gu (fun e=>by obtain rfl:a0=[]:=xu.1 e;exact Ih N r h) (IW N a0 r h)
@[go_sem] def Cz(N:Nat):FnS:=⟨[],false,fn1 (aD 5 Value.dec) fun q0=>(kY N q0).map fun r=>sO 5 (r.map Value.row),false⟩
def Hx(N:Nat):ar prog 139 (Cz N):=om1 (Mu N)
def Kt(N:Nat)(a0:List Int)(r:List Int)(h:fw N a0=some r):Con prog 133 [] true [.sl false (some false) 1 none (a0.map (aA .i64))] (sO 1 (r.map (aA .i64))):=by
 refine fk (G:=(aL [])) func133 gn ?_;simp only[f133];exact go
def Kl(N:Nat)  (r:List Int) (h:fw N []=some r):Con prog 133 [] true [.val (.slice none 0 0)] (sO 1 (r.map (aA .i64))):=by
 refine fk (G:=(aL [])) func133 gn ?_;simp only[f133];exact go
def Gx(N:Nat)(a0:List Int)(r:List Int)(h:fw N a0=some r):Con prog 133 [] true [sF 1 (a0.map (aA .i64))] (sO 1 (r.map (aA .i64))):=
 Gu (fun e=>by obtain rfl:a0=[]:=xu.1 e;exact Kl N r h) (Kt N a0 r h)
@[go_sem] def EY(N:Nat):FnS:=⟨[],true,fn1 (aD 1 (bO (aC .i64))) fun q0=>(fw N q0).map fun r=>sF 1 (r.map (aA .i64)),false⟩
def Kg(N:Nat):ar prog 133 (EY N):=om1 fun q0 r h=>rs (Gx N q0 r h)
@[go_sem] def yF(N:Nat):FnS:=⟨[],true,fn1 (aD 1 (bO (aC .i64))) fun q0=>(fw N q0).map fun r=>sO 1 (r.map (aA .i64)),false⟩
def BR(N:Nat):ar prog 133 (yF N):=om1 (Gx N)
def IB(N:Nat)(a0:List ByteArray)(r:List ByteArray)(h:j9 N a0=some r):Con prog 136 [] true [.sl false (some false) 1 none (a0.map dA)] (sO 1 (r.map dA)):=by
 refine fk (G:=(aL [])) func136 gn ?_;simp only[f136];exact go
def Hv(N:Nat)  (r:List ByteArray) (h:j9 N []=some r):Con prog 136 [] true [.val (.slice none 0 0)] (sO 1 (r.map dA)):=by
 refine fk (G:=(aL [])) func136 gn ?_;simp only[f136];exact go
def KZ(N:Nat)(a0:List ByteArray)(r:List ByteArray)(h:j9 N a0=some r):Con prog 136 [] true [sF 1 (a0.map dA)] (sO 1 (r.map dA)):=
 Gu (fun e=>by obtain rfl:a0=[]:=xu.1 e;exact Hv N r h) (IB N a0 r h)
@[go_sem] def BQ(N:Nat):FnS:=⟨[],true,fn1 (aD 1 (bO bG)) fun q0=>(j9 N q0).map fun r=>sO 1 (r.map dA),false⟩
def G0(N:Nat):ar prog 136 (BQ N):=om1 (KZ N)
@[go_sem] def QB(N d f:Nat):Option FnS:=aL [(5,133,yF N),(8,136,BQ N)] d f
def HV(N:Nat)(a0:Value)(r:Value)(h:jL N a0=some r):Con prog 63 [] true [.agg (Value.row a0)] (.agg [vI r.Kind,vI r.N,vS r.S,sO 1 (r.I.map (aA .i64)),sO 1 (r.L.map dA)]):=by
 refine fk (G:=(QB N)) func63 (gc 5 (BR N) (gc 8 (G0 N) gn)) ?_;simp only[f63];exact go
@[go_sem] def Hi(N:Nat):FnS:=⟨[],true,fn1 Value.decA fun q0=>(jL N q0).map fun r=>.agg (Value.row r),false⟩
def yO(N:Nat):ar prog 63 (Hi N):=om1 fun q0 r h=>rs (HV N q0 r h)
@[go_sem] def GD(N:Nat):FnS:=⟨[],true,fn1 Value.decA fun q0=>(jL N q0).map fun r=>.agg [vI r.Kind,vI r.N,vS r.S,sO 1 (r.I.map (aA .i64)),sO 1 (r.L.map dA)],false⟩
def Ks(N:Nat):ar prog 63 (GD N):=om1 (HV N)
@[go_sem] def PL(N d f:Nat):Option FnS:=aL [(6,139,Cz N),(18,63,Hi N)] d f
def G8(N:Nat)(a0:List Value)(r:List Value)(h:eI N a0=some r):Con prog 67 [] false [sF 5 (a0.map Value.row)] (sO 5 (r.map Value.row)):=by
 refine fk (G:=(PL N)) func67 (gc 6 (Hx N) (gc 18 (yO N) gn)) ?_;simp only[f67];unfold eI at h;refine z0 ?_;obtain⟨r1,hr1,h⟩:=bI h;refine z2 ?_;refine z0 ?_;refine aK (dc fun hreal3=>?_);have hl2:=hreal3.lenX 6 oZa;rw[cr]at hl2;refine rI (fun(v4:Nat) (b:List Value)=>⟨tab 22 (af (af (af au 3 (.pal 6 [] 0 b.length none)) 8 (vI (r1.length:Int))) 9 (vI (v4:Int))),(upd RZ 6 (sO 5 (b.map Value.row)))⟩) r1 h ?_ ?_
 .exact w2
 rintro v4 l3 _ h -;rcases(kf r1.length v4).symm with⟨hi4',hd7⟩|⟨hi4',hd7⟩
 .rw[hd7]at h;exact go
 rw[hd7]at h;simp only[kW]at h;have hw6:=bn hi4' hl2;refine z2 ?_;refine ct ?_;refine z0 ?_;obtain⟨x2,hb8,hx9,h⟩:=aQ h;try simp only[cu]at hx9
 try simp only[nU,xd,true_and]at hb8
 obtain⟨r3,hr10,h⟩:=bI h;have hx12:=fE (y:=r3) hx9;refine z1 (k4 hb8 hx9 hr10 (mm2 (row:=Value.row) (y:=r3) (rx:=[vI x2.Kind,vI x2.N,vS x2.S,sF 1 (x2.I.map (aA .i64)),sF 1 (x2.L.map dA)]) (ry:=[vI r3.Kind,vI r3.N,vS r3.S,sF 1 (r3.I.map (aA .i64)),sF 1 (r3.L.map dA)]) hx9 rfl rfl)) ?_;refine z2 ?_;refine⟨hi4',(l3.set v4 r3),?_,h⟩;refine wr ?_ ?_<;>repeat' first|rfl|constructor|simp only[go_sem,seval,cL]
@[go_sem] def Ob(N:Nat):FnS:=⟨[],false,fn1 (aD 5 Value.dec) fun q0=>(eI N q0).map fun r=>sF 5 (r.map Value.row),false⟩
def wk(N:Nat):ar prog 67 (Ob N):=om1 fun q0 r h=>rs (G8 N q0 r h)
@[go_sem] def EX(N:Nat):FnS:=⟨[],false,fn1 (aD 5 Value.dec) fun q0=>(eI N q0).map fun r=>sO 5 (r.map Value.row),false⟩
def vc(N:Nat):ar prog 67 (EX N):=om1 (G8 N)
@[go_sem] def Sq(N d f:Nat):Option FnS:=aL [(5,67,EX N)] d f
def Jd(N:Nat)(a0:ah)(r:ah)(h:qc N a0=some r):Con prog 57 [] false [.agg (ah.row a0)] (.agg [vS r.Target.Type_,vS r.Target.Key,vS r.Method,sO 5 (r.Args.map Value.row)]):=by
 refine fk (G:=(Sq N)) func57 (gc 5 (vc N) gn) ?_;simp only[f57];exact go
@[go_sem] def Is(N:Nat):FnS:=⟨[],false,fn1 ah.decA fun q0=>(qc N q0).map fun r=>.agg (ah.row r),false⟩
def NT(N:Nat):ar prog 57 (Is N):=om1 fun q0 r h=>rs (Jd N q0 r h)
@[go_sem] def PN(N:Nat):FnS:=⟨[],false,fn1 ah.decA fun q0=>(qc N q0).map fun r=>.agg [vS r.Target.Type_,vS r.Target.Key,vS r.Method,sO 5 (r.Args.map Value.row)],false⟩
def MA(N:Nat):ar prog 57 (PN N):=om1 (Jd N)
@[go_sem] def TQ(N d f:Nat):Option FnS:=aL [(6,100,zo N),(22,57,Is N),(27,63,GD N)] d f
def Ln(N:Nat)(a0:Txn)(r:Txn)(h:kn N a0=some r):Con prog 41 [] false [.agg (Txn.row a0)] (.agg [vI r.ID,vI r.Born,vS r.Client,vI r.Seq,sO 4 (r.Calls.map ah.row),vI r.Done,vI r.Last.Kind,vI r.Last.N,vS r.Last.S,sO 1 (r.Last.I.map (aA .i64)),sO 1 (r.Last.L.map dA)]):=by
 refine fk (G:=(TQ N)) func41 (gc 6 (EJ N) (gc 22 (NT N) (gc 27 (Ks N) gn))) ?_;simp only[f41];unfold kn at h;refine z0 ?_;obtain⟨r1,hr1,h⟩:=bI h;refine z1 hr1 ?_;refine z0 ?_;refine aK (dc fun hreal3=>?_);have hl2:=hreal3.cell 1 4 oZa rfl;rw[cr]at hl2;refine rI (fun(v4:Nat) (b:List ah)=>⟨tab 30 (af (af (af (af au 1 (pF 1)) 2 (pF 2)) 10 (vI (r1.length:Int))) 11 (vI (v4:Int))),(upd (upd RZ 1 (vA 11 [vI a0.ID,vI a0.Born,vS a0.Client,vI a0.Seq,sO 4 (b.map ah.row),vI a0.Done,vI a0.Last.Kind,vI a0.Last.N,vS a0.Last.S,sF 1 (a0.Last.I.map (aA .i64)),sF 1 (a0.Last.L.map dA)])) 2 (vA 11 [vI 0,vI 0,vS (⟨#[]⟩),vI 0,.val (.slice none 0 0),vI 0,vI 0,vI 0,vS (⟨#[]⟩),.val (.slice none 0 0),.val (.slice none 0 0)]))⟩) r1 h ?_ ?_
 .exact wR
 rintro v4 l3 _ h -;rcases(kf r1.length v4).symm with⟨hi4',hd7⟩|⟨hi4',hd7⟩
 .rw[hd7]at h;exact go
 rw[hd7]at h;simp only[pM]at h;have hw6:=bn hi4' hl2;refine z1 hi4' ?_;refine ct ?_;refine z0 ?_;obtain⟨x10,hb8,hx9,h⟩:=aQ h;try simp only[cu]at hx9
 try simp only[nU,xd,true_and]at hb8
 obtain⟨r11,hr10,h⟩:=bI h;have hx12:=fE (y:=r11) hx9;refine d1 (k4 hb8 hx9 hr10 (mm2 (row:=ah.row) (y:=r11) (rx:=[vS x10.Target.Type_,vS x10.Target.Key,vS x10.Method,sF 5 (x10.Args.map Value.row)]) (ry:=[vS r11.Target.Type_,vS r11.Target.Key,vS r11.Method,sF 5 (r11.Args.map Value.row)]) hx9 rfl rfl)) ?_;exact go
@[go_sem] def Jh(N:Nat):FnS:=⟨[],false,fn1 Txn.decA fun q0=>(kn N q0).map fun r=>.agg (Txn.row r),false⟩
def GN(N:Nat):ar prog 41 (Jh N):=om1 fun q0 r h=>rs (Ln N q0 r h)
@[go_sem] def Ra(N:Nat):FnS:=⟨[],false,fn1 Txn.decA fun q0=>(kn N q0).map fun r=>.agg [vI r.ID,vI r.Born,vS r.Client,vI r.Seq,sO 4 (r.Calls.map ah.row),vI r.Done,vI r.Last.Kind,vI r.Last.N,vS r.Last.S,sO 1 (r.Last.I.map (aA .i64)),sO 1 (r.Last.L.map dA)],false⟩
def NA(N:Nat):ar prog 41 (Ra N):=om1 (Ln N)
def I5(N:Nat)(a0:List aj)(r:List aj)(h:lr N a0=some r):Con prog 107 [] false [.sl false (some false) 3 none (a0.map aj.row)] (sO 3 (r.map aj.row)):=by
 refine fk (G:=(aL [])) func107 gn ?_;simp only[f107];exact go
def HW(N:Nat)  (r:List aj) (h:lr N []=some r):Con prog 107 [] false [.val (.slice none 0 0)] (sO 3 (r.map aj.row)):=by
 refine fk (G:=(aL [])) func107 gn ?_;simp only[f107];exact go
def Mr(N:Nat)(a0:List aj)(r:List aj)(h:lr N a0=some r):Con prog 107 [] false [sF 3 (a0.map aj.row)] (sO 3 (r.map aj.row)):=
 Gu (fun e=>by obtain rfl:a0=[]:=xu.1 e;exact HW N r h) (I5 N a0 r h)
@[go_sem] def Kq(N:Nat):FnS:=⟨[],false,fn1 (aD 3 aj.dec) fun q0=>(lr N q0).map fun r=>sO 3 (r.map aj.row),false⟩
def HI(N:Nat):ar prog 107 (Kq N):=om1 (Mr N)
@[go_sem] def EM(N:Nat):FnS:=⟨[],false,fn1 (aD 3 aj.dec) fun q0=>(pL N q0).map fun r=>sO 3 (r.map aj.row),false⟩
def Ck(N:Nat):ar prog 47 (EM N):=om1 fun _ _ h=>by
 refine fk func47 (gc 6 (HI N) (gc 19 (wk N) gn)) ?_;simp only[f47];unfold pL at h;refine z0 ?_;obtain⟨r1,hr1,h⟩:=bI h;refine z2 ?_;refine z0 ?_;refine aK (dc fun hreal3=>?_);have hl2:=hreal3.lenX 6 oZa;rw[cr]at hl2;refine rI (fun(v4:Nat) (b:List aj)=>⟨tab 24 (af (af (af au 3 (.pal 6 [] 0 b.length none)) 8 (vI (r1.length:Int))) 9 (vI (v4:Int))),(upd RZ 6 (sO 3 (b.map aj.row)))⟩) r1 h ?_ ?_
 .exact w2
 rintro v4 l3 _ h -;rcases(kf r1.length v4).symm with⟨hi4',hd7⟩|⟨hi4',hd7⟩
 .rw[hd7]at h;exact go
 rw[hd7]at h;simp only[lD]at h;have hw6:=bn hi4' hl2;refine z2 ?_;refine ct ?_;refine z0 ?_;obtain⟨x2,hb8,hx9,h⟩:=aQ h;try simp only[cu]at hx9
 try simp only[nU,xd,true_and]at hb8
 obtain⟨r3,hr10,h⟩:=bI h;have hx12:=fE (y:=(aj.mk x2.Txn_ r3 x2.Prepared)) hx9;refine z1 (k4 hb8 hx9 hr10 (mm2 (row:=aj.row) (y:=(aj.mk x2.Txn_ r3 x2.Prepared)) (rx:=[vI x2.Txn_,sF 5 (x2.Fields.map Value.row),vB x2.Prepared]) (ry:=[vI x2.Txn_,sF 5 (r3.map Value.row),vB x2.Prepared]) hx9 rfl rfl)) ?_;refine z2 ?_;refine⟨hi4',(l3.set v4 (aj.mk x2.Txn_ r3 x2.Prepared)),?_,h⟩;refine wr ?_ ?_<;>repeat' first|rfl|constructor|simp only[go_sem,seval,cL]
@[go_sem] def YG(N d f:Nat):Option FnS:=aL [(9,130,En N),(12,131,wA N),(15,132,yw N),(31,41,Jh N),(49,133,EY N),(68,47,EM N)] d f
def Qs(N:Nat)(a0:ae)(r:ae)(h:mI N a0=some r):Con prog 59 [] false [.agg (ae.row a0)] (.agg [sO 11 (r.Txns.map Txn.row),sO 4 (r.Locks.map ai.row),sO 3 (r.Stacks.map aa.rowD)]):=by
 refine fk (G:=(YG N)) func59 (gc 9 (I0 N) (gc 12 (Au N) (gc 15 (D8 N) (gc 31 (GN N) (gc 49 (Kg N) (gc 68 (Ck N) gn)))))) ?_;simp only[f59];unfold mI at h;refine z0 ?_;obtain⟨r1,hr1,h⟩:=bI h;obtain⟨r2,hr2,h⟩:=bI h;obtain⟨r3,hr3,h⟩:=bI h;refine d2 ?_;refine z0 ?_;refine aK (dc fun hreal5=>?_);have hl4:=hreal5.cell 3 0 oZa rfl;rw[cr]at hl4;refine rI (fun(v6:Nat) (b:List Txn)=>⟨tab 73 (af (af (af (af au 2 (pF 2)) 3 (pF 3)) 19 (vI (r1.length:Int))) 20 (vI (v6:Int))),(upd (upd RZ 2 (vA 3 [.val (.slice none 0 0),.val (.slice none 0 0),.val (.slice none 0 0)])) 3 (vA 3 [sO 11 (b.map Txn.row),sO 4 (r2.map ai.row),sO 3 (r3.map aa.row)]))⟩) r1 h ?_ ?_
 .exact wR
 rintro v6 l5 _ h -;rcases(kf r1.length v6)with⟨hi6',hd9⟩|⟨hi6',hd9⟩
 .rw[hd9]at h;simp only[rY]at h;have hw8:=bn hi6' hl4;refine z2 ?_;refine ct ?_;refine z0 ?_;obtain⟨x12,hb10,hx11,h⟩:=aQ h;try simp only[cu]at hx11
  try simp only[nU,xd,true_and]at hb10
  obtain⟨r13,hr12,h⟩:=bI h;have hx14:=fE (y:=r13) hx11;refine d1 (k4 hb10 hx11 hr12 (mm2 (row:=Txn.row) (y:=r13) (rx:=[vI x12.ID,vI x12.Born,vS x12.Client,vI x12.Seq,sF 4 (x12.Calls.map ah.row),vI x12.Done,vI x12.Last.Kind,vI x12.Last.N,vS x12.Last.S,sF 1 (x12.Last.I.map (aA .i64)),sF 1 (x12.Last.L.map dA)]) (ry:=[vI r13.ID,vI r13.Born,vS r13.Client,vI r13.Seq,sF 4 (r13.Calls.map ah.row),vI r13.Done,vI r13.Last.Kind,vI r13.Last.N,vS r13.Last.S,sF 1 (r13.Last.I.map (aA .i64)),sF 1 (r13.Last.L.map dA)]) hx11 rfl rfl)) ?_;exact go
 rw[hd9]at h;simp only[rY]at h;refine z2 ?_;refine cf ?_;unfold Em at h;refine z0 ?_;refine aK (dc fun hreal16=>?_);have hl15:=hreal16.cell 3 1 oZa rfl;rw[cr]at hl15;refine rI (fun(v16:Nat) (b:List ai)=>⟨tab 73 (af (af (af (af au 2 (pF 2)) 3 (pF 3)) 36 (vI (r2.length:Int))) 37 (vI (v16:Int))),(upd (upd RZ 2 (vA 3 [.val (.slice none 0 0),.val (.slice none 0 0),.val (.slice none 0 0)])) 3 (vA 3 [sO 11 (l5.map Txn.row),sO 4 (b.map ai.row),sO 3 (r3.map aa.row)]))⟩) r2 h ?_ ?_
 .exact wR
 rintro v16 l15 _ h -;rcases(kf r2.length v16)with⟨hi17',hd20⟩|⟨hi17',hd20⟩
 .rw[hd20]at h;simp only[rh]at h;have hw19:=bn hi17' hl15;refine z2 ?_;refine ct ?_;refine z0 ?_;obtain⟨x22,hb21,hx22,h⟩:=aQ h;try simp only[cu]at hx22
  try simp only[nU,xd,true_and]at hb21
  obtain⟨r23,hr23,h⟩:=bI h;have hx25:=fE (y:=(ai.mk x22.Actor x22.Owner r23)) hx22;refine d1 (k4 hb21 hx22 hr23 (mm2 (row:=ai.row) (y:=(ai.mk x22.Actor x22.Owner r23)) (rx:=[vS x22.Actor.Type_,vS x22.Actor.Key,vI x22.Owner,sF 1 (x22.Waiters.map (aA .i64))]) (ry:=[vS x22.Actor.Type_,vS x22.Actor.Key,vI x22.Owner,sF 1 (r23.map (aA .i64))]) hx22 rfl rfl)) ?_;exact go
 rw[hd20]at h;simp only[rh]at h;refine z2 ?_;refine cf ?_;unfold Ej at h;refine z0 ?_;refine aK (dc fun hreal27=>?_);have hl26:=hreal27.cell 3 2 oZa rfl;rw[cr]at hl26;refine rI (fun(v26:Nat) (b:List aa)=>⟨tab 73 (af (af (af (af au 2 (pF 2)) 3 (pF 3)) 55 (vI (r3.length:Int))) 56 (vI (v26:Int))),(upd (upd RZ 2 (vA 3 [.val (.slice none 0 0),.val (.slice none 0 0),.val (.slice none 0 0)])) 3 (vA 3 [sO 11 (l5.map Txn.row),sO 4 (l15.map ai.row),sO 3 (mxR aa.rowD aa.row v26 b)]))⟩) r3 h ?_ ?_
 .exact wR
 rintro v26 l25 _ h -;rcases(kf r3.length v26).symm with⟨hi28',hd31⟩|⟨hi28',hd31⟩
 .rw[hd31]at h;simp only[rT]at h;obtain⟨hg35,h⟩:=Ve h;refine z1 (k2 hi28' (mi4 hg35)) ?_;exact go
 rw[hd31]at h;simp only[rT]at h;have hw30:=bn hi28' hl26;refine z2 ?_;refine ct ?_;refine z0 ?_;obtain⟨x24,hb32,hx33,h⟩:=aQ h;try simp only[cu]at hx33
 try simp only[nU,xd,true_and]at hb32
 obtain⟨r25,hr34,h⟩:=bI h;refine o5 fun Z hZ=>?_;simp only[go_sem,seval,hb32,Ug (f:=aa.rowD) (g:=aa.row) hx33,Bz,hr34,abn (f:=aa.rowD) (g:=aa.row) (rx:=[vS x24.Actor.Type_,vS x24.Actor.Key,sF 3 (x24.Layers.map aj.row)]) hx33 rfl rfl];repeat with_reducible refine mj oZc ?_
 refine hZ _ oZc (z2 ?_);refine⟨hi28',(l25.set v26 (aa.mk x24.Actor r25)),?_,h⟩;refine aM.trans (tE (n:=3) (c':=vA 3 [sO 11 (l5.map Txn.row),sO 4 (l15.map ai.row),sO 3 (mxR aa.rowD aa.row (v26+1) (l25.set v26 (aa.mk x24.Actor r25)))]) oZa (by rw[<-V0 (f:=_) (g:=_) hx33 (aa.mk x24.Actor r25)];rfl)) ?_;exact wR
@[go_sem] def X9(N:Nat):FnS:=⟨[],false,fn1 ae.decA fun q0=>(mI N q0).map fun r=>.agg (ae.row r),false⟩
def R5(N:Nat):ar prog 59 (X9 N):=om1 fun q0 r h=>rs (Qs N q0 r h)
@[go_sem] def Nd(N:Nat):FnS:=⟨[],false,fn1 ae.decA fun q0=>(mI N q0).map fun r=>.agg [sO 11 (r.Txns.map Txn.row),sO 4 (r.Locks.map ai.row),sO 3 (r.Stacks.map aa.rowD)],false⟩
def rC(N:Nat):ar prog 59 (Nd N):=om1 (Qs N)
@[go_sem] def EG(N:Nat):FnS:=⟨[],false,fn6 ae.decA (aC .i64) (aC .i64) bG (aC .i64) (aD 4 ah.dec) fun q0 q1 q2 q3 q4 q5=>(iF N q0 q1 q2 q3 q4 q5).map fun r=>.tup [.agg (ae.row r.1),vI r.2],false⟩
def Ag(N:Nat):ar prog 38 (EG N):=om6 fun a0 a1 a2 a3 a4 a5 _ h=>by
 refine fk func38 (gc 24 (gv N) (gc 27 (Gt N) (gc 56 (rC N) (gc 60 (GN N) gn)))) ?_;simp only[f38];unfold iF at h;refine z0 ?_;refine z0 ?_;refine aN (aK ?_);apply aS (fun(c10:Bool)=>⟨tab 65 (af (af (af (af (af au 1 (vI a1)) 6 (pF 6)) 12 (pF 12)) 14 (pF 14)) 22 (vB c10)),(upd (upd (upd RZ 6 (vA 3 (ae.row a0))) 12 (vA 3 [.val (.slice none 0 0),.val (.slice none 0 0),.val (.slice none 0 0)])) 14 (vA 11 [vI a1,vI a2,vS a3,vI a4,sF 4 (a5.map ah.row),vI 0,vI 0,vI 0,vS (⟨#[]⟩),.val (.slice none 0 0),.val (.slice none 0 0)]))⟩)
 .intro hJ1;obtain⟨r11,hr2,h⟩:=bI h;refine z1 hr2 ?_;refine cM h (fun hc3 h=>?_) fun hc3 h=>?_
  .refine bm (pp (hJ1 _ true ?_ h));exact wF hc3
  have hJ:=hJ1;exact go
 intro c10 h;unfold yc at h;refine cB h (fun hc5 h=>?_) fun hc5 h=>?_
 .exact go
 apply aS (fun(c14:Bool)=>⟨tab 65 (af (af (af (af au 6 (pF 6)) 12 (pF 12)) 14 (pF 14)) 30 (vB c14)),(upd (upd (upd RZ 6 (vA 3 (ae.row a0))) 12 (vA 3 [.val (.slice none 0 0),.val (.slice none 0 0),.val (.slice none 0 0)])) 14 (vA 11 [vI a1,vI a2,vS a3,vI a4,sF 4 (a5.map ah.row),vI 0,vI 0,vI 0,vS (⟨#[]⟩),.val (.slice none 0 0),.val (.slice none 0 0)]))⟩)
 .intro hJ6;refine iD h (fun hc7 hc7d h=>?_) fun hc7 hc7d h=>?_
  .have hJ:=hJ6;exact go
  have hJ:=hJ6;exact go
 intro c14 h;unfold mf at h;refine cB h (fun hc10 h=>?_) fun hc10 h=>?_
 .exact go
 refine z1 hc10 ?_;refine cD h (fun hc11 hc11d h=>?_) fun hc11 hc11d h=>?_
 .exact go
 refine bm (pp ?_);unfold ki at h;obtain⟨r16,hr12,h⟩:=bI h;refine z1 (k2 hc11d hr12) ?_;obtain⟨r17,hr13,h⟩:=bI h;obtain⟨ha14,h⟩:=bq h;simp only[cn,cw,cy,Nat.reduceAdd]at ha14;exact go
@[go_sem] def YA(N:Nat):FnS:=⟨[],false,fn2 ae.decA (aC .i64) fun q0 q1=>(jU N q0 q1).map fun r=>.tup [.agg (ah.row r.1),vB r.2],false⟩
def Ft(N:Nat):ar prog 24 (YA N):=om2 fun _ _ _ h=>by
 refine fk func24 (gc 9 (fh N) (gc 52 (MA N) gn)) ?_;simp only[f24];unfold jU at h;have:J1 2 0 [2,4,6] [2,4] (fun f (c6:Bool)=>(af f 36 (.val (.bool c6)))) (fun R _=>R):=⟨⟩;exact go
@[go_sem] def Vu(N d f:Nat):Option FnS:=aL [(6,131,wA N),(19,133,yF N)] d f
def M6(N:Nat)(a0:List ai)(r:List ai)(h:gh N a0=some r):Con prog 117 [] false [sF 4 (a0.map ai.row)] (sO 4 (r.map ai.rowD)):=by
 refine fk (G:=(Vu N)) func117 (gc 6 (Au N) (gc 19 (BR N) gn)) ?_;simp only[f117];unfold gh at h;refine z0 ?_;obtain⟨r1,hr1,h⟩:=bI h;refine z2 ?_;refine z0 ?_;refine aK (dc fun hreal3=>?_);have hl2:=hreal3.lenX 6 oZa;rw[cr]at hl2;refine rI (fun(v4:Nat) (b:List ai)=>⟨tab 24 (af (af (af au 3 (.pal 6 [] 0 b.length none)) 8 (vI (r1.length:Int))) 9 (vI (v4:Int))),(upd RZ 6 (sO 4 (mxR ai.rowD ai.row v4 b)))⟩) r1 h ?_ ?_
 .exact w2
 rintro v4 l3 _ h -;rcases(kf r1.length v4).symm with⟨hi4',hd7⟩|⟨hi4',hd7⟩
 .rw[hd7]at h;simp only[mW]at h;obtain⟨hg11,h⟩:=Ve h;refine z1 (k2 hi4' (mi4 hg11)) ?_;exact go
 rw[hd7]at h;simp only[mW]at h;have hw6:=bn hi4' hl2;refine z2 ?_;refine ct ?_;refine z0 ?_;obtain⟨x2,hb8,hx9,h⟩:=aQ h;try simp only[cu]at hx9
 try simp only[nU,xd,true_and]at hb8
 obtain⟨r3,hr10,h⟩:=bI h;refine z1 (k4 hb8 (Ug (f:=ai.rowD) (g:=ai.row) hx9) hr10 (mi1 (f:=ai.rowD) (g:=ai.row) (rx:=[vS x2.Actor.Type_,vS x2.Actor.Key,vI x2.Owner,sF 1 (x2.Waiters.map (aA .i64))]) hx9 rfl)) ?_;refine z2 ?_;refine⟨hi4',(l3.set v4 (ai.mk x2.Actor x2.Owner r3)),?_,h⟩;refine aM.trans (aar (n:=6) (ai.mk x2.Actor x2.Owner r3) hx9 oZa rfl rfl) ?_;refine wr ?_ ?_<;>repeat' first|rfl|constructor|simp only[go_sem,seval,cY,cL]
@[go_sem] def SR(N:Nat):FnS:=⟨[],false,fn1 (aD 4 ai.dec) fun q0=>(gh N q0).map fun r=>sO 4 (r.map ai.row),false⟩
def lh(N:Nat):ar prog 117 (SR N):=om1 fun q0 r h=>rs (M6 N q0 r h)
@[go_sem] def Sd(N:Nat):FnS:=⟨[],false,fn1 (aD 4 ai.dec) fun q0=>(gh N q0).map fun r=>sO 4 (r.map ai.rowD),false⟩
def Gg(N:Nat):ar prog 117 (Sd N):=om1 (M6 N)
def dP:FnS:={own:=[true,true],pure:=false,fn:=fun _=>none,peek:=true}
theorem BZ:dP.own=[true,true]:=rfl
theorem Ba:dP.peek=true:=rfl
def GC:Ow prog 195:=
 S9 (fn:=f195) (tS:=25) (tR:=4) (e:=100) (size:=4) func195 rfl rfl oZc oZc oZc oZc
def Ci:ar prog 195 dP:=⟨(fun cs r h=>by simp[dP]at h),fun _=>GC⟩
def gW:Env:={T:=eG prog,G:=fun d f=>if d=67/\f=195 then some dP else none}
theorem uX:gW.T=eG prog:=rfl
theorem JT(d:Nat):gW.F d=none:=rfl
theorem JK(d f:Nat):gW.L d f=none:=rfl
theorem JL:gW.G 67 195=some dP:=rfl
def I3:GOk prog {T:=eG prog,G:=gW.G}:=by
 refine⟨?_,fun _ _ _ h=>oZj⟩;intro d f fs hfs;simp only[gW]at hfs;split at hfs
 .rename_i hc;obtain⟨rfl,rfl⟩:=hc;obtain rfl:=cX hfs;exact Ci
 cases hfs
def Lj:Jy prog 127 f127 f127.body.get! :=⟨func127,rfl,oZh,oZc⟩
set_option maxHeartbeats 4000000 in
section
attribute [local go_sem] uX iN Hw Option.map_some Nat.sub_zero Nat.le_refl dt Af List.isEmpty_nil
def Lr{α:Type}(row:α->List C)(ok:aO row)(l:List α)(i:Nat)(x:α)(k:Nat)(r:List α)(hr:r=l.take i++[x]++l.drop i)(hi:i<=l.length)(hsz:(l.length+1)* 64<=140737488355328)(hk1:l.length<=k)(hk2:k<=maxLen):
  Con prog 127 [true,false,true] false [.sl true none 4 (some k) (l.map row),vI i,sO 4 ([x].map row)] (sO 4 (r.map row)):=by
 refine PC (E:=gW) (DA prog _) I3 mix Lj (cU rfl) ?_;intro _;rw[AY oZk];rw[show gI [true,false,true] [C.sl true none 4 (some k) (l.map row),C.val (.int .i64 i),C.sl true none 4 none ([x].map row)]=(af (af (af au 0 (.pal 0 [] 0 l.length none)) 1 (vI i)) 2 (.pal 2 [] 0 1 none))from by funext t;match t with|0=>simp[gI,jX,lM,af]|1=>rfl|2=>rfl|t+3=>rfl];rw[show R0 [true,false,true] [C.sl true none 4 (some k) (l.map row),C.val (.int .i64 i),C.sl true none 4 none ([x].map row)]=upd (upd RZ 0 (C.sl true none 4 (some k) (l.map row))) 2 (C.sl true none 4 none ([x].map row))from by funext t;match t with|0=>rfl|1=>rfl|2=>rfl|t+3=>rfl];apply Pq;simp only[f127,Option.get!];have hi1:(i:Int)<=(l.length:Int):=oZg;have hi2:i<=l.length:=hi;have h10:(((1:Nat):Int)=0)=False:=oZk;have hp:(row x).all Abs.plainCell=true:=ok.plain x;have hf:(row x).map C.frz=(row x):=ok.frz x;have hpD:(row x).all uk=true:=by have:=(aO.allD ok [x]);simpa using this
 have hw1:IntKind.i64.wrap ((l.length:Int)+((1:Nat):Int))=((l.length+1:Nat):Int):=by rw[pG oZg oZg];rfl
 have hlt0:(l.take i).length=i:=oZd;have hes:(4 != 0)=true:=rfl;have hm1:min 1 (l.length+1-i)=1:=oZg;have hm2:min (l.length-i) (l.length+1 -(i+1))=l.length-i:=oZg;have hm3:(l.drop i).take (l.length-i)=l.drop i:=cT oZk;have hm4:i+1<=l.length+1:=oZg;have hw2:IntKind.i64.wrap (((l.length+1:Nat):Int) -(i:Int))=((l.length+1-i:Nat):Int):=by rw[pG oZg oZg];omega
 have hw1b:IntKind.i64.wrap ((l.length:Int)+1)=((l.length+1:Nat):Int):=hw1;have hw3:IntKind.i64.wrap ((i:Int)+((1:Nat):Int))=((i+1:Nat):Int):=by rw[pG oZg oZg];rfl
 have hw3b:IntKind.i64.wrap ((i:Int)+1)=((i+1:Nat):Int):=hw3;simp only[go_sem,seval,uX,hi2,ck,iN,cI,xX];refine Q0 rfl ?_;simp only[go_sem,seval,uX,xX];refine yV rfl (fun hc=>?_) (fun hc=>?_)
 .have e:i=l.length:=oZg;subst e;simp only[go_sem,seval,JT,hp,hf,aO.allD ok,xN,dV,hsz];refine vW ok ?_;rw[hr];simp[cT]
 .have hc1:decide ((i:Int)=(l.length:Int))=false:=decide_eq_false hc;have hlt:i<l.length:=oZg;simp only[go_sem,seval,XY,yM,hw1b,hc1];refine yV rfl (fun hk=>?_) (fun hk=>?_)
  .have hk1:decide (k<l.length+1)=true:=decide_eq_true hk;have hk2:k<i+(l.length+1-i):=oZg;have e1:i+(l.length+1-i)=l.length+1:=oZg;have hi3:(i:Int)<=((l.length+1:Nat):Int):=oZg;have hi4:i<=l.length+1:=oZg;obtain⟨A,hA⟩:∃A,List.map row (List.take i l)++List.replicate (l.length+1-i) [C.val (Value.string ⟨#[]⟩),C.val (Value.string ⟨#[]⟩),C.val (Value.int .i64 0),C.val (Value.slice none 0 0)]=A:=⟨_,rfl⟩;have hAp:bM A:=by rw[<-hA];exact lx (gi ok _) (EA _ [Value.string ⟨#[]⟩,Value.string ⟨#[]⟩,Value.int .i64 0,Value.slice none 0 0] (by simp[Value.oneCell']))
   have hAl:A.length=l.length+1:=by rw[<-hA,nc,cr,hlt0,xk];omega
   obtain⟨B,hB⟩:∃B,aR A i [(row x)]=B:=⟨_,rfl⟩;have hBp:bM B:=by rw[<-hB];exact gj hAp ⟨by simp[frzRows,hf],by simp[hpD]⟩
   have hBl:B.length=l.length+1:=by rw[<-hB];simp[aR,hAl];omega
   obtain⟨D,hD⟩:∃D,aR B (i+1) (List.map row (List.drop i l))=D:=⟨_,rfl⟩;have hDp:bM D:=by rw[<-hD];exact gj hBp (gi ok _)
   have hDl:D.length=l.length+1:=by rw[<-hD];simp[aR,hBl];omega
   have hDe:D=(l.take i++[x]++l.drop i).map row:=by
    rw[<-hD,<-hB,<-hA,xa,nL,TH (A:=l.map row) (n:=l.length) oZk hi2 oZk];simp
   simp only[go_sem,seval,hi2,hp,hf,aO.frzRows ok,aO.allPlain ok,HK,yM,NZ,Hy,ja,I8,Ext.all,hw2,hw1b,hw3b,ajf,cQ,xk,hlt0,hm1,hm3,hm4,hk,e1,hi4,hA,hAl,hAp.1,hAp.2,hB,hBp.1,hBp.2,hD,hsz];repeat' ((with_reducible refine mj ?_ ?_);kernel_rfl)
   simp only[go_sem,seval,dV];refine vW ok ?_;rw[hr,<-hDe,<-hDl,xE]
  .have hk1:decide (k<l.length+1)=false:=decide_eq_false hk;have hk2:¬k<i+(l.length+1-i):=oZg;have hk3:l.length+1<=k:=oZg;have e2:l.length+1-l.length=1:=oZg;have e3:l.length<=l.length+1:=oZg;have hi3:(i:Int)<=((l.length+1:Nat):Int):=oZg;have hi4:i<=l.length+1:=oZg;have hne:¬l.length+1 -(i+1)=0:=oZg;have hne2:¬l.length-i=0:=oZg;obtain⟨A,hA⟩:∃A,List.map row l++[[C.dead,C.dead,C.dead,C.dead]]=A:=⟨_,rfl⟩;have hAp:bM A:=by rw[<-hA];exact lx (gi ok _) (HU 1 4)
   have hAl:A.length=l.length+1:=by rw[<-hA];simp
   have hm5:min (l.length+1-i) (l.length+1 -(i+1))=l.length-i:=oZg;have hm5b:min (l.length+1-i) (l.length-i)=l.length-i:=oZg;obtain⟨A2,hA2⟩:∃A2,(A.drop i).take (l.length-i)=A2:=⟨_,rfl⟩;have hA2e:A2=List.map row (l.drop i):=by
    rw[<-hA2,<-hA,xV,cr,show i-l.length=0 by omega,nu,xt,cT oZk,show l.length-i -(List.drop i (List.map row l)).length=0 by simp];simp[nL]
   have hA2p:(A2.all fun r=>r.all Abs.plainCell)=true:=by rw[hA2e];exact ok.allPlain _
   have hA2f:frzRows A2=A2:=by rw[hA2e];exact ok.frzRows _
   have hA2d:bM A2:=by rw[hA2e];exact gi ok _
   obtain⟨B,hB⟩:∃B,aR A (i+1) A2=B:=⟨_,rfl⟩;have hBp:bM B:=by rw[<-hB];exact gj hAp hA2d
   have hBl:B.length=l.length+1:=by rw[<-hB];simp[aR,hAl,hA2e];omega
   obtain⟨D,hD⟩:∃D,aR B i [(row x)]=D:=⟨_,rfl⟩;have hDp:bM D:=by rw[<-hD];exact gj hBp ⟨by simp[frzRows,hf],by simp[hpD]⟩
   have hDl:D.length=l.length+1:=by rw[<-hD];simp[aR,hBl];omega
   have hDe:D=(l.take i++[x]++l.drop i).map row:=by
    rw[<-hD,<-hB,<-hA2,<-hA,Q1 (A:=l.map row) (n:=l.length) oZk hi2];simp[xa,nL]
   simp only[go_sem,seval,JK,JL,aO.frzRows ok,aO.allD ok,C8,PE,tp,hw1b,hw3b,cQ,hm4,BZ,Ba,xN,hk,hk3,e2,e3,hne2,hA,hes];refine QY rfl ?_;simp only[go_sem,seval,hp,hf,HK,NZ,Hy,hw3b,hm1,hm4,hi4,hAp.1,hAp.2,hA2,hA2p,hA2f,hB,hBp.1,hBp.2,hD,hm5b];repeat' ((with_reducible refine mj ?_ ?_);kernel_rfl)
   simp only[go_sem,seval,dV];refine vW ok ?_;rw[hr,<-hDe,<-hDl,xE]
end
def MM(N:Nat)(a0:List ai)(a1:Int)(a2:List ai)(r:List ai)(h:pA N a0 a1 a2=some r):
  Con prog 127 [true,false,true] false [sO 4 (a0.map ai.row),vI a1,sO 4 (a2.map ai.row)] (sO 4 (r.map ai.row)):=by
 unfold pA at h;obtain⟨n,x,rfl,rfl,h1,h2,h3⟩:=GF h;exact Pl fun k hk1 hk2=>Lr ai.row ai.row_ok a0 n x k r (cX h3).symm h1 h2 (by simpa using hk1) hk2
def ir(N:Nat):FnS:={own:=[true,false,true],pure:=false,fn:=fun cs=>match cs with
 | [c0,c1,c2]=>(AU 4 ai.dec c0).bind fun q0=>(aC .i64 c1).bind fun q1=>(AU 4 ai.dec c2).bind fun q2=>(pA N q0 q1 q2).map fun r=>sO 4 (r.map ai.row)
 | _=>none}
theorem G1(N:Nat):(ir N).own=[true,false,true]:=rfl
theorem Gb(N:Nat):(ir N).pure=false:=rfl
theorem GM(N:Nat):(ir N).peek=false:=rfl
attribute [go_sem] ir G1 Gb GM
def Hz(N:Nat):ar prog 127 (ir N):=by
 refine⟨fun cs r h=>?_,fun h=>oZj⟩;simp only[ir]at h;split at h
 .simp only[cv,cq]at h;obtain⟨q0,h0,q1,h1,q2,h2,r',hr,rfl⟩:=h;exact(MM N q0 q1 q2 r' hr).argsO rfl (kZ (s3 ai.row_ok ai.dec_le h0) (uS (bE h1) (kZ (s3 ai.row_ok ai.dec_le h2) qK)))
 .cases h
@[go_sem] def Rv(N:Nat):FnS:=⟨[],true,fn1 (aC .i64) fun q0=>(CL N q0).map fun r=>vB r,false⟩
def EZ(N:Nat):ar prog 228 (Rv N):=om1 fun _ _ h=>by
 refine fk (G:=(aL [])) func228 gn ?_;simp only[f228];exact go
@[go_sem] def Jr(N:Nat):FnS:=⟨[],true,fn2 (aC .i64) (aC .i64) fun q0 q1=>(AO N q0 q1).map fun r=>vB r,false⟩
def F7(N:Nat):ar prog 197 (Jr N):=om2 fun _ _ _ h=>by
 refine fk func197 (gc 6 (EZ N) (gc 9 (EZ N) gn)) ?_;simp only[f197];exact go
@[go_sem] def NQ(N:Nat):FnS:=⟨[],true,fn1 (aC .i64) fun q0=>(y7 N q0).map fun r=>vB r,false⟩
def Co(N:Nat):ar prog 198 (NQ N):=om1 fun _ _ h=>by
 refine fk (G:=(aL [])) func198 gn ?_;simp only[f198];exact go
@[go_sem] def GZ(N:Nat):FnS:=⟨[],true,fn2 (aD 1 (bO (aC .i64))) (aC .i64) fun q0 q1=>(jP N q0 q1).map fun r=>.tup [vI r.1,vB r.2],false⟩
def EH(N:Nat):ar prog 128 (GZ N):=om2 fun a0 a1 _ h=>by
 refine fk func128 (gc 27 (F7 N) (gc 47 (Co N) (gc 50 (Co N) gn))) ?_;simp only[f128];unfold jP at h;refine z0 ?_;refine z0 ?_;refine z0 ?_;refine aN (aK (dw (fun(b:Int×Int)=>⟨tab 54 (af (af (af (af (af au 0 (sF 1 (a0.map (aA .i64)))) 1 (vI a1)) 6 (vI (a0.length:Int))) 7 (vI b.1)) 8 (vI b.2)),RZ⟩) (0,(a0.length:Int)) h ?_ ?_))
 .exact wR
 rintro n ⟨v2,v3⟩ h -;cases n with
 | zero=>simp[dT]at h
 | succ n=>
 simp only[dT]at h;refine z0 ?_;refine cD h (fun hc1 hc1d h=>?_) fun hc1 hc1d h=>?_
 .exact go
 refine eV (pp ?_);unfold kz at h;exact go
def eh:FnS:={own:=[true,true],pure:=false,fn:=fun _=>none,peek:=true}
theorem B9:eh.own=[true,true]:=rfl
theorem BU:eh.peek=true:=rfl
def G4:Ow prog 199:=
 S9 (fn:=f199) (tS:=35) (tR:=4) (e:=3) (size:=1) func199 rfl rfl oZc oZc oZc oZc
def C5:ar prog 199 eh:=⟨(fun cs r h=>by simp[eh]at h),fun _=>G4⟩
def iP:Env:={T:=eG prog,G:=fun d f=>if d=67/\f=199 then some eh else none}
theorem wh:iP.T=eG prog:=rfl
theorem Lp(d:Nat):iP.F d=none:=rfl
theorem KA(d f:Nat):iP.L d f=none:=rfl
theorem Kv:iP.G 67 199=some eh:=rfl
def JQ:GOk prog {T:=eG prog,G:=iP.G}:=by
 refine⟨?_,fun _ _ _ h=>oZj⟩;intro d f fs hfs;simp only[iP]at hfs;split at hfs
 .rename_i hc;obtain⟨rfl,rfl⟩:=hc;obtain rfl:=cX hfs;exact C5
 cases hfs
def Mi:Jy prog 129 f129 f129.body.get! :=⟨func129,rfl,oZh,oZc⟩
set_option maxHeartbeats 4000000 in
section
attribute [local go_sem] wh iN Hw Option.map_some Nat.sub_zero Nat.le_refl dt Af List.isEmpty_nil
def Mf{α:Type}(row:α->List C)(ok:aO row)(l:List α)(i:Nat)(x:α)(k:Nat)(r:List α)(hr:r=l.take i++[x]++l.drop i)(hi:i<=l.length)(hsz:(l.length+1)* 8<=140737488355328)(hk1:l.length<=k)(hk2:k<=maxLen):
  Con prog 129 [true,false,true] false [.sl true none 1 (some k) (l.map row),vI i,sO 1 ([x].map row)] (sO 1 (r.map row)):=by
 refine PC (E:=iP) (DA prog _) JQ mix Mi (cU rfl) ?_;intro _;rw[AY oZk];rw[show gI [true,false,true] [C.sl true none 1 (some k) (l.map row),C.val (.int .i64 i),C.sl true none 1 none ([x].map row)]=(af (af (af au 0 (.pal 0 [] 0 l.length none)) 1 (vI i)) 2 (.pal 2 [] 0 1 none))from by funext t;match t with|0=>simp[gI,jX,lM,af]|1=>rfl|2=>rfl|t+3=>rfl];rw[show R0 [true,false,true] [C.sl true none 1 (some k) (l.map row),C.val (.int .i64 i),C.sl true none 1 none ([x].map row)]=upd (upd RZ 0 (C.sl true none 1 (some k) (l.map row))) 2 (C.sl true none 1 none ([x].map row))from by funext t;match t with|0=>rfl|1=>rfl|2=>rfl|t+3=>rfl];apply Pq;simp only[f129,Option.get!];have hi1:(i:Int)<=(l.length:Int):=oZg;have hi2:i<=l.length:=hi;have h10:(((1:Nat):Int)=0)=False:=oZk;have hp:(row x).all Abs.plainCell=true:=ok.plain x;have hf:(row x).map C.frz=(row x):=ok.frz x;have hpD:(row x).all uk=true:=by have:=(aO.allD ok [x]);simpa using this
 have hw1:IntKind.i64.wrap ((l.length:Int)+((1:Nat):Int))=((l.length+1:Nat):Int):=by rw[pG oZg oZg];rfl
 have hlt0:(l.take i).length=i:=oZd;have hes:(1 != 0)=true:=rfl;have hm1:min 1 (l.length+1-i)=1:=oZg;have hm2:min (l.length-i) (l.length+1 -(i+1))=l.length-i:=oZg;have hm3:(l.drop i).take (l.length-i)=l.drop i:=cT oZk;have hm4:i+1<=l.length+1:=oZg;have hw2:IntKind.i64.wrap (((l.length+1:Nat):Int) -(i:Int))=((l.length+1-i:Nat):Int):=by rw[pG oZg oZg];omega
 have hw1b:IntKind.i64.wrap ((l.length:Int)+1)=((l.length+1:Nat):Int):=hw1;have hw3:IntKind.i64.wrap ((i:Int)+((1:Nat):Int))=((i+1:Nat):Int):=by rw[pG oZg oZg];rfl
 have hw3b:IntKind.i64.wrap ((i:Int)+1)=((i+1:Nat):Int):=hw3;simp only[go_sem,seval,wh,hi2,ck,iN,cI,xX];refine Q0 rfl ?_;simp only[go_sem,seval,wh,xX];refine yV rfl (fun hc=>?_) (fun hc=>?_)
 .have e:i=l.length:=oZg;subst e;simp only[go_sem,seval,Lp,hp,hf,aO.allD ok,xN,dV,hsz];refine vW ok ?_;rw[hr];simp[cT]
 .have hc1:decide ((i:Int)=(l.length:Int))=false:=decide_eq_false hc;have hlt:i<l.length:=oZg;simp only[go_sem,seval,XY,yM,hw1b,hc1];refine yV rfl (fun hk=>?_) (fun hk=>?_)
  .have hk1:decide (k<l.length+1)=true:=decide_eq_true hk;have hk2:k<i+(l.length+1-i):=oZg;have e1:i+(l.length+1-i)=l.length+1:=oZg;have hi3:(i:Int)<=((l.length+1:Nat):Int):=oZg;have hi4:i<=l.length+1:=oZg;obtain⟨A,hA⟩:∃A,List.map row (List.take i l)++List.replicate (l.length+1-i) [C.val (Value.int .i64 0)]=A:=⟨_,rfl⟩;have hAp:bM A:=by rw[<-hA];exact lx (gi ok _) (EA _ [Value.int .i64 0] (by simp[Value.oneCell']))
   have hAl:A.length=l.length+1:=by rw[<-hA,nc,cr,hlt0,xk];omega
   obtain⟨B,hB⟩:∃B,aR A i [(row x)]=B:=⟨_,rfl⟩;have hBp:bM B:=by rw[<-hB];exact gj hAp ⟨by simp[frzRows,hf],by simp[hpD]⟩
   have hBl:B.length=l.length+1:=by rw[<-hB];simp[aR,hAl];omega
   obtain⟨D,hD⟩:∃D,aR B (i+1) (List.map row (List.drop i l))=D:=⟨_,rfl⟩;have hDp:bM D:=by rw[<-hD];exact gj hBp (gi ok _)
   have hDl:D.length=l.length+1:=by rw[<-hD];simp[aR,hBl];omega
   have hDe:D=(l.take i++[x]++l.drop i).map row:=by
    rw[<-hD,<-hB,<-hA,xa,nL,TH (A:=l.map row) (n:=l.length) oZk hi2 oZk];simp
   simp only[go_sem,seval,hi2,hp,hf,aO.frzRows ok,aO.allPlain ok,HK,yM,NZ,Hy,ja,I8,Ext.all,hw2,hw1b,hw3b,ajf,cQ,xk,hlt0,hm1,hm3,hm4,hk,e1,hi4,hA,hAl,hAp.1,hAp.2,hB,hBp.1,hBp.2,hD,hsz];repeat' ((with_reducible refine mj ?_ ?_);kernel_rfl)
   simp only[go_sem,seval,dV];refine vW ok ?_;rw[hr,<-hDe,<-hDl,xE]
  .have hk1:decide (k<l.length+1)=false:=decide_eq_false hk;have hk2:¬k<i+(l.length+1-i):=oZg;have hk3:l.length+1<=k:=oZg;have e2:l.length+1-l.length=1:=oZg;have e3:l.length<=l.length+1:=oZg;have hi3:(i:Int)<=((l.length+1:Nat):Int):=oZg;have hi4:i<=l.length+1:=oZg;have hne:¬l.length+1 -(i+1)=0:=oZg;have hne2:¬l.length-i=0:=oZg;obtain⟨A,hA⟩:∃A,List.map row l++[[C.dead]]=A:=⟨_,rfl⟩;have hAp:bM A:=by rw[<-hA];exact lx (gi ok _) (HU 1 1)
   have hAl:A.length=l.length+1:=by rw[<-hA];simp
   have hm5:min (l.length+1-i) (l.length+1 -(i+1))=l.length-i:=oZg;have hm5b:min (l.length+1-i) (l.length-i)=l.length-i:=oZg;obtain⟨A2,hA2⟩:∃A2,(A.drop i).take (l.length-i)=A2:=⟨_,rfl⟩;have hA2e:A2=List.map row (l.drop i):=by
    rw[<-hA2,<-hA,xV,cr,show i-l.length=0 by omega,nu,xt,cT oZk,show l.length-i -(List.drop i (List.map row l)).length=0 by simp];simp[nL]
   have hA2p:(A2.all fun r=>r.all Abs.plainCell)=true:=by rw[hA2e];exact ok.allPlain _
   have hA2f:frzRows A2=A2:=by rw[hA2e];exact ok.frzRows _
   have hA2d:bM A2:=by rw[hA2e];exact gi ok _
   obtain⟨B,hB⟩:∃B,aR A (i+1) A2=B:=⟨_,rfl⟩;have hBp:bM B:=by rw[<-hB];exact gj hAp hA2d
   have hBl:B.length=l.length+1:=by rw[<-hB];simp[aR,hAl,hA2e];omega
   obtain⟨D,hD⟩:∃D,aR B i [(row x)]=D:=⟨_,rfl⟩;have hDp:bM D:=by rw[<-hD];exact gj hBp ⟨by simp[frzRows,hf],by simp[hpD]⟩
   have hDl:D.length=l.length+1:=by rw[<-hD];simp[aR,hBl];omega
   have hDe:D=(l.take i++[x]++l.drop i).map row:=by
    rw[<-hD,<-hB,<-hA2,<-hA,Q1 (A:=l.map row) (n:=l.length) oZk hi2];simp[xa,nL]
   simp only[go_sem,seval,KA,Kv,aO.frzRows ok,aO.allD ok,C8,PE,tp,hw1b,hw3b,cQ,hm4,B9,BU,xN,hk,hk3,e2,e3,hne2,hA,hes];refine QY rfl ?_;simp only[go_sem,seval,hp,hf,HK,NZ,Hy,hw3b,hm1,hm4,hi4,hAp.1,hAp.2,hA2,hA2p,hA2f,hB,hBp.1,hBp.2,hD,hm5b];repeat' ((with_reducible refine mj ?_ ?_);kernel_rfl)
   simp only[go_sem,seval,dV];refine vW ok ?_;rw[hr,<-hDe,<-hDl,xE]
end
def NU(N:Nat)(a0:List Int)(a1:Int)(a2:List Int)(r:List Int)(h:qn N a0 a1 a2=some r):
  Con prog 129 [true,false,true] false [sO 1 (a0.map (aA .i64)),vI a1,sO 1 (a2.map (aA .i64))] (sO 1 (r.map (aA .i64))):=by
 unfold qn at h;obtain⟨n,x,rfl,rfl,h1,h2,h3⟩:=GF h;exact Pl fun k hk1 hk2=>Mf (aA .i64) (s7 .i64) a0 n x k r (cX h3).symm h1 h2 (by simpa using hk1) hk2
def jg(N:Nat):FnS:={own:=[true,false,true],pure:=false,fn:=fun cs=>match cs with
 | [c0,c1,c2]=>(AU 1 (bO (aC .i64)) c0).bind fun q0=>(aC .i64 c1).bind fun q1=>(AU 1 (bO (aC .i64)) c2).bind fun q2=>(qn N q0 q1 q2).map fun r=>sO 1 (r.map (aA .i64))
 | _=>none}
theorem Ho(N:Nat):(jg N).own=[true,false,true]:=rfl
theorem GU(N:Nat):(jg N).pure=false:=rfl
theorem GR(N:Nat):(jg N).peek=false:=rfl
attribute [go_sem] jg Ho GU GR
def Ix(N:Nat):ar prog 129 (jg N):=by
 refine⟨fun cs r h=>?_,fun h=>oZj⟩;simp only[jg]at h;split at h
 .simp only[cv,cq]at h;obtain⟨q0,h0,q1,h1,q2,h2,r',hr,rfl⟩:=h;exact(NU N q0 q1 q2 r' hr).argsO rfl (kZ (s3 (s7 .i64) (jR .i64) h0) (uS (bE h1) (kZ (s3 (s7 .i64) (jR .i64) h2) qK)))
 .cases h
@[go_sem] def PW(N:Nat):FnS:=⟨[],false,fn3 (aD 4 ai.dec) Ref.decA (aC .i64) fun q0 q1 q2=>(zJ N q0 q1 q2).map fun r=>.tup [sO 4 (r.1.map ai.row),vI r.2.1,vI r.2.2],false⟩
def MV(N:Nat):ar prog 58 (PW N):=om3 fun a0 a1 a2 _ h=>by
 refine fk func58 (gc 14 (mg N) (gc 18 (uV N) (gc 23 (zh N) (gc 29 (C4 N) (gc 38 (lh N) (gc 44 (Hz N) (gc 52 (EH N) (gc 64 (lh N) (gc 74 (lh N) (gc 78 (lh N) (gc 88 (Gg N) (gc 99 (Ix N) gn)))))))))))) ?_;simp only[f58];unfold zJ at h;refine z0 ?_;refine aN ?_;apply aS (fun(c9:Bool)=>⟨tab 103 (af (af (af (af au 0 (sF 4 (a0.map ai.row))) 2 (vI a2)) 4 (pF 4)) 25 (vB c9)),(upd RZ 4 (vA 2 [vS a1.Type_,vS a1.Key]))⟩)
 .intro hJ1;obtain⟨r10,hr2,h⟩:=bI h;have hJ:=hJ1;exact go
 intro c9 h;unfold rv at h;refine cB h (fun hc7 h=>?_) fun hc7 h=>?_
 .exact go
 refine bm (pp ?_);unfold rq at h;obtain⟨r13,hr8,h⟩:=bI h;refine z2 ?_;refine z0 ?_;refine cM h (fun hc9 h=>?_) fun hc9 h=>?_
 .exact go
 obtain⟨x16,hb13,hx14,h⟩:=aQ h;obtain⟨r17,hr15,h⟩:=bI h;refine z2 ?_;refine z2 ?_;refine cD h (fun hc16 hc16d h=>?_) fun hc16 hc16d h=>?_
 .exact go
 refine z2 ?_;refine cD h (fun hc18 hc18d h=>?_) fun hc18 hc18d h=>?_
 .exact go
 refine z2 ?_;refine cB h (fun hc20 h=>?_) fun hc20 h=>?_
 .exact go
 refine z2 ?_;refine cD h (fun hc22 hc22d h=>?_) fun hc22 hc22d h=>?_
 .exact go
 obtain⟨r21,hr23,h⟩:=bI h;refine z2 ?_;obtain⟨x22,hb24,hx25,h⟩:=aQ h;obtain⟨r23,hr26,h⟩:=bI h;refine z1 (k5 hb13 hb24 hx25 (ov1 (row:=ai.rowD) (rx:=[vS x22.Actor.Type_,vS x22.Actor.Key,vI x22.Owner,sO 1 (x22.Waiters.map (aA .i64))]) hx25 rfl) (k3 (ov2 (row:=ai.rowD) hx25) (ov3 (row:=ai.rowD) hx25) hr26)) ?_;exact go
@[go_sem] def Oz(N:Nat):FnS:=⟨[],true,fn1 (aC .u64) fun q0=>(DP N q0).map fun r=>vI r,false⟩
def Lc(N:Nat):ar prog 182 (Oz N):=om1 fun _ _ h=>by
 refine fk (G:=(aL [])) func182 gn ?_;simp only[f182];exact go
@[go_sem] def De(N:Nat):FnS:=⟨[],true,fn1 (aC .u64) fun q0=>(zA N q0).map fun r=>vI r,false⟩
def EO(N:Nat):ar prog 102 (De N):=om1 fun _ _ h=>by
 refine fk func102 (gc 7 (Lc N) gn) ?_;simp only[f102];exact go
@[go_sem] def Am(N d f:Nat):Option FnS:=aL [(29,197,Jr N)] d f
def mK(N:Nat)(a0:List Int)(a1:Int)(a2:Int)(r:List Int)(h:bX N a0 a1 a2=some r):(r).length=a0.length:=by
 unfold bX at h;exact(ll h).2
def Al(N:Nat)(a0:List Int)(a1:Int)(a2:Int)(r:List Int)(h:bX N a0 a1 a2=some r):qe prog 219 1 [sO 1 (a0.map (aA .i64)),vI a1,vI a2] (.tup []) [sO 1 (r.map (aA .i64))]:=by
 unfold bX at h;obtain⟨h,hlen⟩:=ll h;refine DI (G:=(Am N)) (L:=noL) func219 rfl oZh oZc 1 oZc (gc 29 (F7 N) gn) (fun _ _ _ h=>by cases h) [] mix (cU rfl) (cU rfl) rfl (by simp[dC,hlen]) ?_;simp only[f219];refine z0 ?_;refine aK (dw (fun(b:Int)=>⟨tab 49 (af (af (af (af au 0 (.pal 0 [] 0 a0.length none)) 1 (vI a1)) 2 (vI a2)) 6 (vI b)),(upd RZ 0 (sO 1 (a0.map (aA .i64))))⟩) (IntKind.i64.wrap (a1+1)) h ?_ ?_)
 .exact wR
 rintro n v1 h -;cases n with
 | zero=>simp[eT]at h
 | succ n=>
 simp only[eT]at h;refine z0 ?_;refine cDs h (fun hc1 hc1d h=>?_) fun hc1 hc1d h=>?_
 .refine eV (pp ?_);obtain rfl:=cX h;refine HL (.inr rfl) (aM.refl _) (by simp only[go_sem,seval,hc1d];rfl) oZa (by(try simp only[go_sem,seval]);first|exact Le.refl _|exact LeI.h) ?_;exact HN (by simp only[go_sem,seval,hc1d]<;>rfl) (by simp only[go_sem,seval]<;>rfl) (KT)
 refine z1 hc1d ?_;refine aK (dw (fun(b:Unit)=>⟨tab 49 (af (af (af (af (af au 0 (.pal 0 [] 0 a0.length none)) 1 (vI a1)) 2 (vI a2)) 6 (vI v1)) 7 (vI v1)),(upd RZ 0 (sO 1 (a0.map (aA .i64))))⟩) () h ?_ ?_)
 .exact wR
 rintro n ⟨⟩ h -;cases n with
 | zero=>simp[iU]at h
 | succ n=>
 simp only[iU]at h;refine aN ?_;apply aS (fun(c9:Bool)=>⟨tab 49 (af (af (af (af (af (af au 0 (.pal 0 [] 0 a0.length none)) 1 (vI a1)) 2 (vI a2)) 6 (vI v1)) 7 (vI v1)) 30 (vB c9)),(upd RZ 0 (sO 1 (a0.map (aA .i64))))⟩)
 .intro hJ2;refine iDs h (fun hc3 hc3d h=>?_) fun hc3 hc3d h=>?_
  .have hJ:=hJ2;exact go
  have hJ:=hJ2;exact go
 intro c9 h;unfold iS at h;refine cB h (fun hc9 h=>?_) fun hc9 h=>?_
 .refine bm (pp ?_);unfold iW at h;refine aN (aK ?_);obtain⟨x13,hb10,hx11,h⟩:=aQ h;obtain⟨x14,hb12,hx13,h⟩:=aQ h;cases h
 exact go
@[go_sem] def iJ(N:Nat):FnL:=⟨1,fun cs rest=>match cs,rest with
 | [v0],[c1,c2]=>(It 1 (bO (aC .i64)) v0).bind fun q0=>((aC .i64) c1).bind fun q1=>((aC .i64) c2).bind fun q2=>(bX N q0 q1 q2).map fun r=>(.tup [],[sO 1 (r.map (aA .i64))])
 | _,_=>none,false⟩
def yj(N:Nat):B1 prog 219 (iJ N):=by
 refine Ov (xv _) rfl ?_;intro cs rest r ls hlen h;simp only[iJ]at h;split at h
 .simp only[cv,cq]at h;obtain⟨q0,h0,q1,h1,q2,h2,r',hr,he⟩:=h;cases he;exact qe.told rfl rfl (DK (Dv (s7 .i64) (jR .i64) h0) (GJ)) (LeL.cons (bE h1) (LeL.cons (bE h2) (LeL.nil))) (Al N q0 q1 q2 r' hr)
 .cases h
@[go_sem] def DN(N d f:Nat):Option FnL:=FY [(27,219,iJ N)] d f
def qJ(N:Nat)(a0:List Int)(a1:Int)(a2:Int)(a3:Int)(r:List Int)(h:ej N a0 a1 a2 a3=some r):(r).length=a0.length:=by
 unfold ej at h;exact(ll h).2
def DL(N:Nat)(a0:List Int)(a1:Int)(a2:Int)(a3:Int)(r:List Int)(h:ej N a0 a1 a2 a3=some r):qe prog 185 1 [sO 1 (a0.map (aA .i64)),vI a1,vI a2,vI a3] (.tup []) [sO 1 (r.map (aA .i64))]:=by
 unfold ej at h;obtain⟨h,hlen⟩:=ll h;refine DI (G:=(aL [])) (L:=(DN N)) func185 rfl oZh oZc 1 oZc gn (lc 27 (yj N) ln) [] mix (cU rfl) (cU rfl) rfl (by simp[dC,hlen]) ?_;simp only[f185];refine z0 ?_;refine z0 ?_;refine aK (dw (fun(b:Unit)=>⟨tab 134 (af (af (af (af (af (af au 0 (.pal 0 [] 0 a0.length none)) 1 (vI a1)) 2 (vI a2)) 3 (vI a3)) 8 (vB true)) 9 (vB true)),(upd RZ 0 (sO 1 (a0.map (aA .i64))))⟩) () h ?_ ?_)
 .exact wR
 rintro n ⟨⟩ h -;cases n with
 | zero=>simp[kG]at h
 | succ n=>
 simp only[kG]at h;refine z0 ?_;refine z0 ?_;refine cDs h (fun hc1 hc1d h=>?_) fun hc1 hc1d h=>?_
 .refine z1 hc1d ?_;refine cD h (fun hc3 hc3d h=>?_) fun hc3 hc3d h=>?_
  .refine aN ?_;cases h
  refine z1 hc3d ?_;refine cf ?_;refine bm (pp (aN ?_));cases h
 obtain⟨r1,hr2,h⟩:=bI h;refine z1 (k3 hc1d hr2 (mK N a0 a1 a2 r1 hr2)) ?_;refine o9 (pp ?_);obtain rfl:=cX h;refine HL (.inl rfl) (aM.refl _) oZa oZa (by(try simp only[go_sem,seval]);first|exact Le.refl _|exact LeI.h) ?_;exact HN (by simp only[go_sem,seval,mK N a0 a1 a2 r1 hr2]<;>rfl) (by simp only[go_sem,seval]<;>rfl) (KT)
@[go_sem] def kN(N:Nat):FnL:=⟨1,fun cs rest=>match cs,rest with
 | [v0],[c1,c2,c3]=>(It 1 (bO (aC .i64)) v0).bind fun q0=>((aC .i64) c1).bind fun q1=>((aC .i64) c2).bind fun q2=>((aC .i64) c3).bind fun q3=>(ej N q0 q1 q2 q3).map fun r=>(.tup [],[sO 1 (r.map (aA .i64))])
 | _,_=>none,false⟩
def BB(N:Nat):B1 prog 185 (kN N):=by
 refine Ov (xv _) rfl ?_;intro cs rest r ls hlen h;simp only[kN]at h;split at h
 .simp only[cv,cq]at h;obtain⟨q0,h0,q1,h1,q2,h2,q3,h3,r',hr,he⟩:=h;cases he;exact qe.told rfl rfl (DK (Dv (s7 .i64) (jR .i64) h0) (GJ)) (LeL.cons (bE h1) (LeL.cons (bE h2) (LeL.cons (bE h3) (LeL.nil)))) (DL N q0 q1 q2 q3 r' hr)
 .cases h
@[go_sem] def IV(N d f:Nat):Option FnS:=aL [(9,102,De N)] d f
@[go_sem] def IY(N d f:Nat):Option FnL:=FY [(10,185,kN N)] d f
def HC(N:Nat)(a0:List Int)(r:List Int)(h:jh N a0=some r):(r).length=a0.length:=by
 unfold jh at h;exact(ll h).2
def BO(N:Nat)(a0:List Int)(r:List Int)(h:jh N a0=some r):qe prog 109 1 [sO 1 (a0.map (aA .i64))] (.tup []) [sO 1 (r.map (aA .i64))]:=by
 unfold jh at h;obtain⟨h,hlen⟩:=ll h;refine DI (G:=(IV N)) (L:=(IY N)) func109 rfl oZh oZc 1 oZc (gc 9 (EO N) gn) (lc 10 (BB N) ln) [] mix (cU rfl) (cU rfl) rfl (by simp[dC,hlen]) ?_;simp only[f109];refine z0 ?_;obtain⟨r1,hr1,h⟩:=bI h;obtain⟨r2,hr2,h⟩:=bI h;refine z1 (k3 hr1 hr2 (qJ N a0 0 (a0.length:Int) r1 r2 hr2)) ?_;obtain rfl:=cX h;refine HL (.inr rfl) (aM.refl _) oZa oZa (by(try simp only[go_sem,seval]);first|exact Le.refl _|exact LeI.h) ?_;exact HN (by simp only[go_sem,seval,qJ N a0 0 (a0.length:Int) r1 r2 hr2]<;>rfl) (by simp only[go_sem,seval]<;>rfl) (KT)
@[go_sem] def Av(N:Nat):FnL:=⟨1,fun cs rest=>match cs,rest with
 | [v0],[]=>(It 1 (bO (aC .i64)) v0).bind fun q0 =>  (jh N q0).map fun r=>(.tup [],[sO 1 (r.map (aA .i64))])
 | _,_=>none,false⟩
def Va(N:Nat):B1 prog 109 (Av N):=by
 refine Ov (xv _) rfl ?_;intro cs rest r ls hlen h;simp only[Av]at h;split at h
 .simp only[cv,cq]at h;obtain⟨q0,h0,r',hr,he⟩:=h;cases he;exact qe.told rfl rfl (DK (Dv (s7 .i64) (jR .i64) h0) (GJ)) (LeL.nil) (BO N q0 r' hr)
 .cases h
def Nr:Go.Shelf.Ren:=⟨fun|125=>102|128=>181|129=>182|189=>109|215=>228|216=>197|257=>185|294=>219|295=>220|296=>221|297=>222|298=>223|299=>224|300=>225|301=>226|328=>232|329=>215|330=>216|331=>233|332=>234|343=>237|n=>n,fun|0=>0|3=>3|4=>4|5=>5|9=>9|28=>35|46=>136|51=>186|53=>188|131=>115|182=>179|183=>180|218=>207|222=>211|228=>219|229=>220|n=>n,fun n=>n⟩
def NJ:Go.Proofs.Lays.n189 prog Nr where
 mixed:=oZc
 f125:=func102.trans (congrArg some oZc)
 f128:=func181.trans (congrArg some oZc)
 f129:=func182.trans (congrArg some oZc)
 f189:=func109.trans (congrArg some oZc)
 f215:=func228.trans (congrArg some oZc)
 f216:=func197.trans (congrArg some oZc)
 f257:=func185.trans (congrArg some oZc)
 f294:=func219.trans (congrArg some oZc)
 f295:=func220.trans (congrArg some oZc)
 f296:=func221.trans (congrArg some oZc)
 f297:=func222.trans (congrArg some oZc)
 f298:=func223.trans (congrArg some oZc)
 f299:=func224.trans (congrArg some oZc)
 f300:=func225.trans (congrArg some oZc)
 f301:=func226.trans (congrArg some oZc)
 f328:=func232.trans (congrArg some oZc)
 f329:=func215.trans (congrArg some oZc)
 f330:=func216.trans (congrArg some oZc)
 f331:=func233.trans (congrArg some oZc)
 f332:=func234.trans (congrArg some oZc)
 f343:=func237.trans (congrArg some oZc)
 t0:=underlying0
 a0:=Tryz.isAgg0
 z0:=Tryz.sizeOf0
 v0:=Tryz.zeroValue0
 t3:=underlying3
 a3:=Tryz.isAgg3
 z3:=Tryz.sizeOf3
 v3:=Tryz.zeroValue3
 t4:=underlying4
 a4:=Tryz.isAgg4
 z4:=Tryz.sizeOf4
 v4:=Tryz.zeroValue4
 t5:=underlying5
 a5:=Tryz.isAgg5
 z5:=Tryz.sizeOf5
 v5:=Tryz.zeroValue5
 t9:=underlying9
 a9:=Tryz.isAgg9
 z9:=Tryz.sizeOf9
 v9:=Tryz.zeroValue9
 t28:=underlying35
 a28:=Tryz.isAgg35
 z28:=Tryz.sizeOf35
 v28:=Tryz.zeroValue35
 t46:=underlying136
 a46:=Tryz.isAgg136
 z46:=Tryz.sizeOf136
 v46:=Tryz.zeroValue136
 t51:=underlying186
 a51:=Tryz.isAgg186
 z51:=Tryz.sizeOf186
 v51:=Tryz.zeroValue186
 t53:=underlying188
 a53:=Tryz.isAgg188
 z53:=Tryz.sizeOf188
 v53:=Tryz.zeroValue188
 t131:=underlying115
 a131:=Tryz.isAgg115
 z131:=Tryz.sizeOf115
 v131:=Tryz.zeroValue115
 t182:=underlying179
 a182:=Tryz.isAgg179
 z182:=Tryz.sizeOf179
 v182:=Tryz.zeroValue179
 t183:=underlying180
 a183:=Tryz.isAgg180
 z183:=Tryz.sizeOf180
 v183:=Tryz.zeroValue180
 t218:=underlying207
 a218:=Tryz.isAgg207
 z218:=Tryz.sizeOf207
 v218:=Tryz.zeroValue207
 t222:=underlying211
 a222:=Tryz.isAgg211
 z222:=Tryz.sizeOf211
 v222:=Tryz.zeroValue211
 t228:=underlying219
 a228:=Tryz.isAgg219
 z228:=Tryz.sizeOf219
 v228:=Tryz.zeroValue219
 t229:=underlying220
 a229:=Tryz.isAgg220
 z229:=Tryz.sizeOf220
 v229:=Tryz.zeroValue220
def E1(N:Nat)(a0:List Int)(r:List Int)(h:slices_Sort_int N a0=some r):(r).length=a0.length:=by
 unfold slices_Sort_int at h;split at h
 .exact HC N a0 r h
 .exact Us h
def PG(N:Nat)(a0:List Int)(r:List Int)(h:slices_Sort_int N a0=some r):qe prog 109 1 [sO 1 (a0.map (aA .i64))] (.tup []) [sO 1 (r.map (aA .i64))]:=by
 unfold slices_Sort_int at h;split at h
 .exact BO N a0 r h
 .rename_i hne;exact aaK NJ rfl (enters_of func109 oZc rfl) (fun e=>hne (by rw[e];rfl)) h
@[go_sem] def Az(N:Nat):FnL:=⟨1,fun cs rest=>match cs,rest with
 | [v0],[]=>(It 1 (bO (aC .i64)) v0).bind fun q0 =>  (slices_Sort_int N q0).map fun r=>(.tup [],[sO 1 (r.map (aA .i64))])
 | _,_=>none,false⟩
def Lt(N:Nat):B1 prog 109 (Az N):=by
 refine Ov (xv _) rfl ?_;intro cs rest r ls hlen h;simp only[Az]at h;split at h
 .simp only[cv,cq]at h;obtain⟨q0,h0,r',hr,he⟩:=h;cases he;exact qe.told rfl rfl (DK (Dv (s7 .i64) (jR .i64) h0) (GJ)) (LeL.nil) (PG N q0 r' hr)
 .cases h
@[go_sem] def Rg(N d f:Nat):Option FnL:=FY [(50,109,Az N)] d f
@[go_sem] def PY(N:Nat):FnS:=⟨[],true,fn2 ae.decA (aC .i64) fun q0 q1=>(wO N q0 q1).map fun r=>sF 1 (r.map (aA .i64)),false⟩
def MX(N:Nat):ar prog 48 (PY N):=om2 fun a0 a1 _ h=>by
 refine Zo (L:=(Rg N)) func48 rfl oZh oZc (gc 45 (fH N) (gc 32 (fH N) gn)) (lc 50 (Lt N) ln) [] mix (cU rfl) ?_;simp only[f48];unfold wO at h;refine z0 ?_;refine z0 ?_;refine aN (acp (pp (aK (dw (fun(b:List Int)=>⟨tab 52 (af (af au 2 (pF 2)) 5 (.pal 39 [] 0 b.length none)),(upd (upd RZ 2 (vA 3 (ae.row a0))) 39 (sO 1 (b.map (aA .i64))))⟩) [a1] h ?_ ?_))))
 .refine aM.trans (Qf 5 12 39 oZh oZh oZb oZa oZa oZk) ?_;refine wr ?_ ?_<;>repeat' first|rfl|constructor|simp only[go_sem,seval,cY,cL,nj,nk]
 rintro n l1 h -;cases n with
 | zero=>simp[mw]at h
 | succ n=>
 simp only[mw]at h;refine z0 ?_;refine aK (dc fun hreal2=>?_);have hl1:=hreal2.lenT 14 oZh oZa;rw[cr]at hl1;refine fb (fun(v4:Nat) (b:Unit)=>⟨tab 52 (af (af (af (af (af au 2 (pF 2)) 5 (.pal 39 [] 0 l1.length none)) 14 (sF 3 (a0.Stacks.map aa.row))) 15 (vI (a0.Stacks.length:Int))) 16 (vI (v4:Int))),(upd (upd RZ 2 (vA 3 (ae.row a0))) 39 (sO 1 (l1.map (aA .i64))))⟩) () h ?_ ?_
 .refine wr ?_ ?_<;>repeat' first|rfl|constructor|simp only[go_sem,seval,cY,cL,nj,nk]
 rintro v4 ⟨⟩ hi3 h -;rcases(dj a0.Stacks v4 hi3).symm with⟨hi3',_,hd6⟩|⟨x7,hi3',hx4,hd6⟩
 .rw[hd6]at h;simp only[jQ]at h;refine z2 ?_;refine cf ?_;refine eV (pp ?_);unfold B8 at h;obtain⟨r33,hr20,h⟩:=bI h;refine z1 (k2 hr20 (E1 N l1 r33 hr20)) ?_;refine z0 ?_;refine o9 (pp ?_);obtain rfl:=cX h;simp only[go_sem,seval,cT (aiL (E1 N l1 r33 hr20))];exact⟨_,rfl,jV.h,vH.h⟩
 rw[hd6]at h;simp only[jQ]at h;have hw5:=bn hi3' hl1;refine z2 ?_;refine ct ?_;refine z2 ?_;refine z0 ?_;refine z0 ?_;refine lT 21 (fun(v11:Nat) (b:Bool)=>⟨tab 52 (af (af (af (af (af (af (af (af (af au 2 (pF 2)) 5 (.pal 39 [] 0 l1.length none)) 8 (vB b)) 14 (sF 3 (a0.Stacks.map aa.row))) 15 (vI (a0.Stacks.length:Int))) 16 (vI (v4:Int))) 21 (sF 3 (x7.Layers.map aj.row))) 22 (vI (x7.Layers.length:Int))) 23 (vI (v11:Int))),(upd (upd RZ 2 (vA 3 (ae.row a0))) 39 (sO 1 (l1.map (aA .i64))))⟩) false h ?_ ?_ (h0:=w2)
 .rintro v11 c10 hi9' h;simp only[fU]at h;exact go
 rintro v11 c10 x14 hi9' hx10 hw11 h;simp only[fU]at h;refine z2 ?_;refine ct ?_;refine z2 ?_;refine aN ?_;apply IE (fun(c29:Bool) (c30:Bool)=>⟨tab 52 (af (af (af (af (af (af (af (af (af (af (af au 2 (pF 2)) 5 (.pal 39 [] 0 l1.length none)) 8 (vB c29)) 10 (pF 10)) 14 (sF 3 (a0.Stacks.map aa.row))) 15 (vI (a0.Stacks.length:Int))) 16 (vI (v4:Int))) 21 (sF 3 (x7.Layers.map aj.row))) 22 (vI (x7.Layers.length:Int))) 23 (vI (v11:Int))) 34 (vB c30)),(upd (upd (upd RZ 2 (vA 3 (ae.row a0))) 10 (vA 3 (aj.row x14))) 39 (sO 1 (l1.map (aA .i64))))⟩)
 .intro hJ13;refine iB h (fun hc14 h=>?_) fun hc14 h=>?_
  .have hJ:=hJ13;exact go
  have hJ:=hJ13;exact go
 intro c29 c30 h;unfold qi at h;refine cB h (fun hc16 h=>?_) fun hc16 h=>?_
 .obtain⟨ha17,h⟩:=bq h;simp only[cn,cw,cy,Nat.reduceAdd]at ha17;refine z2 ?_;refine eV (pp (⟨_,cZ _,(l1++[x14.Txn_]),?_,h⟩));refine wr ?_ ?_<;>repeat' first|rfl|constructor|simp only[go_sem,seval]
 refine bm (pp ?_);unfold qj at h;exact go
@[go_sem] def Tn(N d f:Nat):Option FnS:=aL [(7,108,uT N)] d f
def Tu(N:Nat)(a0:Txn)(c0_0:List Int)(r:Bool)(h:vV N a0 c0_0=some r):Con prog 111 [] true [.agg (Txn.row a0),.iref 1 [[sF 1 (c0_0.map (aA .i64))]] 0 0] (vB r):=by
 refine fk (G:=(Tn N)) func111 (gc 7 (fH N) gn) ?_;simp only[f111];exact go
@[go_sem] def Ev(N:Nat):FnS:={own:=[],pure:=true,fn:=fun cs=>match cs with
 | [c0,.iref 1 [[c1_0]] 0 0]=>(Txn.decA c0).bind fun qc0=>((aD 1 (bO (aC .i64))) c1_0).bind fun qc1_0=>(vV N qc0 qc1_0).map fun r=>vB r
 | _=>none}
def Gy(N:Nat):ar prog 111 (Ev N):=oz (Tu N)
@[go_sem] def Bp(N d f:Nat):Option FnS:=aL [(16,111,Ev N)] d f
def BG(N:Nat)(a0:List Txn)(k1_0_0:List Int)(r:Int)(h:gr N a0 k1_0_0=some r):Con prog 71 [] true [sF 11 (a0.map Txn.row),.clo 111 [.iref 1 [[sF 1 (k1_0_0.map (aA .i64))]] 0 0]] (vI r):=by
 refine fk (G:=(Bp N)) func71 (gc 16 (Gy N) gn) ?_;simp only[f71];unfold gr at h;have:LT 2 [0,1,7] [] 0 (fun f (v2:Nat) (b:Unit)=>(af f 8 (.val (.int .i64 (v2:Int))))) (fun R _ _=>R):=⟨⟩;exact go
@[go_sem] def pj(N:Nat):FnS:={own:=[],pure:=true,fn:=fun cs=>match cs with
 | [c0,.clo 111 [.iref 1 [[k1_0_0]] 0 0]]=>((aD 11 Txn.dec) c0).bind fun qc0=>((aD 1 (bO (aC .i64))) k1_0_0).bind fun qk1_0_0=>(gr N qc0 qk1_0_0).map fun r=>vI r
 | _=>none}
def zK(N:Nat):ar prog 71 (pj N):=oz (BG N)
@[go_sem] def AR(N d f:Nat):Option FnS:=aL [(10,71,pj N),(28,111,Ev N)] d f
def Aw(N:Nat)(a0:List Txn)(k1_0_0:List Int)(r:List Txn)(h:ed N a0 k1_0_0=some r):Con prog 110 [true,false] false [sO 11 (a0.map Txn.row),.clo 111 [.iref 1 [[sF 1 (k1_0_0.map (aA .i64))]] 0 0]] (sO 11 (r.map Txn.row)):=by
 refine E4 (G:=(AR N)) (L:=noL) func110 rfl oZh oZc (gc 10 (zK N) (gc 28 (Gy N) gn)) (fun _ _ _ h=>by cases h) [] mix (cU rfl) ?_;rw[show gI [true,false] [sO 11 (a0.map Txn.row),.clo 111 [.iref 1 [[sF 1 (k1_0_0.map (aA .i64))]] 0 0]]=(af (af au 0 (.pal 0 [] 0 a0.length none)) 1 (.clo 111 [.iref 1 [[sF 1 (k1_0_0.map (aA .i64))]] 0 0]))from by funext t;match t with|0=>simp[gI,jX,lM,af]|1=>rfl|t+2=>rfl];rw[show R0 [true,false] [sO 11 (a0.map Txn.row),.clo 111 [.iref 1 [[sF 1 (k1_0_0.map (aA .i64))]] 0 0]]=upd RZ 0 (sO 11 (a0.map Txn.row))from by funext t;match t with|0=>rfl|1=>rfl|t+2=>rfl];simp only[f110];unfold ed at h;refine z0 ?_;obtain⟨r1,hr1,h⟩:=bI h;refine z2 ?_;refine z0 ?_;refine oZ rfl (fun hc2=>?_) (fun hc2=>?_)
 .have hc2d:=decide_eq_true hc2;rw[if_pos hc2]at h;refine z2 ?_;refine o9 (pp ?_);cases h;simp (config := { maxSteps := 4000000 }) only[go_sem,seval,dV];exact⟨_,rfl,jV.h,tJ.h⟩
 have hc2d:=decide_eq_false hc2;rw[if_neg hc2]at h;refine z2 ?_;refine aK (dw (fun(b:List Txn×Int×Int)=>⟨tab 42 (af (af (af (af au 0 (.pal 0 [] 0 b.1.length none)) 1 (.clo 111 [.iref 1 [[sF 1 (k1_0_0.map (aA .i64))]] 0 0])) 5 (vI b.2.1)) 6 (vI b.2.2)),(upd RZ 0 (sO 11 (b.1.map Txn.row)))⟩) (a0,r1,IntKind.i64.wrap (r1+1)) h ?_ ?_)
 .exact w2
 rintro n ⟨l4,v5,v6⟩ h -;cases n with
 | zero=>simp[bu]at h
 | succ n=>
 simp only[bu]at h;refine z0 ?_;refine sw (oZ rfl) (fun hc3=>?_) (fun hc3=>?_)
 .have hc3d:=decide_eq_false hc3;rw[if_neg hc3]at h;refine eV (pp ?_);unfold eZ at h;refine aN ?_;obtain⟨hs12,h⟩:=fC h;try simp only[cu]at hs12 h
  refine eB fun Z hZ=>?_;simp (config := { maxSteps := 4000000 }) only[go_sem,seval,hc3d,hs12,cQ,TM (row:=Txn.row) (rz:=[vI 0,vI 0,vS (⟨#[]⟩),vI 0,.val (.slice none 0 0),vI 0,vI 0,vI 0,vS (⟨#[]⟩),.val (.slice none 0 0),.val (.slice none 0 0)]) (k:=(v5).toNat) (l:=l4) (by have:=hs12;omega),iN,Ce,dt,aO.allD Txn.row_ok];refine hZ _ (pp (eU (tu (n:=0) ((yG (Txn.mk 0 0 (⟨#[]⟩) 0 [] 0 (Value.mk 0 0 (⟨#[]⟩) [] [])) (v5).toNat l4).map Txn.row) rfl oZa (by simp only[fg,ek,go_sem,seval];rfl) (hle:=W6 (by repeat' (first|exact Le.refl _|exact LeL.nil|exact Le.nils|refine LeL.cons ?_ ?_)))) ?_));refine aN ?_;obtain⟨hs13,h⟩:=fC h;try simp only[nE]at hs13 h
  refine eB fun Z hZ=>?_;simp (config := { maxSteps := 4000000 }) only[go_sem,seval,hs12,cR,Af,hs13];refine hZ _ (pp (o9 (pp ?_)));cases h;simp (config := { maxSteps := 4000000 }) only[go_sem,seval,dV];exact⟨_,rfl,jV.h,tJ.h⟩
 have hc3d:=decide_eq_true hc3;rw[if_pos hc3]at h;obtain⟨x13,hb4,hx5,h⟩:=aQ h;refine z2 ?_;obtain⟨r14,hr6,h⟩:=bI h;refine z2 ?_;refine sw (p7 rfl) (fun hc7=>?_) (fun hc7=>?_)
 .rw[if_pos hc7]at h;exact go
 rw[if_neg (ne_true_of_eq_false hc7)]at h;obtain⟨x15,hb8,hx9,h⟩:=aQ h;have hx11:=fE (y:=x13) hx9;refine z1 (k4 hc7 hb8 hx9 (mm2 (row:=Txn.row) (y:=x13) (rx:=[vI x15.ID,vI x15.Born,vS x15.Client,vI x15.Seq,sF 4 (x15.Calls.map ah.row),vI x15.Done,vI x15.Last.Kind,vI x15.Last.N,vS x15.Last.S,sF 1 (x15.Last.I.map (aA .i64)),sF 1 (x15.Last.L.map dA)]) (ry:=[vI x13.ID,vI x13.Born,vS x13.Client,vI x13.Seq,sF 4 (x13.Calls.map ah.row),vI x13.Done,vI x13.Last.Kind,vI x13.Last.N,vS x13.Last.S,sF 1 (x13.Last.I.map (aA .i64)),sF 1 (x13.Last.L.map dA)]) hx9 rfl rfl)) ?_;refine z0 ?_;refine z0 ?_;refine⟨_,cZ _,((l4.set ((v5).toNat) x13),IntKind.i64.wrap (v5+1),IntKind.i64.wrap (v6+1)),?_,h⟩;refine wr ?_ ?_<;>repeat' first|rfl|constructor|simp only[go_sem,seval,cL]
def bp(N:Nat):FnS:={own:=[true,false],pure:=false,fn:=fun cs=>match cs with
 | [c0,.clo 111 [.iref 1 [[k1_0_0]] 0 0]]=>((AU 11 Txn.dec) c0).bind fun q0=>((aD 1 (bO (aC .i64))) k1_0_0).bind fun q1=>(ed N q0 q1).map fun r=>sO 11 (r.map Txn.row)
 | _=>none}
theorem wZ(N:Nat):(bp N).own=[true,false]:=rfl
theorem vg(N:Nat):(bp N).pure=false:=rfl
theorem vw(N:Nat):(bp N).peek=false:=rfl
attribute [go_sem] bp wZ vg vw
def yp(N:Nat):ar prog 110 (bp N):=by
 refine⟨fun cs r h=>?_,fun h=>oZj⟩;simp only[bp]at h;split at h
 .simp only[cv,cq]at h;obtain⟨q0,h0,q1,h1,r',hr,rfl⟩:=h;exact(Aw N q0 q1 r' hr).argsO rfl (kZ (s3 Txn.row_ok Txn.dec_le h0) (uS (Le.clo (LeL.cons (Le.iref1 (LeL.cons (fX (jR .i64) h1) (LeL.nil))) (LeL.nil))) (qK)))
 .cases h
@[go_sem] def Ty(N d f:Nat):Option FnS:=aL [(7,108,uT N)] d f
def Uh(N:Nat)(a0:aj)(c0_0:List Int)(r:Bool)(h:wg N a0 c0_0=some r):Con prog 113 [] true [.agg (aj.row a0),.iref 1 [[sF 1 (c0_0.map (aA .i64))]] 0 0] (vB r):=by
 refine fk (G:=(Ty N)) func113 (gc 7 (fH N) gn) ?_;simp only[f113];exact go
@[go_sem] def Er(N:Nat):FnS:={own:=[],pure:=true,fn:=fun cs=>match cs with
 | [c0,.iref 1 [[c1_0]] 0 0]=>(aj.decA c0).bind fun qc0=>((aD 1 (bO (aC .i64))) c1_0).bind fun qc1_0=>(wg N qc0 qc1_0).map fun r=>vB r
 | _=>none}
def Gf(N:Nat):ar prog 113 (Er N):=oz (Uh N)
@[go_sem] def Ak(N d f:Nat):Option FnS:=aL [(16,113,Er N)] d f
def Ah(N:Nat)(a0:List aj)(k1_0_0:List Int)(r:Int)(h:fG N a0 k1_0_0=some r):Con prog 186 [] true [sF 3 (a0.map aj.row),.clo 113 [.iref 1 [[sF 1 (k1_0_0.map (aA .i64))]] 0 0]] (vI r):=by
 refine fk (G:=(Ak N)) func186 (gc 16 (Gf N) gn) ?_;simp only[f186];unfold fG at h;have:LT 2 [0,1,7] [] 0 (fun f (v2:Nat) (b:Unit)=>(af f 8 (.val (.int .i64 (v2:Int))))) (fun R _ _=>R):=⟨⟩;exact go
@[go_sem] def mR(N:Nat):FnS:={own:=[],pure:=true,fn:=fun cs=>match cs with
 | [c0,.clo 113 [.iref 1 [[k1_0_0]] 0 0]]=>((aD 3 aj.dec) c0).bind fun qc0=>((aD 1 (bO (aC .i64))) k1_0_0).bind fun qk1_0_0=>(fG N qc0 qk1_0_0).map fun r=>vI r
 | _=>none}
def yn(N:Nat):ar prog 186 (mR N):=oz (Ah N)
@[go_sem] def zU(N d f:Nat):Option FnS:=aL [(10,186,mR N),(28,113,Er N)] d f
def zV(N:Nat)(a0:List aj)(k1_0_0:List Int)(r:List aj)(h:dJ N a0 k1_0_0=some r):Con prog 112 [true,false] false [sO 3 (a0.map aj.row),.clo 113 [.iref 1 [[sF 1 (k1_0_0.map (aA .i64))]] 0 0]] (sO 3 (r.map aj.row)):=by
 refine E4 (G:=(zU N)) (L:=noL) func112 rfl oZh oZc (gc 10 (yn N) (gc 28 (Gf N) gn)) (fun _ _ _ h=>by cases h) [] mix (cU rfl) ?_;rw[show gI [true,false] [sO 3 (a0.map aj.row),.clo 113 [.iref 1 [[sF 1 (k1_0_0.map (aA .i64))]] 0 0]]=(af (af au 0 (.pal 0 [] 0 a0.length none)) 1 (.clo 113 [.iref 1 [[sF 1 (k1_0_0.map (aA .i64))]] 0 0]))from by funext t;match t with|0=>simp[gI,jX,lM,af]|1=>rfl|t+2=>rfl];rw[show R0 [true,false] [sO 3 (a0.map aj.row),.clo 113 [.iref 1 [[sF 1 (k1_0_0.map (aA .i64))]] 0 0]]=upd RZ 0 (sO 3 (a0.map aj.row))from by funext t;match t with|0=>rfl|1=>rfl|t+2=>rfl];simp only[f112];unfold dJ at h;refine z0 ?_;obtain⟨r1,hr1,h⟩:=bI h;refine z2 ?_;refine z0 ?_;refine oZ rfl (fun hc2=>?_) (fun hc2=>?_)
 .have hc2d:=decide_eq_true hc2;rw[if_pos hc2]at h;refine z2 ?_;refine o9 (pp ?_);cases h;simp (config := { maxSteps := 4000000 }) only[go_sem,seval,dV];exact⟨_,rfl,jV.h,tJ.h⟩
 have hc2d:=decide_eq_false hc2;rw[if_neg hc2]at h;refine z2 ?_;refine aK (dw (fun(b:List aj×Int×Int)=>⟨tab 42 (af (af (af (af au 0 (.pal 0 [] 0 b.1.length none)) 1 (.clo 113 [.iref 1 [[sF 1 (k1_0_0.map (aA .i64))]] 0 0])) 5 (vI b.2.1)) 6 (vI b.2.2)),(upd RZ 0 (sO 3 (b.1.map aj.row)))⟩) (a0,r1,IntKind.i64.wrap (r1+1)) h ?_ ?_)
 .exact w2
 rintro n ⟨l4,v5,v6⟩ h -;cases n with
 | zero=>simp[bj]at h
 | succ n=>
 simp only[bj]at h;refine z0 ?_;refine sw (oZ rfl) (fun hc3=>?_) (fun hc3=>?_)
 .have hc3d:=decide_eq_false hc3;rw[if_neg hc3]at h;refine eV (pp ?_);unfold eJ at h;refine aN ?_;obtain⟨hs12,h⟩:=fC h;try simp only[cu]at hs12 h
  refine eB fun Z hZ=>?_;simp (config := { maxSteps := 4000000 }) only[go_sem,seval,hc3d,hs12,cQ,TM (row:=aj.row) (rz:=[vI 0,.val (.slice none 0 0),vB false]) (k:=(v5).toNat) (l:=l4) (by have:=hs12;omega),iN,Ce,dt,aO.allD aj.row_ok];refine hZ _ (pp (eU (tu (n:=0) ((yG (aj.mk 0 [] false) (v5).toNat l4).map aj.row) rfl oZa (by simp only[fg,ek,go_sem,seval];rfl) (hle:=W6 (by repeat' (first|exact Le.refl _|exact LeL.nil|exact Le.nils|refine LeL.cons ?_ ?_)))) ?_));refine aN ?_;obtain⟨hs13,h⟩:=fC h;try simp only[nE]at hs13 h
  refine eB fun Z hZ=>?_;simp (config := { maxSteps := 4000000 }) only[go_sem,seval,hs12,cR,Af,hs13];refine hZ _ (pp (o9 (pp ?_)));cases h;simp (config := { maxSteps := 4000000 }) only[go_sem,seval,dV];exact⟨_,rfl,jV.h,tJ.h⟩
 have hc3d:=decide_eq_true hc3;rw[if_pos hc3]at h;obtain⟨x13,hb4,hx5,h⟩:=aQ h;refine z2 ?_;obtain⟨r14,hr6,h⟩:=bI h;refine z2 ?_;refine sw (p7 rfl) (fun hc7=>?_) (fun hc7=>?_)
 .rw[if_pos hc7]at h;exact go
 rw[if_neg (ne_true_of_eq_false hc7)]at h;obtain⟨x15,hb8,hx9,h⟩:=aQ h;have hx11:=fE (y:=x13) hx9;refine z1 (k4 hc7 hb8 hx9 (mm2 (row:=aj.row) (y:=x13) (rx:=[vI x15.Txn_,sF 5 (x15.Fields.map Value.row),vB x15.Prepared]) (ry:=[vI x13.Txn_,sF 5 (x13.Fields.map Value.row),vB x13.Prepared]) hx9 rfl rfl)) ?_;refine z0 ?_;refine z0 ?_;refine⟨_,cZ _,((l4.set ((v5).toNat) x13),IntKind.i64.wrap (v5+1),IntKind.i64.wrap (v6+1)),?_,h⟩;refine wr ?_ ?_<;>repeat' first|rfl|constructor|simp only[go_sem,seval,cL]
def bh(N:Nat):FnS:={own:=[true,false],pure:=false,fn:=fun cs=>match cs with
 | [c0,.clo 113 [.iref 1 [[k1_0_0]] 0 0]]=>((AU 3 aj.dec) c0).bind fun q0=>((aD 1 (bO (aC .i64))) k1_0_0).bind fun q1=>(dJ N q0 q1).map fun r=>sO 3 (r.map aj.row)
 | _=>none}
theorem vb(N:Nat):(bh N).own=[true,false]:=rfl
theorem tD(N:Nat):(bh N).pure=false:=rfl
theorem tV(N:Nat):(bh N).peek=false:=rfl
attribute [go_sem] bh vb tD tV
def vv(N:Nat):ar prog 112 (bh N):=by
 refine⟨fun cs r h=>?_,fun h=>oZj⟩;simp only[bh]at h;split at h
 .simp only[cv,cq]at h;obtain⟨q0,h0,q1,h1,r',hr,rfl⟩:=h;exact(zV N q0 q1 r' hr).argsO rfl (kZ (s3 aj.row_ok aj.dec_le h0) (uS (Le.clo (LeL.cons (Le.iref1 (LeL.cons (fX (jR .i64) h1) (LeL.nil))) (LeL.nil))) (qK)))
 .cases h
@[go_sem] def Eu(N:Nat):FnS:=⟨[],true,fn1 aa.decA fun q0=>(AG N q0).map fun r=>vB r,false⟩
def Gw(N:Nat):ar prog 115 (Eu N):=om1 fun _ _ h=>by
 refine fk (G:=(aL [])) func115 gn ?_;simp only[f115];exact go
@[go_sem] def wb(N d f:Nat):Option FnS:=aL [(16,115,Eu N)] d f
def wC(N:Nat)(a0:List aa)(r:Int)(h:ey N a0=some r):Con prog 105 [] true [sF 3 (a0.map aa.row),.clo 115 []] (vI r):=by
 refine fk (G:=(wb N)) func105 (gc 16 (Gw N) gn) ?_;simp only[f105];unfold ey at h;have:LT 2 [0,1,7] [] 0 (fun f (v2:Nat) (b:Unit)=>(af f 8 (.val (.int .i64 (v2:Int))))) (fun R _ _=>R):=⟨⟩;exact go
@[go_sem] def kB(N:Nat):FnS:={own:=[],pure:=true,fn:=fun cs=>match cs with
 | [c0,.clo 115 []]=>((aD 3 aa.dec) c0).bind fun qc0=>(ey N qc0).map fun r=>vI r
 | _=>none}
def sP(N:Nat):ar prog 105 (kB N):=oz (wC N)
@[go_sem] def vp(N d f:Nat):Option FnS:=aL [(10,105,kB N),(28,115,Eu N)] d f
def vy(N:Nat)(a0:List aa)(r:List aa)(h:bU N a0=some r):Con prog 114 [true,false] false [sO 3 (a0.map aa.row),.clo 115 []] (sO 3 (r.map aa.row)):=by
 refine E4 (G:=(vp N)) (L:=noL) func114 rfl oZh oZc (gc 10 (sP N) (gc 28 (Gw N) gn)) (fun _ _ _ h=>by cases h) [] mix (cU rfl) ?_;rw[show gI [true,false] [sO 3 (a0.map aa.row),.clo 115 []]=(af (af au 0 (.pal 0 [] 0 a0.length none)) 1 (.clo 115 []))from by funext t;match t with|0=>simp[gI,jX,lM,af]|1=>rfl|t+2=>rfl];rw[show R0 [true,false] [sO 3 (a0.map aa.row),.clo 115 []]=upd RZ 0 (sO 3 (a0.map aa.row))from by funext t;match t with|0=>rfl|1=>rfl|t+2=>rfl];simp only[f114];unfold bU at h;refine z0 ?_;obtain⟨r1,hr1,h⟩:=bI h;refine z2 ?_;refine z0 ?_;refine oZ rfl (fun hc2=>?_) (fun hc2=>?_)
 .have hc2d:=decide_eq_true hc2;rw[if_pos hc2]at h;refine z2 ?_;refine o9 (pp ?_);cases h;simp (config := { maxSteps := 4000000 }) only[go_sem,seval,dV];exact⟨_,rfl,jV.h,tJ.h⟩
 have hc2d:=decide_eq_false hc2;rw[if_neg hc2]at h;refine z2 ?_;refine aK (dw (fun(b:List aa×Int×Int)=>⟨tab 42 (af (af (af (af au 0 (.pal 0 [] 0 b.1.length none)) 1 (.clo 115 [])) 5 (vI b.2.1)) 6 (vI b.2.2)),(upd RZ 0 (sO 3 (b.1.map aa.row)))⟩) (a0,r1,IntKind.i64.wrap (r1+1)) h ?_ ?_)
 .exact w2
 rintro n ⟨l4,v5,v6⟩ h -;cases n with
 | zero=>simp[ba]at h
 | succ n=>
 simp only[ba]at h;refine z0 ?_;refine sw (oZ rfl) (fun hc3=>?_) (fun hc3=>?_)
 .have hc3d:=decide_eq_false hc3;rw[if_neg hc3]at h;refine eV (pp ?_);unfold dH at h;refine aN ?_;obtain⟨hs12,h⟩:=fC h;try simp only[cu]at hs12 h
  refine eB fun Z hZ=>?_;simp (config := { maxSteps := 4000000 }) only[go_sem,seval,hc3d,hs12,cQ,TM (row:=aa.row) (rz:=[vS (⟨#[]⟩),vS (⟨#[]⟩),.val (.slice none 0 0)]) (k:=(v5).toNat) (l:=l4) (by have:=hs12;omega),iN,Ce,dt,aO.allD aa.row_ok];refine hZ _ (pp (eU (tu (n:=0) ((yG (aa.mk (Ref.mk (⟨#[]⟩) (⟨#[]⟩)) []) (v5).toNat l4).map aa.row) rfl oZa (by simp only[fg,ek,go_sem,seval];rfl) (hle:=W6 (by repeat' (first|exact Le.refl _|exact LeL.nil|exact Le.nils|refine LeL.cons ?_ ?_)))) ?_));refine aN ?_;obtain⟨hs13,h⟩:=fC h;try simp only[nE]at hs13 h
  refine eB fun Z hZ=>?_;simp (config := { maxSteps := 4000000 }) only[go_sem,seval,hs12,cR,Af,hs13];refine hZ _ (pp (o9 (pp ?_)));cases h;simp (config := { maxSteps := 4000000 }) only[go_sem,seval,dV];exact⟨_,rfl,jV.h,tJ.h⟩
 have hc3d:=decide_eq_true hc3;rw[if_pos hc3]at h;obtain⟨x13,hb4,hx5,h⟩:=aQ h;refine z2 ?_;obtain⟨r14,hr6,h⟩:=bI h;refine z2 ?_;refine sw (p7 rfl) (fun hc7=>?_) (fun hc7=>?_)
 .rw[if_pos hc7]at h;exact go
 rw[if_neg (ne_true_of_eq_false hc7)]at h;obtain⟨x15,hb8,hx9,h⟩:=aQ h;have hx11:=fE (y:=x13) hx9;refine z1 (k4 hc7 hb8 hx9 (mm2 (row:=aa.row) (y:=x13) (rx:=[vS x15.Actor.Type_,vS x15.Actor.Key,sF 3 (x15.Layers.map aj.row)]) (ry:=[vS x13.Actor.Type_,vS x13.Actor.Key,sF 3 (x13.Layers.map aj.row)]) hx9 rfl rfl)) ?_;refine z0 ?_;refine z0 ?_;refine⟨_,cZ _,((l4.set ((v5).toNat) x13),IntKind.i64.wrap (v5+1),IntKind.i64.wrap (v6+1)),?_,h⟩;refine wr ?_ ?_<;>repeat' first|rfl|constructor|simp only[go_sem,seval,cL]
def aZ(N:Nat):FnS:={own:=[true,false],pure:=false,fn:=fun cs=>match cs with
 | [c0,.clo 115 []]=>((AU 3 aa.dec) c0).bind fun q0=>(bU N q0).map fun r=>sO 3 (r.map aa.row)
 | _=>none}
theorem qQ(N:Nat):(aZ N).own=[true,false]:=rfl
theorem qD(N:Nat):(aZ N).pure=false:=rfl
theorem qu(N:Nat):(aZ N).peek=false:=rfl
attribute [go_sem] aZ qQ qD qu
def rr(N:Nat):ar prog 114 (aZ N):=by
 refine⟨fun cs r h=>?_,fun h=>oZj⟩;simp only[aZ]at h;split at h
 .simp only[cv,cq]at h;obtain⟨q0,h0,r',hr,rfl⟩:=h;exact(vy N q0 r' hr).argsO rfl (kZ (s3 aa.row_ok aa.dec_le h0) (uS (Le.clo (LeL.nil)) (qK)))
 .cases h
@[go_sem] def We(N d f:Nat):Option FnS:=aL [(8,59,Nd N),(12,110,bp N),(30,112,bh N),(36,114,aZ N)] d f
def Yb(N:Nat)(a0:ae)(a1:List Int)(r:ae)(h:yE N a0 a1=some r):Con prog 49 [] false [.agg (ae.row a0),sF 1 (a1.map (aA .i64))] (.agg [sO 11 (r.Txns.map Txn.row),sO 4 (r.Locks.map ai.row),sF 3 (r.Stacks.map aa.row)]):=by
 refine fk (G:=(We N)) func49 (gc 8 (rC N) (gc 12 (yp N) (gc 30 (vv N) (gc 36 (rr N) gn)))) ?_;simp only[f49];unfold yE at h;refine z0 ?_;obtain⟨r1,hr1,h⟩:=bI h;refine z2 ?_;refine aN (eU (acO (n:=3) oZa rfl (by simp only[fg,ek,Uv,RL,go_sem,seval];rfl)) ?_);obtain⟨r2,hr2,h⟩:=bI h;refine z2 ?_;refine z0 ?_;refine aK (dc fun hreal4=>?_);have hl3:=hreal4.cell 5 2 oZa rfl;rw[cr]at hl3;refine rI (fun(v5:Nat) (b:List aa)=>⟨tab 39 (af (af (af (af (af au 3 (.iref 1 [[sF 1 (a1.map (aA .i64))]] 0 0)) 4 (pF 4)) 5 (pF 5)) 16 (vI (r1.Stacks.length:Int))) 17 (vI (v5:Int))),(upd (upd RZ 4 (vA 3 [.val (.slice none 0 0),.val (.slice none 0 0),.val (.slice none 0 0)])) 5 (vA 3 [sO 11 (r2.map Txn.row),sO 4 (r1.Locks.map ai.row),sO 3 (b.map aa.rowD)]))⟩) r1.Stacks h ?_ ?_
 .exact w2
 rintro v5 l4 _ h -;rcases(kf r1.Stacks.length v5).symm with⟨hi5',hd8⟩|⟨hi5',hd8⟩
 .rw[hd8]at h;simp only[qf]at h;refine z2 ?_;refine cf ?_;refine eV (pp ?_);unfold CG at h;refine aN (eU (Qn aa.rowD aa.row 5 [(0,2)] l4 oZa (by simp only[fg,ek,go_sem,seval];rfl) oZa) ?_);exact go
 rw[hd8]at h;simp only[qf]at h;have hw7:=bn hi5' hl3;refine z2 ?_;refine ct ?_;refine z0 ?_;obtain⟨x11,hb9,hx10,h⟩:=aQ h;try simp only[cu]at hx10
 try simp only[nU,xd,true_and]at hb9
 refine qy [0,1,2,3,4,5,6,7,8,9] [10] [] [11,12,13] [5] oZc fun Z hZ Y hY=>?_;simp (config := { maxSteps := 4000000 }) only[go_sem,seval,hb9,hx10];refine hY _ oZc (du (by simp only[go_sem,seval,BT,nM,Option.isNone,nK];try rfl) fun Y hY=>?_);obtain⟨r12,hr11,h⟩:=bI h;simp (config := { maxSteps := 4000000 }) only[go_sem,seval,hx10,Ui (row:=aa.rowD) (rx:=[vS x11.Actor.Type_,vS x11.Actor.Key,sO 3 (x11.Layers.map aj.row)]) hx10 rfl rfl,hr11];refine hY _ oZc (Tx ?_);simp (config := { maxSteps := 4000000 }) only[go_sem,seval,hb9,rL (row:=aa.rowD) _ hx10,uM (row:=aa.rowD) hx10 rfl];refine hZ _ (z2 ?_);refine⟨hi5',(l4.set v5 (aa.mk x11.Actor r12)),?_,h⟩;refine aM.trans (tE (n:=5) (c':=vA 3 [sO 11 (r2.map Txn.row),sO 4 (r1.Locks.map ai.row),sO 3 ((l4.set v5 (aa.mk x11.Actor r12)).map aa.rowD)]) oZa (by first|(simp only[iv (row:=aa.rowD) (l:=l4) (i:=v5) (y:=(aa.mk x11.Actor r12)) (rc:=[vS x11.Actor.Type_,vS x11.Actor.Key,sO 3 (r12.map aj.row)]) rfl];done)|(simp only[iv (row:=aa.rowD) (l:=l4) (i:=v5) (y:=(aa.mk x11.Actor r12)) (rc:=[vS x11.Actor.Type_,vS x11.Actor.Key,sO 3 (r12.map aj.row)]) rfl,cW,hC,nA]<;>rfl)|(rw[<-iv (row:=aa.rowD) (l:=l4) (i:=v5) (y:=(aa.mk x11.Actor r12)) (rc:=[vS x11.Actor.Type_,vS x11.Actor.Key,sO 3 (r12.map aj.row)]) rfl];simp only[cW,hC,nA]<;>rfl))) ?_
 exact wF (k5 hr1 hr2 hi5' hw7 (k5 hb9 hx10 (ov1 (row:=aa.rowD) (rx:=[vS x11.Actor.Type_,vS x11.Actor.Key,sO 3 (x11.Layers.map aj.row)]) hx10 rfl) (ov2 (row:=aa.rowD) hx10) (k2 (ov3 (row:=aa.rowD) hx10) hr11)))
@[go_sem] def Vf(N:Nat):FnS:=⟨[],false,fn2 ae.decA (aD 1 (bO (aC .i64))) fun q0 q1=>(yE N q0 q1).map fun r=>.agg (ae.row r),false⟩
def IF(N:Nat):ar prog 49 (Vf N):=ok2 (fun q0 q1 r h=>by
 obtain⟨r',hr,rfl⟩:=cq.1 h;exact(Yb N q0 q1 r' hr).res (by(try simp only[go_sem]);exact jV.h)) (ae.decA_le) (fun h=>fX (jR .i64) h)
def OK(N:Nat)(a0:Int)(c0_0:Int)(r:Bool)(h:sa N a0 c0_0=some r):Con prog 119 [] true [vI a0,.iref 1 [[vI c0_0]] 0 0] (vB r):=by
 refine fk (G:=(aL [])) func119 gn ?_;simp only[f119];exact go
@[go_sem] def z6(N:Nat):FnS:={own:=[],pure:=true,fn:=fun cs=>match cs with
 | [c0,.iref 1 [[c1_0]] 0 0]=>((aC .i64) c0).bind fun qc0=>((aC .i64) c1_0).bind fun qc1_0=>(sa N qc0 qc1_0).map fun r=>vB r
 | _=>none}
def Cy(N:Nat):ar prog 119 (z6 N):=oz (OK N)
@[go_sem] def zj(N d f:Nat):Option FnS:=aL [(16,119,z6 N)] d f
def zD(N:Nat)(a0:List Int)(k1_0_0:Int)(r:Int)(h:dB N a0 k1_0_0=some r):Con prog 189 [] true [sF 1 (a0.map (aA .i64)),.clo 119 [.iref 1 [[vI k1_0_0]] 0 0]] (vI r):=by
 refine fk (G:=(zj N)) func189 (gc 16 (Cy N) gn) ?_;simp only[f189];unfold dB at h;have:LT 2 [0,1,7] [] 0 (fun f (v2:Nat) (b:Unit)=>(af f 8 (.val (.int .i64 (v2:Int))))) (fun R _ _=>R):=⟨⟩;exact go
@[go_sem] def lV(N:Nat):FnS:={own:=[],pure:=true,fn:=fun cs=>match cs with
 | [c0,.clo 119 [.iref 1 [[k1_0_0]] 0 0]]=>((aD 1 (bO (aC .i64))) c0).bind fun qc0=>((aC .i64) k1_0_0).bind fun qk1_0_0=>(dB N qc0 qk1_0_0).map fun r=>vI r
 | _=>none}
def vC(N:Nat):ar prog 189 (lV N):=oz (zD N)
@[go_sem] def yY(N d f:Nat):Option FnS:=aL [(10,189,lV N),(28,119,z6 N)] d f
def zc(N:Nat)(a0:List Int)(k1_0_0:Int)(r:List Int)(h:bH N a0 k1_0_0=some r):Con prog 118 [true,false] true [sO 1 (a0.map (aA .i64)),.clo 119 [.iref 1 [[vI k1_0_0]] 0 0]] (sO 1 (r.map (aA .i64))):=by
 refine E4 (G:=(yY N)) (L:=noL) func118 rfl oZh oZc (gc 10 (vC N) (gc 28 (Cy N) gn)) (fun _ _ _ h=>by cases h) [] mix (cU rfl) ?_;rw[show gI [true,false] [sO 1 (a0.map (aA .i64)),.clo 119 [.iref 1 [[vI k1_0_0]] 0 0]]=(af (af au 0 (.pal 0 [] 0 a0.length none)) 1 (.clo 119 [.iref 1 [[vI k1_0_0]] 0 0]))from by funext t;match t with|0=>simp[gI,jX,lM,af]|1=>rfl|t+2=>rfl];rw[show R0 [true,false] [sO 1 (a0.map (aA .i64)),.clo 119 [.iref 1 [[vI k1_0_0]] 0 0]]=upd RZ 0 (sO 1 (a0.map (aA .i64)))from by funext t;match t with|0=>rfl|1=>rfl|t+2=>rfl];simp only[f118];unfold bH at h;refine z0 ?_;obtain⟨r1,hr1,h⟩:=bI h;refine z2 ?_;refine z0 ?_;refine cD h (fun hc2 hc2d h=>?_) fun hc2 hc2d h=>?_
 .refine z2 ?_;refine o9 (pp ?_);cases h;simp only[go_sem,seval,dV];exact⟨_,rfl,jV.h,tJ.h,vH.h⟩
 refine z2 ?_;refine aK (dw (fun(b:List Int×Int×Int)=>⟨tab 42 (af (af (af (af au 0 (.pal 0 [] 0 b.1.length none)) 1 (.clo 119 [.iref 1 [[vI k1_0_0]] 0 0])) 5 (vI b.2.1)) 6 (vI b.2.2)),(upd RZ 0 (sO 1 (b.1.map (aA .i64))))⟩) (a0,r1,IntKind.i64.wrap (r1+1)) h ?_ ?_)
 .exact w2
 rintro n ⟨l4,v5,v6⟩ h -;cases n with
 | zero=>simp[bg]at h
 | succ n=>
 simp only[bg]at h;refine z0 ?_;refine cDs h (fun hc3 hc3d h=>?_) fun hc3 hc3d h=>?_
 .refine eV (pp ?_);unfold dZ at h;refine aN ?_;obtain⟨hs12,h⟩:=fC h;try simp only[cu]at hs12 h
  refine eB fun Z hZ=>?_;simp only[go_sem,seval,hc3d,hs12,cQ,VX (row:=(aA .i64)) (z:=0) (rz:=[vI 0]) (k:=(v5).toNat) (l:=l4) (by have:=hs12;omega) rfl,iN,Ce,dt,aO.allD (s7 .i64)];refine hZ _ (pp (aN ?_));obtain⟨hs13,h⟩:=fC h;try simp only[nE]at hs13 h
  refine eB fun Z hZ=>?_;simp only[go_sem,seval,hs12,cR,Af,hs13];refine hZ _ (pp (o9 (pp ?_)));cases h;simp only[go_sem,seval,dV];exact⟨_,rfl,jV.h,tJ.h,vH.h⟩
 obtain⟨x13,hb4,hx5,h⟩:=aQ h;refine z2 ?_;obtain⟨r14,hr6,h⟩:=bI h;refine z2 ?_;refine cMs h (fun hc7 h=>?_) fun hc7 h=>?_
 .exact go
 obtain⟨x15,hb8,hx9,h⟩:=aQ h;have hx11:=fE (y:=x13) hx9;refine z1 (k4 hc7 hb8 hx9 (mm2 (row:=(aA .i64)) (y:=x13) (rx:=[vI x15]) (ry:=[vI x13]) hx9 rfl rfl)) ?_;refine z0 ?_;refine z0 ?_;refine⟨_,cZ _,((l4.set ((v5).toNat) x13),IntKind.i64.wrap (v5+1),IntKind.i64.wrap (v6+1)),?_,h⟩;refine wr ?_ ?_<;>repeat' first|rfl|constructor|simp only[go_sem,seval,cL]
def bx(N:Nat):FnS:={own:=[true,false],pure:=true,fn:=fun cs=>match cs with
 | [c0,.clo 119 [.iref 1 [[k1_0_0]] 0 0]]=>((AU 1 (bO (aC .i64))) c0).bind fun q0=>((aC .i64) k1_0_0).bind fun q1=>(bH N q0 q1).map fun r=>sO 1 (r.map (aA .i64))
 | _=>none}
theorem sL(N:Nat):(bx N).own=[true,false]:=rfl
theorem sD(N:Nat):(bx N).pure=true:=rfl
theorem sv(N:Nat):(bx N).peek=false:=rfl
attribute [go_sem] bx sL sD sv
def tw(N:Nat):ar prog 118 (bx N):=by
 refine⟨fun cs r h=>?_,fun h=>oZj⟩;simp only[bx]at h;split at h
 .simp only[cv,cq]at h;obtain⟨q0,h0,q1,h1,r',hr,rfl⟩:=h;exact(zc N q0 q1 r' hr).argsO rfl (kZ (s3 (s7 .i64) (jR .i64) h0) (uS (Le.clo (LeL.cons (Le.iref1 (LeL.cons (bE h1) (LeL.nil))) (LeL.nil))) (qK)))
 .cases h
@[go_sem] def P5(N:Nat):FnS:=⟨[],false,fn2 (aD 4 ai.dec) (aC .i64) fun q0 q1=>(wM N q0 q1).map fun r=>sF 4 (r.map ai.row),false⟩
def LV(N:Nat):ar prog 50 (P5 N):=om2 fun _ a1 _ h=>by
 refine fk func50 (gc 8 (mg N) (gc 11 (Gg N) (gc 25 (tw N) gn))) ?_;simp only[f50];unfold wM at h;refine z0 ?_;obtain⟨r1,hr1,h⟩:=bI h;refine z2 ?_;refine cM h (fun hc2 h=>?_) fun hc2 h=>?_
 .exact go
 obtain⟨r2,hr3,h⟩:=bI h;refine z2 ?_;refine z0 ?_;refine aK (dc fun hreal5=>?_);have hl4:=hreal5.lenX 11 oZa;rw[cr]at hl4;refine rI (fun(v6:Nat) (b:List ai)=>⟨tab 30 (af (af (af (af au 3 (pF 3)) 5 (.pal 11 [] 0 b.length none)) 13 (vI (r2.length:Int))) 14 (vI (v6:Int))),(upd (upd RZ 3 (vA 1 [vI a1])) 11 (sO 4 (b.map ai.rowD)))⟩) r2 h ?_ ?_
 .exact w2
 rintro v6 l5 _ h -;rcases(kf r2.length v6).symm with⟨hi6',hd9⟩|⟨hi6',hd9⟩
 .rw[hd9]at h;exact go
 rw[hd9]at h;simp only[mq]at h;have hw8:=bn hi6' hl4;refine z2 ?_;refine ct ?_;refine z0 ?_;obtain⟨x3,hb10,hx11,h⟩:=aQ h;try simp only[cu]at hx11
 try simp only[nU,xd,true_and]at hb10
 obtain⟨r4,hr12,h⟩:=bI h;refine z1 (k5 hb10 hx11 (ov1 (row:=ai.rowD) (rx:=[vS x3.Actor.Type_,vS x3.Actor.Key,vI x3.Owner,sO 1 (x3.Waiters.map (aA .i64))]) hx11 rfl) (ov2 (row:=ai.rowD) hx11) (k2 (ov3 (row:=ai.rowD) hx11) hr12)) ?_;refine z2 ?_;refine⟨hi6',(l5.set v6 (ai.mk x3.Actor x3.Owner r4)),?_,h⟩;refine aM.trans (Z6 (n:=11) (ai.mk x3.Actor x3.Owner r4) oZa rfl rfl) ?_;refine wr ?_ ?_<;>repeat' first|rfl|constructor|simp only[go_sem,seval,cY,cL]
def qC:Env:={T:=eG prog,G:=fun d f=>none}
theorem JZ:qC.T=eG prog:=rfl
theorem Cb(d:Nat):qC.F d=none:=rfl
def IZ:GOk prog {T:=eG prog,G:=qC.G}:=by
 refine⟨?_,fun _ _ _ h=>oZj⟩;intro d f fs hfs;cases hfs
def KS:Jy prog 190 f190 f190.body.get! :=⟨func190,rfl,oZh,oZc⟩
set_option maxHeartbeats 4000000 in
section
attribute [local go_sem] JZ Nat.le_refl iN Option.map_some List.isEmpty_nil
def KX{α:Type}(row:α->List C)(ok:aO row)(l:List α)(i j:Nat)(r:List α)(hr:r=l.take i++l.drop j)(hij:i<=j)(hj:j<=l.length):
  Con prog 190 [true,false,false] false [sO 4 (l.map row),vI i,vI j] (sO 4 (r.map row)):=by
 refine PC (E:=qC) (DA prog _) IZ mix KS (cU rfl) ?_;intro _;rw[AY oZk];rw[show gI [true,false,false] [C.sl true none 4 none (l.map row),C.val (.int .i64 i),C.val (.int .i64 j)]=(af (af (af au 0 (.pal 0 [] 0 l.length none)) 1 (vI i)) 2 (vI j))from by funext t;match t with|0=>simp[gI,jX,lM,af]|1=>rfl|2=>rfl|t+3=>rfl];rw[show R0 [true,false,false] [C.sl true none 4 none (l.map row),C.val (.int .i64 i),C.val (.int .i64 j)]=upd RZ 0 (C.sl true none 4 none (l.map row))from by funext t;match t with|0=>rfl|1=>rfl|2=>rfl|t+3=>rfl];apply Pq;simp only[f190,Option.get!];have hi1:(i:Int)<=(j:Int):=oZg;have hj1:(j:Int)<=(l.length:Int):=oZg;have hj0:i<=l.length:=oZg;simp only[go_sem,seval,hij,hj];refine yV rfl (fun hc=>?_) (fun hc=>?_)
 .have e:i=j:=oZg;subst e;simp only[go_sem,seval,dV];refine vW ok ?_;rw[hr];simp[]
 .have hc1:decide ((i:Int)=(j:Int))=false:=decide_eq_false hc;have hlt:i<j:=oZg;have hlt2:i<l.length:=oZg;have hm3:(l.drop j).take (l.length-j)=l.drop j:=cT oZk;have hd:(l.drop j).length=l.length-j:=oZk;have hle:i+(l.length-j)<=l.length:=oZg;have hnle:¬l.length<=i+(l.length-j):=oZg;obtain⟨A,hA⟩:∃A,aR (List.map row l) i (List.map row (List.drop j l))=A:=⟨_,rfl⟩;have hAp:bM A:=by rw[<-hA];exact gj (gi ok _) (gi ok _)
  have hAl:A.length=l.length:=by rw[<-hA];simp[aR];omega
  obtain⟨B,hB⟩:∃B,aR A (i+(l.length-j)) (List.replicate (l.length -(i+(l.length-j))) [C.val (Value.string ⟨#[]⟩),C.val (Value.string ⟨#[]⟩),C.val (Value.int .i64 0),C.val (Value.slice none 0 0)])=B:=⟨_,rfl⟩;have hBp:bM B:=by rw[<-hB];exact gj hAp (EA _ [Value.string ⟨#[]⟩,Value.string ⟨#[]⟩,Value.int .i64 0,Value.slice none 0 0] (by simp[Value.oneCell']))
  have hBe:B.take (i+(l.length-j))=r.map row:=by
   have:=adw (L:=l.map row) (List.replicate (l.length -(i+(l.length-j))) [C.val (Value.string ⟨#[]⟩),C.val (Value.string ⟨#[]⟩),C.val (Value.int .i64 0),C.val (Value.slice none 0 0)]) hij (by simpa using hj);rw[cr,<-nL,hA,hB]at this;rw[this,hr];simp
  simp only[go_sem,seval,Cb,hj,hj0,aO.frzRows ok,aO.allPlain ok,aO.allD ok,dt,XU,yM,Hw,Dt,Ce,Qt,cQ,cR,Af,hc1,hlt2,hm3,hd,hle,hnle,hA,hAl,hAp.1,hAp.2];repeat' ((with_reducible refine mj ?_ ?_);kernel_rfl)
  simp only[go_sem,seval,hB,dV];repeat' ((with_reducible refine mj ?_ ?_);kernel_rfl)
  try simp only[go_sem,seval,Cb,hi1,hj1,hij,hj,hj0,aO.frzRows ok,aO.all ok,aO.allPlain ok,aO.allD ok,dt,XU,yM,Hw,Dt,Ce,Qt,Y0,cQ,cR,Af,decide_not,xk,dV,YN,hBp.1,hBp.2]
  refine vW ok ?_;rw[<-hBe]
end
def ME(N:Nat)(a0:List ai)(a1:Int)(a2:Int)(r:List ai)(h:pd N a0 a1 a2=some r):
  Con prog 190 [true,false,false] false [sO 4 (a0.map ai.row),vI a1,vI a2] (sO 4 (r.map ai.row)):=by
 unfold pd at h;obtain⟨n,m,rfl,rfl,h1,h2,h3⟩:=abA h;exact KX ai.row ai.row_ok a0 n m r (cX h3).symm h1 h2
def fx(N:Nat):FnS:={own:=[true,false,false],pure:=false,fn:=fun cs=>match cs with
 | [c0,c1,c2]=>(AU 4 ai.dec c0).bind fun q0=>(aC .i64 c1).bind fun q1=>(aC .i64 c2).bind fun q2=>(pd N q0 q1 q2).map fun r=>sO 4 (r.map ai.row)
 | _=>none}
theorem GS(N:Nat):(fx N).own=[true,false,false]:=rfl
theorem Gq(N:Nat):(fx N).pure=false:=rfl
theorem GB(N:Nat):(fx N).peek=false:=rfl
attribute [go_sem] fx GS Gq GB
def HE(N:Nat):ar prog 190 (fx N):=by
 refine⟨fun cs r h=>?_,fun h=>oZj⟩;simp only[fx]at h;split at h
 .simp only[cv,cq]at h;obtain⟨q0,h0,q1,h1,q2,h2,r',hr,rfl⟩:=h;exact(ME N q0 q1 q2 r' hr).argsO rfl (kZ (s3 ai.row_ok ai.dec_le h0) (uS (bE h1) (uS (bE h2) qK)))
 .cases h
@[go_sem] def Yi(N d f:Nat):Option FnS:=aL [(20,190,fx N)] d f
def Xu(N:Nat)(a0:List ai)(a1:Int)(r:(List ai)× Int)(h:yC N a0 a1=some r):Con prog 120 [true,false] false [sO 4 (a0.map ai.row),vI a1] (.tup [sO 4 (r.1.map ai.row),vI r.2]):=by
 refine E4 (G:=(Yi N)) (L:=noL) func120 rfl oZh oZc (gc 20 (HE N) gn) (fun _ _ _ h=>by cases h) [] mix (cU rfl) ?_;rw[show gI [true,false] [sO 4 (a0.map ai.row),vI a1]=(af (af au 0 (.pal 0 [] 0 a0.length none)) 1 (vI a1))from by funext t;match t with|0=>simp[gI,jX,lM,af]|1=>rfl|t+2=>rfl];rw[show R0 [true,false] [sO 4 (a0.map ai.row),vI a1]=upd RZ 0 (sO 4 (a0.map ai.row))from by funext t;match t with|0=>rfl|1=>rfl|t+2=>rfl];simp only[f120];unfold yC at h;refine z0 ?_;obtain⟨x1,hb1,hx2,h⟩:=aQ h;refine z1 (k2 hb1 hx2) ?_;refine z0 ?_;refine cD h (fun hc3 hc3d h=>?_) fun hc3 hc3d h=>?_
 .obtain⟨r2,hr4,h⟩:=bI h;refine z1 (k2 hc3d hr4) ?_;refine o9 (pp ?_);cases h;simp only[go_sem,seval,dV];exact⟨_,rfl,jV.h,tJ.h⟩
 obtain⟨x3,hb5,hx6,h⟩:=aQ h;refine z1 (k5 hb1 hx2 hc3d hb5 hx6) ?_;obtain⟨hs7,ht8,h⟩:=Ii h;try simp only[cu]at hs7 ht8 h
 have hx10:=fE (y:=(ai.mk x1.Actor x3 x1.Waiters)) hx2;refine d1 (k5 hb1 hx2 hb5 hs7 (k5 @cR @cQ @ck (mm2 (row:=ai.row) (y:=(ai.mk x1.Actor x3 x1.Waiters)) (rx:=[vS x1.Actor.Type_,vS x1.Actor.Key,vI x1.Owner,sF 1 (x1.Waiters.map (aA .i64))]) (ry:=[vS x1.Actor.Type_,vS x1.Actor.Key,vI x3,sF 1 (x1.Waiters.map (aA .i64))]) hx2 rfl rfl) (k2 hx10 (ov1 (row:=ai.row) (rx:=[vS x1.Actor.Type_,vS x1.Actor.Key,vI x3,sF 1 (x1.Waiters.map (aA .i64))]) hx10 rfl)))) ?_;refine z0 ?_;refine o9 (pp ?_);cases h;simp only[go_sem,seval,dV];exact⟨_,rfl,jV.h,tJ.h⟩
def qP(N:Nat):FnS:={own:=[true,false],pure:=false,fn:=fun cs=>match cs with
 | [c0,c1]=>((AU 4 ai.dec) c0).bind fun q0=>((aC .i64) c1).bind fun q1=>(yC N q0 q1).map fun r=>.tup [sO 4 (r.1.map ai.row),vI r.2]
 | _=>none}
theorem OT(N:Nat):(qP N).own=[true,false]:=rfl
theorem NM(N:Nat):(qP N).pure=false:=rfl
theorem NK(N:Nat):(qP N).peek=false:=rfl
attribute [go_sem] qP OT NM NK
def He(N:Nat):ar prog 120 (qP N):=by
 refine⟨fun cs r h=>?_,fun h=>oZj⟩;simp only[qP]at h;split at h
 .simp only[cv,cq]at h;obtain⟨q0,h0,q1,h1,r',hr,rfl⟩:=h;exact(Xu N q0 q1 r' hr).argsO rfl (kZ (s3 ai.row_ok ai.dec_le h0) (uS (bE h1) (qK)))
 .cases h
@[go_sem] def Ny(N:Nat):FnS:=⟨[],false,fn2 (aD 4 ai.dec) (aC .i64) fun q0 q1=>(rE N q0 q1).map fun r=>.tup [sF 4 (r.1.map ai.row),sF 3 (r.2.map ay.row)],false⟩
def J8(N:Nat):ar prog 51 (Ny N):=om2 fun _ a1 _ h=>by
 refine fk func51 (gc 12 (mg N) (gc 15 (lh N) (gc 37 (He N) gn))) ?_;simp only[f51];unfold rE at h;refine z0 ?_;obtain⟨r1,hr1,h⟩:=bI h;refine z2 ?_;refine cM h (fun hc2 h=>?_) fun hc2 h=>?_
 .exact go
 obtain⟨r2,hr3,h⟩:=bI h;refine z2 ?_;refine z0 ?_;refine z0 ?_;refine aK (dw (fun(b:List ai×List ay×Int)=>⟨tab 52 (af (af (af (af au 1 (vI a1)) 6 (.pal 15 [] 0 b.1.length none)) 7 (.pal 47 [] 0 b.2.1.length none)) 8 (vI b.2.2)),(upd (upd RZ 15 (sO 4 (b.1.map ai.row))) 47 (sO 3 (b.2.1.map ay.row)))⟩) (r2,[],0) h ?_ ?_)
 .refine aM.trans (fm 7 47 3 oZb oZb) ?_;exact w2
 rintro n ⟨l5,l6,v7⟩ h -;cases n with
 | zero=>simp[eS]at h
 | succ n=>
 simp only[eS]at h;refine z0 ?_;refine cDs h (fun hc4 hc4d h=>?_) fun hc4 hc4d h=>?_
 .exact go
 obtain⟨x3,hb5,hx6,h⟩:=aQ h;refine z2 ?_;refine cN h (fun hc7 hc7d h=>?_) fun hc7 hc7d h=>?_
 .refine z2 ?_;refine eV (pp (⟨_,cZ _,(l5,l6,IntKind.i64.wrap (v7+1)),?_,h⟩));exact w2
 refine z2 ?_;obtain⟨r4,hr8,h⟩:=bI h;refine z2 ?_;refine z0 ?_;refine cNs h (fun hc9 hc9d h=>?_) fun hc9 hc9d h=>?_
 .refine bm (pp (⟨_,cZ _,(r4.1,l6,v7),?_,h⟩));refine aM.trans (Ur 6 37 [(0,0)] 15 oZh oZh oZb oZa (by simp only[go_sem,seval,hc9d];rfl) oZk (by simp only[fg,ek,go_sem,seval];rfl) oZa) ?_;exact w2
 obtain⟨ha10,h⟩:=bq h;simp only[cn,cw,cy,Nat.reduceAdd]at ha10;refine z2 ?_;refine z0 ?_;refine⟨_,cZ _,(r4.1,(l6++[(ay.mk x3.Actor r4.2)]),IntKind.i64.wrap (v7+1)),?_,h⟩;refine aM.trans (Ur 6 37 [(0,0)] 15 oZh oZh oZb oZa oZa oZk (by simp only[fg,ek,go_sem,seval];rfl) oZa) ?_;refine wr ?_ ?_<;>repeat' first|rfl|constructor|simp only[go_sem,seval]
@[go_sem] def IM(N:Nat):FnS:=⟨[],false,fn2 ae.decA (aC .i64) fun q0 q1=>(lu N q0 q1).map fun r=>.tup [.agg (ae.row r.1),sF 1 (r.2.1.map (aA .i64)),vI r.2.2],false⟩
def z8(N:Nat):ar prog 20 (IM N):=om2 fun _ _ _ h=>by
 refine fk func20 (gc 13 (gv N) (gc 19 (fh N) (gc 24 (MX N) (gc 27 (IF N) (gc 37 (LV N) (gc 50 (J8 N) gn)))))) ?_;simp only[f20];unfold lu at h;refine z0 ?_;obtain⟨r1,hr1,h⟩:=bI h;refine z1 hr1 ?_;refine cM h (fun hc2 h=>?_) fun hc2 h=>?_
 .exact go
 obtain⟨r2,hr3,h⟩:=bI h;refine z1 (k2 hc2 hr3) ?_;refine cD h (fun hc4 hc4d h=>?_) fun hc4 hc4d h=>?_
 .exact go
 obtain⟨r3,hr5,h⟩:=bI h;refine z1 (k2 hc4d hr5) ?_;obtain⟨r4,hr6,h⟩:=bI h;have:LT 8 [4,5,28,29] [] 5 (fun f (v8:Nat) (b:List ai)=>(af f 30 (.val (.int .i64 (v8:Int))))) (fun R (v8:Nat) (b:List ai)=>(upd R 4 (.sl true none 3 (some 1) [[.sl false none 11 none (r4.Txns.map Txn.row),.sl false none 4 none (b.map ai.row),.sl false none 3 none (r4.Stacks.map aa.row)]]))):=⟨⟩;have:LT 13 [4,5,40,41] [] 5 (fun f (v18:Nat) (b:List ai)=>(af f 42 (.val (.int .i64 (v18:Int))))) (fun R (v18:Nat) (b:List ai)=>(upd R 4 (.sl true none 3 (some 1) [[.sl false none 11 none (r4.Txns.map Txn.row),.sl false none 4 none (b.map ai.row),.sl false none 3 none (r4.Stacks.map aa.row)]]))):=⟨⟩;exact go
@[go_sem] def FO(N:Nat):FnS:=⟨[],false,fn2 ae.decA (aC .i64) fun q0 q1=>(iI N q0 q1).map fun r=>.tup [.agg (ae.row r.1),vI r.2.1,sF 1 (r.2.2.1.map (aA .i64)),vI r.2.2.2],false⟩
def BA(N:Nat):ar prog 25 (FO N):=om2 fun _ _ _ h=>by
 refine fk func25 (gc 12 (gv N) (gc 18 (Ft N) (gc 30 (MV N) (gc 43 (z8 N) (gc 52 (rC N) gn))))) ?_;simp only[f25];exact go
@[go_sem] def va(N:Nat):FnS:=⟨[],true,fn1 (aC .i64) fun q0=>(lZ N q0).map fun r=>.agg (Value.row r),false⟩
def lA(N:Nat):ar prog 34 (va N):=om1 fun _ _ h=>by
 refine fk (G:=(aL [])) func34 gn ?_;simp only[f34];exact go
@[go_sem] def G3(N:Nat):FnS:=⟨[],true,fn2 aa.decA Ref.decA fun q0 q1=>(BK N q0 q1).map fun r=>vI r,false⟩
def Ik(N:Nat):ar prog 65 (G3 N):=om2 fun _ _ _ h=>by
 refine fk func65 (gc 8 (B4 N) gn) ?_;simp only[f65];exact go
@[go_sem] def yK(N d f:Nat):Option FnS:=aL [(30,65,G3 N),(46,65,G3 N)] d f
def yP(N:Nat)(a0:List aa)(a1:Ref)(r:Int×Bool)(h:be N a0 a1=some r):Con prog 64 [] true [sF 3 (a0.map aa.row),.agg [vS a1.Type_,vS a1.Key],.clo 65 []] (.tup [vI r.1,vB r.2]):=by
 refine fk (G:=(yK N)) func64 (gc 30 (Ik N) (gc 46 (Ik N) gn)) ?_;simp only[f64];unfold be at h;refine z0 ?_;refine z0 ?_;refine z0 ?_;refine aN (aK (dw (fun(b:Int×Int)=>⟨tab 49 (af (af (af (af (af (af au 0 (sF 3 (a0.map aa.row))) 2 (.clo 65 [])) 4 (pF 4)) 8 (vI (a0.length:Int))) 9 (vI b.1)) 10 (vI b.2)),(upd RZ 4 (vA 2 [vS a1.Type_,vS a1.Key]))⟩) (0,(a0.length:Int)) h ?_ ?_))
 .exact wR
 rintro n ⟨v2,v3⟩ h -;cases n with
 | zero=>simp[bf]at h
 | succ n=>
 simp only[bf]at h;refine z0 ?_;refine cDs h (fun hc1 hc1d h=>?_) fun hc1 hc1d h=>?_
 .refine eV (pp ?_);unfold bC at h;exact go
 exact go
@[go_sem] def yo(N:Nat):FnS:={own:=[],pure:=true,fn:=fun cs=>match cs with
 | [c0,c1,.clo 65 []]=>((aD 3 aa.dec) c0).bind fun qc0=>(Ref.decA c1).bind fun qc1=>(be N qc0 qc1).map fun r=>.tup [vI r.1,vB r.2]
 | _=>none}
def uY(N:Nat):ar prog 64 (yo N):=oz (yP N)
def bP:FnS:={own:=[true,true],pure:=false,fn:=fun _=>none,peek:=true}
theorem yQ:bP.own=[true,true]:=rfl
theorem yq:bP.peek=true:=rfl
def CC:Ow prog 137:=
 S9 (fn:=f137) (tS:=26) (tR:=4) (e:=67) (size:=3) func137 rfl rfl oZc oZc oZc oZc
def zp:ar prog 137 bP:=⟨(fun cs r h=>by simp[bP]at h),fun _=>CC⟩
def dU:Env:={T:=eG prog,G:=fun d f=>if d=67/\f=137 then some bP else none}
theorem wX:dU.T=eG prog:=rfl
theorem Fu(d:Nat):dU.F d=none:=rfl
theorem Fx(d f:Nat):dU.L d f=none:=rfl
theorem Fs:dU.G 67 137=some bP:=rfl
def EL:GOk prog {T:=eG prog,G:=dU.G}:=by
 refine⟨?_,fun _ _ _ h=>oZj⟩;intro d f fs hfs;simp only[dU]at hfs;split at hfs
 .rename_i hc;obtain⟨rfl,rfl⟩:=hc;obtain rfl:=cX hfs;exact zp
 cases hfs
def Gj:Jy prog 66 f66 f66.body.get! :=⟨func66,rfl,oZh,oZc⟩
set_option maxHeartbeats 4000000 in
section
attribute [local go_sem] wX Nat.le_refl iN Option.map_some List.isEmpty_nil Hw Nat.sub_zero dt Af
def yz{α:Type}(row:α->List C)(ok:aO row)(l:List α)(i:Nat)(x:α)(k:Nat)(r:List α)(hr:r=l.take i++[x]++l.drop i)(hi:i<=l.length)(hsz:(l.length+1)* 56<=140737488355328)(hk1:l.length<=k)(hk2:k<=maxLen):
  Con prog 66 [true,false,true] false [.sl true none 3 (some k) (l.map row),vI i,sO 3 ([x].map row)] (sO 3 (r.map row)):=by
 refine PC (E:=dU) (DA prog _) EL mix Gj (cU rfl) ?_;intro _;rw[AY oZk];rw[show gI [true,false,true] [C.sl true none 3 (some k) (l.map row),C.val (.int .i64 i),C.sl true none 3 none ([x].map row)]=(af (af (af au 0 (.pal 0 [] 0 l.length none)) 1 (vI i)) 2 (.pal 2 [] 0 1 none))from by funext t;match t with|0=>simp[gI,jX,lM,af]|1=>rfl|2=>rfl|t+3=>rfl];rw[show R0 [true,false,true] [C.sl true none 3 (some k) (l.map row),C.val (.int .i64 i),C.sl true none 3 none ([x].map row)]=upd (upd RZ 0 (C.sl true none 3 (some k) (l.map row))) 2 (C.sl true none 3 none ([x].map row))from by funext t;match t with|0=>rfl|1=>rfl|2=>rfl|t+3=>rfl];apply Pq;simp only[f66,Option.get!];have hi1:(i:Int)<=(l.length:Int):=oZg;have hi2:i<=l.length:=hi;have h10:(((1:Nat):Int)=0)=False:=oZk;have hp:(row x).all Abs.plainCell=true:=ok.plain x;have hf:(row x).map C.frz=(row x):=ok.frz x;have hpD:(row x).all uk=true:=by have:=(aO.allD ok [x]);simpa using this
 have hw1:IntKind.i64.wrap ((l.length:Int)+((1:Nat):Int))=((l.length+1:Nat):Int):=by rw[pG oZg oZg];rfl
 have hlt0:(l.take i).length=i:=oZd;have hes:(3 != 0)=true:=rfl;have hm1:min 1 (l.length+1-i)=1:=oZg;have hm2:min (l.length-i) (l.length+1 -(i+1))=l.length-i:=oZg;have hm3:(l.drop i).take (l.length-i)=l.drop i:=cT oZk;have hm4:i+1<=l.length+1:=oZg;have hw2:IntKind.i64.wrap (((l.length+1:Nat):Int) -(i:Int))=((l.length+1-i:Nat):Int):=by rw[pG oZg oZg];omega
 have hw1b:IntKind.i64.wrap ((l.length:Int)+1)=((l.length+1:Nat):Int):=hw1;have hw3:IntKind.i64.wrap ((i:Int)+((1:Nat):Int))=((i+1:Nat):Int):=by rw[pG oZg oZg];rfl
 have hw3b:IntKind.i64.wrap ((i:Int)+1)=((i+1:Nat):Int):=hw3;simp only[go_sem,seval,hi2];refine Q0 rfl ?_;simp only[go_sem,seval,wX,xX];refine yV rfl (fun hc=>?_) (fun hc=>?_)
 .have e:i=l.length:=oZg;subst e;simp only[go_sem,seval,Fu,hp,hf,aO.allD ok,xN,dV,hsz];refine vW ok ?_;rw[hr];simp[cT]
 .have hc1:decide ((i:Int)=(l.length:Int))=false:=decide_eq_false hc;have hlt:i<l.length:=oZg;simp only[go_sem,seval,XY,yM,hw1b,hc1];refine yV rfl (fun hk=>?_) (fun hk=>?_)
  .have hk1:decide (k<l.length+1)=true:=decide_eq_true hk;have hk2:k<i+(l.length+1-i):=oZg;have e1:i+(l.length+1-i)=l.length+1:=oZg;have hi3:(i:Int)<=((l.length+1:Nat):Int):=oZg;have hi4:i<=l.length+1:=oZg;obtain⟨A,hA⟩:∃A,List.map row (List.take i l)++List.replicate (l.length+1-i) [C.val (Value.string ⟨#[]⟩),C.val (Value.string ⟨#[]⟩),C.val (Value.slice none 0 0)]=A:=⟨_,rfl⟩;have hAp:bM A:=by rw[<-hA];exact lx (gi ok _) (EA _ [Value.string ⟨#[]⟩,Value.string ⟨#[]⟩,Value.slice none 0 0] (by simp[Value.oneCell']))
   have hAl:A.length=l.length+1:=by rw[<-hA,nc,cr,hlt0,xk];omega
   obtain⟨B,hB⟩:∃B,aR A i [(row x)]=B:=⟨_,rfl⟩;have hBp:bM B:=by rw[<-hB];exact gj hAp ⟨by simp[frzRows,hf],by simp[hpD]⟩
   have hBl:B.length=l.length+1:=by rw[<-hB];simp[aR,hAl];omega
   obtain⟨D,hD⟩:∃D,aR B (i+1) (List.map row (List.drop i l))=D:=⟨_,rfl⟩;have hDp:bM D:=by rw[<-hD];exact gj hBp (gi ok _)
   have hDl:D.length=l.length+1:=by rw[<-hD];simp[aR,hBl];omega
   have hDe:D=(l.take i++[x]++l.drop i).map row:=by
    rw[<-hD,<-hB,<-hA,xa,nL,TH (A:=l.map row) (n:=l.length) oZk hi2 oZk];simp
   simp only[go_sem,seval,hi2,hp,hf,aO.frzRows ok,aO.allPlain ok,HK,yM,NZ,Hy,ja,I8,Ext.all,hw2,hw1b,hw3b,ajf,cQ,xk,hlt0,hm1,hm3,hm4,hk,e1,hi4,hA,hAl,hAp.1,hAp.2,hB,hBp.1,hBp.2,hD,hsz];repeat' ((with_reducible refine mj ?_ ?_);kernel_rfl)
   simp only[go_sem,seval,dV];refine vW ok ?_;rw[hr,<-hDe,<-hDl,xE]
  .have hk1:decide (k<l.length+1)=false:=decide_eq_false hk;have hk2:¬k<i+(l.length+1-i):=oZg;have hk3:l.length+1<=k:=oZg;have e2:l.length+1-l.length=1:=oZg;have e3:l.length<=l.length+1:=oZg;have hi3:(i:Int)<=((l.length+1:Nat):Int):=oZg;have hi4:i<=l.length+1:=oZg;have hne:¬l.length+1 -(i+1)=0:=oZg;have hne2:¬l.length-i=0:=oZg;obtain⟨A,hA⟩:∃A,List.map row l++[[C.dead,C.dead,C.dead]]=A:=⟨_,rfl⟩;have hAp:bM A:=by rw[<-hA];exact lx (gi ok _) (HU 1 3)
   have hAl:A.length=l.length+1:=by rw[<-hA];simp
   have hm5:min (l.length+1-i) (l.length+1 -(i+1))=l.length-i:=oZg;have hm5b:min (l.length+1-i) (l.length-i)=l.length-i:=oZg;obtain⟨A2,hA2⟩:∃A2,(A.drop i).take (l.length-i)=A2:=⟨_,rfl⟩;have hA2e:A2=List.map row (l.drop i):=by
    rw[<-hA2,<-hA,xV,cr,show i-l.length=0 by omega,nu,xt,cT oZk,show l.length-i -(List.drop i (List.map row l)).length=0 by simp];simp[nL]
   have hA2p:(A2.all fun r=>r.all Abs.plainCell)=true:=by rw[hA2e];exact ok.allPlain _
   have hA2f:frzRows A2=A2:=by rw[hA2e];exact ok.frzRows _
   have hA2d:bM A2:=by rw[hA2e];exact gi ok _
   obtain⟨B,hB⟩:∃B,aR A (i+1) A2=B:=⟨_,rfl⟩;have hBp:bM B:=by rw[<-hB];exact gj hAp hA2d
   have hBl:B.length=l.length+1:=by rw[<-hB];simp[aR,hAl,hA2e];omega
   obtain⟨D,hD⟩:∃D,aR B i [(row x)]=D:=⟨_,rfl⟩;have hDp:bM D:=by rw[<-hD];exact gj hBp ⟨by simp[frzRows,hf],by simp[hpD]⟩
   have hDl:D.length=l.length+1:=by rw[<-hD];simp[aR,hBl];omega
   have hDe:D=(l.take i++[x]++l.drop i).map row:=by
    rw[<-hD,<-hB,<-hA2,<-hA,Q1 (A:=l.map row) (n:=l.length) oZk hi2];simp[xa,nL]
   simp only[go_sem,seval,Fx,Fs,aO.frzRows ok,aO.allD ok,C8,PE,tp,hw1b,hw3b,cQ,hm4,yQ,yq,xN,hk,hk3,e2,e3,hne2,hA,hes];refine QY rfl ?_;simp only[go_sem,seval,hp,hf,HK,NZ,Hy,hw3b,hm1,hm4,hi4,hAp.1,hAp.2,hA2,hA2p,hA2f,hB,hBp.1,hBp.2,hD,hm5b];repeat' ((with_reducible refine mj ?_ ?_);kernel_rfl)
   simp only[go_sem,seval,dV];refine vW ok ?_;rw[hr,<-hDe,<-hDl,xE]
end
def Vv(N:Nat)(a0:List aa)(a1:Int)(a2:List aa)(r:List aa)(h:bJ N a0 a1 a2=some r):
  Con prog 66 [true,false,true] false [sO 3 (a0.map aa.row),vI a1,sO 3 (a2.map aa.row)] (sO 3 (r.map aa.row)):=by
 unfold bJ at h;obtain⟨n,x,rfl,rfl,h1,h2,h3⟩:=GF h;exact Pl fun k hk1 hk2=>yz aa.row aa.row_ok a0 n x k r (cX h3).symm h1 h2 (by simpa using hk1) hk2
def Da{N:Nat}{a0:List aa}{a1:Int}{x:aa}{r:List aa}(h:bJ N a0 a1 [x]=some r):r[a1.toNat]?=some x:=by
 unfold bJ at h;obtain⟨n,y,rfl,hy,h1,h2,h3⟩:=GF h;obtain rfl:x=y:=by simpa using hy
 obtain rfl:=cX h3;rw[cu,hU,ni (by simp only[nC];omega)];simp only[nC,Nat.min_eq_left h1,xD,nF,cG]
def Ga(N:Nat)(a0:List aa)(a1:Int)(a2:List aa)(r:List aa)(h:bJ N a0 a1 a2=some r):
  Con prog 66 [true,false,true] false [sO 3 (a0.map aa.rowD),vI a1,sO 3 (a2.map aa.rowN)] (sO 3 ((r.map aa.rowD).set a1.toNat ((a2.map aa.rowN).headD []))):=by
 unfold bJ at h;obtain⟨n,x,rfl,rfl,h1,h2,h3⟩:=GF h;obtain rfl:=cX h3;have e2:((a0.take n++[x]++a0.drop n).map aa.rowD).set n (aa.rowN x)=(a0.map aa.rowD).take n++[aa.rowN x]++(a0.map aa.rowD).drop n:=by
  simp only[cW,hC,nA,hU];rw[<-xa,<-nL,ajE _ _ (by simp only[cr,nC];omega)];simp only[cr,nC,Nat.min_eq_left h1,xD,nF,cO,ajF]
 have:=ach (P:=prog) (f:=66) (es:=3) (by1:=56) (fun α row ok l i x k r a b c d e=>yz row ok l i x k r a b c d e) (A:=a0.map aa.rowD) (rx:=aa.rowN x) (i:=n) (by simpa using h1) (by simpa using h2) (fun row hr c hc=>by obtain⟨y,_,rfl⟩:=cH.1 hr;simp only[aa.rowD,cF,nG,or_false]at hc;rcases hc with rfl|rfl|rfl<;>rfl) (fun c hc=>by simp only[aa.rowN,cF,nG,or_false]at hc;rcases hc with rfl|rfl|rfl<;>rfl)
 rw[<-e2]at this;exact this
def eH(N:Nat):FnS:={own:=[true,false,true],pure:=false,fn:=fun cs=>match cs with
 | [c0,c1,c2]=>(exL 3 aa.decE c0).bind fun q0=>(aC .i64 c1).bind fun q1=>(AU 3 aa.decN c2).bind fun q2=>(bJ N q0 q1 q2).map fun r=>sO 3 ((r.map aa.rowD).set q1.toNat ((q2.map aa.rowN).headD []))
 | _=>none}
theorem C3(N:Nat):(eH N).own=[true,false,true]:=rfl
theorem Cf(N:Nat):(eH N).pure=false:=rfl
theorem Cx(N:Nat):(eH N).peek=false:=rfl
attribute [go_sem] eH C3 Cf Cx List.headD_cons aa.rowN aa.decN
def DM(N:Nat):ar prog 66 (eH N):=by
 refine⟨fun cs r h=>?_,fun h=>oZj⟩;simp only[eH]at h;split at h
 .simp only[cv,cq]at h;obtain⟨q0,h0,q1,h1,q2,h2,r',hr,rfl⟩:=h;obtain rfl:=aaJ aa.decE_eq h0;exact(Ga N q0 q1 q2 r' hr).argsO rfl (kZ ⟨ROk.refl _,fun _ h=>h⟩ (uS (bE h1) (kZ (s3 aa.rowN_ok aa.decN_le h2) qK)))
 .cases h
@[go_sem] def FT(N:Nat):FnS:=⟨[],false,fn4 ae.decA (aC .i64) (aD 5 Value.dec) Value.decA fun q0 q1 q2 q3=>(jy N q0 q1 q2 q3).map fun r=>.tup [.agg (ae.row r.1),vI r.2],false⟩
def Bd(N:Nat):ar prog 26 (FT N):=om4 fun a0 a1 a2 a3 _ h=>by
 refine fk func26 (gc 19 (gv N) (gc 23 (Dn N) (gc 28 (pJ N) (gc 35 (Ft N) (gc 47 (G9 N) (gc 52 (rC N) (gc 57 (fh N) (gc 67 (yO N) (gc 77 (uY N) (gc 89 (DM N) (gc 135 (wk N) gn))))))))))) ?_;simp only[f26];unfold jy at h;refine z0 ?_;refine aN ?_;apply aS (fun(c9:Bool)=>⟨tab 139 (af (af (af (af (af (af au 1 (vI a1)) 2 (sF 5 (a2.map Value.row))) 4 (pF 4)) 7 (pF 7)) 8 (pF 8)) 30 (vB c9)),(upd (upd (upd RZ 4 (vA 3 (ae.row a0))) 7 (vA 5 (Value.row a3))) 8 (vA 3 [.val (.slice none 0 0),.val (.slice none 0 0),.val (.slice none 0 0)]))⟩)
 .intro hJ1;obtain⟨r10,hr2,h⟩:=bI h;have hJ:=hJ1;exact go
 intro c9 h;unfold zT at h;refine cB h (fun hc7 h=>?_) fun hc7 h=>?_
 .exact go
 refine bm (pp ?_);unfold lF at h;obtain⟨r13,hr8,h⟩:=bI h;refine z2 ?_;refine z0 ?_;refine cM h (fun hc9 h=>?_) fun hc9 h=>?_
 .exact go
 obtain⟨r14,hr10,h⟩:=bI h;refine z2 ?_;refine cN h (fun hc11 hc11d h=>?_) fun hc11 hc11d h=>?_
 .exact go
 obtain⟨r15,hr12,h⟩:=bI h;refine z2 ?_;obtain⟨r16,hr13,h⟩:=bI h;obtain⟨x17,hb14,hx15,h⟩:=aQ h;refine d2 ?_;obtain⟨r18,hr16,h⟩:=bI h;have hx18:=fE (y:=(Txn.mk x17.ID x17.Born x17.Client x17.Seq x17.Calls (IntKind.i64.wrap (x17.Done+1)) x17.Last)) hx15;have hx20:=fE (y:=(Txn.mk x17.ID x17.Born x17.Client x17.Seq x17.Calls (IntKind.i64.wrap (x17.Done+1)) r18)) hx15;refine d1 (k5 hx15 hr16 (mm2 (row:=Txn.row) (y:=(Txn.mk x17.ID x17.Born x17.Client x17.Seq x17.Calls (IntKind.i64.wrap (x17.Done+1)) x17.Last)) (rx:=[vI x17.ID,vI x17.Born,vS x17.Client,vI x17.Seq,sF 4 (x17.Calls.map ah.row),vI x17.Done,vI x17.Last.Kind,vI x17.Last.N,vS x17.Last.S,sF 1 (x17.Last.I.map (aA .i64)),sF 1 (x17.Last.L.map dA)]) (ry:=[vI x17.ID,vI x17.Born,vS x17.Client,vI x17.Seq,sF 4 (x17.Calls.map ah.row),vI (IntKind.i64.wrap (x17.Done+1)),vI x17.Last.Kind,vI x17.Last.N,vS x17.Last.S,sF 1 (x17.Last.I.map (aA .i64)),sF 1 (x17.Last.L.map dA)]) hx15 rfl rfl) hx18 (mm3 (row:=Txn.row) (y0:=(Txn.mk x17.ID x17.Born x17.Client x17.Seq x17.Calls (IntKind.i64.wrap (x17.Done+1)) x17.Last)) (y:=(Txn.mk x17.ID x17.Born x17.Client x17.Seq x17.Calls (IntKind.i64.wrap (x17.Done+1)) r18)) (rx:=[vI x17.ID,vI x17.Born,vS x17.Client,vI x17.Seq,sF 4 (x17.Calls.map ah.row),vI (IntKind.i64.wrap (x17.Done+1)),vI x17.Last.Kind,vI x17.Last.N,vS x17.Last.S,sF 1 (x17.Last.I.map (aA .i64)),sF 1 (x17.Last.L.map dA)]) (ry:=[vI x17.ID,vI x17.Born,vS x17.Client,vI x17.Seq,sF 4 (x17.Calls.map ah.row),vI (IntKind.i64.wrap (x17.Done+1)),vI r18.Kind,vI r18.N,vS r18.S,sF 1 (r18.I.map (aA .i64)),sF 1 (r18.L.map dA)]) hx15 rfl rfl)) ?_;obtain⟨r19,hr21,h⟩:=bI h;refine z2 ?_;apply aS (fun(l21:List aa)=>⟨tab 139 (af (af (af (af (af au 1 (vI a1)) 2 (sF 5 (a2.map Value.row))) 8 (pF 8)) 12 (pF 12)) 14 (vI r19.1)),(upd (upd RZ 8 (vA 3 [.val (.slice none 0 0),.val (.slice none 0 0),.val (.slice none 0 0)])) 12 (vA 3 [sO 11 ((r15.Txns.set ((r16).toNat) (Txn.mk x17.ID x17.Born x17.Client x17.Seq x17.Calls (IntKind.i64.wrap (x17.Done+1)) r18)).map Txn.row),sO 4 (r15.Locks.map ai.row),sO 3 (l21.map aa.rowD)]))⟩)
 .intro hJ22;refine z0 ?_;refine cMs h (fun hc23 h=>?_) fun hc23 h=>?_
  .refine bm (pp (hJ22 _ r15.Stacks ?_ h));exact wR
  obtain⟨r22,hr24,h⟩:=bI h;have hx25:=Da hr24;refine z2 ?_;refine eU (yB 12 [(0,2),((r19.1).toNat,2)] 3 (by simp only[go_sem,seval,rL (row:=aa.rowD) _ hx25]) (by simp only[go_sem,seval,uM (row:=aa.rowD) hx25 rfl];try rfl)) (eU (tE (n:=12) (c':=vA 3 [sO 11 ((r15.Txns.set ((r16).toNat) (Txn.mk x17.ID x17.Born x17.Client x17.Seq x17.Calls (IntKind.i64.wrap (x17.Done+1)) r18)).map Txn.row),sO 4 (r15.Locks.map ai.row),sO 3 (r22.map aa.rowD)]) oZa (by simp only[aba (row:=aa.rowD) (rc:=[vS r13.1.Target.Type_,vS r13.1.Target.Key,sO 3 []]) hx25 rfl])) (hJ22 _ r22 ?_ h));exact wR
 intro l21 h;unfold ve at h;obtain⟨x23,hb26,hx27,h⟩:=aQ h;refine z2 ?_;refine z2 ?_;apply IE (fun(l28:List aa) (v29:Int)=>⟨tab 139 (af (af (af (af (af au 2 (sF 5 (a2.map Value.row))) 8 (pF 8)) 12 (pF 12)) 16 (.pref 12 [(0,2)] ((r19.1).toNat) 0)) 17 (vI v29)),(upd (upd RZ 8 (vA 3 [.val (.slice none 0 0),.val (.slice none 0 0),.val (.slice none 0 0)])) 12 (vA 3 [sO 11 ((r15.Txns.set ((r16).toNat) (Txn.mk x17.ID x17.Born x17.Client x17.Seq x17.Calls (IntKind.i64.wrap (x17.Done+1)) r18)).map Txn.row),sO 4 (r15.Locks.map ai.row),sO 3 (l28.map aa.rowD)]))⟩)
 .intro hJ28;apply aS (fun(c31:Bool)=>⟨tab 139 (af (af (af (af (af (af (af au 1 (vI a1)) 2 (sF 5 (a2.map Value.row))) 8 (pF 8)) 12 (pF 12)) 16 (.pref 12 [(0,2)] ((r19.1).toNat) 0)) 17 (vI (x23.Layers.length:Int))) 114 (vB c31)),(upd (upd RZ 8 (vA 3 [.val (.slice none 0 0),.val (.slice none 0 0),.val (.slice none 0 0)])) 12 (vA 3 [sO 11 ((r15.Txns.set ((r16).toNat) (Txn.mk x17.ID x17.Born x17.Client x17.Seq x17.Calls (IntKind.i64.wrap (x17.Done+1)) r18)).map Txn.row),sO 4 (r15.Locks.map ai.row),sO 3 (l21.map aa.rowD)]))⟩)
  .intro hJ29;refine iD h (fun hc30 hc30d h=>?_) fun hc30 hc30d h=>?_
   .refine z1 hc30d ?_;exact hJ29 _ true wR h
   have hJ:=hJ29;exact go
  intro c31 h;unfold zR at h;refine cBs h (fun hc33 h=>?_) fun hc33 h=>?_
  .refine bm (pp (hJ28 _ l21 (x23.Layers.length:Int) ?_ h));exact wR
  obtain⟨ha34,h⟩:=bq h;simp only[cn,cw,cy,Nat.reduceAdd]at ha34;refine z1 (k5 hx27 hc33 ha34 (ov1 (row:=aa.rowD) (rx:=[vS x23.Actor.Type_,vS x23.Actor.Key,sO 3 (x23.Layers.map aj.row)]) hx27 rfl) (k2 (ov2 (row:=aa.rowD) hx27) (ov3 (row:=aa.rowD) hx27))) ?_;refine eU (Dq 12 [(0,2),((r19.1).toNat,2),(x23.Layers.length,1)] 5 (by simp only[go_sem,seval,rL (row:=aa.rowD) _ hx27,UA]) (by simp only[go_sem,seval,uM (row:=aa.rowD) hx27 rfl,U7];try rfl)) (hJ28 _ (l21.set ((r19.1).toNat) (aa.mk x23.Actor (x23.Layers++[(aj.mk a1 [] false)]))) (IntKind.i64.wrap ((x23.Layers.length:Int)+1)) ?_ h);refine aM.trans (tE (n:=12) (c':=vA 3 [sO 11 ((r15.Txns.set ((r16).toNat) (Txn.mk x17.ID x17.Born x17.Client x17.Seq x17.Calls (IntKind.i64.wrap (x17.Done+1)) r18)).map Txn.row),sO 4 (r15.Locks.map ai.row),sO 3 ((l21.set ((r19.1).toNat) (aa.mk x23.Actor (x23.Layers++[(aj.mk a1 [] false)]))).map aa.rowD)]) oZa (by first|(simp only[iv (row:=aa.rowD) (l:=l21) (i:=((r19.1).toNat)) (y:=(aa.mk x23.Actor (x23.Layers++[(aj.mk a1 [] false)]))) (rc:=[vS x23.Actor.Type_,vS x23.Actor.Key,sO 3 ((x23.Layers++[(aj.mk a1 [] false)]).map aj.row)]) rfl];done)|(simp only[iv (row:=aa.rowD) (l:=l21) (i:=((r19.1).toNat)) (y:=(aa.mk x23.Actor (x23.Layers++[(aj.mk a1 [] false)]))) (rc:=[vS x23.Actor.Type_,vS x23.Actor.Key,sO 3 ((x23.Layers++[(aj.mk a1 [] false)]).map aj.row)]) rfl,cW,hC,nA]<;>rfl)|(rw[<-iv (row:=aa.rowD) (l:=l21) (i:=((r19.1).toNat)) (y:=(aa.mk x23.Actor (x23.Layers++[(aj.mk a1 [] false)]))) (rc:=[vS x23.Actor.Type_,vS x23.Actor.Key,sO 3 ((x23.Layers++[(aj.mk a1 [] false)]).map aj.row)]) rfl];simp only[cW,hC,nA]<;>rfl))) (aM.trans (tu (n:=122) ([[vI a1,sF 5 [],vB false]]) (by(try simp only[go_sem]);rfl) oZa (by simp only[fg,ek,go_sem];rfl)) ?_)
  exact wR
 intro l28 v29 h;unfold Cr at h;obtain⟨x33,hb35,hx36,h⟩:=aQ h;obtain⟨r34,hr37,h⟩:=bI h;obtain⟨x35,hb38,hx39,h⟩:=aQ h;have hx41:=fE (y:=(aj.mk x35.Txn_ r34 x35.Prepared)) hx39;refine d1 (k5 hx36 hr37 hb38 hx39 (k2 (mm2 (row:=aj.row) (y:=(aj.mk x35.Txn_ r34 x35.Prepared)) (rx:=[vI x35.Txn_,sF 5 (x35.Fields.map Value.row),vB x35.Prepared]) (ry:=[vI x35.Txn_,sF 5 (r34.map Value.row),vB x35.Prepared]) hx39 rfl rfl) (ov1 (row:=aa.rowD) (rx:=[vS x33.Actor.Type_,vS x33.Actor.Key,sO 3 (x33.Layers.map aj.row)]) hx36 rfl))) ?_;refine aN ?_;refine eU (tE (n:=12) (c':=vA 3 [sO 11 ((r15.Txns.set ((r16).toNat) (Txn.mk x17.ID x17.Born x17.Client x17.Seq x17.Calls (IntKind.i64.wrap (x17.Done+1)) r18)).map Txn.row),sO 4 (r15.Locks.map ai.row),sO 3 ((l28.set ((r19.1).toNat) (aa.mk x33.Actor (x33.Layers.set ((IntKind.i64.wrap (v29-1)).toNat) (aj.mk x35.Txn_ r34 x35.Prepared)))).map aa.rowD)]) oZa (by first|(simp only[iv (row:=aa.rowD) (l:=l28) (i:=((r19.1).toNat)) (y:=(aa.mk x33.Actor (x33.Layers.set ((IntKind.i64.wrap (v29-1)).toNat) (aj.mk x35.Txn_ r34 x35.Prepared)))) (rc:=[vS x33.Actor.Type_,vS x33.Actor.Key,sO 3 ((x33.Layers.set ((IntKind.i64.wrap (v29-1)).toNat) (aj.mk x35.Txn_ r34 x35.Prepared)).map aj.row)]) rfl];done)|(simp only[iv (row:=aa.rowD) (l:=l28) (i:=((r19.1).toNat)) (y:=(aa.mk x33.Actor (x33.Layers.set ((IntKind.i64.wrap (v29-1)).toNat) (aj.mk x35.Txn_ r34 x35.Prepared)))) (rc:=[vS x33.Actor.Type_,vS x33.Actor.Key,sO 3 ((x33.Layers.set ((IntKind.i64.wrap (v29-1)).toNat) (aj.mk x35.Txn_ r34 x35.Prepared)).map aj.row)]) rfl,cW,hC,nA]<;>rfl)|(rw[<-iv (row:=aa.rowD) (l:=l28) (i:=((r19.1).toNat)) (y:=(aa.mk x33.Actor (x33.Layers.set ((IntKind.i64.wrap (v29-1)).toNat) (aj.mk x35.Txn_ r34 x35.Prepared)))) (rc:=[vS x33.Actor.Type_,vS x33.Actor.Key,sO 3 ((x33.Layers.set ((IntKind.i64.wrap (v29-1)).toNat) (aj.mk x35.Txn_ r34 x35.Prepared)).map aj.row)]) rfl];simp only[cW,hC,nA]<;>rfl))) (z0 ?_)
 exact f0 h
@[go_sem] def PQ(N:Nat):FnS:=⟨[],false,fn3 (aD 4 ai.dec) Ref.decA (aC .i64) fun q0 q1 q2=>(zq N q0 q1 q2).map fun r=>.tup [sO 4 (r.1.map ai.row),vI r.2.1,vI r.2.2],false⟩
def Mm(N:Nat):ar prog 70 (PQ N):=om3 fun _ _ _ _ h=>by
 refine fk func70 (gc 12 (mg N) (gc 16 (uV N) (gc 21 (zh N) (gc 27 (C4 N) (gc 43 (lh N) (gc 45 (He N) gn)))))) ?_;simp only[f70];exact go
@[go_sem] def BI(N:Nat):FnS:=⟨[],false,fn3 ae.decA (aC .i64) Ref.decA fun q0 q1 q2=>(dS N q0 q1 q2).map fun r=>.tup [.agg (ae.row r.1),vI r.2],false⟩
def vE(N:Nat):ar prog 27 (BI N):=om3 fun a0 a1 a2 _ h=>by
 refine fk func27 (gc 14 (gv N) (gc 19 (fh N) (gc 30 (Hb N) (gc 53 (th N) (gc 60 (rC N) (gc 65 (Aa N) (gc 80 (Mm N) gn))))))) ?_;simp only[f27];unfold dS at h;refine z0 ?_;obtain⟨r1,hr1,h⟩:=bI h;refine z2 ?_;refine cM h (fun hc2 h=>?_) fun hc2 h=>?_
 .exact go
 obtain⟨r2,hr3,h⟩:=bI h;refine z2 ?_;refine aN ?_;apply aS (fun(c9:Bool)=>⟨tab 86 (af (af (af (af (af (af au 1 (vI a1)) 3 (pF 3)) 5 (pF 5)) 6 (pF 6)) 8 (vI r2)) 32 (vB c9)),(upd (upd (upd RZ 3 (vA 3 (ae.row a0))) 5 (vA 2 [vS a2.Type_,vS a2.Key])) 6 (vA 3 [.val (.slice none 0 0),.val (.slice none 0 0),.val (.slice none 0 0)]))⟩)
 .intro hJ4;refine iD h (fun hc5 hc5d h=>?_) fun hc5 hc5d h=>?_
  .have hJ:=hJ4;exact go
  have hJ:=hJ4;exact go
 intro c9 h;unfold dQ at h;refine cB h (fun hc9 h=>?_) fun hc9 h=>?_
 .exact go
 refine bm (pp ?_);unfold iy at h;obtain⟨x12,hb10,hx11,h⟩:=aQ h;refine d2 ?_;refine cD h (fun hc12 hc12d h=>?_) fun hc12 hc12d h=>?_
 .exact go
 obtain⟨r13,hr13,h⟩:=bI h;refine z2 ?_;refine z0 ?_;refine cB h (fun hc14 h=>?_) fun hc14 h=>?_
 .exact go
 obtain⟨r14,hr15,h⟩:=bI h;refine z2 ?_;obtain⟨r15,hr16,h⟩:=bI h;obtain⟨x16,hb17,hx18,h⟩:=aQ h;refine d2 ?_;obtain⟨x17,hb19,hx20,h⟩:=aQ h;have hx22:=fE (y:=(aj.mk x17.Txn_ x17.Fields true)) hx20;refine z1 (k5 hx18 hb19 hx20 (mm2 (row:=aj.row) (y:=(aj.mk x17.Txn_ x17.Fields true)) (rx:=[vI x17.Txn_,sF 5 (x17.Fields.map Value.row),vB x17.Prepared]) (ry:=[vI x17.Txn_,sF 5 (x17.Fields.map Value.row),vB true]) hx20 rfl rfl) (ov1 (row:=aa.rowD) (rx:=[vS x16.Actor.Type_,vS x16.Actor.Key,sO 3 (x16.Layers.map aj.row)]) hx18 rfl)) ?_;refine aN ?_;refine eU (tE (n:=11) (c':=vA 3 [sO 11 (r14.Txns.map Txn.row),sO 4 (r14.Locks.map ai.row),sO 3 ((r14.Stacks.set ((r15).toNat) (aa.mk x16.Actor (x16.Layers.set ((IntKind.i64.wrap ((x16.Layers.length:Int)-1)).toNat) (aj.mk x17.Txn_ x17.Fields true)))).map aa.rowD)]) oZa (by first|(simp only[iv (row:=aa.rowD) (l:=r14.Stacks) (i:=((r15).toNat)) (y:=(aa.mk x16.Actor (x16.Layers.set ((IntKind.i64.wrap ((x16.Layers.length:Int)-1)).toNat) (aj.mk x17.Txn_ x17.Fields true)))) (rc:=[vS x16.Actor.Type_,vS x16.Actor.Key,sO 3 ((x16.Layers.set ((IntKind.i64.wrap ((x16.Layers.length:Int)-1)).toNat) (aj.mk x17.Txn_ x17.Fields true)).map aj.row)]) rfl];done)|(simp only[iv (row:=aa.rowD) (l:=r14.Stacks) (i:=((r15).toNat)) (y:=(aa.mk x16.Actor (x16.Layers.set ((IntKind.i64.wrap ((x16.Layers.length:Int)-1)).toNat) (aj.mk x17.Txn_ x17.Fields true)))) (rc:=[vS x16.Actor.Type_,vS x16.Actor.Key,sO 3 ((x16.Layers.set ((IntKind.i64.wrap ((x16.Layers.length:Int)-1)).toNat) (aj.mk x17.Txn_ x17.Fields true)).map aj.row)]) rfl,cW,hC,nA]<;>rfl)|(rw[<-iv (row:=aa.rowD) (l:=r14.Stacks) (i:=((r15).toNat)) (y:=(aa.mk x16.Actor (x16.Layers.set ((IntKind.i64.wrap ((x16.Layers.length:Int)-1)).toNat) (aj.mk x17.Txn_ x17.Fields true)))) (rc:=[vS x16.Actor.Type_,vS x16.Actor.Key,sO 3 ((x16.Layers.set ((IntKind.i64.wrap ((x16.Layers.length:Int)-1)).toNat) (aj.mk x17.Txn_ x17.Fields true)).map aj.row)]) rfl];simp only[cW,hC,nA]<;>rfl))) (eU (MO (n:=11) oZa (by simp only[fg,ek,go_sem];rfl)) ?_)
 exact go
@[go_sem] def Nk(N:Nat):FnS:=⟨[],false,fn2 ae.decA Ref.decA fun q0 q1=>(ky N q0 q1).map fun r=>sF 3 (r.map aj.row),false⟩
def HT(N:Nat):ar prog 15 (Nk N):=om2 fun _ _ _ h=>by
 refine fk func15 (gc 8 (Aa N) (gc 17 (Ck N) gn)) ?_;simp only[f15];exact go
@[go_sem] def Q6(N d f:Nat):Option FnS:=aL [(13,69,Ot N)] d f
def Q2(N:Nat)(a0:ah)(c0_0:List Txn)(c0_1:List ai)(c0_2:List aa)(c1_0:Int)(c1_1:Int)(c1_2:ByteArray)(c1_3:Int)(c1_4:List ah)(c1_5:Int)(c1_6:Int)(c1_7:Int)(c1_8:ByteArray)(c1_9:List Int)(c1_10:List ByteArray)(r:Bool)(h:qO N a0 c0_0 c0_1 c0_2 c1_0 c1_1 c1_2 c1_3 c1_4 c1_5 c1_6 c1_7 c1_8 c1_9 c1_10=some r):Con prog 142 [] true [.agg (ah.row a0),.iref 3 [[sF 11 (c0_0.map Txn.row),sF 4 (c0_1.map ai.row),sF 3 (c0_2.map aa.row)]] 0 0,.iref 11 [[vI c1_0,vI c1_1,vS c1_2,vI c1_3,sF 4 (c1_4.map ah.row),vI c1_5,vI c1_6,vI c1_7,vS c1_8,sF 1 (c1_9.map (aA .i64)),sF 1 (c1_10.map dA)]] 0 0] (vB r):=by
 refine fk (G:=(Q6 N)) func142 (gc 13 (th N) gn) ?_;simp only[f142];exact go
@[go_sem] def Hk(N:Nat):FnS:={own:=[],pure:=true,fn:=fun cs=>match cs with
 | [c0,.iref 3 [[c1_0,c1_1,c1_2]] 0 0,.iref 11 [[c2_0,c2_1,c2_2,c2_3,c2_4,c2_5,c2_6,c2_7,c2_8,c2_9,c2_10]] 0 0]=>(ah.decA c0).bind fun qc0=>((aD 11 Txn.dec) c1_0).bind fun qc1_0=>((aD 4 ai.dec) c1_1).bind fun qc1_1=>((aD 3 aa.dec) c1_2).bind fun qc1_2=>((aC .i64) c2_0).bind fun qc2_0=>((aC .i64) c2_1).bind fun qc2_1=>(bG c2_2).bind fun qc2_2=>((aC .i64) c2_3).bind fun qc2_3=>((aD 4 ah.dec) c2_4).bind fun qc2_4=>((aC .i64) c2_5).bind fun qc2_5=>((aC .i64) c2_6).bind fun qc2_6=>((aC .i64) c2_7).bind fun qc2_7=>(bG c2_8).bind fun qc2_8=>((aD 1 (bO (aC .i64))) c2_9).bind fun qc2_9=>((aD 1 (bO bG)) c2_10).bind fun qc2_10=>(qO N qc0 qc1_0 qc1_1 qc1_2 qc2_0 qc2_1 qc2_2 qc2_3 qc2_4 qc2_5 qc2_6 qc2_7 qc2_8 qc2_9 qc2_10).map fun r=>vB r
 | _=>none}
def Lx(N:Nat):ar prog 142 (Hk N):=oz (Q2 N)
@[go_sem] def vu(N d f:Nat):Option FnS:=aL [(16,142,Hk N)] d f
def vl(N:Nat)(a0:List ah)(k1_0_0:List Txn)(k1_0_1:List ai)(k1_0_2:List aa)(k1_1_0:Int)(k1_1_1:Int)(k1_1_2:ByteArray)(k1_1_3:Int)(k1_1_4:List ah)(k1_1_5:Int)(k1_1_6:Int)(k1_1_7:Int)(k1_1_8:ByteArray)(k1_1_9:List Int)(k1_1_10:List ByteArray)(r:Int)(h:bV N a0 k1_0_0 k1_0_1 k1_0_2 k1_1_0 k1_1_1 k1_1_2 k1_1_3 k1_1_4 k1_1_5 k1_1_6 k1_1_7 k1_1_8 k1_1_9 k1_1_10=some r):Con prog 203 [] true [sF 4 (a0.map ah.row),.clo 142 [.iref 3 [[sF 11 (k1_0_0.map Txn.row),sF 4 (k1_0_1.map ai.row),sF 3 (k1_0_2.map aa.row)]] 0 0,.iref 11 [[vI k1_1_0,vI k1_1_1,vS k1_1_2,vI k1_1_3,sF 4 (k1_1_4.map ah.row),vI k1_1_5,vI k1_1_6,vI k1_1_7,vS k1_1_8,sF 1 (k1_1_9.map (aA .i64)),sF 1 (k1_1_10.map dA)]] 0 0]] (vI r):=by
 refine fk (G:=(vu N)) func203 (gc 16 (Lx N) gn) ?_;simp only[f203];unfold bV at h;have:LT 2 [0,1,7] [] 0 (fun f (v2:Nat) (b:Unit)=>(af f 8 (.val (.int .i64 (v2:Int))))) (fun R _ _=>R):=⟨⟩;exact go
@[go_sem] def kh(N:Nat):FnS:={own:=[],pure:=true,fn:=fun cs=>match cs with
 | [c0,.clo 142 [.iref 3 [[k1_0_0,k1_0_1,k1_0_2]] 0 0,.iref 11 [[k1_1_0,k1_1_1,k1_1_2,k1_1_3,k1_1_4,k1_1_5,k1_1_6,k1_1_7,k1_1_8,k1_1_9,k1_1_10]] 0 0]]=>((aD 4 ah.dec) c0).bind fun qc0=>((aD 11 Txn.dec) k1_0_0).bind fun qk1_0_0=>((aD 4 ai.dec) k1_0_1).bind fun qk1_0_1=>((aD 3 aa.dec) k1_0_2).bind fun qk1_0_2=>((aC .i64) k1_1_0).bind fun qk1_1_0=>((aC .i64) k1_1_1).bind fun qk1_1_1=>(bG k1_1_2).bind fun qk1_1_2=>((aC .i64) k1_1_3).bind fun qk1_1_3=>((aD 4 ah.dec) k1_1_4).bind fun qk1_1_4=>((aC .i64) k1_1_5).bind fun qk1_1_5=>((aC .i64) k1_1_6).bind fun qk1_1_6=>((aC .i64) k1_1_7).bind fun qk1_1_7=>(bG k1_1_8).bind fun qk1_1_8=>((aD 1 (bO (aC .i64))) k1_1_9).bind fun qk1_1_9=>((aD 1 (bO bG)) k1_1_10).bind fun qk1_1_10=>(bV N qc0 qk1_0_0 qk1_0_1 qk1_0_2 qk1_1_0 qk1_1_1 qk1_1_2 qk1_1_3 qk1_1_4 qk1_1_5 qk1_1_6 qk1_1_7 qk1_1_8 qk1_1_9 qk1_1_10).map fun r=>vI r
 | _=>none}
def sE(N:Nat):ar prog 203 (kh N):=oz (vl N)
@[go_sem] def sN(N d f:Nat):Option FnS:=aL [(7,203,kh N)] d f
def sQ(N:Nat)(a0:List ah)(k1_0_0:List Txn)(k1_0_1:List ai)(k1_0_2:List aa)(k1_1_0:Int)(k1_1_1:Int)(k1_1_2:ByteArray)(k1_1_3:Int)(k1_1_4:List ah)(k1_1_5:Int)(k1_1_6:Int)(k1_1_7:Int)(k1_1_8:ByteArray)(k1_1_9:List Int)(k1_1_10:List ByteArray)(r:Bool)(h:dF N a0 k1_0_0 k1_0_1 k1_0_2 k1_1_0 k1_1_1 k1_1_2 k1_1_3 k1_1_4 k1_1_5 k1_1_6 k1_1_7 k1_1_8 k1_1_9 k1_1_10=some r):Con prog 140 [] true [sF 4 (a0.map ah.row),.clo 142 [.iref 3 [[sF 11 (k1_0_0.map Txn.row),sF 4 (k1_0_1.map ai.row),sF 3 (k1_0_2.map aa.row)]] 0 0,.iref 11 [[vI k1_1_0,vI k1_1_1,vS k1_1_2,vI k1_1_3,sF 4 (k1_1_4.map ah.row),vI k1_1_5,vI k1_1_6,vI k1_1_7,vS k1_1_8,sF 1 (k1_1_9.map (aA .i64)),sF 1 (k1_1_10.map dA)]] 0 0]] (vB r):=by
 refine fk (G:=(sN N)) func140 (gc 7 (sE N) gn) ?_;simp only[f140];exact go
@[go_sem] def su(N:Nat):FnS:={own:=[],pure:=true,fn:=fun cs=>match cs with
 | [c0,.clo 142 [.iref 3 [[k1_0_0,k1_0_1,k1_0_2]] 0 0,.iref 11 [[k1_1_0,k1_1_1,k1_1_2,k1_1_3,k1_1_4,k1_1_5,k1_1_6,k1_1_7,k1_1_8,k1_1_9,k1_1_10]] 0 0]]=>((aD 4 ah.dec) c0).bind fun qc0=>((aD 11 Txn.dec) k1_0_0).bind fun qk1_0_0=>((aD 4 ai.dec) k1_0_1).bind fun qk1_0_1=>((aD 3 aa.dec) k1_0_2).bind fun qk1_0_2=>((aC .i64) k1_1_0).bind fun qk1_1_0=>((aC .i64) k1_1_1).bind fun qk1_1_1=>(bG k1_1_2).bind fun qk1_1_2=>((aC .i64) k1_1_3).bind fun qk1_1_3=>((aD 4 ah.dec) k1_1_4).bind fun qk1_1_4=>((aC .i64) k1_1_5).bind fun qk1_1_5=>((aC .i64) k1_1_6).bind fun qk1_1_6=>((aC .i64) k1_1_7).bind fun qk1_1_7=>(bG k1_1_8).bind fun qk1_1_8=>((aD 1 (bO (aC .i64))) k1_1_9).bind fun qk1_1_9=>((aD 1 (bO bG)) k1_1_10).bind fun qk1_1_10=>(dF N qc0 qk1_0_0 qk1_0_1 qk1_0_2 qk1_1_0 qk1_1_1 qk1_1_2 qk1_1_3 qk1_1_4 qk1_1_5 qk1_1_6 qk1_1_7 qk1_1_8 qk1_1_9 qk1_1_10).map fun r=>vB r
 | _=>none}
def qA(N:Nat):ar prog 140 (su N):=oz (sQ N)
@[go_sem] def Ji(N:Nat):FnS:=⟨[],true,fn2 ae.decA Txn.decA fun q0 q1=>(Ap N q0 q1).map fun r=>vB r,false⟩
def Gh(N:Nat):ar prog 73 (Ji N):=om2 fun _ _ _ h=>by
 refine fk func73 (gc 8 (qA N) gn) ?_;simp only[f73];exact go
@[go_sem] def SG(N d f:Nat):Option FnS:=aL [(13,73,Ji N),(19,74,N3 N)] d f
def Sl(N:Nat)(a0:Txn)(c0_0:List Txn)(c0_1:List ai)(c0_2:List aa)(r:Bool)(h:mC N a0 c0_0 c0_1 c0_2=some r):Con prog 72 [] true [.agg (Txn.row a0),.iref 3 [[sF 11 (c0_0.map Txn.row),sF 4 (c0_1.map ai.row),sF 3 (c0_2.map aa.row)]] 0 0] (vB r):=by
 refine fk (G:=(SG N)) func72 (gc 13 (Gh N) (gc 19 (Jw N) gn)) ?_;simp only[f72];unfold mC at h;exact go
@[go_sem] def H6(N:Nat):FnS:={own:=[],pure:=true,fn:=fun cs=>match cs with
 | [c0,.iref 3 [[c1_0,c1_1,c1_2]] 0 0]=>(Txn.decA c0).bind fun qc0=>((aD 11 Txn.dec) c1_0).bind fun qc1_0=>((aD 4 ai.dec) c1_1).bind fun qc1_1=>((aD 3 aa.dec) c1_2).bind fun qc1_2=>(mC N qc0 qc1_0 qc1_1 qc1_2).map fun r=>vB r
 | _=>none}
def NL(N:Nat):ar prog 72 (H6 N):=oz (Sl N)
@[go_sem] def AN(N d f:Nat):Option FnS:=aL [(16,72,H6 N)] d f
def Ao(N:Nat)(a0:List Txn)(k1_0_0:List Txn)(k1_0_1:List ai)(k1_0_2:List aa)(r:Int)(h:dg N a0 k1_0_0 k1_0_1 k1_0_2=some r):Con prog 71 [] true [sF 11 (a0.map Txn.row),.clo 72 [.iref 3 [[sF 11 (k1_0_0.map Txn.row),sF 4 (k1_0_1.map ai.row),sF 3 (k1_0_2.map aa.row)]] 0 0]] (vI r):=by
 refine fk (G:=(AN N)) func71 (gc 16 (NL N) gn) ?_;simp only[f71];unfold dg at h;have:LT 2 [0,1,7] [] 0 (fun f (v2:Nat) (b:Unit)=>(af f 8 (.val (.int .i64 (v2:Int))))) (fun R _ _=>R):=⟨⟩;exact go
@[go_sem] def Aj(N:Nat):FnS:={own:=[],pure:=true,fn:=fun cs=>match cs with
 | [c0,.clo 72 [.iref 3 [[k1_0_0,k1_0_1,k1_0_2]] 0 0]]=>((aD 11 Txn.dec) c0).bind fun qc0=>((aD 11 Txn.dec) k1_0_0).bind fun qk1_0_0=>((aD 4 ai.dec) k1_0_1).bind fun qk1_0_1=>((aD 3 aa.dec) k1_0_2).bind fun qk1_0_2=>(dg N qc0 qk1_0_0 qk1_0_1 qk1_0_2).map fun r=>vI r
 | _=>none}
def yW(N:Nat):ar prog 71 (Aj N):=oz (Ao N)
def Ms(N:Nat)(a0:List Ref)(r:List Ref)(h:kQ N a0=some r):Con prog 44 [true] true [sO 2 (a0.map Ref.row)] (sO 2 (r.map Ref.row)):=by
 refine E4 (G:=(aL [])) (L:=noL) func44 rfl oZh oZc gn (fun _ _ _ h=>by cases h) [] mix (cU rfl) ?_;rw[show gI [true] [sO 2 (a0.map Ref.row)]=(af au 0 (.pal 0 [] 0 a0.length none))from by funext t;match t with|0=>simp[gI,jX,lM,af]|t+1=>rfl];rw[show R0 [true] [sO 2 (a0.map Ref.row)]=upd RZ 0 (sO 2 (a0.map Ref.row))from by funext t;match t with|0=>rfl|t+1=>rfl];simp only[f44];unfold kQ at h;refine z0 ?_;refine z0 ?_;refine cD h (fun hc1 hc1d h=>?_) fun hc1 hc1d h=>?_
 .refine z2 ?_;refine o9 (pp ?_);cases h;simp only[go_sem,seval,dV];exact⟨_,rfl,jV.h,tJ.h,vH.h⟩
 refine z2 ?_;refine aK (dc fun hreal3=>?_);have hl2:=hreal3.lenX 0 oZa;rw[cr]at hl2;refine rI (fun(v3:Nat) (b:Unit)=>⟨tab 61 (af (af au 0 (.pal 0 [] 0 a0.length none)) 3 (vI (v3:Int))),(upd RZ 0 (sO 2 (a0.map Ref.row)))⟩) () h ?_ ?_
 .exact w2
 rintro v3 ⟨⟩ _ h -;rcases(kf a0.length v3).symm with⟨hi4',hd7⟩|⟨hi4',hd7⟩
 .rw[hd7]at h;simp only[jd]at h;refine z2 ?_;refine cf ?_;refine z0 ?_;refine o9 (pp ?_);cases h;simp only[go_sem,seval,dV];exact⟨_,rfl,jV.h,tJ.h,vH.h⟩
 rw[hd7]at h;simp only[jd]at h;have hw6:=bn hi4' hl2;refine z2 ?_;refine ct ?_;obtain⟨x1,hb8,hx9,h⟩:=aQ h;try simp only[cu]at hx9
 try simp only[nU,xd,true_and]at hb8
 obtain⟨x2,hb10,hx11,h⟩:=aQ h;refine d2 ?_;refine cBs h (fun hc12 h=>?_) fun hc12 h=>?_
 .exact go
 obtain⟨hs13,h⟩:=fC h;try simp only[cu]at hs13 h
 refine z2 ?_;refine z0 ?_;refine aK (dw (fun(b:List Ref×Int×Int)=>⟨tab 61 (af (af (af (af au 0 (.pal 0 [] 0 b.1.length none)) 3 (vI b.2.1)) 4 (.pal 0 [] v3 (a0.length-v3) none)) 5 (vI b.2.2)),(upd RZ 0 (sO 2 (b.1.map Ref.row)))⟩) (a0,(v3:Int),1) h ?_ ?_)
 .exact w2
 rintro n ⟨l12,v13,v14⟩ h -;cases n with
 | zero=>simp[fW]at h
 | succ n=>
 simp only[fW]at h;refine z0 ?_;refine cDs h (fun hc14 hc14d h=>?_) fun hc14 hc14d h=>?_
 .refine eV (pp ?_);unfold kO at h;refine aN ?_;obtain⟨hs24,h⟩:=fC h;try simp only[cu]at hs24 h
  refine eB fun Z hZ=>?_;simp only[go_sem,seval,cQ,hc14d,hs24,VX (row:=Ref.row) (z:=(Ref.mk (⟨#[]⟩) (⟨#[]⟩))) (rz:=[vS (⟨#[]⟩),vS (⟨#[]⟩)]) (k:=(v13).toNat) (l:=l12) (by have:=hs24;omega) rfl,iN,Ce,dt,aO.allD Ref.row_ok];refine hZ _ (pp (aN ?_));obtain⟨hs25,h⟩:=fC h;try simp only[nE]at hs25 h
  refine eB fun Z hZ=>?_;simp only[go_sem,seval,cR,hs24,Af,hs25];refine hZ _ (pp (o9 (pp ?_)));cases h;simp only[go_sem,seval,dV];exact⟨_,rfl,jV.h,tJ.h,vH.h⟩
 obtain⟨x16,hb15,hx16,h⟩:=aQ h;obtain⟨x17,hb17,hx18,h⟩:=aQ h;refine d1 (k5 hb15 (TC hx16) (XQ hb15) hb17 (k2 (TC hx18) (XQ hb17))) ?_;refine cMs h (fun hc19 h=>?_) fun hc19 h=>?_
 .refine z1 hc19 ?_;exact go
 obtain⟨x18,hb20,hx21,h⟩:=aQ h;have hx23:=fE (y:=x16) hx21;refine z1 (k5 hb15 (XQ hb15) hc19 (TC hx16) (k3 hb20 hx21 (mm2 (row:=Ref.row) (y:=x16) (rx:=[vS x18.Type_,vS x18.Key]) (ry:=[vS x16.Type_,vS x16.Key]) hx21 rfl rfl))) ?_;refine z0 ?_;refine z0 ?_;refine⟨_,cZ _,((l12.set ((v13).toNat) x16),IntKind.i64.wrap (v13+1),IntKind.i64.wrap (v14+1)),?_,h⟩;refine wr ?_ ?_<;>repeat' first|rfl|constructor|simp only[go_sem,seval,cL]
def ic(N:Nat):FnS:={own:=[true],pure:=true,fn:=fun cs=>match cs with
 | [c0]=>((AU 2 Ref.dec) c0).bind fun q0=>(kQ N q0).map fun r=>sO 2 (r.map Ref.row)
 | _=>none}
theorem GY(N:Nat):(ic N).own=[true]:=rfl
theorem F8(N:Nat):(ic N).pure=true:=rfl
theorem GG(N:Nat):(ic N).peek=false:=rfl
attribute [go_sem] ic GY F8 GG
def Ht(N:Nat):ar prog 44 (ic N):=by
 refine⟨fun cs r h=>?_,fun h=>oZj⟩;simp only[ic]at h;split at h
 .simp only[cv,cq]at h;obtain⟨q0,h0,r',hr,rfl⟩:=h;exact(Ms N q0 r' hr).argsO rfl (kZ (s3 Ref.row_ok Ref.dec_le h0) (qK))
 .cases h
@[go_sem] def rb(N d f:Nat):Option FnS:=aL [(32,43,Ky N)] d f
def iE(N:Nat)(a0:List Ref)(a1:Int)(a2:Int)(r:List Ref)(h:aT N a0 a1 a2=some r):(r).length=a0.length:=by
 unfold aT at h;exact(ll h).2
def qU(N:Nat)(a0:List Ref)(a1:Int)(a2:Int)(r:List Ref)(h:aT N a0 a1 a2=some r):qe prog 173 1 [sO 2 (a0.map Ref.row),vI a1,vI a2,.clo 43 []] (.tup []) [sO 2 (r.map Ref.row)]:=by
 unfold aT at h;obtain⟨h,hlen⟩:=ll h;refine DI (G:=(rb N)) (L:=noL) func173 rfl oZh oZc 1 oZc (gc 32 (B4 N) gn) (fun _ _ _ h=>by cases h) [] mix (cU rfl) (cU rfl) rfl (by simp[dC,hlen]) ?_;simp only[f173];refine z0 ?_;refine aK (dw (fun(b:Int)=>⟨tab 53 (af (af (af (af (af au 0 (.pal 0 [] 0 a0.length none)) 1 (vI a1)) 2 (vI a2)) 3 (.clo 43 [])) 8 (vI b)),(upd RZ 0 (sO 2 (a0.map Ref.row)))⟩) (IntKind.i64.wrap (a1+1)) h ?_ ?_)
 .exact wR
 rintro n v1 h -;cases n with
 | zero=>simp[bt]at h
 | succ n=>
 simp only[bt]at h;refine z0 ?_;refine cDs h (fun hc1 hc1d h=>?_) fun hc1 hc1d h=>?_
 .refine eV (pp ?_);obtain rfl:=cX h;refine HL (.inr rfl) (aM.refl _) (by simp only[go_sem,seval,hc1d];rfl) oZa (by(try simp only[go_sem,seval]);first|exact Le.refl _|exact LeI.h) ?_;exact HN (by simp only[go_sem,seval,hc1d]<;>rfl) (by simp only[go_sem,seval]<;>rfl) (KT)
 refine z1 hc1d ?_;refine aK (dw (fun(b:Unit)=>⟨tab 53 (af (af (af (af (af (af au 0 (.pal 0 [] 0 a0.length none)) 1 (vI a1)) 2 (vI a2)) 3 (.clo 43 [])) 8 (vI v1)) 9 (vI v1)),(upd RZ 0 (sO 2 (a0.map Ref.row)))⟩) () h ?_ ?_)
 .exact wR
 rintro n ⟨⟩ h -;cases n with
 | zero=>simp[en]at h
 | succ n=>
 simp only[en]at h;refine aN ?_;apply aS (fun(c9:Bool)=>⟨tab 53 (af (af (af (af (af (af (af au 0 (.pal 0 [] 0 a0.length none)) 1 (vI a1)) 2 (vI a2)) 3 (.clo 43 [])) 8 (vI v1)) 9 (vI v1)) 34 (vB c9)),(upd RZ 0 (sO 2 (a0.map Ref.row)))⟩)
 .intro hJ2;refine iDs h (fun hc3 hc3d h=>?_) fun hc3 hc3d h=>?_
  .have hJ:=hJ2;exact go
  have hJ:=hJ2;exact go
 intro c9 h;unfold eu at h;refine cB h (fun hc9 h=>?_) fun hc9 h=>?_
 .refine bm (pp ?_);unfold eo at h;refine aN (aK ?_);obtain⟨x13,hb10,hx11,h⟩:=aQ h;obtain⟨x14,hb12,hx13,h⟩:=aQ h;cases h
 exact go
@[go_sem] def eA(N:Nat):FnL:=⟨1,fun cs rest=>match cs,rest with
 | [v0],[c1,c2,.clo 43 []]=>(It 2 Ref.dec v0).bind fun q0=>((aC .i64) c1).bind fun q1=>((aC .i64) c2).bind fun q2=>(aT N q0 q1 q2).map fun r=>(.tup [],[sO 2 (r.map Ref.row)])
 | _,_=>none,false⟩
def pI(N:Nat):B1 prog 173 (eA N):=by
 refine Ov (xv _) rfl ?_;intro cs rest r ls hlen h;simp only[eA]at h;split at h
 .simp only[cv,cq]at h;obtain⟨q0,h0,q1,h1,q2,h2,r',hr,he⟩:=h;cases he;exact qe.told rfl rfl (DK (Dv Ref.row_ok Ref.dec_le h0) (GJ)) (LeL.cons (bE h1) (LeL.cons (bE h2) (LeL.cons (Le.clo (LeL.nil)) (LeL.nil)))) (qU N q0 q1 q2 r' hr)
 .cases h
@[go_sem] def vh(N d f:Nat):Option FnL:=FY [(30,173,eA N)] d f
def jZ(N:Nat)(a0:List Ref)(a1:Int)(a2:Int)(a3:Int)(r:List Ref)(h:aX N a0 a1 a2 a3=some r):(r).length=a0.length:=by
 unfold aX at h;exact(ll h).2
def vn(N:Nat)(a0:List Ref)(a1:Int)(a2:Int)(a3:Int)(r:List Ref)(h:aX N a0 a1 a2 a3=some r):qe prog 101 1 [sO 2 (a0.map Ref.row),vI a1,vI a2,vI a3,.clo 43 []] (.tup []) [sO 2 (r.map Ref.row)]:=by
 unfold aX at h;obtain⟨h,hlen⟩:=ll h;refine DI (G:=(aL [])) (L:=(vh N)) func101 rfl oZh oZc 1 oZc gn (lc 30 (pI N) ln) [] mix (cU rfl) (cU rfl) rfl (by simp[dC,hlen]) ?_;simp only[f101];refine z0 ?_;refine z0 ?_;refine aK (dw (fun(b:Unit)=>⟨tab 148 (af (af (af (af (af (af (af au 0 (.pal 0 [] 0 a0.length none)) 1 (vI a1)) 2 (vI a2)) 3 (vI a3)) 4 (.clo 43 [])) 10 (vB true)) 11 (vB true)),(upd RZ 0 (sO 2 (a0.map Ref.row)))⟩) () h ?_ ?_)
 .exact wR
 rintro n ⟨⟩ h -;cases n with
 | zero=>simp[dI]at h
 | succ n=>
 simp only[dI]at h;refine z0 ?_;refine z0 ?_;refine cDs h (fun hc1 hc1d h=>?_) fun hc1 hc1d h=>?_
 .refine z1 hc1d ?_;refine cD h (fun hc3 hc3d h=>?_) fun hc3 hc3d h=>?_
  .refine aN ?_;cases h
  refine z1 hc3d ?_;refine cf ?_;refine bm (pp (aN ?_));cases h
 obtain⟨r1,hr2,h⟩:=bI h;refine z1 (k3 hc1d hr2 (iE N a0 a1 a2 r1 hr2)) ?_;refine o9 (pp ?_);obtain rfl:=cX h;refine HL (.inl rfl) (aM.refl _) oZa oZa (by(try simp only[go_sem,seval]);first|exact Le.refl _|exact LeI.h) ?_;exact HN (by simp only[go_sem,seval,iE N a0 a1 a2 r1 hr2]<;>rfl) (by simp only[go_sem,seval]<;>rfl) (KT)
@[go_sem] def fA(N:Nat):FnL:=⟨1,fun cs rest=>match cs,rest with
 | [v0],[c1,c2,c3,.clo 43 []]=>(It 2 Ref.dec v0).bind fun q0=>((aC .i64) c1).bind fun q1=>((aC .i64) c2).bind fun q2=>((aC .i64) c3).bind fun q3=>(aX N q0 q1 q2 q3).map fun r=>(.tup [],[sO 2 (r.map Ref.row)])
 | _,_=>none,false⟩
def sA(N:Nat):B1 prog 101 (fA N):=by
 refine Ov (xv _) rfl ?_;intro cs rest r ls hlen h;simp only[fA]at h;split at h
 .simp only[cv,cq]at h;obtain⟨q0,h0,q1,h1,q2,h2,q3,h3,r',hr,he⟩:=h;cases he;exact qe.told rfl rfl (DK (Dv Ref.row_ok Ref.dec_le h0) (GJ)) (LeL.cons (bE h1) (LeL.cons (bE h2) (LeL.cons (bE h3) (LeL.cons (Le.clo (LeL.nil)) (LeL.nil))))) (vn N q0 q1 q2 q3 r' hr)
 .cases h
@[go_sem] def zI(N d f:Nat):Option FnS:=aL [(11,102,De N)] d f
@[go_sem] def zn(N d f:Nat):Option FnL:=FY [(13,101,fA N)] d f
def yi(N:Nat)(a0:List Ref)(r:List Ref)(h:bw N a0=some r):(r).length=a0.length:=by
 unfold bw at h;exact(ll h).2
def mH(N:Nat)(a0:List Ref)(r:List Ref)(h:bw N a0=some r):qe prog 42 1 [sO 2 (a0.map Ref.row),.clo 43 []] (.tup []) [sO 2 (r.map Ref.row)]:=by
 unfold bw at h;obtain⟨h,hlen⟩:=ll h;refine DI (G:=(zI N)) (L:=(zn N)) func42 rfl oZh oZc 1 oZc (gc 11 (EO N) gn) (lc 13 (sA N) ln) [] mix (cU rfl) (cU rfl) rfl (by simp[dC,hlen]) ?_;simp only[f42];refine z0 ?_;obtain⟨r1,hr1,h⟩:=bI h;obtain⟨r2,hr2,h⟩:=bI h;refine z1 (k3 hr1 hr2 (jZ N a0 0 (a0.length:Int) r1 r2 hr2)) ?_;obtain rfl:=cX h;refine HL (.inr rfl) (aM.refl _) oZa oZa (by(try simp only[go_sem,seval]);first|exact Le.refl _|exact LeI.h) ?_;exact HN (by simp only[go_sem,seval,jZ N a0 0 (a0.length:Int) r1 r2 hr2]<;>rfl) (by simp only[go_sem,seval]<;>rfl) (KT)
@[go_sem] def lL(N:Nat):FnL:=⟨1,fun cs rest=>match cs,rest with
 | [v0],[.clo 43 []]=>(It 2 Ref.dec v0).bind fun q0 =>  (bw N q0).map fun r=>(.tup [],[sO 2 (r.map Ref.row)])
 | _,_=>none,false⟩
def Kr(N:Nat):B1 prog 42 (lL N):=by
 refine Ov (xv _) rfl ?_;intro cs rest r ls hlen h;simp only[lL]at h;split at h
 .simp only[cv,cq]at h;obtain⟨q0,h0,r',hr,he⟩:=h;cases he;exact qe.told rfl rfl (DK (Dv Ref.row_ok Ref.dec_le h0) (GJ)) (LeL.cons (Le.clo (LeL.nil)) (LeL.nil)) (mH N q0 r' hr)
 .cases h
def Bo:Go.Shelf.Ren:=⟨fun|6=>42|14=>101|15=>102|20=>173|21=>174|22=>175|23=>176|24=>177|25=>178|26=>179|27=>180|28=>181|29=>182|46=>214|47=>215|48=>216|49=>217|50=>218|57=>231|n=>n,fun|0=>0|3=>3|4=>4|5=>5|9=>9|22=>46|24=>52|25=>94|39=>136|45=>179|46=>180|50=>115|53=>186|55=>188|66=>207|70=>211|76=>219|77=>220|n=>n,fun n=>n⟩
def BH:Go.Proofs.SlLaysF0.n6 prog Bo where
 mixed:=oZc
 f6:=⟨f42.name,oZh,func42.trans (congrArg some oZc)⟩
 f14:=⟨f101.name,oZh,func101.trans (congrArg some oZc)⟩
 f15:=func102.trans (congrArg some oZc)
 f20:=⟨f173.name,oZh,func173.trans (congrArg some oZc)⟩
 f21:=⟨f174.name,oZh,func174.trans (congrArg some oZc)⟩
 f22:=⟨f175.name,oZh,func175.trans (congrArg some oZc)⟩
 f23:=⟨f176.name,oZh,func176.trans (congrArg some oZc)⟩
 f24:=⟨f177.name,oZh,func177.trans (congrArg some oZc)⟩
 f25:=⟨f178.name,oZh,func178.trans (congrArg some oZc)⟩
 f26:=⟨f179.name,oZh,func179.trans (congrArg some oZc)⟩
 f27:=⟨f180.name,oZh,func180.trans (congrArg some oZc)⟩
 f28:=func181.trans (congrArg some oZc)
 f29:=func182.trans (congrArg some oZc)
 f46:=⟨f214.name,oZh,func214.trans (congrArg some oZc)⟩
 f47:=func215.trans (congrArg some oZc)
 f48:=func216.trans (congrArg some oZc)
 f49:=⟨f217.name,oZh,func217.trans (congrArg some oZc)⟩
 f50:=⟨f218.name,oZh,func218.trans (congrArg some oZc)⟩
 f57:=⟨f231.name,oZh,func231.trans (congrArg some oZc)⟩
 t0:=underlying0
 a0:=Tryz.isAgg0
 z0:=Tryz.sizeOf0
 v0:=Tryz.zeroValue0
 t3:=underlying3
 a3:=Tryz.isAgg3
 z3:=Tryz.sizeOf3
 v3:=Tryz.zeroValue3
 t4:=underlying4
 a4:=Tryz.isAgg4
 z4:=Tryz.sizeOf4
 v4:=Tryz.zeroValue4
 t5:=underlying5
 a5:=Tryz.isAgg5
 z5:=Tryz.sizeOf5
 v5:=Tryz.zeroValue5
 t9:=underlying9
 a9:=Tryz.isAgg9
 z9:=Tryz.sizeOf9
 v9:=Tryz.zeroValue9
 t22:=underlying46
 a22:=Tryz.isAgg46
 z22:=Tryz.sizeOf46
 v22:=Tryz.zeroValue46
 t25:=underlying94
 a25:=Tryz.isAgg94
 z25:=Tryz.sizeOf94
 v25:=Tryz.zeroValue94
 t39:=underlying136
 a39:=Tryz.isAgg136
 z39:=Tryz.sizeOf136
 v39:=Tryz.zeroValue136
 t45:=underlying179
 a45:=Tryz.isAgg179
 z45:=Tryz.sizeOf179
 v45:=Tryz.zeroValue179
 t46:=underlying180
 a46:=Tryz.isAgg180
 z46:=Tryz.sizeOf180
 v46:=Tryz.zeroValue180
 t50:=underlying115
 a50:=Tryz.isAgg115
 z50:=Tryz.sizeOf115
 v50:=Tryz.zeroValue115
 t53:=underlying186
 a53:=Tryz.isAgg186
 z53:=Tryz.sizeOf186
 v53:=Tryz.zeroValue186
 t55:=underlying188
 a55:=Tryz.isAgg188
 z55:=Tryz.sizeOf188
 v55:=Tryz.zeroValue188
 t66:=underlying207
 a66:=Tryz.isAgg207
 z66:=Tryz.sizeOf207
 v66:=Tryz.zeroValue207
 t70:=underlying211
 a70:=Tryz.isAgg211
 z70:=Tryz.sizeOf211
 v70:=Tryz.zeroValue211
 t76:=underlying219
 a76:=Tryz.isAgg219
 z76:=Tryz.sizeOf219
 v76:=Tryz.zeroValue219
 t77:=underlying220
 a77:=Tryz.isAgg220
 z77:=Tryz.sizeOf220
 v77:=Tryz.zeroValue220
def pX(x:Ref):List Go.Value:=[.string x.Type_,.string x.Key]
def pK(N:Nat)(a0:List Ref)(r:List Ref)(h:bk N a0=some r):(r).length=a0.length:=by
 unfold bk at h;split at h
 .exact yi N a0 r h
 .exact aa8 h
def Cd(N:Nat)(a0:List Ref)(r:List Ref)(h:bk N a0=some r):qe prog 42 1 [sO 2 (a0.map Ref.row),.clo 43 []] (.tup []) [sO 2 (r.map Ref.row)]:=by
 unfold bk at h;split at h
 .exact mH N a0 r h
 .rename_i hne;obtain⟨h1,h2,h3,rfl⟩:=RJ h;refine abk BH 2 oZh Tryz.isAgg52 Tryz.sizeOf52 pX (fun _=>rfl) (fun x v hv=>by simp only[pX,cF,nG,or_false]at hv;rcases hv with rfl|rfl<;>rfl) Ref.row (fun _=>rfl) rfl (enters_of func42 oZc rfl) (enters_of func43 oZc rfl) h2 (fun x y=>⟨true,?_⟩) (fun e=>hne (by rw[e];rfl)) h3
  obtain⟨z,hz⟩:=h1 x y;have hw:=Nh N x y  z hz;show Con prog 43 [] true _ (vI ((jF N x y ).getD 0));rw[hz];exact hw
@[go_sem] def jW(N:Nat):FnL:=⟨1,fun cs rest=>match cs,rest with
 | [v0],[.clo 43 []]=>(It 2 Ref.dec v0).bind fun q0 =>  (bk N q0).map fun r=>(.tup [],[sO 2 (r.map Ref.row)])
 | _,_=>none,false⟩
def Ai(N:Nat):B1 prog 42 (jW N):=by
 refine Ov (xv _) rfl ?_;intro cs rest r ls hlen h;simp only[jW]at h;split at h
 .simp only[cv,cq]at h;obtain⟨q0,h0,r',hr,he⟩:=h;cases he;exact qe.told rfl rfl (DK (Dv Ref.row_ok Ref.dec_le h0) (GJ)) (LeL.cons (Le.clo (LeL.nil)) (LeL.nil)) (Cd N q0 r' hr)
 .cases h
@[go_sem] def Pf(N d f:Nat):Option FnL:=FY [(20,42,jW N)] d f
@[go_sem] def EP(N:Nat):FnS:=⟨[],true,fn1 Txn.decA fun q0=>(fD N q0).map fun r=>sF 2 (r.map Ref.row),false⟩
def uW(N:Nat):ar prog 13 (EP N):=om1 fun a0 _ h=>by
 refine Zo (L:=(Pf N)) func13 rfl oZh oZc (gc 22 (Ht N) gn) (lc 20 (Ai N) ln) [] mix (cU rfl) ?_;simp only[f13];unfold fD at h;refine z0 ?_;refine z0 ?_;refine z0 ?_;refine aK (dc fun hreal2=>?_);have hl1:=hreal2.lenT 7 oZh oZa;rw[cr]at hl1;refine fb (fun(v3:Nat) (b:List Ref)=>⟨tab 23 (af (af (af (af au 3 (.pal 17 [] 0 b.length none)) 7 (sF 4 (a0.Calls.map ah.row))) 8 (vI (a0.Calls.length:Int))) 9 (vI (v3:Int))),(upd RZ 17 (sO 2 (b.map Ref.row)))⟩) [] h ?_ ?_
 .refine aM.trans (fm 3 17 2 oZb oZb) ?_;refine wr ?_ ?_<;>repeat' first|rfl|constructor|simp only[go_sem,seval,cY,cL,nj,nk]
 rintro v3 l2 hi3 h -;rcases(dj a0.Calls v3 hi3)with⟨x6,hi3',hx4,hd6⟩|⟨hi3',_,hd6⟩
 .rw[hd6]at h;simp only[iX]at h;have hw5:=bn hi3' hl1;refine z2 ?_;refine ct ?_;refine z2 ?_;obtain⟨ha7,h⟩:=bq h;simp only[cn,cw,cy,Nat.reduceAdd]at ha7;refine z2 ?_;refine z2 ?_;refine⟨hi3',(l2++[x6.Target]),?_,h⟩;refine wr ?_ ?_<;>repeat' first|rfl|constructor|simp only[go_sem,seval]
 rw[hd6]at h;simp only[iX]at h;refine z2 ?_;refine cf ?_;refine eV (pp ?_);unfold iG at h;obtain⟨r9,hr8,h⟩:=bI h;refine z1 (k2 hr8 (pK N l2 r9 hr8)) ?_;obtain⟨r10,hr9,h⟩:=bI h;refine z1 (k2 (cT (aiL (pK N l2 r9 hr8))) hr9) ?_;exact go
@[go_sem] def Fg(N:Nat):FnS:=⟨[],false,fn1 ae.decA fun q0=>(lI N q0).map fun r=>.tup [.agg (ae.row r.1),sF 9 (r.2.map aB.row)],false⟩
def BV(N:Nat):ar prog 28 (Fg N):=om1 fun _ _ h=>by
 refine DD func28 rfl oZh oZc (gc 14 (gv N) (gc 18 (R5 N) (gc 22 (yW N) (gc 40 (yO N) (gc 43 (uW N) (gc 54 (th N) (gc 62 (wk N) (gc 72 (IF N) gn)))))))) [(71,false)] mix (cU rfl) ?_;simp only[f28];unfold lI at h;refine z0 ?_;obtain⟨r1,hr1,h⟩:=bI h;refine z2 ?_;refine cM h (fun hc2 h=>?_) fun hc2 h=>?_
 .exact go
 obtain⟨r2,hr3,h⟩:=bI h;refine z2 ?_;refine z0 ?_;refine aK (dw (fun(b:List Txn×List ai×List aa×List aB)=>⟨tab 77 (af (af (af au 2 (pF 2)) 4 (pF 4)) 5 (.pal 76 [] 0 b.2.2.2.length none)),(upd (upd (upd RZ 2 (vA 3 [.val (.slice none 0 0),.val (.slice none 0 0),.val (.slice none 0 0)])) 4 (vA 3 [sF 11 (b.1.map Txn.row),sF 4 (b.2.1.map ai.row),sF 3 (b.2.2.1.map aa.row)])) 76 (sO 9 (b.2.2.2.map aB.row)))⟩) (r2.Txns,r2.Locks,r2.Stacks,[]) h ?_ ?_)
 .refine aM.trans (fm 5 76 9 oZb oZb) ?_;exact w2
 rintro n ⟨l4,l5,l6,l7⟩ h -;cases n with
 | zero=>simp[im]at h
 | succ n=>
 simp only[im]at h;obtain⟨r3,hr4,h⟩:=bI h;refine z2 ?_;refine z0 ?_;refine cD h (fun hc5 hc5d h=>?_) fun hc5 hc5d h=>?_
 .exact go
 obtain⟨x4,hb6,hx7,h⟩:=aQ h;refine z2 ?_;obtain⟨r5,hr8,h⟩:=bI h;refine d2 ?_;obtain⟨r18,hr9,h⟩:=bI h;refine z2 ?_;refine aK (dc fun hreal11=>?_);have hl10:=hreal11.lenT 43 oZh oZa;rw[cr]at hl10;refine fb (fun(v16:Nat) (b:List aP)=>⟨tab 77 (af (af (af (af (af (af (af (af au 2 (pF 2)) 4 (pF 4)) 5 (.pal 76 [] 0 l7.length none)) 7 (pF 7)) 8 (pF 8)) 43 (sF 2 (r18.map Ref.row))) 44 (vI (r18.length:Int))) 45 (vI (v16:Int))),(upd (upd (upd (upd (upd RZ 2 (vA 3 [.val (.slice none 0 0),.val (.slice none 0 0),.val (.slice none 0 0)])) 4 (vA 3 [sF 11 (l4.map Txn.row),sF 4 (l5.map ai.row),sF 3 (l6.map aa.row)])) 7 (vA 11 (Txn.row x4))) 8 (vA 9 [vI x4.ID,vS x4.Client,vI x4.Seq,vI r5.Kind,vI r5.N,vS r5.S,sF 1 (r5.I.map (aA .i64)),sF 1 (r5.L.map dA),sO 3 (b.map aP.row)])) 76 (sO 9 (l7.map aB.row)))⟩) [] h ?_ ?_
 .refine aM.trans (yB 8 [(0,8)] 3 oZb (by simp only[go_sem,seval];try rfl)) ?_;exact w2
 rintro v16 l15 hi12 h -;rcases(dj r18 v16 hi12).symm with⟨hi12',_,hd15⟩|⟨x19,hi12',hx13,hd15⟩
 .rw[hd15]at h;simp only[m6]at h;refine z2 ?_;refine cf ?_;refine eV (pp ?_);unfold qX at h;refine eU (MO (n:=8) oZa (by simp only[fg,ek,go_sem];rfl)) ?_;obtain⟨r21,hr19,h⟩:=bI h;obtain⟨ha20,h⟩:=bq h;simp only[cn,cw,cy,Nat.reduceAdd]at ha20;refine d2 ?_;refine⟨_,cZ _,(r21.Txns,r21.Locks,r21.Stacks,(l7++[(aB.mk x4.ID x4.Client x4.Seq r5 l15)])),?_,h⟩;refine wr ?_ ?_<;>repeat' first|rfl|constructor|simp only[go_sem,seval]
 rw[hd15]at h;simp only[m6]at h;have hw14:=bn hi12' hl10;refine z2 ?_;refine ct ?_;refine z2 ?_;obtain⟨r19,hr16,h⟩:=bI h;refine z2 ?_;obtain⟨r20,hr17,h⟩:=bI h;obtain⟨ha18,h⟩:=bq h;simp only[cn,cw,cy,Nat.reduceAdd]at ha18;refine d2 ?_;refine z2 ?_;refine⟨hi12',(l15++[(aP.mk x19 r20)]),?_,h⟩;refine wr ?_ ?_<;>repeat' first|rfl|constructor|simp only[go_sem,seval]
@[go_sem] def Qk(N:Nat):FnS:=⟨[],false,fn2 ae.decA (aC .i64) fun q0 q1=>(u7 N q0 q1).map fun r=>.tup [.agg (Txn.row r.1),vB r.2],false⟩
def Lf(N:Nat):ar prog 12 (Qk N):=om2 fun _ _ _ h=>by
 refine fk func12 (gc 9 (fh N) (gc 17 (NA N) gn)) ?_;simp only[f12];exact go
@[go_sem] def M4(N:Nat):FnS:=⟨[],false,fn3 ae.decA Ref.decA (aD 5 Value.dec) fun q0 q1 q2=>(oY N q0 q1 q2).map fun r=>sF 5 (r.map Value.row),false⟩
def Io(N:Nat):ar prog 39 (M4 N):=om3 fun _ _ _ _ h=>by
 refine fk func39 (gc 10 (Aa N) (gc 40 (vc N) (gc 42 (vc N) gn))) ?_;simp only[f39];unfold oY at h;have:J1 2 0 [2,3,7] [3] (fun f (c10:Bool)=>(af f 22 (.val (.bool c10)))) (fun R _=>R):=⟨⟩;exact go
end
end Go.Proofs.YtmacaidmhchpgaaGreat
