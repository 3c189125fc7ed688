/- Walks: each function computes its model. No condition. -/
import Derived.Test.YtmacaidmhchpgaaGreatB
import Derived.Test.YtmacaidmhchpgaaGreatWA
/- Each Go function computes its model: proofs laid by a program of ours. -/
set_option linter.defProp false
set_option maxHeartbeats 40000000
set_option synthInstance.maxHeartbeats 2000000
set_option synthInstance.maxSize 4000
set_option linter.unusedSimpArgs false
set_option linter.unusedVariables false
set_option maxRecDepth 100000
namespace Go.Proofs.YtmacaidmhchpgaaGreat
open Go Go.Proofs Go.Abs Tryz
noncomputable section
@[go_sem] def Qm(N d f:Nat):Option FnS:=aw [(20,190,fo N)] d f
def RH(N:Nat)(a0:List ai)(a1:Int)(r:(List ai)× Int)(h:tv N a0 a1=some r):Con prog 120 [true,false] false [sO 4 (a0.map ai.row),vI a1] (.tup [sO 4 (r.1.map ai.row),vI r.2]):=by
 refine AW (G:=(Qm N)) (L:=noL) func120 rfl (by decide) (by kernel_rfl) (gc 20 (CG N) gn) (fun _ _ _ h=>by cases h) [] mix (ac4 rfl) ?_;rw[show gp [true,false] [sO 4 (a0.map ai.row),vI a1]=(af (af au 0 (.pal 0 [] 0 a0.length none)) 1 (vI a1))from by funext t;match t with|0=>simp[gp,ja,kd,af]|1=>rfl|t+2=>rfl];rw[show R0 [true,false] [sO 4 (a0.map ai.row),vI a1]=upd RZ 0 (sO 4 (a0.map ai.row))from by funext t;match t with|0=>rfl|1=>rfl|t+2=>rfl];simp only[f120];unfold tv at h;refine z0 ?_;obtain⟨x1,hb1,hx2,h⟩:=aI h;refine z1 (k2 hb1 hx2) ?_;refine z1 (k2 hb1 hx2) ?_;refine cD h (fun hc3 hc3d h=>?_) fun hc3 hc3d h=>?_
 .obtain⟨r2,hr4,h⟩:=bI h;refine z1 (k4 hb1 hx2 hc3d hr4) ?_;refine fb (pp ?_);cases h;simp only[go_sem,seval,hb1,hx2,hc3d,hr4,dS,E9];exact⟨_,rfl,gT.h,qW.h⟩
 obtain⟨x3,hb5,hx6,h⟩:=aI h;refine z1 (k5 hb1 hx2 hc3d hb5 hx6) ?_;refine aK ?_;obtain⟨hs7,ht8,h⟩:=Qa h;try simp only[acX]at hs7 ht8 h
 have hx10:=kz (y:=(ai.mk x1.Actor x3 x1.Waiters)) hx2;refine ki fun Z hZ=>?_;simp only[go_sem,seval,hb1,hx2,hc3d,hb5,hx6,hs7,ht8,IL ht8,adn,adt,acU,wX (row:=ai.row) (y:=(ai.mk x1.Actor x3 x1.Waiters)) (rx:=[vS x1.Actor.Type_,vS x1.Actor.Key,vI x1.Owner,sF 1 (x1.Waiters.map (ay .i64))]) (ry:=[vS x1.Actor.Type_,vS x1.Actor.Key,vI x3,sF 1 (x1.Waiters.map (ay .i64))]) hx2 rfl rfl,hx10,Fk (row:=ai.row) (rx:=[vS x1.Actor.Type_,vS x1.Actor.Key,vI x3,sF 1 (x1.Waiters.map (ay .i64))]) hx10 rfl rfl,yO (row:=ai.row) _ hx10,yF (row:=ai.row) hx10 rfl];repeat with_reducible refine eL (by kernel_rfl) ?_
 refine hZ _ (by kernel_rfl) (pp (Ws fun Z hZ=>?_));simp only[go_sem,seval,hb1,hx2,hc3d,hb5,hx6,hs7,ht8,IL ht8,adn,adt,acU,wX (row:=ai.row) (y:=(ai.mk x1.Actor x3 x1.Waiters)) (rx:=[vS x1.Actor.Type_,vS x1.Actor.Key,vI x1.Owner,sF 1 (x1.Waiters.map (ay .i64))]) (ry:=[vS x1.Actor.Type_,vS x1.Actor.Key,vI x3,sF 1 (x1.Waiters.map (ay .i64))]) hx2 rfl rfl,hx10,Fk (row:=ai.row) (rx:=[vS x1.Actor.Type_,vS x1.Actor.Key,vI x3,sF 1 (x1.Waiters.map (ay .i64))]) hx10 rfl rfl,yO (row:=ai.row) _ hx10,yF (row:=ai.row) hx10 rfl];refine hZ _ (pp (fb (pp ?_)));cases h;simp only[go_sem,seval,hb1,hx2,hc3d,hb5,hx6,hs7,ht8,IL ht8,adn,adt,acU,wX (row:=ai.row) (y:=(ai.mk x1.Actor x3 x1.Waiters)) (rx:=[vS x1.Actor.Type_,vS x1.Actor.Key,vI x1.Owner,sF 1 (x1.Waiters.map (ay .i64))]) (ry:=[vS x1.Actor.Type_,vS x1.Actor.Key,vI x3,sF 1 (x1.Waiters.map (ay .i64))]) hx2 rfl rfl,hx10,Fk (row:=ai.row) (rx:=[vS x1.Actor.Type_,vS x1.Actor.Key,vI x3,sF 1 (x1.Waiters.map (ay .i64))]) hx10 rfl rfl,yO (row:=ai.row) _ hx10,yF (row:=ai.row) hx10 rfl,dS,E9];exact⟨_,rfl,gT.h,qW.h⟩
def jX(N:Nat):FnS:={own:=[true,false],pure:=false,fn:=fun cs=>match cs with
 | [c0,c1]=>((vO 4 ai.dec) c0).bind fun q0=>((aG .i64) c1).bind fun q1=>(tv N q0 q1).map fun r=>.tup [sO 4 (r.1.map ai.row),vI r.2]
 | _=>none}
theorem Jg(N:Nat):(jX N).own=[true,false]:=rfl
theorem H3(N:Nat):(jX N).pure=false:=rfl
theorem HY(N:Nat):(jX N).peek=false:=rfl
attribute [go_sem] jX Jg H3 HY
def Cx(N:Nat):aA prog 120 (jX N):=by
 refine⟨fun cs r h=>?_,fun h=>by cases h⟩;simp only[jX]at h;split at h
 .simp only[acG,acF]at h;obtain⟨q0,h0,q1,h1,r',hr,rfl⟩:=h;exact(RH N q0 q1 r' hr).argsO rfl (jy (qi ai.row_ok ai.dec_le h0) (re (bz h1) (oa)))
 .cases h
@[go_sem] def H7(N d f:Nat):Option FnS:=aw [(12,116,lF N),(15,117,j5 N),(37,120,jX N)] d f
def IA(N:Nat)(a0:List ai)(a1:Int)(r:(List ai)×(List az))(h:lH N a0 a1=some r):Con prog 51 [] false [sF 4 (a0.map ai.row),vI a1] (.tup [sO 4 (r.1.map ai.row),sO 3 (r.2.map az.row)]):=by
 refine fk (G:=(H7 N)) func51 (gc 12 (kC N) (gc 15 (jU N) (gc 37 (Cx N) gn))) ?_;simp only[f51];unfold lH at h;refine z0 ?_;obtain⟨r1,hr1,h⟩:=bI h;refine z1 hr1 ?_;refine cM h (fun hc2 h=>?_) fun hc2 h=>?_
 .refine z1 hc2 ?_;exact f0 h
 obtain⟨r2,hr3,h⟩:=bI h;refine z1 (k2 hc2 hr3) ?_;refine z0 ?_;refine z0 ?_;refine aS (il (fun(b:List ai×List az×Int)=>⟨tab 52 (af (af (af (af au 1 (vI a1)) 6 (.pal 15 [] 0 b.1.length none)) 7 (.pal 47 [] 0 b.2.1.length none)) 8 (vI b.2.2)),(upd (upd RZ 15 (sO 4 (b.1.map ai.row))) 47 (sO 3 (b.2.1.map az.row)))⟩) (r2,[],0) h ?_ ?_)
 .refine aX.trans (j6 7 47 3 (by simp only[go_sem,seval]) (by simp only[go_sem,seval])) ?_;exact wF (k3 hr1 hc2 hr3)
 rintro n ⟨l5,l6,v7⟩ h -;cases n with
 | zero=>simp[eH]at h
 | succ n=>
 simp only[eH]at h;refine z0 ?_;refine cDs h (fun hc4 hc4d h=>?_) fun hc4 hc4d h=>?_
 .refine z1 hc4d ?_;exact f0 h
 obtain⟨x3,hb5,hx6,h⟩:=aI h;refine z1 (k2 hb5 hx6) ?_;refine cN h (fun hc7 hc7d h=>?_) fun hc7 hc7d h=>?_
 .refine z1 hc7d ?_;refine fT (pp (⟨_,adk _,(l5,l6,IntKind.i64.wrap (v7+1)),?_,h⟩));exact wF (k5 hr1 hc2 hr3 hc4d (k3 hb5 hx6 hc7d))
 refine z1 (k3 hb5 hx6 hc7d) ?_;obtain⟨r4,hr8,h⟩:=bI h;refine z1 hr8 ?_;refine z0 ?_;refine cNs h (fun hc9 hc9d h=>?_) fun hc9 hc9d h=>?_
 .refine aW (pp (⟨_,adk _,(r4.1,l6,v7),?_,h⟩));refine aX.trans (OL 6 37 [(0,0)] 15 (by decide) (by decide) (by simp only[go_sem,seval]) (by simp only[go_sem,seval];rfl) (by simp only[go_sem,seval,hc9d];rfl) (by simp) (by simp only[je,gZ,go_sem,seval];rfl) (by simp only[go_sem,seval];rfl)) ?_;exact wF (k5 hr1 hc2 hr3 hc4d (k5 hb5 hx6 hc7d hr8 hc9d))
 obtain⟨ha10,h⟩:=dE h;simp only[acT,adh,adm,Nat.reduceAdd]at ha10;refine z1 (k2 hc9d ha10) ?_;refine z0 ?_;refine⟨_,adk _,(r4.1,(l6++[(az.mk x3.Actor r4.2)]),IntKind.i64.wrap (v7+1)),?_,h⟩;refine aX.trans (OL 6 37 [(0,0)] 15 (by decide) (by decide) (by simp only[go_sem,seval]) (by simp only[go_sem,seval];rfl) (by simp only[go_sem,seval];rfl) (by simp) (by simp only[je,gZ,go_sem,seval];rfl) (by simp only[go_sem,seval];rfl)) ?_;refine wr ?_ ?_<;>repeat' first|rfl|constructor|simp only[go_sem,seval]
@[go_sem] def Ao(N:Nat):FnS:=⟨[],false,fn2 (aJ 4 ai.dec) (aG .i64) fun q0 q1=>(lH N q0 q1).map fun r=>.tup [sF 4 (r.1.map ai.row),sF 3 (r.2.map az.row)],false⟩
def E7(N:Nat):aA prog 51 (Ao N):=om2 fun q0 q1 r h=>rs (IA N q0 q1 r h)
@[go_sem] def SM(N d f:Nat):Option FnS:=aw [(13,23,kh N),(19,40,gG N),(24,48,Cp N),(27,49,B6 N),(37,50,Cm N),(50,51,Ao N)] d f
def SG(N:Nat)(a0:ae)(a1:Int)(r:ae ×(List Int)× Int)(h:kL N a0 a1=some r):Con prog 20 [] false [.agg (ae.row a0),vI a1] (.tup [.agg (ae.row r.1),sF 1 (r.2.1.map (ay .i64)),vI r.2.2]):=by
 refine fk (G:=(SM N)) func20 (gc 13 (jf N) (gc 19 (ff N) (gc 24 (GQ N) (gc 27 (Du N) (gc 37 (Ho N) (gc 50 (E7 N) gn)))))) ?_;simp only[f20];unfold kL at h;refine z0 ?_;obtain⟨r1,hr1,h⟩:=bI h;refine z1 hr1 ?_;refine cM h (fun hc2 h=>?_) fun hc2 h=>?_
 .refine z1 hc2 ?_;exact f0 h
 obtain⟨r2,hr3,h⟩:=bI h;refine z1 (k2 hc2 hr3) ?_;refine cD h (fun hc4 hc4d h=>?_) fun hc4 hc4d h=>?_
 .refine z1 hc4d ?_;exact f0 h
 obtain⟨r3,hr5,h⟩:=bI h;refine z1 (k2 hc4d hr5) ?_;obtain⟨r4,hr6,h⟩:=bI h;refine z1 hr6 ?_;refine z0 ?_;refine lTs 5 (fun(v8:Nat) (b:List ai)=>⟨tab 57 (af (af (af (af (af au 4 (pF 4)) 5 (sF 1 (r3.map (ay .i64)))) 28 (sF 1 (r3.map (ay .i64)))) 29 (vI (r3.length:Int))) 30 (vI (v8:Int))),(upd RZ 4 (vA 3 [sF 11 (r4.Txns.map Txn.row),sF 4 (b.map ai.row),sF 3 (r4.Stacks.map aa.row)]))⟩) r4.Locks h ?_ ?_
 .rintro v8 l7 x11 hi9' hx10 hw11 h;simp only[oN]at h;refine z1 hi9' ?_;refine ct ?_;refine z1 (k2 hx10 hi9') ?_;obtain⟨r13,hr13,h⟩:=bI h;refine z1 hr13 ?_;refine z1 hw11 ?_;first|refine⟨r13,?_,h⟩|refine⟨hi9',r13,?_,h⟩
  exact wR
 rintro v8 l7 hi9' h;simp only[oN]at h;refine z1 hi9' ?_;refine cf ?_;unfold Dk at h;refine z0 ?_;refine lT 5 (fun(v18:Nat) (b:List ai)=>⟨tab 57 (af (af (af (af (af au 4 (pF 4)) 5 (sF 1 (r3.map (ay .i64)))) 40 (sF 1 (r3.map (ay .i64)))) 41 (vI (r3.length:Int))) 42 (vI (v18:Int))),(upd RZ 4 (vA 3 [sF 11 (r4.Txns.map Txn.row),sF 4 (b.map ai.row),sF 3 (r4.Stacks.map aa.row)]))⟩) l7 h ?_ ?_
 .rintro v18 l17 hi16' h;simp only[oS]at h;refine z1 hi16' ?_;refine cf ?_;refine z0 ?_;exact f0 h
 rintro v18 l17 x21 hi16' hx17 hw18 h;simp only[oS]at h;refine z1 hi16' ?_;refine ct ?_;refine z1 (k2 hx17 hi16') ?_;obtain⟨r14,hr20,h⟩:=bI h;refine z1 hr20 ?_;refine z1 hw18 ?_;first|refine⟨r14.1,?_,h⟩|refine⟨hi16',r14.1,?_,h⟩
 exact wR
@[go_sem] def zC(N:Nat):FnS:=⟨[],false,fn2 ae.decA (aG .i64) fun q0 q1=>(kL N q0 q1).map fun r=>.tup [.agg (ae.row r.1),sF 1 (r.2.1.map (ay .i64)),vI r.2.2],false⟩
def z8(N:Nat):aA prog 20 (zC N):=om2 (SG N)
@[go_sem] def T9(N d f:Nat):Option FnS:=aw [(12,23,kh N),(18,24,EM N),(30,58,Cq N),(43,20,zC N),(52,59,qf N)] d f
def Uw(N:Nat)(a0:ae)(a1:Int)(r:ae×Int ×(List Int)× Int)(h:iy N a0 a1=some r):Con prog 25 [] false [.agg (ae.row a0),vI a1] (.tup [.agg (ae.row r.1),vI r.2.1,sF 1 (r.2.2.1.map (ay .i64)),vI r.2.2.2]):=by
 refine fk (G:=(T9 N)) func25 (gc 12 (jf N) (gc 18 (F6 N) (gc 30 (Hn N) (gc 43 (z8 N) (gc 52 (oR N) gn))))) ?_;simp only[f25];unfold iy at h;refine z0 ?_;obtain⟨r1,hr1,h⟩:=bI h;refine z1 hr1 ?_;refine cM h (fun hc2 h=>?_) fun hc2 h=>?_
 .refine z1 hc2 ?_;exact f0 h
 obtain⟨r2,hr3,h⟩:=bI h;refine z1 (k2 hc2 hr3) ?_;refine z0 ?_;refine cM h (fun hc4 h=>?_) fun hc4 h=>?_
 .refine z1 hc4 ?_;exact f0 h
 obtain⟨r3,hr5,h⟩:=bI h;refine z1 (k2 hc4 hr5) ?_;refine z0 ?_;refine cN h (fun hc6 hc6d h=>?_) fun hc6 hc6d h=>?_
 .refine z1 hc6d ?_;exact f0 h
 refine z1 hc6d ?_;refine cD h (fun hc7 hc7d h=>?_) fun hc7 hc7d h=>?_
 .obtain⟨r4,hr8,h⟩:=bI h;refine z1 (k2 hc7d hr8) ?_;refine z0 ?_;exact f0 h
 obtain⟨r5,hr9,h⟩:=bI h;refine z1 (k2 hc7d hr9) ?_;refine z0 ?_;refine z0 ?_;exact f0 h
@[go_sem] def Ba(N:Nat):FnS:=⟨[],false,fn2 ae.decA (aG .i64) fun q0 q1=>(iy N q0 q1).map fun r=>.tup [.agg (ae.row r.1),vI r.2.1,sF 1 (r.2.2.1.map (ay .i64)),vI r.2.2.2],false⟩
def AP(N:Nat):aA prog 25 (Ba N):=om2 (Uw N)
def Uz(N:Nat)(a0:Int)(r:Value)(h:lr N a0=some r):Con prog 34 [] true [vI a0] (.agg (Value.row r)):=by
 refine fk (G:=(aw [])) func34 gn ?_;simp only[f34];unfold lr at h;refine z0 ?_;refine z0 ?_;exact e0 h
@[go_sem] def rv(N:Nat):FnS:=⟨[],true,fn1 (aG .i64) fun q0=>(lr N q0).map fun r=>.agg (Value.row r),false⟩
def om(N:Nat):aA prog 34 (rv N):=om1 (Uz N)
@[go_sem] def QG(N d f:Nat):Option FnS:=aw [(8,43,wb N)] d f
def Rf(N:Nat)(a0:aa)(a1:Ref)(r:Int)(h:qN N a0 a1=some r):Con prog 65 [] true [.agg (aa.row a0),.agg [vS a1.Type_,vS a1.Key]] (vI r):=by
 refine fk (G:=(QG N)) func65 (gc 8 (wI N) gn) ?_;simp only[f65];unfold qN at h;refine z0 ?_;obtain⟨r1,hr1,h⟩:=bI h;refine z1 hr1 ?_;exact e0 h
@[go_sem] def Ci(N:Nat):FnS:=⟨[],true,fn2 aa.decA Ref.decA fun q0 q1=>(qN N q0 q1).map fun r=>vI r,false⟩
def DG(N:Nat):aA prog 65 (Ci N):=om2 (Rf N)
@[go_sem] def tN(N d f:Nat):Option FnS:=aw [(30,65,Ci N),(46,65,Ci N)] d f
def tp(N:Nat)(a0:List aa)(a1:Ref)(r:Int×Bool)(h:ba N a0 a1=some r):Con prog 64 [] true [sF 3 (a0.map aa.row),.agg [vS a1.Type_,vS a1.Key],.clo 65 []] (.tup [vI r.1,vB r.2]):=by
 refine fk (G:=(tN N)) func64 (gc 30 (DG N) (gc 46 (DG N) gn)) ?_;simp only[f64];unfold ba at h;refine z0 ?_;refine z0 ?_;refine z0 ?_;refine aK (aS (il (fun(b:Int×Int)=>⟨tab 49 (af (af (af (af (af (af au 0 (sF 3 (a0.map aa.row))) 2 (.clo 65 [])) 4 (pF 4)) 8 (vI (a0.length:Int))) 9 (vI b.1)) 10 (vI b.2)),(upd RZ 4 (vA 2 [vS a1.Type_,vS a1.Key]))⟩) (0,(a0.length:Int)) h ?_ ?_))
 .exact wR
 rintro n ⟨v2,v3⟩ h -;cases n with
 | zero=>simp[bf]at h
 | succ n=>
 simp only[bf]at h;refine z0 ?_;refine cDs h (fun hc1 hc1d h=>?_) fun hc1 hc1d h=>?_
 .refine fT (pp ?_);unfold bu at h;refine iD h (fun hc6 hc6d h=>?_) fun hc6 hc6d h=>?_
  .obtain⟨x11,hb7,hx8,h⟩:=aI h;obtain⟨r12,hr9,h⟩:=bI h;refine d1 (k4 hc1d hb7 hx8 hr9) ?_;exact e0 h
  refine d1 (k2 hc1d hc6d) ?_;exact e0 h
 refine z1 hc1d ?_;obtain⟨x9,hb2,hx3,h⟩:=aI h;obtain⟨r10,hr4,h⟩:=bI h;refine d1 (k3 hb2 hx3 hr4) ?_;refine cD h (fun hc5 hc5d h=>?_) fun hc5 hc5d h=>?_
 .refine z1 hc5d ?_;refine⟨_,adk _,(IntKind.i64.wrap ((IntKind.i64.wrap (kt .u64 (IntKind.u64.wrap (IntKind.i64.wrap (v2+v3))) 1))+1),v3),?_,h⟩;exact wR
 refine z1 hc5d ?_;refine⟨_,adk _,(v2,IntKind.i64.wrap (kt .u64 (IntKind.u64.wrap (IntKind.i64.wrap (v2+v3))) 1)),?_,h⟩;exact wR
@[go_sem] def gi(N:Nat):FnS:={own:=[],pure:=true,fn:=fun cs=>match cs with
 | [c0,c1,.clo 65 []]=>((aJ 3 aa.dec) c0).bind fun qc0=>(Ref.decA c1).bind fun qc1=>(ba N qc0 qc1).map fun r=>.tup [vI r.1,vB r.2]
 | _=>none}
def ra(N:Nat):aA prog 64 (gi N):=by
 refine⟨fun cs r h=>?_,fun h=>by cases h⟩;simp only[gi]at h;split at h
 .simp only[acG,acF]at h;obtain⟨q0,h0,q1,h1,r',hr,rfl⟩:=h;exact(ag (tp N q0 q1 r' hr))
 .cases h
def bT:FnS:={own:=[true,true],pure:=false,fn:=fun _=>none,peek:=true}
theorem tA:bT.own=[true,true]:=rfl
theorem sY:bT.peek=true:=rfl
theorem yd:I6 prog 137:=
 NV (fn:=f137) (tS:=26) (tR:=4) (e:=67) (size:=3) func137 rfl rfl (by kernel_rfl) (by kernel_rfl) (by kernel_rfl) (by kernel_rfl)
def ub:aA prog 137 bT:=⟨(fun cs r h=>by simp[bT]at h),fun _=>yd⟩
def dV:Env:={T:=eB prog,G:=fun d f=>if d=67/\f=137 then some bT else none}
theorem sL:dV.T=eB prog:=rfl
theorem AA(d:Nat):dV.F d=none:=rfl
theorem Ay(d f:Nat):dV.L d f=none:=rfl
theorem Av:dV.G 67 137=some bT:=rfl
def Ab:GOk prog {T:=eB prog,G:=dV.G}:=by
 refine⟨?_,fun _ _ _ h=>by cases h⟩;intro d f fs hfs;simp only[dV]at hfs;split at hfs
 .rename_i hc;obtain⟨rfl,rfl⟩:=hc;obtain rfl:=adp hfs;exact ub
 cases hfs
theorem BA:D7 prog 66 f66 f66.body.get! :=⟨func66,rfl,by decide,by kernel_rfl⟩
set_option maxHeartbeats 4000000 in
section
attribute [local go_sem] sL Nat.le_refl gh Option.map_some List.isEmpty_nil CU Nat.sub_zero dB tn
def ta{α:Type}(row:α->List C)(ok:aF row)(l:List α)(i:Nat)(x:α)(k:Nat)(r:List α)(hr:r=l.take i++[x]++l.drop i)(hi:i<=l.length)(hsz:(l.length+1)* 56<=140737488355328)(hk1:l.length<=k)(hk2:k<=maxLen):
  Con prog 66 [true,false,true] false [.sl true none 3 (some k) (l.map row),vI i,sO 3 ([x].map row)] (sO 3 (r.map row)):=by
 refine JE (E:=dV) (yY prog _) Ab mix BA (ac4 rfl) ?_;intro _;rw[vE (by simp)];rw[show gp [true,false,true] [C.sl true none 3 (some k) (l.map row),C.val (.int .i64 i),C.sl true none 3 none ([x].map row)]=(af (af (af au 0 (.pal 0 [] 0 l.length none)) 1 (vI i)) 2 (.pal 2 [] 0 1 none))from by funext t;match t with|0=>simp[gp,ja,kd,af]|1=>rfl|2=>rfl|t+3=>rfl];rw[show R0 [true,false,true] [C.sl true none 3 (some k) (l.map row),C.val (.int .i64 i),C.sl true none 3 none ([x].map row)]=upd (upd RZ 0 (C.sl true none 3 (some k) (l.map row))) 2 (C.sl true none 3 none ([x].map row))from by funext t;match t with|0=>rfl|1=>rfl|2=>rfl|t+3=>rfl];apply JF;simp only[f66,Option.get!];have hi1:(i:Int)<=(l.length:Int):=by omega
 have hi2:i<=l.length:=hi;have h10:(((1:Nat):Int)=0)=False:=by simp
 have hp:(row x).all Abs.plainCell=true:=ok.plain x;have hf:(row x).map C.frz=(row x):=ok.frz x;have hpD:(row x).all qz=true:=by have:=(aF.allD ok [x]);simpa using this
 have hw1:IntKind.i64.wrap ((l.length:Int)+((1:Nat):Int))=((l.length+1:Nat):Int):=by rw[lW (by omega) (by omega)];rfl
 have hlt0:(l.take i).length=i:=by simp;omega
 have hes:(3 != 0)=true:=rfl;have hm1:min 1 (l.length+1-i)=1:=by omega
 have hm2:min (l.length-i) (l.length+1 -(i+1))=l.length-i:=by omega
 have hm3:(l.drop i).take (l.length-i)=l.drop i:=ac3 (by simp);have hm4:i+1<=l.length+1:=by omega
 have hw2:IntKind.i64.wrap (((l.length+1:Nat):Int) -(i:Int))=((l.length+1-i:Nat):Int):=by rw[lW (by omega) (by omega)];omega
 have hw1b:IntKind.i64.wrap ((l.length:Int)+1)=((l.length+1:Nat):Int):=hw1;have hw3:IntKind.i64.wrap ((i:Int)+((1:Nat):Int))=((i+1:Nat):Int):=by rw[lW (by omega) (by omega)];rfl
 have hw3b:IntKind.i64.wrap ((i:Int)+1)=((i+1:Nat):Int):=hw3;simp only[go_sem,seval,hi2];refine La rfl ?_;simp only[go_sem,seval,sL,ae4];refine tf rfl (fun hc=>?_) (fun hc=>?_)
 .have e:i=l.length:=by omega
  subst e;simp only[go_sem,seval,AA,hp,hf,aF.allD ok,aeN,dS,hsz];refine su ok ?_;rw[hr];simp[ac3]
 .have hc1:decide ((i:Int)=(l.length:Int))=false:=decide_eq_false hc;have hlt:i<l.length:=by omega
  simp only[go_sem,seval,Q2,tk,hw1b,hc1];refine tf rfl (fun hk=>?_) (fun hk=>?_)
  .have hk1:decide (k<l.length+1)=true:=decide_eq_true hk;have hk2:k<i+(l.length+1-i):=by omega
   have e1:i+(l.length+1-i)=l.length+1:=by omega
   have hi3:(i:Int)<=((l.length+1:Nat):Int):=by omega
   have hi4:i<=l.length+1:=by omega
   obtain⟨A,hA⟩:∃A,List.map row (List.take i l)++List.replicate (l.length+1-i) [C.val (Value.string ⟨#[]⟩),C.val (Value.string ⟨#[]⟩),C.val (Value.slice none 0 0)]=A:=⟨_,rfl⟩;have hAp:bK A:=by rw[<-hA];exact jP (ga ok _) (zB _ [Value.string ⟨#[]⟩,Value.string ⟨#[]⟩,Value.slice none 0 0] (by simp[Value.oneCell']))
   have hAl:A.length=l.length+1:=by rw[<-hA,adi,acL,hlt0,ad1];omega
   obtain⟨B,hB⟩:∃B,aL A i [(row x)]=B:=⟨_,rfl⟩;have hBp:bK B:=by rw[<-hB];exact fY hAp ⟨by simp[frzRows,hf],by simp[hpD]⟩
   have hBl:B.length=l.length+1:=by rw[<-hB];simp[aL,hAl];omega
   obtain⟨D,hD⟩:∃D,aL B (i+1) (List.map row (List.drop i l))=D:=⟨_,rfl⟩;have hDp:bK D:=by rw[<-hD];exact fY hBp (ga ok _)
   have hDl:D.length=l.length+1:=by rw[<-hD];simp[aL,hBl];omega
   have hDe:D=(l.take i++[x]++l.drop i).map row:=by
    rw[<-hD,<-hB,<-hA,ael,aea,NU (A:=l.map row) (n:=l.length) (by simp) hi2 (by simp)];simp
   simp only[go_sem,seval,hi2,hp,hf,aF.frzRows ok,aF.allPlain ok,CY,tk,GR,CM,gA,Ei,Ext.all,hw2,hw1b,hw3b,af0,adt,ad1,hlt0,hm1,hm3,hm4,hk,e1,hi4,hA,hAl,hAp.1,hAp.2,hB,hBp.1,hBp.2,hD,hsz];repeat' ((with_reducible refine eL ?_ ?_);kernel_rfl)
   simp only[go_sem,seval,dS];refine su ok ?_;rw[hr,<-hDe,<-hDl,aex]
  .have hk1:decide (k<l.length+1)=false:=decide_eq_false hk;have hk2:¬k<i+(l.length+1-i):=by omega
   have hk3:l.length+1<=k:=by omega
   have e2:l.length+1-l.length=1:=by omega
   have e3:l.length<=l.length+1:=by omega
   have hi3:(i:Int)<=((l.length+1:Nat):Int):=by omega
   have hi4:i<=l.length+1:=by omega
   have hne:¬l.length+1 -(i+1)=0:=by omega
   have hne2:¬l.length-i=0:=by omega
   obtain⟨A,hA⟩:∃A,List.map row l++[[C.dead,C.dead,C.dead]]=A:=⟨_,rfl⟩;have hAp:bK A:=by rw[<-hA];exact jP (ga ok _) (Di 1 3)
   have hAl:A.length=l.length+1:=by rw[<-hA];simp
   have hm5:min (l.length+1-i) (l.length+1 -(i+1))=l.length-i:=by omega
   have hm5b:min (l.length+1-i) (l.length-i)=l.length-i:=by omega
   obtain⟨A2,hA2⟩:∃A2,(A.drop i).take (l.length-i)=A2:=⟨_,rfl⟩;have hA2e:A2=List.map row (l.drop i):=by
    rw[<-hA2,<-hA,aeT,acL,show i-l.length=0 by omega,ad4,aej,ac3 (by simp),show l.length-i -(List.drop i (List.map row l)).length=0 by simp];simp[aea]
   have hA2p:(A2.all fun r=>r.all Abs.plainCell)=true:=by rw[hA2e];exact ok.allPlain _
   have hA2f:frzRows A2=A2:=by rw[hA2e];exact ok.frzRows _
   have hA2d:bK A2:=by rw[hA2e];exact ga ok _
   obtain⟨B,hB⟩:∃B,aL A (i+1) A2=B:=⟨_,rfl⟩;have hBp:bK B:=by rw[<-hB];exact fY hAp hA2d
   have hBl:B.length=l.length+1:=by rw[<-hB];simp[aL,hAl,hA2e];omega
   obtain⟨D,hD⟩:∃D,aL B i [(row x)]=D:=⟨_,rfl⟩;have hDp:bK D:=by rw[<-hD];exact fY hBp ⟨by simp[frzRows,hf],by simp[hpD]⟩
   have hDl:D.length=l.length+1:=by rw[<-hD];simp[aL,hBl];omega
   have hDe:D=(l.take i++[x]++l.drop i).map row:=by
    rw[<-hD,<-hB,<-hA2,<-hA,KU (A:=l.map row) (n:=l.length) (by simp) hi2];simp[ael,aea]
   simp only[go_sem,seval,Ay,Av,aF.frzRows ok,aF.allD ok,AX,Jz,qG,hw1b,hw3b,adt,hm4,tA,sY,aeN,hk,hk3,e2,e3,hne2,hA,hes];refine Li rfl ?_;simp only[go_sem,seval,hp,hf,CY,GR,CM,hw3b,hm1,hm4,hi4,hAp.1,hAp.2,hA2,hA2p,hA2f,hB,hBp.1,hBp.2,hD,hm5b];repeat' ((with_reducible refine eL ?_ ?_);kernel_rfl)
   simp only[go_sem,seval,dS];refine su ok ?_;rw[hr,<-hDe,<-hDl,aex]
end
def O1(N:Nat)(a0:List aa)(a1:Int)(a2:List aa)(r:List aa)(h:bC N a0 a1 a2=some r):
  Con prog 66 [true,false,true] false [sO 3 (a0.map aa.row),vI a1,sO 3 (a2.map aa.row)] (sO 3 (r.map aa.row)):=by
 unfold bC at h;obtain⟨n,x,rfl,rfl,h1,h2,h3⟩:=BZ h;exact JI fun k hk1 hk2=>ta aa.row aa.row_ok a0 n x k r (adp h3).symm h1 h2 (by simpa using hk1) hk2
def yT{N:Nat}{a0:List aa}{a1:Int}{x:aa}{r:List aa}(h:bC N a0 a1 [x]=some r):r[a1.toNat]?=some x:=by
 unfold bC at h;obtain⟨n,y,rfl,hy,h1,h2,h3⟩:=BZ h;obtain rfl:x=y:=by simpa using hy
 obtain rfl:=adp h3;rw[acX,adv,acP (by simp only[adG];omega)];simp only[adG,afb h1,aeE,adS,acI]
def BD(N:Nat)(a0:List aa)(a1:Int)(a2:List aa)(r:List aa)(h:bC N a0 a1 a2=some r):
  Con prog 66 [true,false,true] false [sO 3 (a0.map aa.rowD),vI a1,sO 3 (a2.map aa.rowN)] (sO 3 ((r.map aa.rowD).set a1.toNat ((a2.map aa.rowN).headD []))):=by
 unfold bC at h;obtain⟨n,x,rfl,rfl,h1,h2,h3⟩:=BZ h;obtain rfl:=adp h3;have e2:((a0.take n++[x]++a0.drop n).map aa.rowD).set n (aa.rowN x)=(a0.map aa.rowD).take n++[aa.rowN x]++(a0.map aa.rowD).drop n:=by
  simp only[ac2,adP,aeD,adv];rw[<-ael,<-aea,af8 _ _ (by simp only[acL,adG];omega)];simp only[acL,adG,afb h1,aeE,adS,acV,ago]
 have:=We (P:=prog) (f:=66) (es:=3) (by1:=56) (fun α row ok l i x k r a b c d e=>ta row ok l i x k r a b c d e) (A:=a0.map aa.rowD) (rx:=aa.rowN x) (i:=n) (by simpa using h1) (by simpa using h2) (fun row hr c hc=>by obtain⟨y,_,rfl⟩:=ade.1 hr;simp only[aa.rowD,ac6,adY,or_false]at hc;rcases hc with rfl|rfl|rfl<;>rfl) (fun c hc=>by simp only[aa.rowN,ac6,adY,or_false]at hc;rcases hc with rfl|rfl|rfl<;>rfl)
 rw[<-e2]at this;exact this
def dC(N:Nat):FnS:={own:=[true,false,true],pure:=false,fn:=fun cs=>match cs with
 | [c0,c1,c2]=>(exL 3 aa.decE c0).bind fun q0=>(aG .i64 c1).bind fun q1=>(vO 3 aa.decN c2).bind fun q2=>(bC N q0 q1 q2).map fun r=>sO 3 ((r.map aa.rowD).set q1.toNat ((q2.map aa.rowN).headD []))
 | _=>none}
theorem yC(N:Nat):(dC N).own=[true,false,true]:=rfl
theorem ya(N:Nat):(dC N).pure=false:=rfl
theorem w5(N:Nat):(dC N).peek=false:=rfl
attribute [go_sem] dC yC ya w5 List.headD_cons aa.rowN aa.decN
def zi(N:Nat):aA prog 66 (dC N):=by
 refine⟨fun cs r h=>?_,fun h=>by cases h⟩;simp only[dC]at h;split at h
 .simp only[acG,acF]at h;obtain⟨q0,h0,q1,h1,q2,h2,r',hr,rfl⟩:=h;obtain rfl:=V5 aa.decE_eq h0;exact(BD N q0 q1 q2 r' hr).argsO rfl (jy ⟨ROk.refl _,fun _ h=>h⟩ (re (bz h1) (jy (qi aa.rowN_ok aa.decN_le h2) oa)))
 .cases h
@[go_sem] def Un(N d f:Nat):Option FnS:=aw [(19,23,kh N),(23,60,vo N),(28,61,lU N),(35,24,EM N),(47,62,Aq N),(52,59,qf N),(57,40,gG N),(67,63,rW N),(77,64,gi N),(89,66,dC N),(135,67,qk N)] d f
def TD(N:Nat)(a0:ae)(a1:Int)(a2:List Value)(a3:Value)(r:ae×Int)(h:lu N a0 a1 a2 a3=some r):Con prog 26 [] false [.agg (ae.row a0),vI a1,sF 5 (a2.map Value.row),.agg (Value.row a3)] (.tup [.agg [sO 11 (r.1.Txns.map Txn.row),sO 4 (r.1.Locks.map ai.row),sO 3 (r.1.Stacks.map aa.rowD)],vI r.2]):=by
 refine fk (G:=(Un N)) func26 (gc 19 (jf N) (gc 23 (zc N) (gc 28 (mj N) (gc 35 (F6 N) (gc 47 (Cs N) (gc 52 (oR N) (gc 57 (ff N) (gc 67 (tE N) (gc 77 (ra N) (gc 89 (zi N) (gc 135 (sI N) gn))))))))))) ?_;simp only[f26];unfold lu at h;refine z0 ?_;refine aK ?_;apply aQ (fun(c9:Bool)=>⟨tab 139 (af (af (af (af (af (af au 1 (vI a1)) 2 (sF 5 (a2.map Value.row))) 4 (pF 4)) 7 (pF 7)) 8 (pF 8)) 30 (vB c9)),(upd (upd (upd RZ 4 (vA 3 (ae.row a0))) 7 (vA 5 (Value.row a3))) 8 (vA 3 [.val (.slice none 0 0),.val (.slice none 0 0),.val (.slice none 0 0)]))⟩)
 .intro hJ1;obtain⟨r10,hr2,h⟩:=bI h;refine iBs h (fun hc3 h=>?_) fun hc3 h=>?_
  .refine z1 (k2 hr2 hc3) ?_;refine hJ1 _ true ?_ h;exact wR
  obtain⟨r11,hr4,h⟩:=bI h;refine iBs h (fun hc5 h=>?_) fun hc5 h=>?_
  .refine z1 (k4 hr2 hc3 hr4 hc5) ?_;refine hJ1 _ true ?_ h;exact wR
  obtain⟨r12,hr6,h⟩:=bI h;refine z1 (k5 hr2 hc3 hr4 hc5 hr6) ?_;refine hJ1 _ (!r12) ?_ h;exact wR
 intro c9 h;unfold yf at h;refine cB h (fun hc7 h=>?_) fun hc7 h=>?_
 .refine z1 hc7 ?_;exact f0 h
 refine aW (pp ?_);unfold rD at h;obtain⟨r13,hr8,h⟩:=bI h;refine z1 (k2 hc7 hr8) ?_;refine z0 ?_;refine cM h (fun hc9 h=>?_) fun hc9 h=>?_
 .refine z1 hc9 ?_;exact f0 h
 obtain⟨r14,hr10,h⟩:=bI h;refine z1 (k2 hc9 hr10) ?_;refine cN h (fun hc11 hc11d h=>?_) fun hc11 hc11d h=>?_
 .refine z1 hc11d ?_;exact f0 h
 obtain⟨r15,hr12,h⟩:=bI h;refine z1 (k2 hc11d hr12) ?_;obtain⟨r16,hr13,h⟩:=bI h;obtain⟨x17,hb14,hx15,h⟩:=aI h;refine d1 (k2 hr13 hb14) ?_;obtain⟨r18,hr16,h⟩:=bI h;have hx18:=kz (y:=(Txn.mk x17.ID x17.Born x17.Client x17.Seq x17.Calls (IntKind.i64.wrap (x17.Done+1)) x17.Last)) hx15;have hx20:=kz (y:=(Txn.mk x17.ID x17.Born x17.Client x17.Seq x17.Calls (IntKind.i64.wrap (x17.Done+1)) r18)) hx15;refine d1 (k5 hx15 hr16 (mm2 (row:=Txn.row) (y:=(Txn.mk x17.ID x17.Born x17.Client x17.Seq x17.Calls (IntKind.i64.wrap (x17.Done+1)) x17.Last)) (rx:=[vI x17.ID,vI x17.Born,vS x17.Client,vI x17.Seq,sF 4 (x17.Calls.map ah.row),vI x17.Done,vI x17.Last.Kind,vI x17.Last.N,vS x17.Last.S,sF 1 (x17.Last.I.map (ay .i64)),sF 1 (x17.Last.L.map dT)]) (ry:=[vI x17.ID,vI x17.Born,vS x17.Client,vI x17.Seq,sF 4 (x17.Calls.map ah.row),vI (IntKind.i64.wrap (x17.Done+1)),vI x17.Last.Kind,vI x17.Last.N,vS x17.Last.S,sF 1 (x17.Last.I.map (ay .i64)),sF 1 (x17.Last.L.map dT)]) hx15 rfl rfl) hx18 (mm3 (row:=Txn.row) (y0:=(Txn.mk x17.ID x17.Born x17.Client x17.Seq x17.Calls (IntKind.i64.wrap (x17.Done+1)) x17.Last)) (y:=(Txn.mk x17.ID x17.Born x17.Client x17.Seq x17.Calls (IntKind.i64.wrap (x17.Done+1)) r18)) (rx:=[vI x17.ID,vI x17.Born,vS x17.Client,vI x17.Seq,sF 4 (x17.Calls.map ah.row),vI (IntKind.i64.wrap (x17.Done+1)),vI x17.Last.Kind,vI x17.Last.N,vS x17.Last.S,sF 1 (x17.Last.I.map (ay .i64)),sF 1 (x17.Last.L.map dT)]) (ry:=[vI x17.ID,vI x17.Born,vS x17.Client,vI x17.Seq,sF 4 (x17.Calls.map ah.row),vI (IntKind.i64.wrap (x17.Done+1)),vI r18.Kind,vI r18.N,vS r18.S,sF 1 (r18.I.map (ay .i64)),sF 1 (r18.L.map dT)]) hx15 rfl rfl)) ?_;obtain⟨r19,hr21,h⟩:=bI h;refine z1 hr21 ?_;apply aQ (fun(l21:List aa)=>⟨tab 139 (af (af (af (af (af au 1 (vI a1)) 2 (sF 5 (a2.map Value.row))) 8 (pF 8)) 12 (pF 12)) 14 (vI r19.1)),(upd (upd RZ 8 (vA 3 [.val (.slice none 0 0),.val (.slice none 0 0),.val (.slice none 0 0)])) 12 (vA 3 [sO 11 ((r15.Txns.set ((r16).toNat) (Txn.mk x17.ID x17.Born x17.Client x17.Seq x17.Calls (IntKind.i64.wrap (x17.Done+1)) r18)).map Txn.row),sO 4 (r15.Locks.map ai.row),sO 3 (l21.map aa.rowD)]))⟩)
 .intro hJ22;refine z0 ?_;refine cMs h (fun hc23 h=>?_) fun hc23 h=>?_
  .refine aW (pp (hJ22 _ r15.Stacks ?_ h));exact wR
  obtain⟨r22,hr24,h⟩:=bI h;have hx25:=yT hr24;refine z1 (k2 hc23 hr24) ?_;refine mi (OH 12 [(0,2),((r19.1).toNat,2)] 3 (by simp only[go_sem,seval,yO (row:=aa.rowD) _ hx25]) (by simp only[go_sem,seval,yF (row:=aa.rowD) hx25 rfl];try rfl)) (mi (y4 (n:=12) (c':=vA 3 [sO 11 ((r15.Txns.set ((r16).toNat) (Txn.mk x17.ID x17.Born x17.Client x17.Seq x17.Calls (IntKind.i64.wrap (x17.Done+1)) r18)).map Txn.row),sO 4 (r15.Locks.map ai.row),sO 3 (r22.map aa.rowD)]) (by simp only[go_sem,seval];rfl) (by simp only[Vb (row:=aa.rowD) (rc:=[vS r13.1.Target.Type_,vS r13.1.Target.Key,sO 3 []]) hx25 rfl])) (hJ22 _ r22 ?_ h));exact wR
 intro l21 h;unfold rm at h;obtain⟨x23,hb26,hx27,h⟩:=aI h;refine z1 hb26 ?_;refine z1 hx27 ?_;apply Dw (fun(l28:List aa) (v29:Int)=>⟨tab 139 (af (af (af (af (af au 2 (sF 5 (a2.map Value.row))) 8 (pF 8)) 12 (pF 12)) 16 (.pref 12 [(0,2)] ((r19.1).toNat) 0)) 17 (vI v29)),(upd (upd RZ 8 (vA 3 [.val (.slice none 0 0),.val (.slice none 0 0),.val (.slice none 0 0)])) 12 (vA 3 [sO 11 ((r15.Txns.set ((r16).toNat) (Txn.mk x17.ID x17.Born x17.Client x17.Seq x17.Calls (IntKind.i64.wrap (x17.Done+1)) r18)).map Txn.row),sO 4 (r15.Locks.map ai.row),sO 3 (l28.map aa.rowD)]))⟩)
 .intro hJ28;apply aQ (fun(c31:Bool)=>⟨tab 139 (af (af (af (af (af (af (af au 1 (vI a1)) 2 (sF 5 (a2.map Value.row))) 8 (pF 8)) 12 (pF 12)) 16 (.pref 12 [(0,2)] ((r19.1).toNat) 0)) 17 (vI (x23.Layers.length:Int))) 114 (vB c31)),(upd (upd RZ 8 (vA 3 [.val (.slice none 0 0),.val (.slice none 0 0),.val (.slice none 0 0)])) 12 (vA 3 [sO 11 ((r15.Txns.set ((r16).toNat) (Txn.mk x17.ID x17.Born x17.Client x17.Seq x17.Calls (IntKind.i64.wrap (x17.Done+1)) r18)).map Txn.row),sO 4 (r15.Locks.map ai.row),sO 3 (l21.map aa.rowD)]))⟩)
  .intro hJ29;refine iD h (fun hc30 hc30d h=>?_) fun hc30 hc30d h=>?_
   .refine z1 hc30d ?_;refine hJ29 _ true ?_ h;exact wR
   obtain⟨x32,hb31,hx32,h⟩:=aI h;refine z1 (k4 hx27 hc30d hb31 hx32) ?_;refine hJ29 _ (!decide (x32.Txn_=a1)) ?_ h;exact wR
  intro c31 h;unfold uD at h;refine cBs h (fun hc33 h=>?_) fun hc33 h=>?_
  .refine aW (pp (hJ28 _ l21 (x23.Layers.length:Int) ?_ h));exact wR
  obtain⟨ha34,h⟩:=dE h;simp only[acT,adh,adm,Nat.reduceAdd]at ha34;refine z1 (k5 hx27 hc33 ha34 (ov1 (row:=aa.rowD) (rx:=[vS x23.Actor.Type_,vS x23.Actor.Key,sO 3 (x23.Layers.map al.row)]) hx27 rfl) (k2 (ov2 (row:=aa.rowD) hx27) (ov3 (row:=aa.rowD) hx27))) ?_;refine mi (El 12 [(0,2),((r19.1).toNat,2),(x23.Layers.length,1)] 5 (by simp only[go_sem,seval,yO (row:=aa.rowD) _ hx27,Vq]) (by simp only[go_sem,seval,yF (row:=aa.rowD) hx27 rfl,UU];try rfl)) (hJ28 _ (l21.set ((r19.1).toNat) (aa.mk x23.Actor (x23.Layers++[(al.mk a1 [] false)]))) (IntKind.i64.wrap ((x23.Layers.length:Int)+1)) ?_ h);refine aX.trans (y4 (n:=12) (c':=vA 3 [sO 11 ((r15.Txns.set ((r16).toNat) (Txn.mk x17.ID x17.Born x17.Client x17.Seq x17.Calls (IntKind.i64.wrap (x17.Done+1)) r18)).map Txn.row),sO 4 (r15.Locks.map ai.row),sO 3 ((l21.set ((r19.1).toNat) (aa.mk x23.Actor (x23.Layers++[(al.mk a1 [] false)]))).map aa.rowD)]) (by simp only[go_sem,seval];rfl) (by first|(simp only[oA (row:=aa.rowD) (l:=l21) (i:=((r19.1).toNat)) (y:=(aa.mk x23.Actor (x23.Layers++[(al.mk a1 [] false)]))) (rc:=[vS x23.Actor.Type_,vS x23.Actor.Key,sO 3 ((x23.Layers++[(al.mk a1 [] false)]).map al.row)]) rfl];done)|(simp only[oA (row:=aa.rowD) (l:=l21) (i:=((r19.1).toNat)) (y:=(aa.mk x23.Actor (x23.Layers++[(al.mk a1 [] false)]))) (rc:=[vS x23.Actor.Type_,vS x23.Actor.Key,sO 3 ((x23.Layers++[(al.mk a1 [] false)]).map al.row)]) rfl,ac2,adP,aeD]<;>rfl)|(rw[<-oA (row:=aa.rowD) (l:=l21) (i:=((r19.1).toNat)) (y:=(aa.mk x23.Actor (x23.Layers++[(al.mk a1 [] false)]))) (rc:=[vS x23.Actor.Type_,vS x23.Actor.Key,sO 3 ((x23.Layers++[(al.mk a1 [] false)]).map al.row)]) rfl];simp only[ac2,adP,aeD]<;>rfl))) (aX.trans (vR (n:=122) ([[vI a1,sF 5 [],vB false]]) (by(try simp only[go_sem]);rfl) (by simp only[go_sem,seval];rfl) (by simp only[je,gZ,go_sem];rfl)) ?_)
  exact wR
 intro l28 v29 h;unfold ym at h;obtain⟨x33,hb35,hx36,h⟩:=aI h;obtain⟨r34,hr37,h⟩:=bI h;obtain⟨x35,hb38,hx39,h⟩:=aI h;have hx41:=kz (y:=(al.mk x35.Txn_ r34 x35.Prepared)) hx39;refine d1 (k5 hx36 hr37 hb38 hx39 (k2 (mm2 (row:=al.row) (y:=(al.mk x35.Txn_ r34 x35.Prepared)) (rx:=[vI x35.Txn_,sF 5 (x35.Fields.map Value.row),vB x35.Prepared]) (ry:=[vI x35.Txn_,sF 5 (r34.map Value.row),vB x35.Prepared]) hx39 rfl rfl) (ov1 (row:=aa.rowD) (rx:=[vS x33.Actor.Type_,vS x33.Actor.Key,sO 3 (x33.Layers.map al.row)]) hx36 rfl))) ?_;refine aK ?_;refine mi (y4 (n:=12) (c':=vA 3 [sO 11 ((r15.Txns.set ((r16).toNat) (Txn.mk x17.ID x17.Born x17.Client x17.Seq x17.Calls (IntKind.i64.wrap (x17.Done+1)) r18)).map Txn.row),sO 4 (r15.Locks.map ai.row),sO 3 ((l28.set ((r19.1).toNat) (aa.mk x33.Actor (x33.Layers.set ((IntKind.i64.wrap (v29-1)).toNat) (al.mk x35.Txn_ r34 x35.Prepared)))).map aa.rowD)]) (by simp only[go_sem,seval];rfl) (by first|(simp only[oA (row:=aa.rowD) (l:=l28) (i:=((r19.1).toNat)) (y:=(aa.mk x33.Actor (x33.Layers.set ((IntKind.i64.wrap (v29-1)).toNat) (al.mk x35.Txn_ r34 x35.Prepared)))) (rc:=[vS x33.Actor.Type_,vS x33.Actor.Key,sO 3 ((x33.Layers.set ((IntKind.i64.wrap (v29-1)).toNat) (al.mk x35.Txn_ r34 x35.Prepared)).map al.row)]) rfl];done)|(simp only[oA (row:=aa.rowD) (l:=l28) (i:=((r19.1).toNat)) (y:=(aa.mk x33.Actor (x33.Layers.set ((IntKind.i64.wrap (v29-1)).toNat) (al.mk x35.Txn_ r34 x35.Prepared)))) (rc:=[vS x33.Actor.Type_,vS x33.Actor.Key,sO 3 ((x33.Layers.set ((IntKind.i64.wrap (v29-1)).toNat) (al.mk x35.Txn_ r34 x35.Prepared)).map al.row)]) rfl,ac2,adP,aeD]<;>rfl)|(rw[<-oA (row:=aa.rowD) (l:=l28) (i:=((r19.1).toNat)) (y:=(aa.mk x33.Actor (x33.Layers.set ((IntKind.i64.wrap (v29-1)).toNat) (al.mk x35.Txn_ r34 x35.Prepared)))) (rc:=[vS x33.Actor.Type_,vS x33.Actor.Key,sO 3 ((x33.Layers.set ((IntKind.i64.wrap (v29-1)).toNat) (al.mk x35.Txn_ r34 x35.Prepared)).map al.row)]) rfl];simp only[ac2,adP,aeD]<;>rfl))) (z0 ?_)
 exact f0 h
@[go_sem] def Bg(N:Nat):FnS:=⟨[],false,fn4 ae.decA (aG .i64) (aJ 5 Value.dec) Value.decA fun q0 q1 q2 q3=>(lu N q0 q1 q2 q3).map fun r=>.tup [.agg (ae.row r.1),vI r.2],false⟩
def AO(N:Nat):aA prog 26 (Bg N):=om4 fun q0 q1 q2 q3 r h=>rs (TD N q0 q1 q2 q3 r h)
@[go_sem] def MG(N d f:Nat):Option FnS:=aw [(12,116,lF N),(16,124,pG N),(21,125,rV N),(27,126,yr N),(43,117,j5 N),(45,120,jX N)] d f
def MF(N:Nat)(a0:List ai)(a1:Ref)(a2:Int)(r:(List ai)× Int×Int)(h:mE N a0 a1 a2=some r):Con prog 70 [] false [sF 4 (a0.map ai.row),.agg [vS a1.Type_,vS a1.Key],vI a2] (.tup [sO 4 (r.1.map ai.row),vI r.2.1,vI r.2.2]):=by
 refine fk (G:=(MG N)) func70 (gc 12 (kC N) (gc 16 (rh N) (gc 21 (tg N) (gc 27 (yE N) (gc 43 (jU N) (gc 45 (Cx N) gn)))))) ?_;simp only[f70];unfold mE at h;refine z0 ?_;refine aK ?_;apply aQ (fun(c9:Bool)=>⟨tab 50 (af (af (af (af au 0 (sF 4 (a0.map ai.row))) 2 (vI a2)) 4 (pF 4)) 23 (vB c9)),(upd RZ 4 (vA 2 [vS a1.Type_,vS a1.Key]))⟩)
 .intro hJ1;obtain⟨r10,hr2,h⟩:=bI h;refine iBs h (fun hc3 h=>?_) fun hc3 h=>?_
  .refine z1 (k2 hr2 hc3) ?_;refine hJ1 _ true ?_ h;exact wR
  obtain⟨r11,hr4,h⟩:=bI h;refine iBs h (fun hc5 h=>?_) fun hc5 h=>?_
  .refine z1 (k4 hr2 hc3 hr4 hc5) ?_;refine hJ1 _ true ?_ h;exact wR
  obtain⟨r12,hr6,h⟩:=bI h;refine z1 (k5 hr2 hc3 hr4 hc5 hr6) ?_;refine hJ1 _ (!r12) ?_ h;exact wR
 intro c9 h;unfold pB at h;refine cB h (fun hc7 h=>?_) fun hc7 h=>?_
 .refine z1 hc7 ?_;exact f0 h
 refine aW (pp ?_);unfold oQ at h;obtain⟨r13,hr8,h⟩:=bI h;refine z1 (k2 hc7 hr8) ?_;refine aK ?_;apply aQ (fun(c18:Bool)=>⟨tab 50 (af (af (af au 0 (sF 4 (a0.map ai.row))) 9 (vI r13.1)) 40 (vB c18)),RZ⟩)
 .intro hJ9;refine iBs h (fun hc10 h=>?_) fun hc10 h=>?_
  .refine z1 hc10 ?_;refine hJ9 _ true ?_ h;exact wR
  obtain⟨x19,hb11,hx12,h⟩:=aI h;refine z1 (k3 hc10 hb11 hx12) ?_;refine hJ9 _ (!decide (x19.Owner=a2)) ?_ h;exact wR
 intro c18 h;unfold lq at h;refine cB h (fun hc13 h=>?_) fun hc13 h=>?_
 .refine z1 hc13 ?_;exact f0 h
 refine aW (pp ?_);unfold tD at h;obtain⟨r20,hr14,h⟩:=bI h;obtain⟨r21,hr15,h⟩:=bI h;refine z1 (k3 hc13 hr14 hr15) ?_;refine z0 ?_;exact f0 h
@[go_sem] def Cr(N:Nat):FnS:=⟨[],false,fn3 (aJ 4 ai.dec) Ref.decA (aG .i64) fun q0 q1 q2=>(mE N q0 q1 q2).map fun r=>.tup [sO 4 (r.1.map ai.row),vI r.2.1,vI r.2.2],false⟩
def Hi(N:Nat):aA prog 70 (Cr N):=om3 (MF N)
@[go_sem] def OP(N d f:Nat):Option FnS:=aw [(14,23,kh N),(19,40,gG N),(30,68,Au N),(53,69,sW N),(60,59,qf N),(65,46,vD N),(80,70,Cr N)] d f
def OY(N:Nat)(a0:ae)(a1:Int)(a2:Ref)(r:ae×Int)(h:fW N a0 a1 a2=some r):Con prog 27 [] false [.agg (ae.row a0),vI a1,.agg [vS a2.Type_,vS a2.Key]] (.tup [.agg [sF 11 (r.1.Txns.map Txn.row),sO 4 (r.1.Locks.map ai.row),sF 3 (r.1.Stacks.map aa.row)],vI r.2]):=by
 refine fk (G:=(OP N)) func27 (gc 14 (jf N) (gc 19 (ff N) (gc 30 (Cu N) (gc 53 (qt N) (gc 60 (oR N) (gc 65 (uW N) (gc 80 (Hi N) gn))))))) ?_;simp only[f27];unfold fW at h;refine z0 ?_;obtain⟨r1,hr1,h⟩:=bI h;refine z1 hr1 ?_;refine cM h (fun hc2 h=>?_) fun hc2 h=>?_
 .refine z1 hc2 ?_;exact f0 h
 obtain⟨r2,hr3,h⟩:=bI h;refine z1 (k2 hc2 hr3) ?_;refine aK ?_;apply aQ (fun(c9:Bool)=>⟨tab 86 (af (af (af (af (af (af au 1 (vI a1)) 3 (pF 3)) 5 (pF 5)) 6 (pF 6)) 8 (vI r2)) 32 (vB c9)),(upd (upd (upd RZ 3 (vA 3 (ae.row a0))) 5 (vA 2 [vS a2.Type_,vS a2.Key])) 6 (vA 3 [.val (.slice none 0 0),.val (.slice none 0 0),.val (.slice none 0 0)]))⟩)
 .intro hJ4;refine iD h (fun hc5 hc5d h=>?_) fun hc5 hc5d h=>?_
  .refine d1 hc5d ?_;refine hJ4 _ true ?_ h;exact wR
  obtain⟨x10,hb6,hx7,h⟩:=aI h;obtain⟨r11,hr8,h⟩:=bI h;refine d1 (k4 hc5d hb6 hx7 hr8) ?_;refine hJ4 _ (!r11) ?_ h;exact wR
 intro c9 h;unfold iS at h;refine cB h (fun hc9 h=>?_) fun hc9 h=>?_
 .refine z1 hc9 ?_;exact f0 h
 refine aW (pp ?_);unfold kZ at h;obtain⟨x12,hb10,hx11,h⟩:=aI h;refine d1 (k3 hc9 hb10 hx11) ?_;refine cD h (fun hc12 hc12d h=>?_) fun hc12 hc12d h=>?_
 .refine z1 hc12d ?_;exact f0 h
 obtain⟨r13,hr13,h⟩:=bI h;refine z1 (k2 hc12d hr13) ?_;refine z0 ?_;refine cB h (fun hc14 h=>?_) fun hc14 h=>?_
 .refine z1 hc14 ?_;exact f0 h
 obtain⟨r14,hr15,h⟩:=bI h;refine z1 (k2 hc14 hr15) ?_;obtain⟨r15,hr16,h⟩:=bI h;obtain⟨x16,hb17,hx18,h⟩:=aI h;refine d1 (k3 hr16 hb17 hx18) ?_;obtain⟨x17,hb19,hx20,h⟩:=aI h;have hx22:=kz (y:=(al.mk x17.Txn_ x17.Fields true)) hx20;refine z1 (k5 hx18 hb19 hx20 (mm2 (row:=al.row) (y:=(al.mk x17.Txn_ x17.Fields true)) (rx:=[vI x17.Txn_,sF 5 (x17.Fields.map Value.row),vB x17.Prepared]) (ry:=[vI x17.Txn_,sF 5 (x17.Fields.map Value.row),vB true]) hx20 rfl rfl) (ov1 (row:=aa.rowD) (rx:=[vS x16.Actor.Type_,vS x16.Actor.Key,sO 3 (x16.Layers.map al.row)]) hx18 rfl)) ?_;refine aK ?_;refine mi (y4 (n:=11) (c':=vA 3 [sO 11 (r14.Txns.map Txn.row),sO 4 (r14.Locks.map ai.row),sO 3 ((r14.Stacks.set ((r15).toNat) (aa.mk x16.Actor (x16.Layers.set ((IntKind.i64.wrap ((x16.Layers.length:Int)-1)).toNat) (al.mk x17.Txn_ x17.Fields true)))).map aa.rowD)]) (by simp only[go_sem,seval];rfl) (by first|(simp only[oA (row:=aa.rowD) (l:=r14.Stacks) (i:=((r15).toNat)) (y:=(aa.mk x16.Actor (x16.Layers.set ((IntKind.i64.wrap ((x16.Layers.length:Int)-1)).toNat) (al.mk x17.Txn_ x17.Fields true)))) (rc:=[vS x16.Actor.Type_,vS x16.Actor.Key,sO 3 ((x16.Layers.set ((IntKind.i64.wrap ((x16.Layers.length:Int)-1)).toNat) (al.mk x17.Txn_ x17.Fields true)).map al.row)]) rfl];done)|(simp only[oA (row:=aa.rowD) (l:=r14.Stacks) (i:=((r15).toNat)) (y:=(aa.mk x16.Actor (x16.Layers.set ((IntKind.i64.wrap ((x16.Layers.length:Int)-1)).toNat) (al.mk x17.Txn_ x17.Fields true)))) (rc:=[vS x16.Actor.Type_,vS x16.Actor.Key,sO 3 ((x16.Layers.set ((IntKind.i64.wrap ((x16.Layers.length:Int)-1)).toNat) (al.mk x17.Txn_ x17.Fields true)).map al.row)]) rfl,ac2,adP,aeD]<;>rfl)|(rw[<-oA (row:=aa.rowD) (l:=r14.Stacks) (i:=((r15).toNat)) (y:=(aa.mk x16.Actor (x16.Layers.set ((IntKind.i64.wrap ((x16.Layers.length:Int)-1)).toNat) (al.mk x17.Txn_ x17.Fields true)))) (rc:=[vS x16.Actor.Type_,vS x16.Actor.Key,sO 3 ((x16.Layers.set ((IntKind.i64.wrap ((x16.Layers.length:Int)-1)).toNat) (al.mk x17.Txn_ x17.Fields true)).map al.row)]) rfl];simp only[ac2,adP,aeD]<;>rfl))) (mi (PE (n:=11) (by simp only[go_sem,seval];rfl) (by simp only[je,gZ,go_sem];rfl)) ?_)
 obtain⟨r18,hr23,h⟩:=bI h;refine z1 hr23 ?_;refine z0 ?_;exact f0 h
@[go_sem] def we(N:Nat):FnS:=⟨[],false,fn3 ae.decA (aG .i64) Ref.decA fun q0 q1 q2=>(fW N q0 q1 q2).map fun r=>.tup [.agg (ae.row r.1),vI r.2],false⟩
def wS(N:Nat):aA prog 27 (we N):=om3 fun q0 q1 q2 r h=>rs (OY N q0 q1 q2 r h)
@[go_sem] def Rw(N d f:Nat):Option FnS:=aw [(8,46,vD N),(17,47,uM N)] d f
def Qi(N:Nat)(a0:ae)(a1:Ref)(r:List al)(h:lL N a0 a1=some r):Con prog 15 [] false [.agg (ae.row a0),.agg [vS a1.Type_,vS a1.Key]] (sO 3 (r.map al.row)):=by
 refine fk (G:=(Rw N)) func15 (gc 8 (uW N) (gc 17 (yb N) gn)) ?_;simp only[f15];unfold lL at h;refine z0 ?_;obtain⟨r1,hr1,h⟩:=bI h;refine z1 hr1 ?_;refine z0 ?_;refine cD h (fun hc2 hc2d h=>?_) fun hc2 hc2d h=>?_
 .obtain⟨x2,hb3,hx4,h⟩:=aI h;obtain⟨r3,hr5,h⟩:=bI h;refine z1 (k3 hb3 hx4 hr5) ?_;exact f0 h
 refine z1 hc2d ?_;exact f0 h
@[go_sem] def Cd(N:Nat):FnS:=⟨[],false,fn2 ae.decA Ref.decA fun q0 q1=>(lL N q0 q1).map fun r=>sF 3 (r.map al.row),false⟩
def C7(N:Nat):aA prog 15 (Cd N):=om2 fun q0 q1 r h=>rs (Qi N q0 q1 r h)
@[go_sem] def KE(N d f:Nat):Option FnS:=aw [(13,69,sW N)] d f
def LD(N:Nat)(a0:ah)(c0_0:List Txn)(c0_1:List ai)(c0_2:List aa)(c1_0:Int)(c1_1:Int)(c1_2:ByteArray)(c1_3:Int)(c1_4:List ah)(c1_5:Int)(c1_6:Int)(c1_7:Int)(c1_8:ByteArray)(c1_9:List Int)(c1_10:List ByteArray)(r:Bool)(h:kY N a0 c0_0 c0_1 c0_2 c1_0 c1_1 c1_2 c1_3 c1_4 c1_5 c1_6 c1_7 c1_8 c1_9 c1_10=some r):Con prog 142 [] true [.agg (ah.row a0),.iref 3 [[sF 11 (c0_0.map Txn.row),sF 4 (c0_1.map ai.row),sF 3 (c0_2.map aa.row)]] 0 0,.iref 11 [[vI c1_0,vI c1_1,vS c1_2,vI c1_3,sF 4 (c1_4.map ah.row),vI c1_5,vI c1_6,vI c1_7,vS c1_8,sF 1 (c1_9.map (ay .i64)),sF 1 (c1_10.map dT)]] 0 0] (vB r):=by
 refine fk (G:=(KE N)) func142 (gc 13 (qt N) gn) ?_;simp only[f142];unfold kY at h;refine z0 ?_;obtain⟨r1,hr1,h⟩:=bI h;refine z1 hr1 ?_;refine iBs h (fun hc2 h=>?_) fun hc2 h=>?_
 .refine z1 hc2 ?_;exact e0 h
 refine z1 hc2 ?_;exact e0 h
@[go_sem] def wO(N:Nat):FnS:={own:=[],pure:=true,fn:=fun cs=>match cs with
 | [c0,.iref 3 [[c1_0,c1_1,c1_2]] 0 0,.iref 11 [[c2_0,c2_1,c2_2,c2_3,c2_4,c2_5,c2_6,c2_7,c2_8,c2_9,c2_10]] 0 0]=>(ah.decA c0).bind fun qc0=>((aJ 11 Txn.dec) c1_0).bind fun qc1_0=>((aJ 4 ai.dec) c1_1).bind fun qc1_1=>((aJ 3 aa.dec) c1_2).bind fun qc1_2=>((aG .i64) c2_0).bind fun qc2_0=>((aG .i64) c2_1).bind fun qc2_1=>(bW c2_2).bind fun qc2_2=>((aG .i64) c2_3).bind fun qc2_3=>((aJ 4 ah.dec) c2_4).bind fun qc2_4=>((aG .i64) c2_5).bind fun qc2_5=>((aG .i64) c2_6).bind fun qc2_6=>((aG .i64) c2_7).bind fun qc2_7=>(bW c2_8).bind fun qc2_8=>((aJ 1 (du (aG .i64))) c2_9).bind fun qc2_9=>((aJ 1 (du bW)) c2_10).bind fun qc2_10=>(kY N qc0 qc1_0 qc1_1 qc1_2 qc2_0 qc2_1 qc2_2 qc2_3 qc2_4 qc2_5 qc2_6 qc2_7 qc2_8 qc2_9 qc2_10).map fun r=>vB r
 | _=>none}
def Hc(N:Nat):aA prog 142 (wO N):=by
 refine⟨fun cs r h=>?_,fun h=>by cases h⟩;simp only[wO]at h;split at h
 .simp only[acG,acF]at h;obtain⟨q0,h0,q1,h1,q2,h2,q3,h3,q4,h4,q5,h5,q6,h6,q7,h7,q8,h8,q9,h9,q10,h10,q11,h11,q12,h12,q13,h13,q14,h14,r',hr,rfl⟩:=h;exact(ag (LD N q0 q1 q2 q3 q4 q5 q6 q7 q8 q9 q10 q11 q12 q13 q14 r' hr))
 .cases h
@[go_sem] def rJ(N d f:Nat):Option FnS:=aw [(16,142,wO N)] d f
def rO(N:Nat)(a0:List ah)(k1_0_0:List Txn)(k1_0_1:List ai)(k1_0_2:List aa)(k1_1_0:Int)(k1_1_1:Int)(k1_1_2:ByteArray)(k1_1_3:Int)(k1_1_4:List ah)(k1_1_5:Int)(k1_1_6:Int)(k1_1_7:Int)(k1_1_8:ByteArray)(k1_1_9:List Int)(k1_1_10:List ByteArray)(r:Int)(h:b8 N a0 k1_0_0 k1_0_1 k1_0_2 k1_1_0 k1_1_1 k1_1_2 k1_1_3 k1_1_4 k1_1_5 k1_1_6 k1_1_7 k1_1_8 k1_1_9 k1_1_10=some r):Con prog 203 [] true [sF 4 (a0.map ah.row),.clo 142 [.iref 3 [[sF 11 (k1_0_0.map Txn.row),sF 4 (k1_0_1.map ai.row),sF 3 (k1_0_2.map aa.row)]] 0 0,.iref 11 [[vI k1_1_0,vI k1_1_1,vS k1_1_2,vI k1_1_3,sF 4 (k1_1_4.map ah.row),vI k1_1_5,vI k1_1_6,vI k1_1_7,vS k1_1_8,sF 1 (k1_1_9.map (ay .i64)),sF 1 (k1_1_10.map dT)]] 0 0]] (vI r):=by
 refine fk (G:=(rJ N)) func203 (gc 16 (Hc N) gn) ?_;simp only[f203];unfold b8 at h;refine z0 ?_;refine z0 ?_;refine lT 0 (fun(v2:Nat) (b:Unit)=>⟨tab 19 (af (af (af (af au 0 (sF 4 (a0.map ah.row))) 1 (.clo 142 [.iref 3 [[sF 11 (k1_0_0.map Txn.row),sF 4 (k1_0_1.map ai.row),sF 3 (k1_0_2.map aa.row)]] 0 0,.iref 11 [[vI k1_1_0,vI k1_1_1,vS k1_1_2,vI k1_1_3,sF 4 (k1_1_4.map ah.row),vI k1_1_5,vI k1_1_6,vI k1_1_7,vS k1_1_8,sF 1 (k1_1_9.map (ay .i64)),sF 1 (k1_1_10.map dT)]] 0 0])) 7 (vI (a0.length:Int))) 8 (vI (v2:Int))),RZ⟩) () h ?_ ?_
 .rintro v2 ⟨⟩ hi3' h;simp only[bE]at h;refine z1 hi3' ?_;refine cf ?_;refine z0 ?_;exact e0 h
 rintro v2 ⟨⟩ x5 hi3' hx4 hw5 h;simp only[bE]at h;refine z1 hi3' ?_;refine ct ?_;refine z0 ?_;obtain⟨r1,hr7,h⟩:=bI h;refine z1 (k3 hx4 hi3' hr7) ?_;refine cB h (fun hc8 h=>?_) fun hc8 h=>?_
 .refine z1 hc8 ?_;exact e0 h
 refine z1 (k2 hw5 hc8) ?_;first|refine⟨(),?_,h⟩|refine⟨hi3',(),?_,h⟩
 exact wR
@[go_sem] def fy(N:Nat):FnS:={own:=[],pure:=true,fn:=fun cs=>match cs with
 | [c0,.clo 142 [.iref 3 [[k1_0_0,k1_0_1,k1_0_2]] 0 0,.iref 11 [[k1_1_0,k1_1_1,k1_1_2,k1_1_3,k1_1_4,k1_1_5,k1_1_6,k1_1_7,k1_1_8,k1_1_9,k1_1_10]] 0 0]]=>((aJ 4 ah.dec) c0).bind fun qc0=>((aJ 11 Txn.dec) k1_0_0).bind fun qk1_0_0=>((aJ 4 ai.dec) k1_0_1).bind fun qk1_0_1=>((aJ 3 aa.dec) k1_0_2).bind fun qk1_0_2=>((aG .i64) k1_1_0).bind fun qk1_1_0=>((aG .i64) k1_1_1).bind fun qk1_1_1=>(bW k1_1_2).bind fun qk1_1_2=>((aG .i64) k1_1_3).bind fun qk1_1_3=>((aJ 4 ah.dec) k1_1_4).bind fun qk1_1_4=>((aG .i64) k1_1_5).bind fun qk1_1_5=>((aG .i64) k1_1_6).bind fun qk1_1_6=>((aG .i64) k1_1_7).bind fun qk1_1_7=>(bW k1_1_8).bind fun qk1_1_8=>((aJ 1 (du (aG .i64))) k1_1_9).bind fun qk1_1_9=>((aJ 1 (du bW)) k1_1_10).bind fun qk1_1_10=>(b8 N qc0 qk1_0_0 qk1_0_1 qk1_0_2 qk1_1_0 qk1_1_1 qk1_1_2 qk1_1_3 qk1_1_4 qk1_1_5 qk1_1_6 qk1_1_7 qk1_1_8 qk1_1_9 qk1_1_10).map fun r=>vI r
 | _=>none}
def pP(N:Nat):aA prog 203 (fy N):=by
 refine⟨fun cs r h=>?_,fun h=>by cases h⟩;simp only[fy]at h;split at h
 .simp only[acG,acF]at h;obtain⟨q0,h0,q1,h1,q2,h2,q3,h3,q4,h4,q5,h5,q6,h6,q7,h7,q8,h8,q9,h9,q10,h10,q11,h11,q12,h12,q13,h13,q14,h14,r',hr,rfl⟩:=h;exact(ag (rO N q0 q1 q2 q3 q4 q5 q6 q7 q8 q9 q10 q11 q12 q13 q14 r' hr))
 .cases h
@[go_sem] def pR(N d f:Nat):Option FnS:=aw [(7,203,fy N)] d f
def pT(N:Nat)(a0:List ah)(k1_0_0:List Txn)(k1_0_1:List ai)(k1_0_2:List aa)(k1_1_0:Int)(k1_1_1:Int)(k1_1_2:ByteArray)(k1_1_3:Int)(k1_1_4:List ah)(k1_1_5:Int)(k1_1_6:Int)(k1_1_7:Int)(k1_1_8:ByteArray)(k1_1_9:List Int)(k1_1_10:List ByteArray)(r:Bool)(h:bD N a0 k1_0_0 k1_0_1 k1_0_2 k1_1_0 k1_1_1 k1_1_2 k1_1_3 k1_1_4 k1_1_5 k1_1_6 k1_1_7 k1_1_8 k1_1_9 k1_1_10=some r):Con prog 140 [] true [sF 4 (a0.map ah.row),.clo 142 [.iref 3 [[sF 11 (k1_0_0.map Txn.row),sF 4 (k1_0_1.map ai.row),sF 3 (k1_0_2.map aa.row)]] 0 0,.iref 11 [[vI k1_1_0,vI k1_1_1,vS k1_1_2,vI k1_1_3,sF 4 (k1_1_4.map ah.row),vI k1_1_5,vI k1_1_6,vI k1_1_7,vS k1_1_8,sF 1 (k1_1_9.map (ay .i64)),sF 1 (k1_1_10.map dT)]] 0 0]] (vB r):=by
 refine fk (G:=(pR N)) func140 (gc 7 (pP N) gn) ?_;simp only[f140];unfold bD at h;refine z0 ?_;obtain⟨r1,hr1,h⟩:=bI h;refine z1 hr1 ?_;exact e0 h
@[go_sem] def eM(N:Nat):FnS:={own:=[],pure:=true,fn:=fun cs=>match cs with
 | [c0,.clo 142 [.iref 3 [[k1_0_0,k1_0_1,k1_0_2]] 0 0,.iref 11 [[k1_1_0,k1_1_1,k1_1_2,k1_1_3,k1_1_4,k1_1_5,k1_1_6,k1_1_7,k1_1_8,k1_1_9,k1_1_10]] 0 0]]=>((aJ 4 ah.dec) c0).bind fun qc0=>((aJ 11 Txn.dec) k1_0_0).bind fun qk1_0_0=>((aJ 4 ai.dec) k1_0_1).bind fun qk1_0_1=>((aJ 3 aa.dec) k1_0_2).bind fun qk1_0_2=>((aG .i64) k1_1_0).bind fun qk1_1_0=>((aG .i64) k1_1_1).bind fun qk1_1_1=>(bW k1_1_2).bind fun qk1_1_2=>((aG .i64) k1_1_3).bind fun qk1_1_3=>((aJ 4 ah.dec) k1_1_4).bind fun qk1_1_4=>((aG .i64) k1_1_5).bind fun qk1_1_5=>((aG .i64) k1_1_6).bind fun qk1_1_6=>((aG .i64) k1_1_7).bind fun qk1_1_7=>(bW k1_1_8).bind fun qk1_1_8=>((aJ 1 (du (aG .i64))) k1_1_9).bind fun qk1_1_9=>((aJ 1 (du bW)) k1_1_10).bind fun qk1_1_10=>(bD N qc0 qk1_0_0 qk1_0_1 qk1_0_2 qk1_1_0 qk1_1_1 qk1_1_2 qk1_1_3 qk1_1_4 qk1_1_5 qk1_1_6 qk1_1_7 qk1_1_8 qk1_1_9 qk1_1_10).map fun r=>vB r
 | _=>none}
def mX(N:Nat):aA prog 140 (eM N):=by
 refine⟨fun cs r h=>?_,fun h=>by cases h⟩;simp only[eM]at h;split at h
 .simp only[acG,acF]at h;obtain⟨q0,h0,q1,h1,q2,h2,q3,h3,q4,h4,q5,h5,q6,h6,q7,h7,q8,h8,q9,h9,q10,h10,q11,h11,q12,h12,q13,h13,q14,h14,r',hr,rfl⟩:=h;exact(ag (pT N q0 q1 q2 q3 q4 q5 q6 q7 q8 q9 q10 q11 q12 q13 q14 r' hr))
 .cases h
@[go_sem] def NP(N d f:Nat):Option FnS:=aw [(8,140,eM N)] d f
def N0(N:Nat)(a0:ae)(a1:Txn)(r:Bool)(h:oX N a0 a1=some r):Con prog 73 [] true [.agg (ae.row a0),.agg (Txn.row a1)] (vB r):=by
 refine fk (G:=(NP N)) func73 (gc 8 (mX N) gn) ?_;simp only[f73];unfold oX at h;refine z0 ?_;obtain⟨r1,hr1,h⟩:=bI h;refine z1 hr1 ?_;exact e0 h
@[go_sem] def zQ(N:Nat):FnS:=⟨[],true,fn2 ae.decA Txn.decA fun q0 q1=>(oX N q0 q1).map fun r=>vB r,false⟩
def Bq(N:Nat):aA prog 73 (zQ N):=om2 (N0 N)
@[go_sem] def LI(N d f:Nat):Option FnS:=aw [(13,73,zQ N),(19,74,DB N)] d f
def L9(N:Nat)(a0:Txn)(c0_0:List Txn)(c0_1:List ai)(c0_2:List aa)(r:Bool)(h:mD N a0 c0_0 c0_1 c0_2=some r):Con prog 72 [] true [.agg (Txn.row a0),.iref 3 [[sF 11 (c0_0.map Txn.row),sF 4 (c0_1.map ai.row),sF 3 (c0_2.map aa.row)]] 0 0] (vB r):=by
 refine fk (G:=(LI N)) func72 (gc 13 (Bq N) (gc 19 (Eh N) gn)) ?_;simp only[f72];unfold mD at h;refine z0 ?_;refine iDs h (fun hc1 hc1d h=>?_) fun hc1 hc1d h=>?_
 .refine z1 hc1d ?_;exact e0 h
 obtain⟨r1,hr2,h⟩:=bI h;refine iB h (fun hc3 h=>?_) fun hc3 h=>?_
 .obtain⟨r2,hr4,h⟩:=bI h;refine z1 (k4 hc1d hr2 hc3 hr4) ?_;exact e0 h
 refine z1 (k3 hc1d hr2 hc3) ?_;exact e0 h
@[go_sem] def yL(N:Nat):FnS:={own:=[],pure:=true,fn:=fun cs=>match cs with
 | [c0,.iref 3 [[c1_0,c1_1,c1_2]] 0 0]=>(Txn.decA c0).bind fun qc0=>((aJ 11 Txn.dec) c1_0).bind fun qc1_0=>((aJ 4 ai.dec) c1_1).bind fun qc1_1=>((aJ 3 aa.dec) c1_2).bind fun qc1_2=>(mD N qc0 qc1_0 qc1_1 qc1_2).map fun r=>vB r
 | _=>none}
def HI(N:Nat):aA prog 72 (yL N):=by
 refine⟨fun cs r h=>?_,fun h=>by cases h⟩;simp only[yL]at h;split at h
 .simp only[acG,acF]at h;obtain⟨q0,h0,q1,h1,q2,h2,q3,h3,r',hr,rfl⟩:=h;exact(ag (L9 N q0 q1 q2 q3 r' hr))
 .cases h
@[go_sem] def vJ(N d f:Nat):Option FnS:=aw [(16,72,yL N)] d f
def vl(N:Nat)(a0:List Txn)(k1_0_0:List Txn)(k1_0_1:List ai)(k1_0_2:List aa)(r:Int)(h:ed N a0 k1_0_0 k1_0_1 k1_0_2=some r):Con prog 71 [] true [sF 11 (a0.map Txn.row),.clo 72 [.iref 3 [[sF 11 (k1_0_0.map Txn.row),sF 4 (k1_0_1.map ai.row),sF 3 (k1_0_2.map aa.row)]] 0 0]] (vI r):=by
 refine fk (G:=(vJ N)) func71 (gc 16 (HI N) gn) ?_;simp only[f71];unfold ed at h;refine z0 ?_;refine z0 ?_;refine lT 0 (fun(v2:Nat) (b:Unit)=>⟨tab 19 (af (af (af (af au 0 (sF 11 (a0.map Txn.row))) 1 (.clo 72 [.iref 3 [[sF 11 (k1_0_0.map Txn.row),sF 4 (k1_0_1.map ai.row),sF 3 (k1_0_2.map aa.row)]] 0 0])) 7 (vI (a0.length:Int))) 8 (vI (v2:Int))),RZ⟩) () h ?_ ?_
 .rintro v2 ⟨⟩ hi3' h;simp only[dH]at h;refine z1 hi3' ?_;refine cf ?_;refine z0 ?_;exact e0 h
 rintro v2 ⟨⟩ x5 hi3' hx4 hw5 h;simp only[dH]at h;refine z1 hi3' ?_;refine ct ?_;refine z0 ?_;obtain⟨r1,hr7,h⟩:=bI h;refine z1 (k3 hx4 hi3' hr7) ?_;refine cB h (fun hc8 h=>?_) fun hc8 h=>?_
 .refine z1 hc8 ?_;exact e0 h
 refine z1 (k2 hw5 hc8) ?_;first|refine⟨(),?_,h⟩|refine⟨hi3',(),?_,h⟩
 exact wR
@[go_sem] def ig(N:Nat):FnS:={own:=[],pure:=true,fn:=fun cs=>match cs with
 | [c0,.clo 72 [.iref 3 [[k1_0_0,k1_0_1,k1_0_2]] 0 0]]=>((aJ 11 Txn.dec) c0).bind fun qc0=>((aJ 11 Txn.dec) k1_0_0).bind fun qk1_0_0=>((aJ 4 ai.dec) k1_0_1).bind fun qk1_0_1=>((aJ 3 aa.dec) k1_0_2).bind fun qk1_0_2=>(ed N qc0 qk1_0_0 qk1_0_1 qk1_0_2).map fun r=>vI r
 | _=>none}
def tI(N:Nat):aA prog 71 (ig N):=by
 refine⟨fun cs r h=>?_,fun h=>by cases h⟩;simp only[ig]at h;split at h
 .simp only[acG,acF]at h;obtain⟨q0,h0,q1,h1,q2,h2,q3,h3,r',hr,rfl⟩:=h;exact(ag (vl N q0 q1 q2 q3 r' hr))
 .cases h
def Gq(N:Nat)(a0:List Ref)(r:List Ref)(h:jI N a0=some r):Con prog 44 [true] true [sO 2 (a0.map Ref.row)] (sO 2 (r.map Ref.row)):=by
 refine AW (G:=(aw [])) (L:=noL) func44 rfl (by decide) (by kernel_rfl) gn (fun _ _ _ h=>by cases h) [] mix (ac4 rfl) ?_;rw[show gp [true] [sO 2 (a0.map Ref.row)]=(af au 0 (.pal 0 [] 0 a0.length none))from by funext t;match t with|0=>simp[gp,ja,kd,af]|t+1=>rfl];rw[show R0 [true] [sO 2 (a0.map Ref.row)]=upd RZ 0 (sO 2 (a0.map Ref.row))from by funext t;match t with|0=>rfl|t+1=>rfl];simp only[f44];unfold jI at h;refine z0 ?_;refine z0 ?_;refine cD h (fun hc1 hc1d h=>?_) fun hc1 hc1d h=>?_
 .refine z1 hc1d ?_;refine fb (pp ?_);cases h;simp only[go_sem,seval,dS];exact⟨_,rfl,gT.h,qW.h,qT.h⟩
 refine z1 hc1d ?_;refine aS (gr fun hreal3=>?_);have hl2:=hreal3.lenX 0 (by simp only[go_sem,seval];rfl);first|rw[acL]at hl2|rw[eK]at hl2|rw[<-ac2,acL]at hl2
 refine oY (fun(v3:Nat) (b:Unit)=>⟨tab 61 (af (af au 0 (.pal 0 [] 0 a0.length none)) 3 (vI (v3:Int))),(upd RZ 0 (sO 2 (a0.map Ref.row)))⟩) () h ?_ ?_
 .exact wF hc1d
 rintro v3 ⟨⟩ _ h -;rcases(jq a0.length v3).symm with⟨hi4',hd7⟩|⟨hi4',hd7⟩
 .rw[hd7]at h;simp only[iv]at h;refine z1 hi4' ?_;refine cf ?_;refine z0 ?_;refine fb (pp ?_);cases h;simp only[go_sem,seval,dS];exact⟨_,rfl,gT.h,qW.h,qT.h⟩
 rw[hd7]at h;simp only[iv]at h;have hw6:=dX hi4' hl2;refine z1 hi4' ?_;refine ct ?_;obtain⟨x1,hb8,hx9,h⟩:=aI h;try simp only[acX]at hx9
 try simp only[aey,adZ,true_and]at hb8
 obtain⟨x2,hb10,hx11,h⟩:=aI h;refine d1 (k4 hi4' hx9 hb10 hx11) ?_;refine cBs h (fun hc12 h=>?_) fun hc12 h=>?_
 .refine z1 (k2 hw6 hc12) ?_;first|refine⟨(),?_,h⟩|refine⟨hi4',(),?_,h⟩
  exact wF (k5 hc1d hi4' hw6 hb8 (k4 hx9 hb10 hx11 hc12))
 obtain⟨hs13,h⟩:=jb h;try simp only[acX]at hs13 h
 refine z1 (k3 hc12 hs13 @adt) ?_;refine z0 ?_;refine aS (il (fun(b:List Ref×Int×Int)=>⟨tab 61 (af (af (af (af au 0 (.pal 0 [] 0 b.1.length none)) 3 (vI b.2.1)) 4 (.pal 0 [] v3 (a0.length-v3) none)) 5 (vI b.2.2)),(upd RZ 0 (sO 2 (b.1.map Ref.row)))⟩) (a0,(v3:Int),1) h ?_ ?_)
 .exact wF (k5 hc1d hi4' hw6 hb8 (k5 hx9 hb10 hx11 hc12 (k3 hs13 @adn @adt)))
 rintro n ⟨l12,v13,v14⟩ h -;cases n with
 | zero=>simp[fU]at h
 | succ n=>
 simp only[fU]at h;refine z0 ?_;refine cDs h (fun hc14 hc14d h=>?_) fun hc14 hc14d h=>?_
 .refine fT (pp ?_);unfold jF at h;refine aK ?_;obtain⟨hs24,h⟩:=jb h;try simp only[acX]at hs24 h
  refine ic fun Z hZ=>?_;simp only[go_sem,seval,adt,hc14d,hs24,Rx (row:=Ref.row) (z:=(Ref.mk (⟨#[]⟩) (⟨#[]⟩))) (rz:=[vS (⟨#[]⟩),vS (⟨#[]⟩)]) (k:=(v13).toNat) (l:=l12) (by have:=hs24;omega) rfl,gh,yl,dB,aF.allD Ref.row_ok];refine hZ _ (pp (aK ?_));obtain⟨hs25,h⟩:=jb h;try simp only[aeA]at hs25 h
  refine ic fun Z hZ=>?_;simp only[go_sem,seval,adn,hs24,tn,hs25];refine hZ _ (pp (fb (pp ?_)));cases h;simp only[go_sem,seval,dS];exact⟨_,rfl,gT.h,qW.h,qT.h⟩
 obtain⟨x16,hb15,hx16,h⟩:=aI h;obtain⟨x17,hb17,hx18,h⟩:=aI h;refine d1 (k5 hb15 (F3 hx16) (IP hb15) hb17 (k2 (F3 hx18) (IP hb17))) ?_;refine cMs h (fun hc19 h=>?_) fun hc19 h=>?_
 .refine z1 hc19 ?_;refine⟨_,adk _,(l12,v13,IntKind.i64.wrap (v14+1)),?_,h⟩;exact wF (k5 hc1d hi4' hw6 hb8 (k5 hx9 hb10 hx11 hc12 (k5 hs13 @adn @adt hc14d (k5 hb15 hx16 (F3 hx16) (IP hb15) (k5 hb17 hx18 (F3 hx18) (IP hb17) hc19)))))
 obtain⟨x18,hb20,hx21,h⟩:=aI h;have hx23:=kz (y:=x16) hx21;refine z1 (k5 hb15 (IP hb15) hc19 (F3 hx16) (k3 hb20 hx21 (mm2 (row:=Ref.row) (y:=x16) (rx:=[vS x18.Type_,vS x18.Key]) (ry:=[vS x16.Type_,vS x16.Key]) hx21 rfl rfl))) ?_;refine z0 ?_;refine z0 ?_;refine⟨_,adk _,((l12.set ((v13).toNat) x16),IntKind.i64.wrap (v13+1),IntKind.i64.wrap (v14+1)),?_,h⟩;refine wr ?_ ?_<;>repeat' first|rfl|constructor|simp only[go_sem,seval,ac7]
def fq(N:Nat):FnS:={own:=[true],pure:=true,fn:=fun cs=>match cs with
 | [c0]=>((vO 2 Ref.dec) c0).bind fun q0=>(jI N q0).map fun r=>sO 2 (r.map Ref.row)
 | _=>none}
theorem Cg(N:Nat):(fq N).own=[true]:=rfl
theorem BP(N:Nat):(fq N).pure=true:=rfl
theorem B2(N:Nat):(fq N).peek=false:=rfl
attribute [go_sem] fq Cg BP B2
def CQ(N:Nat):aA prog 44 (fq N):=by
 refine⟨fun cs r h=>?_,fun h=>by cases h⟩;simp only[fq]at h;split at h
 .simp only[acG,acF]at h;obtain⟨q0,h0,r',hr,rfl⟩:=h;exact(Gq N q0 r' hr).argsO rfl (jy (qi Ref.row_ok Ref.dec_le h0) (oa))
 .cases h
@[go_sem] def ou(N d f:Nat):Option FnS:=aw [(32,43,wb N)] d f
def gJ(N:Nat)(a0:List Ref)(a1:Int)(a2:Int)(r:List Ref)(h:be N a0 a1 a2=some r):(r).length=a0.length:=by
 unfold be at h;exact(kH h).2
def oG(N:Nat)(a0:List Ref)(a1:Int)(a2:Int)(r:List Ref)(h:be N a0 a1 a2=some r):mI prog 173 1 [sO 2 (a0.map Ref.row),vI a1,vI a2,.clo 43 []] (.tup []) [sO 2 (r.map Ref.row)]:=by
 unfold be at h;obtain⟨h,hlen⟩:=kH h;refine zf (G:=(ou N)) (L:=noL) func173 rfl (by decide) (by kernel_rfl) 1 (by kernel_rfl) (gc 32 (wI N) gn) (fun _ _ _ h=>by cases h) [] mix (ac4 rfl) (ac4 rfl) rfl (by simp[dI,hlen]) ?_;simp only[f173];refine z0 ?_;refine aS (il (fun(b:Int)=>⟨tab 53 (af (af (af (af (af au 0 (.pal 0 [] 0 a0.length none)) 1 (vI a1)) 2 (vI a2)) 3 (.clo 43 [])) 8 (vI b)),(upd RZ 0 (sO 2 (a0.map Ref.row)))⟩) (IntKind.i64.wrap (a1+1)) h ?_ ?_)
 .exact wR
 rintro n v1 h -;cases n with
 | zero=>simp[bU]at h
 | succ n=>
 simp only[bU]at h;refine z0 ?_;refine cDs h (fun hc1 hc1d h=>?_) fun hc1 hc1d h=>?_
 .refine fT (pp ?_);obtain rfl:=adp h;refine C4 (.inr rfl) (aX.refl _) (by simp only[go_sem,seval,hc1d];rfl) (by simp only[go_sem,seval];rfl) (by(try simp only[go_sem,seval]);first|exact Le.refl _|exact LeI.h) ?_;exact C0 (by simp only[go_sem,seval,hc1d]<;>rfl) (by simp only[go_sem,seval]<;>rfl) (F0)
 refine z1 hc1d ?_;refine aS (il (fun(b:Unit)=>⟨tab 53 (af (af (af (af (af (af au 0 (.pal 0 [] 0 a0.length none)) 1 (vI a1)) 2 (vI a2)) 3 (.clo 43 [])) 8 (vI v1)) 9 (vI v1)),(upd RZ 0 (sO 2 (a0.map Ref.row)))⟩) () h ?_ ?_)
 .exact wR
 rintro n ⟨⟩ h -;cases n with
 | zero=>simp[eo]at h
 | succ n=>
 simp only[eo]at h;refine aK ?_;apply aQ (fun(c9:Bool)=>⟨tab 53 (af (af (af (af (af (af (af au 0 (.pal 0 [] 0 a0.length none)) 1 (vI a1)) 2 (vI a2)) 3 (.clo 43 [])) 8 (vI v1)) 9 (vI v1)) 34 (vB c9)),(upd RZ 0 (sO 2 (a0.map Ref.row)))⟩)
 .intro hJ2;refine iDs h (fun hc3 hc3d h=>?_) fun hc3 hc3d h=>?_
  .refine d1 hc3d ?_;refine hJ2 _ false ?_ h;exact wR
  obtain⟨x10,hb4,hx5,h⟩:=aI h;obtain⟨x11,hb6,hx7,h⟩:=aI h;obtain⟨r12,hr8,h⟩:=bI h;refine d1 (k5 hc3d hb4 hx5 hb6 (k2 hx7 hr8)) ?_;refine hJ2 _ (decide (r12<0)) ?_ h;exact wR
 intro c9 h;unfold et at h;refine cB h (fun hc9 h=>?_) fun hc9 h=>?_
 .refine aW (pp ?_);unfold eu at h;refine aK (aS ?_);obtain⟨x13,hb10,hx11,h⟩:=aI h;obtain⟨x14,hb12,hx13,h⟩:=aI h;cases h
 refine z1 hc9 ?_;refine⟨_,adk _,(IntKind.i64.wrap (v1+1)),?_,h⟩;exact wR
@[go_sem] def en(N:Nat):FnL:=⟨1,fun cs rest=>match cs,rest with
 | [v0],[c1,c2,.clo 43 []]=>(Dx 2 Ref.dec v0).bind fun q0=>((aG .i64) c1).bind fun q1=>((aG .i64) c2).bind fun q2=>(be N q0 q1 q2).map fun r=>(.tup [],[sO 2 (r.map Ref.row)])
 | _,_=>none,false⟩
def mh(N:Nat):wQ prog 173 (en N):=by
 refine IX (aeG _) rfl ?_;intro cs rest r ls hlen h;simp only[en]at h;split at h
 .simp only[acG,acF]at h;obtain⟨q0,h0,q1,h1,q2,h2,r',hr,he⟩:=h;cases he;exact mI.told rfl rfl (y6 (za Ref.row_ok Ref.dec_le h0) (BJ)) (LeL.cons (bz h1) (LeL.cons (bz h2) (LeL.cons (Le.clo (LeL.nil)) (LeL.nil)))) (oG N q0 q1 q2 r' hr)
 .cases h
@[go_sem] def rL(N d f:Nat):Option FnL:=Bc [(30,173,en N)] d f
def jc(N:Nat)(a0:List Ref)(a1:Int)(a2:Int)(a3:Int)(r:List Ref)(h:bt N a0 a1 a2 a3=some r):(r).length=a0.length:=by
 unfold bt at h;exact(kH h).2
def rP(N:Nat)(a0:List Ref)(a1:Int)(a2:Int)(a3:Int)(r:List Ref)(h:bt N a0 a1 a2 a3=some r):mI prog 101 1 [sO 2 (a0.map Ref.row),vI a1,vI a2,vI a3,.clo 43 []] (.tup []) [sO 2 (r.map Ref.row)]:=by
 unfold bt at h;obtain⟨h,hlen⟩:=kH h;refine zf (G:=(aw [])) (L:=(rL N)) func101 rfl (by decide) (by kernel_rfl) 1 (by kernel_rfl) gn (lc 30 (mh N) ln) [] mix (ac4 rfl) (ac4 rfl) rfl (by simp[dI,hlen]) ?_;simp only[f101];refine z0 ?_;refine z0 ?_;refine aS (il (fun(b:Unit)=>⟨tab 148 (af (af (af (af (af (af (af au 0 (.pal 0 [] 0 a0.length none)) 1 (vI a1)) 2 (vI a2)) 3 (vI a3)) 4 (.clo 43 [])) 10 (vB true)) 11 (vB true)),(upd RZ 0 (sO 2 (a0.map Ref.row)))⟩) () h ?_ ?_)
 .exact wR
 rintro n ⟨⟩ h -;cases n with
 | zero=>simp[fp]at h
 | succ n=>
 simp only[fp]at h;refine z0 ?_;refine z0 ?_;refine cDs h (fun hc1 hc1d h=>?_) fun hc1 hc1d h=>?_
 .refine z1 hc1d ?_;refine cD h (fun hc3 hc3d h=>?_) fun hc3 hc3d h=>?_
  .refine aK ?_;cases h
  refine z1 hc3d ?_;refine cf ?_;first|rw[if_pos (rfl:true=true)]at h|rw[if_neg adx]at h|skip
  refine aW (pp (aK ?_));cases h
 obtain⟨r1,hr2,h⟩:=bI h;refine z1 (k3 hc1d hr2 (gJ N a0 a1 a2 r1 hr2)) ?_;refine fb (pp ?_);obtain rfl:=adp h;refine C4 (.inl rfl) (aX.refl _) (by simp only[go_sem,seval];rfl) (by simp only[go_sem,seval];rfl) (by(try simp only[go_sem,seval]);first|exact Le.refl _|exact LeI.h) ?_;exact C0 (by simp only[go_sem,seval,gJ N a0 a1 a2 r1 hr2]<;>rfl) (by simp only[go_sem,seval]<;>rfl) (F0)
@[go_sem] def fv(N:Nat):FnL:=⟨1,fun cs rest=>match cs,rest with
 | [v0],[c1,c2,c3,.clo 43 []]=>(Dx 2 Ref.dec v0).bind fun q0=>((aG .i64) c1).bind fun q1=>((aG .i64) c2).bind fun q2=>((aG .i64) c3).bind fun q3=>(bt N q0 q1 q2 q3).map fun r=>(.tup [],[sO 2 (r.map Ref.row)])
 | _,_=>none,false⟩
def pO(N:Nat):wQ prog 101 (fv N):=by
 refine IX (aeG _) rfl ?_;intro cs rest r ls hlen h;simp only[fv]at h;split at h
 .simp only[acG,acF]at h;obtain⟨q0,h0,q1,h1,q2,h2,q3,h3,r',hr,he⟩:=h;cases he;exact mI.told rfl rfl (y6 (za Ref.row_ok Ref.dec_le h0) (BJ)) (LeL.cons (bz h1) (LeL.cons (bz h2) (LeL.cons (bz h3) (LeL.cons (Le.clo (LeL.nil)) (LeL.nil))))) (rP N q0 q1 q2 q3 r' hr)
 .cases h
@[go_sem] def tU(N d f:Nat):Option FnS:=aw [(11,102,yH N)] d f
@[go_sem] def tX(N d f:Nat):Option FnL:=Bc [(13,101,fv N)] d f
def s4(N:Nat)(a0:List Ref)(r:List Ref)(h:bJ N a0=some r):(r).length=a0.length:=by
 unfold bJ at h;exact(kH h).2
def kM(N:Nat)(a0:List Ref)(r:List Ref)(h:bJ N a0=some r):mI prog 42 1 [sO 2 (a0.map Ref.row),.clo 43 []] (.tup []) [sO 2 (r.map Ref.row)]:=by
 unfold bJ at h;obtain⟨h,hlen⟩:=kH h;refine zf (G:=(tU N)) (L:=(tX N)) func42 rfl (by decide) (by kernel_rfl) 1 (by kernel_rfl) (gc 11 (Aj N) gn) (lc 13 (pO N) ln) [] mix (ac4 rfl) (ac4 rfl) rfl (by simp[dI,hlen]) ?_;simp only[f42];refine z0 ?_;obtain⟨r1,hr1,h⟩:=bI h;obtain⟨r2,hr2,h⟩:=bI h;refine z1 (k3 hr1 hr2 (jc N a0 0 (a0.length:Int) r1 r2 hr2)) ?_;obtain rfl:=adp h;refine C4 (.inr rfl) (aX.refl _) (by simp only[go_sem,seval];rfl) (by simp only[go_sem,seval];rfl) (by(try simp only[go_sem,seval]);first|exact Le.refl _|exact LeI.h) ?_;exact C0 (by simp only[go_sem,seval,jc N a0 0 (a0.length:Int) r1 r2 hr2]<;>rfl) (by simp only[go_sem,seval]<;>rfl) (F0)
@[go_sem] def kg(N:Nat):FnL:=⟨1,fun cs rest=>match cs,rest with
 | [v0],[.clo 43 []]=>(Dx 2 Ref.dec v0).bind fun q0 =>  (bJ N q0).map fun r=>(.tup [],[sO 2 (r.map Ref.row)])
 | _,_=>none,false⟩
def Ff(N:Nat):wQ prog 42 (kg N):=by
 refine IX (aeG _) rfl ?_;intro cs rest r ls hlen h;simp only[kg]at h;split at h
 .simp only[acG,acF]at h;obtain⟨q0,h0,r',hr,he⟩:=h;cases he;exact mI.told rfl rfl (y6 (za Ref.row_ok Ref.dec_le h0) (BJ)) (LeL.cons (Le.clo (LeL.nil)) (LeL.nil)) (kM N q0 r' hr)
 .cases h
def vV:Go.Shelf.Ren:=⟨fun|6=>42|14=>101|15=>102|20=>173|21=>174|22=>175|23=>176|24=>177|25=>178|26=>179|27=>180|28=>181|29=>182|46=>214|47=>215|48=>216|49=>217|50=>218|57=>231|n=>n,fun|0=>0|3=>3|4=>4|5=>5|9=>9|22=>46|24=>52|25=>94|39=>136|45=>179|46=>180|50=>115|53=>186|55=>188|66=>207|70=>211|76=>219|77=>220|n=>n,fun n=>n⟩
def wy:Go.Proofs.SlLaysF0.n6 prog vV where
 mixed:=by kernel_rfl
 f6:=⟨f42.name, by decide, func42.trans (congrArg some (by kernel_rfl))⟩
 f14:=⟨f101.name, by decide, func101.trans (congrArg some (by kernel_rfl))⟩
 f15:=func102.trans (congrArg some (by kernel_rfl))
 f20:=⟨f173.name, by decide, func173.trans (congrArg some (by kernel_rfl))⟩
 f21:=⟨f174.name, by decide, func174.trans (congrArg some (by kernel_rfl))⟩
 f22:=⟨f175.name, by decide, func175.trans (congrArg some (by kernel_rfl))⟩
 f23:=⟨f176.name, by decide, func176.trans (congrArg some (by kernel_rfl))⟩
 f24:=⟨f177.name, by decide, func177.trans (congrArg some (by kernel_rfl))⟩
 f25:=⟨f178.name, by decide, func178.trans (congrArg some (by kernel_rfl))⟩
 f26:=⟨f179.name, by decide, func179.trans (congrArg some (by kernel_rfl))⟩
 f27:=⟨f180.name, by decide, func180.trans (congrArg some (by kernel_rfl))⟩
 f28:=func181.trans (congrArg some (by kernel_rfl))
 f29:=func182.trans (congrArg some (by kernel_rfl))
 f46:=⟨f214.name, by decide, func214.trans (congrArg some (by kernel_rfl))⟩
 f47:=func215.trans (congrArg some (by kernel_rfl))
 f48:=func216.trans (congrArg some (by kernel_rfl))
 f49:=⟨f217.name, by decide, func217.trans (congrArg some (by kernel_rfl))⟩
 f50:=⟨f218.name, by decide, func218.trans (congrArg some (by kernel_rfl))⟩
 f57:=⟨f231.name, by decide, func231.trans (congrArg some (by kernel_rfl))⟩
 t0:=underlying0
 a0:=Tryz.isAgg0
 z0:=Tryz.sizeOf0
 v0:=Tryz.zeroValue0
 t3:=underlying3
 a3:=Tryz.isAgg3
 z3:=Tryz.sizeOf3
 v3:=Tryz.zeroValue3
 t4:=underlying4
 a4:=Tryz.isAgg4
 z4:=Tryz.sizeOf4
 v4:=Tryz.zeroValue4
 t5:=underlying5
 a5:=Tryz.isAgg5
 z5:=Tryz.sizeOf5
 v5:=Tryz.zeroValue5
 t9:=underlying9
 a9:=Tryz.isAgg9
 z9:=Tryz.sizeOf9
 v9:=Tryz.zeroValue9
 t22:=underlying46
 a22:=Tryz.isAgg46
 z22:=Tryz.sizeOf46
 v22:=Tryz.zeroValue46
 t25:=underlying94
 a25:=Tryz.isAgg94
 z25:=Tryz.sizeOf94
 v25:=Tryz.zeroValue94
 t39:=underlying136
 a39:=Tryz.isAgg136
 z39:=Tryz.sizeOf136
 v39:=Tryz.zeroValue136
 t45:=underlying179
 a45:=Tryz.isAgg179
 z45:=Tryz.sizeOf179
 v45:=Tryz.zeroValue179
 t46:=underlying180
 a46:=Tryz.isAgg180
 z46:=Tryz.sizeOf180
 v46:=Tryz.zeroValue180
 t50:=underlying115
 a50:=Tryz.isAgg115
 z50:=Tryz.sizeOf115
 v50:=Tryz.zeroValue115
 t53:=underlying186
 a53:=Tryz.isAgg186
 z53:=Tryz.sizeOf186
 v53:=Tryz.zeroValue186
 t55:=underlying188
 a55:=Tryz.isAgg188
 z55:=Tryz.sizeOf188
 v55:=Tryz.zeroValue188
 t66:=underlying207
 a66:=Tryz.isAgg207
 z66:=Tryz.sizeOf207
 v66:=Tryz.zeroValue207
 t70:=underlying211
 a70:=Tryz.isAgg211
 z70:=Tryz.sizeOf211
 v70:=Tryz.zeroValue211
 t76:=underlying219
 a76:=Tryz.isAgg219
 z76:=Tryz.sizeOf219
 v76:=Tryz.zeroValue219
 t77:=underlying220
 a77:=Tryz.isAgg220
 z77:=Tryz.sizeOf220
 v77:=Tryz.zeroValue220
def mv(x:Ref):List Go.Value:=[.string x.Type_,.string x.Key]
def mo(N:Nat)(a0:List Ref)(r:List Ref)(h:bX N a0=some r):(r).length=a0.length:=by
 unfold bX at h;split at h
 .exact s4 N a0 r h
 .exact Vu h
def w4(N:Nat)(a0:List Ref)(r:List Ref)(h:bX N a0=some r):mI prog 42 1 [sO 2 (a0.map Ref.row),.clo 43 []] (.tup []) [sO 2 (r.map Ref.row)]:=by
 unfold bX at h;split at h
 .exact kM N a0 r h
 .rename_i hne;obtain⟨h1,h2,h3,rfl⟩:=Mw h;refine Vx wy 2 (by decide) Tryz.isAgg52 Tryz.sizeOf52 mv (fun _=>rfl) (fun x v hv=>by simp only[mv,ac6,adY,or_false]at hv;rcases hv with rfl|rfl<;>rfl) Ref.row (fun _=>rfl) rfl (enters_of func42 (by kernel_rfl) rfl) (enters_of func43 (by kernel_rfl) rfl) h2 (fun x y=>⟨true,?_⟩) (fun e=>hne (by rw[e];rfl)) h3
  obtain⟨z,hz⟩:=h1 x y;have hw:=Hy N x y  z hz;show Con prog 43 [] true _ (vI ((gI N x y ).getD 0));rw[hz];exact hw
@[go_sem] def iZ(N:Nat):FnL:=⟨1,fun cs rest=>match cs,rest with
 | [v0],[.clo 43 []]=>(Dx 2 Ref.dec v0).bind fun q0 =>  (bX N q0).map fun r=>(.tup [],[sO 2 (r.map Ref.row)])
 | _,_=>none,false⟩
def vf(N:Nat):wQ prog 42 (iZ N):=by
 refine IX (aeG _) rfl ?_;intro cs rest r ls hlen h;simp only[iZ]at h;split at h
 .simp only[acG,acF]at h;obtain⟨q0,h0,r',hr,he⟩:=h;cases he;exact mI.told rfl rfl (y6 (za Ref.row_ok Ref.dec_le h0) (BJ)) (LeL.cons (Le.clo (LeL.nil)) (LeL.nil)) (w4 N q0 r' hr)
 .cases h
@[go_sem] def Iq(N d f:Nat):Option FnS:=aw [(22,44,fq N)] d f
@[go_sem] def Is(N d f:Nat):Option FnL:=Bc [(20,42,iZ N)] d f
def Ji(N:Nat)(a0:Txn)(r:List Ref)(h:gy N a0=some r):Con prog 13 [] true [.agg (Txn.row a0)] (sO 2 (r.map Ref.row)):=by
 refine SX (G:=(Iq N)) (L:=(Is N)) func13 rfl (by decide) (by kernel_rfl) (gc 22 (CQ N) gn) (lc 20 (vf N) ln) [] mix (ac4 rfl) ?_;simp only[f13];unfold gy at h;refine z0 ?_;refine z0 ?_;refine z0 ?_;refine aS (gr fun hreal2=>?_);have hl1:=hreal2.lenT 7 (by decide) (by simp only[go_sem,seval];rfl);first|rw[acL]at hl1|rw[eK]at hl1|rw[<-ac2,acL]at hl1
 refine pA (fun(v3:Nat) (b:List Ref)=>⟨tab 23 (af (af (af (af au 3 (.pal 17 [] 0 b.length none)) 7 (sF 4 (a0.Calls.map ah.row))) 8 (vI (a0.Calls.length:Int))) 9 (vI (v3:Int))),(upd RZ 17 (sO 2 (b.map Ref.row)))⟩) [] h ?_ ?_
 .refine aX.trans (j6 3 17 2 (by simp only[go_sem,seval]) (by simp only[go_sem,seval])) ?_;refine wr ?_ ?_<;>repeat' first|rfl|constructor|simp only[go_sem,seval,adD,ac7,adu,adl]
 rintro v3 l2 hi3 h -;rcases(kq a0.Calls v3 hi3)with⟨x6,hi3',hx4,hd6⟩|⟨hi3',_,hd6⟩
 .rw[hd6]at h;simp only[gU]at h;have hw5:=dX hi3' hl1;refine z1 hi3' ?_;refine ct ?_;refine z1 (k2 hx4 hi3') ?_;obtain⟨ha7,h⟩:=dE h;simp only[acT,adh,adm,Nat.reduceAdd]at ha7;refine z1 ha7 ?_;refine z1 hw5 ?_;first|refine⟨(l2++[x6.Target]),?_,h⟩|refine⟨hi3',(l2++[x6.Target]),?_,h⟩
  refine wr ?_ ?_<;>repeat' first|rfl|constructor|simp only[go_sem,seval]
 rw[hd6]at h;simp only[gU]at h;refine z1 hi3' ?_;refine cf ?_;refine fT (pp ?_);unfold kV at h;obtain⟨r9,hr8,h⟩:=bI h;refine z1 (k2 hr8 (mo N l2 r9 hr8)) ?_;obtain⟨r10,hr9,h⟩:=bI h;refine z1 (k2 (ac3 (afX (mo N l2 r9 hr8))) hr9) ?_;refine fb (pp ?_);obtain rfl:=adp h;simp only[go_sem,seval];exact⟨_,rfl,gT.h,qT.h⟩
@[go_sem] def pD(N:Nat):FnS:=⟨[],true,fn1 Txn.decA fun q0=>(gy N q0).map fun r=>sF 2 (r.map Ref.row),false⟩
def qZ(N:Nat):aA prog 13 (pD N):=om1 fun q0 r h=>rs (Ji N q0 r h)
@[go_sem] def Pg(N d f:Nat):Option FnS:=aw [(14,23,kh N),(18,59,Io N),(22,71,ig N),(40,63,rW N),(43,13,pD N),(54,69,sW N),(62,67,qk N),(72,49,B6 N)] d f
def O9(N:Nat)(a0:ae)(r:ae ×(List aD))(h:og N a0=some r):Con prog 28 [] false [.agg (ae.row a0)] (.tup [.agg (ae.row r.1),sO 9 (r.2.map aD.row)]):=by
 refine JM (G:=(Pg N)) func28 rfl (by decide) (by kernel_rfl) (gc 14 (jf N) (gc 18 (MO N) (gc 22 (tI N) (gc 40 (tE N) (gc 43 (qZ N) (gc 54 (qt N) (gc 62 (sI N) (gc 72 (Du N) gn)))))))) [(71,false)] mix (ac4 rfl) ?_;simp only[f28];unfold og at h;refine z0 ?_;obtain⟨r1,hr1,h⟩:=bI h;refine z1 hr1 ?_;refine cM h (fun hc2 h=>?_) fun hc2 h=>?_
 .refine z1 hc2 ?_;exact f0 h
 obtain⟨r2,hr3,h⟩:=bI h;refine z1 (k2 hc2 hr3) ?_;refine z0 ?_;refine aS (il (fun(b:List Txn×List ai×List aa×List aD)=>⟨tab 77 (af (af (af au 2 (pF 2)) 4 (pF 4)) 5 (.pal 76 [] 0 b.2.2.2.length none)),(upd (upd (upd RZ 2 (vA 3 [.val (.slice none 0 0),.val (.slice none 0 0),.val (.slice none 0 0)])) 4 (vA 3 [sF 11 (b.1.map Txn.row),sF 4 (b.2.1.map ai.row),sF 3 (b.2.2.1.map aa.row)])) 76 (sO 9 (b.2.2.2.map aD.row)))⟩) (r2.Txns,r2.Locks,r2.Stacks,[]) h ?_ ?_)
 .refine aX.trans (j6 5 76 9 (by simp only[go_sem,seval]) (by simp only[go_sem,seval])) ?_;exact wF (k3 hr1 hc2 hr3)
 rintro n ⟨l4,l5,l6,l7⟩ h -;cases n with
 | zero=>simp[lx]at h
 | succ n=>
 simp only[lx]at h;obtain⟨r3,hr4,h⟩:=bI h;refine z1 hr4 ?_;refine z0 ?_;refine cD h (fun hc5 hc5d h=>?_) fun hc5 hc5d h=>?_
 .refine z1 hc5d ?_;exact f0 h
 obtain⟨x4,hb6,hx7,h⟩:=aI h;refine z1 (k3 hc5d hb6 hx7) ?_;obtain⟨r5,hr8,h⟩:=bI h;refine d1 hr8 ?_;obtain⟨r18,hr9,h⟩:=bI h;refine z1 hr9 ?_;refine aS (gr fun hreal11=>?_);have hl10:=hreal11.lenT 43 (by decide) (by simp only[go_sem,seval];rfl);first|rw[acL]at hl10|rw[eK]at hl10|rw[<-ac2,acL]at hl10
 refine pA (fun(v16:Nat) (b:List aR)=>⟨tab 77 (af (af (af (af (af (af (af (af au 2 (pF 2)) 4 (pF 4)) 5 (.pal 76 [] 0 l7.length none)) 7 (pF 7)) 8 (pF 8)) 43 (sF 2 (r18.map Ref.row))) 44 (vI (r18.length:Int))) 45 (vI (v16:Int))),(upd (upd (upd (upd (upd RZ 2 (vA 3 [.val (.slice none 0 0),.val (.slice none 0 0),.val (.slice none 0 0)])) 4 (vA 3 [sF 11 (l4.map Txn.row),sF 4 (l5.map ai.row),sF 3 (l6.map aa.row)])) 7 (vA 11 (Txn.row x4))) 8 (vA 9 [vI x4.ID,vS x4.Client,vI x4.Seq,vI r5.Kind,vI r5.N,vS r5.S,sF 1 (r5.I.map (ay .i64)),sF 1 (r5.L.map dT),sO 3 (b.map aR.row)])) 76 (sO 9 (l7.map aD.row)))⟩) [] h ?_ ?_
 .refine aX.trans (OH 8 [(0,8)] 3 (by simp only[go_sem,seval]) (by simp only[go_sem,seval];try rfl)) ?_;exact wF (k5 hr1 hc2 hr3 hr4 (k5 hc5d hb6 hx7 hr8 hr9))
 rintro v16 l15 hi12 h -;rcases(kq r18 v16 hi12).symm with⟨hi12',_,hd15⟩|⟨x19,hi12',hx13,hd15⟩
 .rw[hd15]at h;simp only[lz]at h;refine z1 hi12' ?_;refine cf ?_;refine fT (pp ?_);unfold wu at h;refine mi (PE (n:=8) (by simp only[go_sem,seval];rfl) (by simp only[je,gZ,go_sem];rfl)) ?_;obtain⟨r21,hr19,h⟩:=bI h;obtain⟨ha20,h⟩:=dE h;simp only[acT,adh,adm,Nat.reduceAdd]at ha20;refine d1 (k2 hr19 ha20) ?_;refine⟨_,adk _,(r21.Txns,r21.Locks,r21.Stacks,(l7++[(aD.mk x4.ID x4.Client x4.Seq r5 l15)])),?_,h⟩;refine wr ?_ ?_<;>repeat' first|rfl|constructor|simp only[go_sem,seval]
 rw[hd15]at h;simp only[lz]at h;have hw14:=dX hi12' hl10;refine z1 hi12' ?_;refine ct ?_;refine z1 (k2 hx13 hi12') ?_;obtain⟨r19,hr16,h⟩:=bI h;refine z1 hr16 ?_;obtain⟨r20,hr17,h⟩:=bI h;obtain⟨ha18,h⟩:=dE h;simp only[acT,adh,adm,Nat.reduceAdd]at ha18;refine d1 (k2 hr17 ha18) ?_;refine z1 hw14 ?_;first|refine⟨(l15++[(aR.mk x19 r20)]),?_,h⟩|refine⟨hi12',(l15++[(aR.mk x19 r20)]),?_,h⟩
 refine wr ?_ ?_<;>repeat' first|rfl|constructor|simp only[go_sem,seval]
@[go_sem] def Aw(N:Nat):FnS:=⟨[],false,fn1 ae.decA fun q0=>(og N q0).map fun r=>.tup [.agg (ae.row r.1),sF 9 (r.2.map aD.row)],false⟩
def Cl(N:Nat):aA prog 28 (Aw N):=om1 fun q0 r h=>rs (O9 N q0 r h)
@[go_sem] def Uy(N d f:Nat):Option FnS:=aw [(9,40,gG N),(17,41,DF N)] d f
def Um(N:Nat)(a0:ae)(a1:Int)(r:Txn×Bool)(h:AG N a0 a1=some r):Con prog 12 [] false [.agg (ae.row a0),vI a1] (.tup [.agg [vI r.1.ID,vI r.1.Born,vS r.1.Client,vI r.1.Seq,sO 4 (r.1.Calls.map ah.row),vI r.1.Done,vI r.1.Last.Kind,vI r.1.Last.N,vS r.1.Last.S,sO 1 (r.1.Last.I.map (ay .i64)),sO 1 (r.1.Last.L.map dT)],vB r.2]):=by
 refine fk (G:=(Uy N)) func12 (gc 9 (ff N) (gc 17 (HS N) gn)) ?_;simp only[f12];unfold AG at h;refine z0 ?_;obtain⟨r1,hr1,h⟩:=bI h;refine z1 hr1 ?_;refine z0 ?_;refine cD h (fun hc2 hc2d h=>?_) fun hc2 hc2d h=>?_
 .obtain⟨x2,hb3,hx4,h⟩:=aI h;obtain⟨r3,hr5,h⟩:=bI h;refine z1 (k3 hb3 hx4 hr5) ?_;exact f0 h
 refine z1 hc2d ?_;exact f0 h
@[go_sem] def KC(N:Nat):FnS:=⟨[],false,fn2 ae.decA (aG .i64) fun q0 q1=>(AG N q0 q1).map fun r=>.tup [.agg (Txn.row r.1),vB r.2],false⟩
def Nd(N:Nat):aA prog 12 (KC N):=om2 fun q0 q1 r h=>rs (Um N q0 q1 r h)
@[go_sem] def RL(N d f:Nat):Option FnS:=aw [(10,46,vD N),(40,67,pC N),(42,67,pC N)] d f
def P4(N:Nat)(a0:ae)(a1:Ref)(a2:List Value)(r:List Value)(h:tM N a0 a1 a2=some r):Con prog 39 [] false [.agg (ae.row a0),.agg [vS a1.Type_,vS a1.Key],sF 5 (a2.map Value.row)] (sO 5 (r.map Value.row)):=by
 refine fk (G:=(RL N)) func39 (gc 10 (uW N) (gc 40 (ru N) (gc 42 (ru N) gn))) ?_;simp only[f39];unfold tM at h;refine z0 ?_;obtain⟨r8,hr1,h⟩:=bI h;refine z1 hr1 ?_;apply aQ (fun(c10:Bool)=>⟨tab 43 (af (af (af (af au 2 (sF 5 (a2.map Value.row))) 3 (pF 3)) 7 (vI r8)) 22 (vB c10)),(upd RZ 3 (vA 3 (ae.row a0)))⟩)
 .intro hJ2;refine iD h (fun hc3 hc3d h=>?_) fun hc3 hc3d h=>?_
  .obtain⟨x11,hb4,hx5,h⟩:=aI h;refine z1 (k2 hb4 hx5) ?_;refine hJ2 _ (decide (0 <(x11.Layers.length:Int))) ?_ h;exact wR
  refine z1 hc3d ?_;refine hJ2 _ false ?_ h;exact wR
 intro c10 h;unfold yx at h;refine cB h (fun hc6 h=>?_) fun hc6 h=>?_
 .obtain⟨x12,hb7,hx8,h⟩:=aI h;obtain⟨x13,hb9,hx10,h⟩:=aI h;obtain⟨r14,hr11,h⟩:=bI h;refine d1 (k5 hc6 hb7 hx8 hb9 (k2 hx10 hr11)) ?_;exact f0 h
 refine aW (pp ?_);unfold yz at h;obtain⟨r15,hr12,h⟩:=bI h;refine z1 (k2 hc6 hr12) ?_;exact f0 h
@[go_sem] def HB(N:Nat):FnS:=⟨[],false,fn3 ae.decA Ref.decA (aJ 5 Value.dec) fun q0 q1 q2=>(tM N q0 q1 q2).map fun r=>sF 5 (r.map Value.row),false⟩
def KV(N:Nat):aA prog 39 (HB N):=om3 fun q0 q1 q2 r h=>rs (P4 N q0 q1 q2 r h)
@[go_sem] def Pb(N d f:Nat):Option FnS:=aw [(26,38,zs N),(36,38,zs N),(47,25,Ba N),(61,34,rv N),(64,34,rv N),(65,26,Bg N),(73,27,we N),(80,25,Ba N),(93,34,rv N),(95,34,rv N),(96,26,Bg N),(104,15,Cd N),(110,23,kh N),(115,20,zC N),(129,27,we N),(136,28,Aw N),(159,12,KC N),(165,13,pD N),(172,39,HB N)] d f
def Pd(N:Nat)  (r:Bool) (h:uz N  = some r):Con prog 10 [] true [] (vB r):=by
 refine JM (G:=(Pb N)) func10 rfl (by decide) (by kernel_rfl) (gc 26 (zH N) (gc 36 (zH N) (gc 47 (AP N) (gc 61 (om N) (gc 64 (om N) (gc 65 (AO N) (gc 73 (wS N) (gc 80 (AP N) (gc 93 (om N) (gc 95 (om N) (gc 96 (AO N) (gc 104 (C7 N) (gc 110 (jf N) (gc 115 (z8 N) (gc 129 (wS N) (gc 136 (Cl N) (gc 159 (Nd N) (gc 165 (qZ N) (gc 172 (KV N) gn))))))))))))))))))) [(62,false),(94,false)] mix (ac4 rfl) ?_;simp only[f10];unfold uz at h;refine z0 ?_;refine z0 ?_;obtain⟨r1,hr1,h⟩:=bI h;refine z1 hr1 ?_;refine z1 hr1 ?_;refine cN h (fun hc2 hc2d h=>?_) fun hc2 hc2d h=>?_
 .refine z1 (k2 hr1 hc2d) ?_;exact e1 (k2 hr1 hc2d) h
 obtain⟨r2,hr3,h⟩:=bI h;refine z1 (k3 hr1 hc2d hr3) ?_;refine z1 (k3 hr1 hc2d hr3) ?_;refine cN h (fun hc4 hc4d h=>?_) fun hc4 hc4d h=>?_
 .refine z1 (k4 hr1 hc2d hr3 hc4d) ?_;exact e1 (k4 hr1 hc2d hr3 hc4d) h
 refine z1 (k4 hr1 hc2d hr3 hc4d) ?_;refine aS (il (fun(b:List Txn×List ai×List aa×Int)=>⟨tab 176 (af (af (af (af au 1 (pF 1)) 2 (pF 2)) 3 (pF 3)) 5 (vI b.2.2.2)),(upd (upd (upd RZ 1 (vA 2 [vS (⟨#[65]⟩),vS (⟨#[97]⟩)])) 2 (vA 2 [vS (⟨#[65]⟩),vS (⟨#[98]⟩)])) 3 (vA 3 [sF 11 (b.1.map Txn.row),sF 4 (b.2.1.map ai.row),sF 3 (b.2.2.1.map aa.row)]))⟩) (r2.1.Txns,r2.1.Locks,r2.1.Stacks,0) h ?_ ?_)
 .exact wR
 rintro n ⟨l6,l7,l8,v9⟩ h -;cases n with
 | zero=>simp[fS]at h
 | succ n=>
 simp only[fS]at h;refine z1 (k4 hr1 hc2d hr3 hc4d) ?_;refine cD h (fun hc5 hc5d h=>?_) fun hc5 hc5d h=>?_
 .obtain⟨r20,hr6,h⟩:=bI h;refine z1 (k5 hr1 hc2d hr3 hc4d (k2 hc5d hr6)) ?_;refine aK ?_;apply aQ (fun(c23:Bool)=>⟨tab 176 (af (af (af (af (af (af au 1 (pF 1)) 2 (pF 2)) 3 (pF 3)) 5 (vI v9)) 6 (pF 6)) 57 (vB c23)),(upd (upd (upd (upd RZ 1 (vA 2 [vS (⟨#[65]⟩),vS (⟨#[97]⟩)])) 2 (vA 2 [vS (⟨#[65]⟩),vS (⟨#[98]⟩)])) 3 (vA 3 [sF 11 (l6.map Txn.row),sF 4 (l7.map ai.row),sF 3 (l8.map aa.row)])) 6 (vA 3 (ae.row r20.1)))⟩)
  .intro hJ7;refine iDs h (fun hc8 hc8d h=>?_) fun hc8 hc8d h=>?_
   .refine z1 (k5 hr1 hc2d hr3 hc4d (k3 hc5d hr6 hc8d)) ?_;refine hJ7 _ true ?_ h;exact wR
   refine z1 (k5 hr1 hc2d hr3 hc4d (k3 hc5d hr6 hc8d)) ?_;refine hJ7 _ (!decide (r20.2.1=1)) ?_ h;exact wR
  intro c23 h;unfold sX at h;refine cB h (fun hc9 h=>?_) fun hc9 h=>?_
  .refine z1 (k5 hr1 hc2d hr3 hc4d (k3 hc5d hr6 hc9)) ?_;exact e1 (k5 hr1 hc2d hr3 hc4d (k3 hc5d hr6 hc9)) h
  refine aW (pp ?_);unfold sJ at h;obtain⟨r24,hr10,h⟩:=bI h;obtain⟨r25,hr11,h⟩:=bI h;obtain rfl:=adp (hr10.symm.trans hr11);obtain⟨r26,hr12,h⟩:=bI h;refine d1 (k5 hr1 hc2d hr3 hc4d (k5 hc5d hr6 hc9 hr10 hr12)) ?_;refine z1 (k5 hr1 hc2d hr3 hc4d (k5 hc5d hr6 hc9 hr10 hr12)) ?_;refine cN h (fun hc13 hc13d h=>?_) fun hc13 hc13d h=>?_
  .refine z1 (k5 hr1 hc2d hr3 hc4d (k5 hc5d hr6 hc9 hr10 (k2 hr12 hc13d))) ?_;exact e1 (k5 hr1 hc2d hr3 hc4d (k5 hc5d hr6 hc9 hr10 (k2 hr12 hc13d))) h
  refine z1 (k5 hr1 hc2d hr3 hc4d (k5 hc5d hr6 hc9 hr10 (k2 hr12 hc13d))) ?_;refine⟨_,adk _,(r26.1.Txns,r26.1.Locks,r26.1.Stacks,IntKind.i64.wrap (v9+1)),?_,h⟩;exact wR
 refine fT (pp ?_);unfold qm at h;obtain⟨r27,hr14,h⟩:=bI h;refine z1 (k5 hr1 hc2d hr3 hc4d (k2 hc5d hr14)) ?_;refine z1 (k5 hr1 hc2d hr3 hc4d (k2 hc5d hr14)) ?_;refine cN h (fun hc15 hc15d h=>?_) fun hc15 hc15d h=>?_
 .refine z1 (k5 hr1 hc2d hr3 hc4d (k3 hc5d hr14 hc15d)) ?_;exact e1 (k5 hr1 hc2d hr3 hc4d (k3 hc5d hr14 hc15d)) h
 obtain⟨r28,hr16,h⟩:=bI h;refine z1 (k5 hr1 hc2d hr3 hc4d (k4 hc5d hr14 hc15d hr16)) ?_;refine aK ?_;apply aQ (fun(c31:Bool)=>⟨tab 176 (af (af (af (af au 1 (pF 1)) 2 (pF 2)) 3 (pF 3)) 90 (vB c31)),(upd (upd (upd RZ 1 (vA 2 [vS (⟨#[65]⟩),vS (⟨#[97]⟩)])) 2 (vA 2 [vS (⟨#[65]⟩),vS (⟨#[98]⟩)])) 3 (vA 3 (ae.row r28.1)))⟩)
 .intro hJ17;refine iDs h (fun hc18 hc18d h=>?_) fun hc18 hc18d h=>?_
  .refine z1 (k5 hr1 hc2d hr3 hc4d (k5 hc5d hr14 hc15d hr16 hc18d)) ?_;refine hJ17 _ true ?_ h;exact wR
  refine z1 (k5 hr1 hc2d hr3 hc4d (k5 hc5d hr14 hc15d hr16 hc18d)) ?_;refine hJ17 _ (!decide (r28.2.1=1)) ?_ h;exact wR
 intro c31 h;unfold wk at h;refine cB h (fun hc19 h=>?_) fun hc19 h=>?_
 .refine z1 (k5 hr1 hc2d hr3 hc4d (k5 hc5d hr14 hc15d hr16 hc19)) ?_;exact e1 (k5 hr1 hc2d hr3 hc4d (k5 hc5d hr14 hc15d hr16 hc19)) h
 refine aW (pp ?_);unfold uZ at h;obtain⟨r32,hr20,h⟩:=bI h;obtain⟨r33,hr21,h⟩:=bI h;obtain rfl:=adp (hr20.symm.trans hr21);obtain⟨r34,hr22,h⟩:=bI h;refine d1 (k5 hr1 hc2d hr3 hc4d (k5 hc5d hr14 hc15d hr16 (k3 hc19 hr20 hr22))) ?_;refine aK ?_;apply aQ (fun(c41:Bool)=>⟨tab 176 (af (af (af (af au 1 (pF 1)) 2 (pF 2)) 3 (pF 3)) 112 (vB c41)),(upd (upd (upd RZ 1 (vA 2 [vS (⟨#[65]⟩),vS (⟨#[97]⟩)])) 2 (vA 2 [vS (⟨#[65]⟩),vS (⟨#[98]⟩)])) 3 (vA 3 (ae.row r34.1)))⟩)
 .intro hJ23;refine iDs h (fun hc24 hc24d h=>?_) fun hc24 hc24d h=>?_
  .refine z1 (k5 hr1 hc2d hr3 hc4d (k5 hc5d hr14 hc15d hr16 (k4 hc19 hr20 hr22 hc24d))) ?_;refine hJ23 _ true ?_ h;exact wR
  obtain⟨r42,hr25,h⟩:=bI h;refine iDs h (fun hc26 hc26d h=>?_) fun hc26 hc26d h=>?_
  .refine z1 (k5 hr1 hc2d hr3 hc4d (k5 hc5d hr14 hc15d hr16 (k5 hc19 hr20 hr22 hc24d (k2 hr25 hc26d)))) ?_;refine hJ23 _ true ?_ h;exact wR
  obtain⟨r43,hr27,h⟩:=bI h;refine z1 (k5 hr1 hc2d hr3 hc4d (k5 hc5d hr14 hc15d hr16 (k5 hc19 hr20 hr22 hc24d (k3 hr25 hc26d hr27)))) ?_;refine hJ23 _ (!r43) ?_ h;exact wR
 intro c41 h;unfold sE at h;refine cB h (fun hc28 h=>?_) fun hc28 h=>?_
 .refine z1 (k5 hr1 hc2d hr3 hc4d (k5 hc5d hr14 hc15d hr16 (k4 hc19 hr20 hr22 hc28))) ?_;exact e1 (k5 hr1 hc2d hr3 hc4d (k5 hc5d hr14 hc15d hr16 (k4 hc19 hr20 hr22 hc28))) h
 refine aW (pp ?_);unfold sP at h;obtain⟨r44,hr29,h⟩:=bI h;refine z1 (k5 hr1 hc2d hr3 hc4d (k5 hc5d hr14 hc15d hr16 (k5 hc19 hr20 hr22 hc28 hr29))) ?_;refine aK ?_;apply aQ (fun(c47:Bool)=>⟨tab 176 (af (af (af (af au 1 (pF 1)) 2 (pF 2)) 3 (pF 3)) 125 (vB c47)),(upd (upd (upd RZ 1 (vA 2 [vS (⟨#[65]⟩),vS (⟨#[97]⟩)])) 2 (vA 2 [vS (⟨#[65]⟩),vS (⟨#[98]⟩)])) 3 (vA 3 (ae.row r34.1)))⟩)
 .intro hJ30;refine iDs h (fun hc31 hc31d h=>?_) fun hc31 hc31d h=>?_
  .refine z1 (k5 hr1 hc2d hr3 hc4d (k5 hc5d hr14 hc15d hr16 (k5 hc19 hr20 hr22 hc28 (k2 hr29 hc31d)))) ?_;refine hJ30 _ true ?_ h;exact wR
  refine z1 (k5 hr1 hc2d hr3 hc4d (k5 hc5d hr14 hc15d hr16 (k5 hc19 hr20 hr22 hc28 (k2 hr29 hc31d)))) ?_;refine hJ30 _ (!decide ((r44.2.1.length:Int)=2)) ?_ h;exact wR
 intro c47 h;unfold wC at h;refine cB h (fun hc32 h=>?_) fun hc32 h=>?_
 .refine z1 (k5 hr1 hc2d hr3 hc4d (k5 hc5d hr14 hc15d hr16 (k5 hc19 hr20 hr22 hc28 (k2 hr29 hc32)))) ?_;exact e1 (k5 hr1 hc2d hr3 hc4d (k5 hc5d hr14 hc15d hr16 (k5 hc19 hr20 hr22 hc28 (k2 hr29 hc32)))) h
 refine aW (pp ?_);unfold vU at h;obtain⟨r48,hr33,h⟩:=bI h;refine z1 (k5 hr1 hc2d hr3 hc4d (k5 hc5d hr14 hc15d hr16 (k5 hc19 hr20 hr22 hc28 (k3 hr29 hc32 hr33)))) ?_;refine z1 (k5 hr1 hc2d hr3 hc4d (k5 hc5d hr14 hc15d hr16 (k5 hc19 hr20 hr22 hc28 (k3 hr29 hc32 hr33)))) ?_;refine cN h (fun hc34 hc34d h=>?_) fun hc34 hc34d h=>?_
 .refine z1 (k5 hr1 hc2d hr3 hc4d (k5 hc5d hr14 hc15d hr16 (k5 hc19 hr20 hr22 hc28 (k4 hr29 hc32 hr33 hc34d)))) ?_;exact e1 (k5 hr1 hc2d hr3 hc4d (k5 hc5d hr14 hc15d hr16 (k5 hc19 hr20 hr22 hc28 (k4 hr29 hc32 hr33 hc34d)))) h
 obtain⟨r49,hr35,h⟩:=bI h;refine z1 (k5 hr1 hc2d hr3 hc4d (k5 hc5d hr14 hc15d hr16 (k5 hc19 hr20 hr22 hc28 (k5 hr29 hc32 hr33 hc34d hr35)))) ?_;refine aK ?_;apply aQ (fun(c54:Bool)=>⟨tab 176 (af (af (af au 1 (pF 1)) 3 (pF 3)) 156 (vB c54)),(upd (upd RZ 1 (vA 2 [vS (⟨#[65]⟩),vS (⟨#[97]⟩)])) 3 (vA 3 (ae.row r49.1)))⟩)
 .intro hJ36;refine iDs h (fun hc37 hc37d h=>?_) fun hc37 hc37d h=>?_
  .refine z1 (k5 hr1 hc2d hr3 hc4d (k5 hc5d hr14 hc15d hr16 (k5 hc19 hr20 hr22 hc28 (k5 hr29 hc32 hr33 hc34d (k2 hr35 hc37d))))) ?_;refine hJ36 _ true ?_ h;exact wR
  obtain⟨x55,hb38,hx39,h⟩:=aI h;try simp only[acX,Int.reduceToNat,aeA]at hx39
  try simp only[aey,adZ,true_and]at hb38
  refine iDs h (fun hc40 hc40d h=>?_) fun hc40 hc40d h=>?_
  .refine z1 (k5 hr1 hc2d hr3 hc4d (k5 hc5d hr14 hc15d hr16 (k5 hc19 hr20 hr22 hc28 (k5 hr29 hc32 hr33 hc34d (k5 hr35 hc37d hb38 hx39 hc40d))))) ?_;refine hJ36 _ true ?_ h;exact wR
  refine z1 (k5 hr1 hc2d hr3 hc4d (k5 hc5d hr14 hc15d hr16 (k5 hc19 hr20 hr22 hc28 (k5 hr29 hc32 hr33 hc34d (k5 hr35 hc37d hb38 hx39 hc40d))))) ?_;refine hJ36 _ (!decide ((x55.Writes.length:Int)=2)) ?_ h;exact wR
 intro c54 h;unfold rX at h;refine cB h (fun hc41 h=>?_) fun hc41 h=>?_
 .refine z1 (k5 hr1 hc2d hr3 hc4d (k5 hc5d hr14 hc15d hr16 (k5 hc19 hr20 hr22 hc28 (k5 hr29 hc32 hr33 hc34d (k2 hr35 hc41))))) ?_;exact e1 (k5 hr1 hc2d hr3 hc4d (k5 hc5d hr14 hc15d hr16 (k5 hc19 hr20 hr22 hc28 (k5 hr29 hc32 hr33 hc34d (k2 hr35 hc41))))) h
 refine aW (pp ?_);unfold sB at h;obtain⟨r56,hr42,h⟩:=bI h;refine z1 (k5 hr1 hc2d hr3 hc4d (k5 hc5d hr14 hc15d hr16 (k5 hc19 hr20 hr22 hc28 (k5 hr29 hc32 hr33 hc34d (k3 hr35 hc41 hr42))))) ?_;refine iBs h (fun hc43 h=>?_) fun hc43 h=>?_
 .refine z1 (k5 hr1 hc2d hr3 hc4d (k5 hc5d hr14 hc15d hr16 (k5 hc19 hr20 hr22 hc28 (k5 hr29 hc32 hr33 hc34d (k4 hr35 hc41 hr42 hc43))))) ?_;exact e1 (k5 hr1 hc2d hr3 hc4d (k5 hc5d hr14 hc15d hr16 (k5 hc19 hr20 hr22 hc28 (k5 hr29 hc32 hr33 hc34d (k4 hr35 hc41 hr42 hc43))))) h
 obtain⟨r57,hr44,h⟩:=bI h;refine iD h (fun hc45 hc45d h=>?_) fun hc45 hc45d h=>?_
 .obtain⟨r58,hr46,h⟩:=bI h;refine z1 (k5 hr1 hc2d hr3 hc4d (k5 hc5d hr14 hc15d hr16 (k5 hc19 hr20 hr22 hc28 (k5 hr29 hc32 hr33 hc34d (k5 hr35 hc41 hr42 hc43 (k3 hr44 hc45d hr46)))))) ?_;exact e1 (k5 hr1 hc2d hr3 hc4d (k5 hc5d hr14 hc15d hr16 (k5 hc19 hr20 hr22 hc28 (k5 hr29 hc32 hr33 hc34d (k5 hr35 hc41 hr42 hc43 (k3 hr44 hc45d hr46)))))) h
 refine z1 (k5 hr1 hc2d hr3 hc4d (k5 hc5d hr14 hc15d hr16 (k5 hc19 hr20 hr22 hc28 (k5 hr29 hc32 hr33 hc34d (k5 hr35 hc41 hr42 hc43 (k2 hr44 hc45d)))))) ?_;exact e1 (k5 hr1 hc2d hr3 hc4d (k5 hc5d hr14 hc15d hr16 (k5 hc19 hr20 hr22 hc28 (k5 hr29 hc32 hr33 hc34d (k5 hr35 hc41 hr42 hc43 (k2 hr44 hc45d)))))) h
@[go_sem] def AE(N:Nat):FnS:={own:=[],pure:=true,fn:=fun cs=>match cs with
 | []=>  (uz N ).map fun r=>vB r
 | _=>none}
def Kf(N:Nat):aA prog 10 (AE N):=by
 refine⟨fun cs r h=>?_,fun h=>by cases h⟩;simp only[AE]at h;split at h
 .simp only[acG,acF]at h;obtain⟨r',hr,rfl⟩:=h;exact(ag (Pd N  r' hr))
 .cases h
def Qh(N:Nat)(a0:ae)(a1:Int)(r:Int)(h:wc N a0 a1=some r):Con prog 19 [] true [.agg (ae.row a0),.val (.int .u8 a1)] (vI r):=by
 refine fk (G:=(aw [])) func19 gn ?_;simp only[f19];unfold wc at h;refine z0 ?_;refine z0 ?_;refine cD h (fun hc1 hc1d h=>?_) fun hc1 hc1d h=>?_
 .refine z1 hc1d ?_;exact e0 h
 obtain⟨hd2,h⟩:=PA h;obtain⟨x1,hb3,hx4,h⟩:=aI h;refine d1 (k3 hd2 hb3 hx4) ?_;exact e0 h
@[go_sem] def HE(N:Nat):FnS:=⟨[],true,fn2 ae.decA (aG .u8) fun q0 q1=>(wc N q0 q1).map fun r=>vI r,false⟩
def Lu(N:Nat):aA prog 19 (HE N):=om2 (Qh N)
def Sy(N:Nat)(a0:Int)(r:Ref)(h:vp N a0=some r):Con prog 95 [] true [.val (.int .u8 a0)] (.agg (Ref.row r)):=by
 refine fk (G:=(aw [])) func95 gn ?_;simp only[f95];unfold vp at h;refine z0 ?_;refine z0 ?_;obtain⟨hs1,h⟩:=Xa h;simp only[ByteArray.size,adV,acT,adh,Nat.reduceAdd]at hs1;refine z1 hs1 ?_;exact e0 h
@[go_sem] def Dq(N:Nat):FnS:=⟨[],true,fn1 (aG .u8) fun q0=>(vp N q0).map fun r=>.agg (Ref.row r),false⟩
def Ef(N:Nat):aA prog 95 (Dq N):=om1 (Sy N)
@[go_sem] def OZ(N d f:Nat):Option FnS:=aw [(21,95,Dq N)] d f
def OV(N:Nat)(a0:aj)(r:List ah)(h:yc N a0=some r):Con prog 33 [] false [.agg (aj.row a0)] (sO 4 (r.map ah.row)):=by
 refine fk (G:=(OZ N)) func33 (gc 21 (Ef N) gn) ?_;simp only[f33];unfold yc at h;refine z0 ?_;refine z0 ?_;refine z0 ?_;refine aS (il (fun(b:List ah×Int)=>⟨tab 26 (af (af (af au 1 (pF 1)) 3 (.pal 24 [] 0 b.1.length none)) 4 (vI b.2)),(upd (upd RZ 1 (vA 4 (aj.row a0))) 24 (sO 4 (b.1.map ah.row)))⟩) ([],0) h ?_ ?_)
 .refine aX.trans (j6 3 24 4 (by simp only[go_sem,seval]) (by simp only[go_sem,seval])) ?_;refine wr ?_ ?_<;>repeat' first|rfl|constructor|simp only[go_sem,seval,adD,ac7,adu,adl]
 rintro n ⟨l2,v3⟩ h -;cases n with
 | zero=>simp[oJ]at h
 | succ n=>
 simp only[oJ]at h;refine z0 ?_;refine cDs h (fun hc1 hc1d h=>?_) fun hc1 hc1d h=>?_
 .refine z1 hc1d ?_;exact f0 h
 obtain⟨hd2,h⟩:=WZ h;obtain⟨r1,hr3,h⟩:=bI h;obtain⟨ha4,h⟩:=dE h;simp only[acT,adh,adm,Nat.reduceAdd]at ha4;refine z1 (k4 hc1d hd2 hr3 ha4) ?_;refine z0 ?_;refine⟨_,adk _,((l2++[(ah.mk r1 (⟨#[109]⟩) [])]),IntKind.i64.wrap (v3+1)),?_,h⟩;refine aX.trans (vR (n:=23) ([[vS r1.Type_,vS r1.Key,vS (⟨#[109]⟩),sF 5 []]]) (by(try simp only[go_sem]);rfl) (by simp only[go_sem,seval];rfl) (by simp only[je,gZ,go_sem];rfl)) (aX.trans (vR (n:=24) (l2.map ah.row++[[vS r1.Type_,vS r1.Key,vS (⟨#[109]⟩),sF 5 []]]) (by(try simp only[go_sem]);rfl) (by simp only[go_sem,seval];rfl) (by simp only[je,gZ,go_sem];rfl)) ?_);refine wr ?_ ?_<;>repeat' first|rfl|constructor|simp only[go_sem,seval]
@[go_sem] def FK(N:Nat):FnS:=⟨[],false,fn1 aj.decA fun q0=>(yc N q0).map fun r=>sF 4 (r.map ah.row),false⟩
def JU(N:Nat):aA prog 33 (FK N):=om1 fun q0 r h=>rs (OV N q0 r h)
def Cn(N:Nat)(a0:Value)(r:Value)(h:jd N a0=some r):Con prog 158 [] true [.agg (Value.row a0)] (.agg [vI r.Kind,vI r.N,vS r.S,sO 1 (r.I.map (ay .i64)),sO 1 (r.L.map dT)]):=by
 refine fk (G:=(aw [])) func158 gn ?_;simp only[f158];unfold jd at h;refine z0 ?_;refine aK ?_;first|obtain⟨ha1,h⟩:=pk h|(obtain⟨ha1,h⟩:=dE h;rw[acV]at h)
 simp only[Nat.reduceAdd]at ha1;refine z1 ha1 ?_;refine aK ?_;first|obtain⟨ha2,h⟩:=pk h|(obtain⟨ha2,h⟩:=dE h;rw[acV]at h)
 simp only[Nat.reduceAdd]at ha2;refine z1 ha2 ?_;refine z0 ?_;exact e0 h
@[go_sem] def Bp(N:Nat):FnS:=⟨[],true,fn1 Value.decA fun q0=>(jd N q0).map fun r=>.agg (Value.row r),false⟩
def FC(N:Nat):aA prog 158 (Bp N):=om1 fun q0 r h=>rs (Cn N q0 r h)
@[go_sem] def Al(N:Nat):FnS:=⟨[],true,fn1 Value.decA fun q0=>(jd N q0).map fun r=>.agg [vI r.Kind,vI r.N,vS r.S,sO 1 (r.I.map (ay .i64)),sO 1 (r.L.map dT)],false⟩
def EH(N:Nat):aA prog 158 (Al N):=om1 (Cn N)
@[go_sem] def II(N d f:Nat):Option FnS:=aw [(16,158,Bp N)] d f
def Iw(N:Nat)(a0:List Value)(r:List Value)(h:lI N a0=some r):Con prog 159 [] false [sF 5 (a0.map Value.row)] (sO 5 (r.map Value.row)):=by
 refine fk (G:=(II N)) func159 (gc 16 (FC N) gn) ?_;simp only[f159];unfold lI at h;refine z0 ?_;refine z0 ?_;refine z0 ?_;refine aS (gr fun hreal2=>?_);have hl1:=hreal2.lenT 0 (by decide) (by simp only[go_sem,seval];rfl);first|rw[acL]at hl1|rw[eK]at hl1|rw[<-ac2,acL]at hl1
 refine pA (fun(v3:Nat) (b:List Value)=>⟨tab 20 (af (af (af au 0 (sF 5 (a0.map Value.row))) 3 (.pal 18 [] 0 b.length none)) 4 (vI (v3:Int))),(upd RZ 18 (sO 5 (b.map Value.row)))⟩) [] h ?_ ?_
 .refine aX.trans (j6 3 18 5 (by simp only[go_sem,seval]) (by simp only[go_sem,seval])) ?_;refine wr ?_ ?_<;>repeat' first|rfl|constructor|simp only[go_sem,seval,adD,ac7,adu,adl]
 rintro v3 l2 hi3 h -;rcases(kq a0 v3 hi3).symm with⟨hi3',_,hd6⟩|⟨x6,hi3',hx4,hd6⟩
 .rw[hd6]at h;simp only[jn]at h;refine z1 hi3' ?_;refine cf ?_;refine z0 ?_;exact f0 h
 rw[hd6]at h;simp only[jn]at h;have hw5:=dX hi3' hl1;refine z1 hi3' ?_;refine ct ?_;obtain⟨r1,hr7,h⟩:=bI h;obtain⟨ha8,h⟩:=dE h;simp only[acT,adh,adm,Nat.reduceAdd]at ha8;refine z1 (k4 hx4 hi3' hr7 ha8) ?_;refine z1 hw5 ?_;first|refine⟨(l2++[r1]),?_,h⟩|refine⟨hi3',(l2++[r1]),?_,h⟩
 refine wr ?_ ?_<;>repeat' first|rfl|constructor|simp only[go_sem,seval]
@[go_sem] def Am(N:Nat):FnS:=⟨[],false,fn1 (aJ 5 Value.dec) fun q0=>(lI N q0).map fun r=>sF 5 (r.map Value.row),false⟩
def ET(N:Nat):aA prog 159 (Am N):=om1 fun q0 r h=>rs (Iw N q0 r h)
@[go_sem] def J0(N d f:Nat):Option FnS:=aw [(27,159,Am N)] d f
def J7(N:Nat)(a0:List ah)(r:List ah)(h:ml N a0=some r):Con prog 205 [] false [sF 4 (a0.map ah.row)] (sO 4 (r.map ah.row)):=by
 refine fk (G:=(J0 N)) func205 (gc 27 (ET N) gn) ?_;simp only[f205];unfold ml at h;refine z0 ?_;refine z0 ?_;refine z0 ?_;refine aS (gr fun hreal2=>?_);have hl1:=hreal2.lenT 0 (by decide) (by simp only[go_sem,seval];rfl);first|rw[acL]at hl1|rw[eK]at hl1|rw[<-ac2,acL]at hl1
 refine pA (fun(v3:Nat) (b:List ah)=>⟨tab 32 (af (af (af au 0 (sF 4 (a0.map ah.row))) 3 (.pal 30 [] 0 b.length none)) 4 (vI (v3:Int))),(upd RZ 30 (sO 4 (b.map ah.row)))⟩) [] h ?_ ?_
 .refine aX.trans (j6 3 30 4 (by simp only[go_sem,seval]) (by simp only[go_sem,seval])) ?_;refine wr ?_ ?_<;>repeat' first|rfl|constructor|simp only[go_sem,seval,adD,ac7,adu,adl]
 rintro v3 l2 hi3 h -;rcases(kq a0 v3 hi3).symm with⟨hi3',_,hd6⟩|⟨x6,hi3',hx4,hd6⟩
 .rw[hd6]at h;simp only[jD]at h;refine z1 hi3' ?_;refine cf ?_;refine z0 ?_;exact f0 h
 rw[hd6]at h;simp only[jD]at h;have hw5:=dX hi3' hl1;refine z1 hi3' ?_;refine ct ?_;obtain⟨r1,hr7,h⟩:=bI h;obtain⟨ha8,h⟩:=dE h;simp only[acT,adh,adm,Nat.reduceAdd]at ha8;refine d1 (k4 hx4 hi3' hr7 ha8) ?_;refine z1 hw5 ?_;first|refine⟨(l2++[(ah.mk x6.Target x6.Method r1)]),?_,h⟩|refine⟨hi3',(l2++[(ah.mk x6.Target x6.Method r1)]),?_,h⟩
 refine wr ?_ ?_<;>repeat' first|rfl|constructor|simp only[go_sem,seval]
@[go_sem] def Af(N:Nat):FnS:=⟨[],false,fn1 (aJ 4 ah.dec) fun q0=>(ml N q0).map fun r=>sO 4 (r.map ah.row),false⟩
def E6(N:Nat):aA prog 205 (Af N):=om1 (J7 N)
@[go_sem] def MA(N d f:Nat):Option FnS:=aw [(5,205,Af N),(9,158,Al N)] d f
def LQ(N:Nat)(a0:Txn)(r:Txn)(h:qg N a0=some r):Con prog 150 [] false [.agg (Txn.row a0)] (.agg [vI r.ID,vI r.Born,vS r.Client,vI r.Seq,sO 4 (r.Calls.map ah.row),vI r.Done,vI r.Last.Kind,vI r.Last.N,vS r.Last.S,sO 1 (r.Last.I.map (ay .i64)),sO 1 (r.Last.L.map dT)]):=by
 refine fk (G:=(MA N)) func150 (gc 5 (E6 N) (gc 9 (EH N) gn)) ?_;simp only[f150];unfold qg at h;refine z0 ?_;obtain⟨r1,hr1,h⟩:=bI h;refine z1 hr1 ?_;obtain⟨r2,hr2,h⟩:=bI h;refine z1 hr2 ?_;refine z0 ?_;exact f0 h
@[go_sem] def Cz(N:Nat):FnS:=⟨[],false,fn1 Txn.decA fun q0=>(qg N q0).map fun r=>.agg [vI r.ID,vI r.Born,vS r.Client,vI r.Seq,sO 4 (r.Calls.map ah.row),vI r.Done,vI r.Last.Kind,vI r.Last.N,vS r.Last.S,sO 1 (r.Last.I.map (ay .i64)),sO 1 (r.Last.L.map dT)],false⟩
def Gl(N:Nat):aA prog 150 (Cz N):=om1 (LQ N)
@[go_sem] def Ra(N d f:Nat):Option FnS:=aw [(27,150,Cz N)] d f
def Q3(N:Nat)(a0:ae)(a1:Int)(r:Txn×Bool)(h:zv N a0 a1=some r):Con prog 80 [] false [.agg (ae.row a0),vI a1] (.tup [.agg [vI r.1.ID,vI r.1.Born,vS r.1.Client,vI r.1.Seq,sO 4 (r.1.Calls.map ah.row),vI r.1.Done,vI r.1.Last.Kind,vI r.1.Last.N,vS r.1.Last.S,sO 1 (r.1.Last.I.map (ay .i64)),sO 1 (r.1.Last.L.map dT)],vB r.2]):=by
 refine fk (G:=(Ra N)) func80 (gc 27 (Gl N) gn) ?_;simp only[f80];unfold zv at h;refine z0 ?_;refine z0 ?_;refine lC 2 0 (fun(v2:Nat) (b:Unit)=>⟨tab 29 (af (af (af (af au 1 (vI a1)) 2 (pF 2)) 4 (pF 4)) 6 (vI (v2:Int))),(upd (upd RZ 2 (vA 3 (ae.row a0))) 4 (vA 11 [vI 0,vI 0,vS (⟨#[]⟩),vI 0,.val (.slice none 0 0),vI 0,vI 0,vI 0,vS (⟨#[]⟩),.val (.slice none 0 0),.val (.slice none 0 0)]))⟩) () h ?_ ?_
 .rintro v2 ⟨⟩ hi3' h;simp only[p9]at h;refine z1 hi3' ?_;refine cf ?_;refine z0 ?_;exact f0 h
 rintro v2 ⟨⟩ x5 hi3' hx4 hw5 h;simp only[p9]at h;refine z1 hi3' ?_;refine ct ?_;refine z1 (k2 hx4 hi3') ?_;refine cD h (fun hc7 hc7d h=>?_) fun hc7 hc7d h=>?_
 .obtain⟨r1,hr8,h⟩:=bI h;refine z1 (k4 hx4 hi3' hc7d hr8) ?_;exact f0 h
 refine z1 (k2 hw5 hc7d) ?_;first|refine⟨(),?_,h⟩|refine⟨hi3',(),?_,h⟩
 exact wR
@[go_sem] def HC(N:Nat):FnS:=⟨[],false,fn2 ae.decA (aG .i64) fun q0 q1=>(zv N q0 q1).map fun r=>.tup [.agg (Txn.row r.1),vB r.2],false⟩
def KY(N:Nat):aA prog 80 (HC N):=om2 fun q0 q1 r h=>rs (Q3 N q0 q1 r h)
def PS(N:Nat)(a0:Ref)(a1:Ref)(r:Bool)(h:tK N a0 a1=some r):Con prog 77 [] true [.agg [vS a0.Type_,vS a0.Key],.agg [vS a1.Type_,vS a1.Key]] (vB r):=by
 refine fk (G:=(aw [])) func77 gn ?_;simp only[f77];unfold tK at h;refine z0 ?_;refine iB h (fun hc1 h=>?_) fun hc1 h=>?_
 .refine z1 hc1 ?_;exact e0 h
 refine iB h (fun hc2 h=>?_) fun hc2 h=>?_
 .refine z1 (k2 hc1 hc2) ?_;exact e0 h
 refine z1 (k2 hc1 hc2) ?_;exact e0 h
@[go_sem] def B9(N:Nat):FnS:=⟨[],true,fn2 Ref.decA Ref.decA fun q0 q1=>(tK N q0 q1).map fun r=>vB r,false⟩
def Dy(N:Nat):aA prog 77 (B9 N):=om2 (PS N)
@[go_sem] def MY(N d f:Nat):Option FnS:=aw [(30,77,B9 N)] d f
def MH(N:Nat)(a0:List ah)(r:List Ref)(h:uj N a0=some r):Con prog 82 [] true [sF 4 (a0.map ah.row)] (sO 2 (r.map Ref.row)):=by
 refine fk (G:=(MY N)) func82 (gc 30 (Dy N) gn) ?_;simp only[f82];unfold uj at h;refine z0 ?_;refine z0 ?_;refine z0 ?_;refine aS (gr fun hreal2=>?_);have hl1:=hreal2.lenT 0 (by decide) (by simp only[go_sem,seval];rfl);first|rw[acL]at hl1|rw[eK]at hl1|rw[<-ac2,acL]at hl1
 refine pA (fun(v3:Nat) (b:List Ref)=>⟨tab 62 (af (af (af au 0 (sF 4 (a0.map ah.row))) 3 (.pal 60 [] 0 b.length none)) 4 (vI (v3:Int))),(upd RZ 60 (sO 2 (b.map Ref.row)))⟩) [] h ?_ ?_
 .refine aX.trans (j6 3 60 2 (by simp only[go_sem,seval]) (by simp only[go_sem,seval])) ?_;refine wr ?_ ?_<;>repeat' first|rfl|constructor|simp only[go_sem,seval,adD,ac7,adu,adl]
 rintro v3 l2 hi3 h -;rcases(kq a0 v3 hi3).symm with⟨hi3',_,hd6⟩|⟨x6,hi3',hx4,hd6⟩
 .rw[hd6]at h;simp only[fA]at h;refine z1 hi3' ?_;refine cf ?_;refine z0 ?_;exact e0 h
 rw[hd6]at h;simp only[fA]at h;have hw5:=dX hi3' hl1;refine z1 hi3' ?_;refine ct ?_;refine z1 (k2 hx4 hi3') ?_;refine z0 ?_;refine aK (aS (il (fun(b:Int)=>⟨tab 62 (af (af (af (af (af au 0 (sF 4 (a0.map ah.row))) 3 (.pal 60 [] 0 l2.length none)) 4 (vI (v3:Int))) 5 (pF 5)) 6 (vI b)),(upd (upd RZ 5 (vA 2 [vS x6.Target.Type_,vS x6.Target.Key])) 60 (sO 2 (l2.map Ref.row)))⟩) (l2.length:Int) h ?_ ?_))
 .exact wF (k3 hx4 hi3' hw5)
 rintro n v10 h -;cases n with
 | zero=>simp[ju]at h
 | succ n=>
 simp only[ju]at h;refine aK ?_;apply aQ (fun(c10:Bool)=>⟨tab 62 (af (af (af (af (af (af au 0 (sF 4 (a0.map ah.row))) 3 (.pal 60 [] 0 l2.length none)) 4 (vI (v3:Int))) 5 (pF 5)) 6 (vI v10)) 32 (vB c10)),(upd (upd RZ 5 (vA 2 [vS x6.Target.Type_,vS x6.Target.Key])) 60 (sO 2 (l2.map Ref.row)))⟩)
 .intro hJ7;refine iD h (fun hc8 hc8d h=>?_) fun hc8 hc8d h=>?_
  .obtain⟨x11,hb9,hx10,h⟩:=aI h;obtain⟨r12,hr11,h⟩:=bI h;refine d1 (k4 hc8d hb9 hx10 hr11) ?_;refine hJ7 _ (!r12) ?_ h;exact wF (k5 hx4 hi3' hw5 hc8d (k3 hb9 hx10 hr11))
  refine d1 hc8d ?_;refine hJ7 _ false ?_ h;exact wF (k4 hx4 hi3' hw5 hc8d)
 intro c10 h;unfold o6 at h;refine cB h (fun hc12 h=>?_) fun hc12 h=>?_
 .refine z1 hc12 ?_;refine⟨_,adk _,(IntKind.i64.wrap (v10-1)),?_,h⟩;exact wF (k4 hx4 hi3' hw5 hc12)
 refine fT (pp ?_);unfold tH at h;refine aK ?_;apply aQ (fun(c17:Bool)=>⟨tab 62 (af (af (af (af (af (af au 0 (sF 4 (a0.map ah.row))) 3 (.pal 60 [] 0 l2.length none)) 4 (vI (v3:Int))) 5 (pF 5)) 6 (vI v10)) 46 (vB c17)),(upd (upd RZ 5 (vA 2 [vS x6.Target.Type_,vS x6.Target.Key])) 60 (sO 2 (l2.map Ref.row)))⟩)
 .intro hJ13;refine ki fun Z hZ=>?_;simp only[go_sem,seval,hc12];repeat with_reducible refine eL (by kernel_rfl) ?_
  refine jr rfl (fun hc14=>?_) (fun hc14=>?_)
  .have hc14d:=decide_eq_true hc14;rw[if_pos hc14]at h;obtain⟨x18,hb15,hx16,h⟩:=aI h;simp only[go_sem,seval,hb15,hx16];refine hZ _ (by kernel_rfl) (pp (hJ13 _ (sEq x18.Type_ x6.Target.Type_&&sEq x18.Key x6.Target.Key) ?_ h));exact wF (k5 hx4 hi3' hw5 hc12 (k3 hc14d hb15 hx16))
  have hc14d:=decide_eq_false hc14;rw[if_neg hc14]at h;simp only[go_sem,seval,hc14d];refine hZ _ (by kernel_rfl) (pp (hJ13 _ false ?_ h));exact wF (k5 hx4 hi3' hw5 hc12 hc14d)
 intro c17 h;unfold px at h;refine cB h (fun hc17 h=>?_) fun hc17 h=>?_
 .refine z1 (k2 hw5 hc17) ?_;first|refine⟨l2,?_,h⟩|refine⟨hi3',l2,?_,h⟩
  exact wF (k5 hx4 hi3' hw5 hc12 hc17)
 refine aW (pp ?_);unfold lD at h;refine aK ?_;obtain⟨hs18,h⟩:=jb h;try simp only[acX]at hs18 h
 first|obtain⟨ha19,h⟩:=pk h|(obtain⟨ha19,h⟩:=dE h;rw[acV]at h)
 simp only[Nat.reduceAdd]at ha19;refine z1 (k4 hc17 hs18 @adt ha19) ?_;refine LV [0,1,2,4,7] [3,5] [[5,3]] [6,8,9] [] (by kernel_rfl) fun Z hZ Y hY=>?_;simp only[go_sem,seval];refine hY _ (by kernel_rfl) (KJ (by kernel_rfl) fun Y hY=>?_);obtain⟨hs20,ht21,h⟩:=Qa h;try simp only[acX]at hs20 ht21 h
 simp only[go_sem,seval,hs18,adn,adt,acU];refine hY _ (by kernel_rfl) (KJ (by kernel_rfl) fun Y hY=>?_);simp only[go_sem,seval,acU];refine hY _ (by kernel_rfl) (WD (sC:=⟨tab 62 (af (af (af (af (af (af (af (af (af (af (af (af (af (af (af (af (af (af au 0 (sF 4 (a0.map ah.row))) 3 (.pal 60 [] 0 l2.length none)) 4 (vI (v3:Int))) 5 (pF 5)) 6 (vI v10)) 7 (.pal 51 [] 0 (((l2.drop ((v10).toNat)).take (l2.length -(v10).toNat)).length) none)) 46 (vB false)) 48 (.pal 60 [] 0 l2.length none)) 49 (vI v10)) 50 (.pal 60 [] ((v10).toNat) (l2.length -(v10).toNat) none)) 51 (.pal 51 [] 0 (((l2.drop ((v10).toNat)).take (l2.length -(v10).toNat)).length) none)) 52 (.pal 60 [] 0 l2.length none)) 53 (vI v10)) 54 (vI v10)) 55 (.pal 60 [] 0 ((v10).toNat) (some ((v10).toNat)))) 56 (.agg [vS x6.Target.Type_,vS x6.Target.Key])) 57 (.pal 57 [] 0 ([x6.Target].length) none)) 59 (.pal 51 [] 0 (((l2.drop ((v10).toNat)).take (l2.length -(v10).toNat)).length) none)),(upd (upd (upd (upd RZ 5 (vA 2 [vS x6.Target.Type_,vS x6.Target.Key])) 51 (sO 2 (((l2.drop ((v10).toNat)).take (l2.length -(v10).toNat)).map Ref.row))) 57 (.sl true none 2 (some 1) ([x6.Target].map Ref.row))) 60 (sO 2 (l2.map Ref.row)))⟩) ?_ ?_ ?_)
 .try simp only[je,gZ,go_sem,seval]
  refine wr ?_ ?_<;>repeat' first|rfl|constructor|simp only[go_sem,seval,adD,ac7,adu,adl,hx4,hi3',hw5,hc12,hc17,hs18,adn,adt,ha19,hs20,ht21,IL ht21,acU]
 .refine⟨?_,trivial⟩
  .refine Mp (by kernel_rfl) fun Y hY=>?_;simp only[go_sem,seval,acU];refine hY _ (by kernel_rfl) (Mp (by kernel_rfl) fun Y hY=>?_);simp only[go_sem,seval,hs18,adn,adt,acU];refine hY _ (by kernel_rfl) (UX ?_);try simp only[je,gZ,go_sem,seval]
   refine wr ?_ ?_<;>repeat' first|rfl|constructor|simp only[go_sem,seval,adD,ac7,adu,adl,hx4,hi3',hw5,hc12,hc17,hs18,adn,adt,ha19,hs20,ht21,IL ht21,acU]
 obtain⟨ha22,h⟩:=dE h;simp only[acT,adh,adm,Nat.reduceAdd]at ha22;obtain⟨ha23,h⟩:=dE h;simp only[adi,acT,adh,adm,Nat.reduceAdd]at ha23;simp only[go_sem,seval,ha22,ha23];refine hZ _ (z1 hw5 ?_);first|refine⟨(((l2.take ((v10).toNat))++[x6.Target])++((l2.drop ((v10).toNat)).take (l2.length -(v10).toNat))),?_,h⟩|refine⟨hi3',(((l2.take ((v10).toNat))++[x6.Target])++((l2.drop ((v10).toNat)).take (l2.length -(v10).toNat))),?_,h⟩
 refine wr ?_ ?_<;>repeat' first|rfl|constructor|simp only[go_sem,seval]
@[go_sem] def Cv(N:Nat):FnS:=⟨[],true,fn1 (aJ 4 ah.dec) fun q0=>(uj N q0).map fun r=>sO 2 (r.map Ref.row),false⟩
def G0(N:Nat):aA prog 82 (Cv N):=om1 (MH N)
@[go_sem] def G7(N d f:Nat):Option FnS:=aw [(5,82,Cv N)] d f
def GW(N:Nat)(a0:Txn)(r:List Ref)(h:lP N a0=some r):Con prog 94 [] true [.agg (Txn.row a0)] (sO 2 (r.map Ref.row)):=by
 refine fk (G:=(G7 N)) func94 (gc 5 (G0 N) gn) ?_;simp only[f94];unfold lP at h;refine z0 ?_;obtain⟨r1,hr1,h⟩:=bI h;refine z1 hr1 ?_;exact e0 h
@[go_sem] def yZ(N:Nat):FnS:=⟨[],true,fn1 Txn.decA fun q0=>(lP N q0).map fun r=>sF 2 (r.map Ref.row),false⟩
def Dz(N:Nat):aA prog 94 (yZ N):=om1 fun q0 r h=>rs (GW N q0 r h)
@[go_sem] def H4(N d f:Nat):Option FnS:=aw [(13,80,HC N),(17,94,yZ N),(22,95,Dq N)] d f
def HL(N:Nat)(a0:ae)(a1:Int)(a2:Int)(r:Ref)(h:kE N a0 a1 a2=some r):Con prog 32 [] true [.agg (ae.row a0),vI a1,.val (.int .u8 a2)] (.agg (Ref.row r)):=by
 refine fk (G:=(H4 N)) func32 (gc 13 (KY N) (gc 17 (Dz N) (gc 22 (Ef N) gn))) ?_;simp only[f32];unfold kE at h;refine z0 ?_;obtain⟨r1,hr1,h⟩:=bI h;refine z1 hr1 ?_;obtain⟨r2,hr2,h⟩:=bI h;refine z1 hr2 ?_;refine z0 ?_;refine cD h (fun hc3 hc3d h=>?_) fun hc3 hc3d h=>?_
 .obtain⟨r3,hr4,h⟩:=bI h;refine z1 (k2 hc3d hr4) ?_;exact e0 h
 obtain⟨hd5,h⟩:=PA h;obtain⟨x4,hb6,hx7,h⟩:=aI h;refine z1 (k3 hd5 hb6 hx7) ?_;exact e0 h
@[go_sem] def zk(N:Nat):FnS:=⟨[],true,fn3 ae.decA (aG .i64) (aG .u8) fun q0 q1 q2=>(kE N q0 q1 q2).map fun r=>.agg (Ref.row r),false⟩
def DZ(N:Nat):aA prog 32 (zk N):=om3 (HL N)
@[go_sem] def Rj(N d f:Nat):Option FnS:=aw [(25,19,HE N),(58,33,FK N),(59,38,zs N),(72,25,Ba N),(88,34,rv N),(92,34,rv N),(93,26,Bg N),(110,32,zk N),(111,27,we N),(34,28,Aw N),(40,20,zC N)] d f
def Rd(N:Nat)(a0:ae)(a1:Int)(a2:aj)(r:ae ×(List aD))(h:vX N a0 a1 a2=some r):Con prog 11 [] false [.agg (ae.row a0),vI a1,.agg (aj.row a2)] (.tup [.agg (ae.row r.1),sF 9 (r.2.map aD.row)]):=by
 refine JM (G:=(Rj N)) func11 rfl (by decide) (by kernel_rfl) (gc 25 (Lu N) (gc 58 (JU N) (gc 59 (zH N) (gc 72 (AP N) (gc 88 (om N) (gc 92 (om N) (gc 93 (AO N) (gc 110 (DZ N) (gc 111 (wS N) (gc 34 (Cl N) (gc 40 (z8 N) gn))))))))))) [(89,false)] mix (ac4 rfl) ?_;simp only[f11];unfold vX at h;refine z0 ?_;obtain⟨r1,hr1,h⟩:=bI h;refine z1 hr1 ?_;refine z1 hr1 ?_;refine aS ?_;apply aQ (fun(c2:Bool)=>⟨tab 118 (af (af (af (af (af (af (af au 1 (vI a1)) 3 (pF 3)) 5 (pF 5)) 6 (pF 6)) 8 (vI r1)) 28 (.val (.int .u8 (Int.tmod a2.Kind 8)))) 47 (vB c2)),(upd (upd (upd RZ 3 (vA 3 (ae.row a0))) 5 (vA 4 (aj.row a2))) 6 (vA 3 [.val (.slice none 0 0),.val (.slice none 0 0),.val (.slice none 0 0)]))⟩)
 .intro hJ2;refine z1 hr1 ?_;refine cD h (fun hc3 hc3d h=>?_) fun hc3 hc3d h=>?_
  .refine aW (pp (hJ2 _ true ?_ h));exact wF (k2 hr1 hc3d)
  refine z1 (k2 hr1 hc3d) ?_;refine hJ2 _ (decide ((Int.tmod a2.Kind 8)=1)) ?_ h;exact wF (k2 hr1 hc3d)
 intro c2 h;unfold ua at h;refine cB h (fun hc4 h=>?_) fun hc4 h=>?_
 .obtain⟨r3,hr5,h⟩:=bI h;obtain⟨r4,hr6,h⟩:=bI h;refine d1 (k4 hr1 hc4 hr5 hr6) ?_;refine z1 (k4 hr1 hc4 hr5 hr6) ?_;refine cD h (fun hc7 hc7d h=>?_) fun hc7 hc7d h=>?_
  .refine z1 (k5 hr1 hc4 hr5 hr6 hc7d) ?_;exact f1 (k5 hr1 hc4 hr5 hr6 hc7d) h
  refine z1 (k5 hr1 hc4 hr5 hr6 hc7d) ?_;exact f1 (k5 hr1 hc4 hr5 hr6 hc7d) h
 apply aQ (fun(c5:Bool)=>⟨tab 118 (af (af (af (af (af (af au 3 (pF 3)) 5 (pF 5)) 6 (pF 6)) 8 (vI r1)) 28 (.val (.int .u8 (Int.tmod a2.Kind 8)))) 65 (vB c5)),(upd (upd (upd RZ 3 (vA 3 (ae.row a0))) 5 (vA 4 (aj.row a2))) 6 (vA 3 [.val (.slice none 0 0),.val (.slice none 0 0),.val (.slice none 0 0)]))⟩)
 .intro hJ8;refine z1 (k2 hr1 hc4) ?_;refine cD h (fun hc9 hc9d h=>?_) fun hc9 hc9d h=>?_
  .refine aW (pp (hJ8 _ true ?_ h));exact wF (k3 hr1 hc4 hc9d)
  refine z1 (k3 hr1 hc4 hc9d) ?_;refine cD h (fun hc10 hc10d h=>?_) fun hc10 hc10d h=>?_
  .refine aW (pp (hJ8 _ true ?_ h));exact wF (k4 hr1 hc4 hc9d hc10d)
  refine z1 (k4 hr1 hc4 hc9d hc10d) ?_;refine hJ8 _ (decide ((Int.tmod a2.Kind 8)=4)) ?_ h;exact wF (k4 hr1 hc4 hc9d hc10d)
 intro c5 h;unfold qe at h;refine cB h (fun hc11 h=>?_) fun hc11 h=>?_
 .obtain⟨r6,hr12,h⟩:=bI h;refine z1 (k4 hr1 hc4 hc11 hr12) ?_;refine z1 (k4 hr1 hc4 hc11 hr12) ?_;refine cN h (fun hc13 hc13d h=>?_) fun hc13 hc13d h=>?_
  .refine z1 (k5 hr1 hc4 hc11 hr12 hc13d) ?_;exact f1 (k5 hr1 hc4 hc11 hr12 hc13d) h
  refine z1 (k5 hr1 hc4 hc11 hr12 hc13d) ?_;refine cN h (fun hc14 hc14d h=>?_) fun hc14 hc14d h=>?_
  .refine z1 (k5 hr1 hc4 hc11 hr12 (k2 hc13d hc14d)) ?_;exact f1 (k5 hr1 hc4 hc11 hr12 (k2 hc13d hc14d)) h
  obtain⟨r7,hr15,h⟩:=bI h;obtain⟨r8,hr16,h⟩:=bI h;obtain rfl:=adp (hr15.symm.trans hr16);obtain⟨r9,hr17,h⟩:=bI h;refine d1 (k5 hr1 hc4 hc11 hr12 (k4 hc13d hc14d hr15 hr17)) ?_;refine z1 (k5 hr1 hc4 hc11 hr12 (k4 hc13d hc14d hr15 hr17)) ?_;refine cD h (fun hc18 hc18d h=>?_) fun hc18 hc18d h=>?_
  .refine z1 (k5 hr1 hc4 hc11 hr12 (k5 hc13d hc14d hr15 hr17 hc18d)) ?_;exact f1 (k5 hr1 hc4 hc11 hr12 (k5 hc13d hc14d hr15 hr17 hc18d)) h
  refine z1 (k5 hr1 hc4 hc11 hr12 (k5 hc13d hc14d hr15 hr17 hc18d)) ?_;exact f1 (k5 hr1 hc4 hc11 hr12 (k5 hc13d hc14d hr15 hr17 hc18d)) h
 apply aQ (fun(c10:Bool)=>⟨tab 118 (af (af (af (af (af au 3 (pF 3)) 5 (pF 5)) 6 (pF 6)) 8 (vI r1)) 100 (vB c10)),(upd (upd (upd RZ 3 (vA 3 (ae.row a0))) 5 (vA 4 (aj.row a2))) 6 (vA 3 [.val (.slice none 0 0),.val (.slice none 0 0),.val (.slice none 0 0)]))⟩)
 .intro hJ19;refine z1 (k3 hr1 hc4 hc11) ?_;refine cD h (fun hc20 hc20d h=>?_) fun hc20 hc20d h=>?_
  .refine aW (pp (hJ19 _ true ?_ h));exact wF (k4 hr1 hc4 hc11 hc20d)
  refine z1 (k4 hr1 hc4 hc11 hc20d) ?_;refine hJ19 _ (decide ((Int.tmod a2.Kind 8)=6)) ?_ h;exact wF (k4 hr1 hc4 hc11 hc20d)
 intro c10 h;unfold tT at h;refine cB h (fun hc21 h=>?_) fun hc21 h=>?_
 .obtain⟨r11,hr22,h⟩:=bI h;obtain⟨r12,hr23,h⟩:=bI h;refine d1 (k5 hr1 hc4 hc11 hc21 (k2 hr22 hr23)) ?_;refine z1 (k5 hr1 hc4 hc11 hc21 (k2 hr22 hr23)) ?_;refine cD h (fun hc24 hc24d h=>?_) fun hc24 hc24d h=>?_
  .refine z1 (k5 hr1 hc4 hc11 hc21 (k3 hr22 hr23 hc24d)) ?_;exact f1 (k5 hr1 hc4 hc11 hc21 (k3 hr22 hr23 hc24d)) h
  refine z1 (k5 hr1 hc4 hc11 hc21 (k3 hr22 hr23 hc24d)) ?_;exact f1 (k5 hr1 hc4 hc11 hc21 (k3 hr22 hr23 hc24d)) h
 refine z1 (k4 hr1 hc4 hc11 hc21) ?_;refine cD h (fun hc25 hc25d h=>?_) fun hc25 hc25d h=>?_
 .obtain⟨r13,hr26,h⟩:=bI h;refine z1 (k5 hr1 hc4 hc11 hc21 (k2 hc25d hr26)) ?_;exact f1 (k5 hr1 hc4 hc11 hc21 (k2 hc25d hr26)) h
 obtain⟨r14,hr27,h⟩:=bI h;refine z1 (k5 hr1 hc4 hc11 hc21 (k2 hc25d hr27)) ?_;refine z1 (k5 hr1 hc4 hc11 hc21 (k2 hc25d hr27)) ?_;refine cD h (fun hc28 hc28d h=>?_) fun hc28 hc28d h=>?_
 .refine z1 (k5 hr1 hc4 hc11 hc21 (k3 hc25d hr27 hc28d)) ?_;exact f1 (k5 hr1 hc4 hc11 hc21 (k3 hc25d hr27 hc28d)) h
 refine z1 (k5 hr1 hc4 hc11 hc21 (k3 hc25d hr27 hc28d)) ?_;exact f1 (k5 hr1 hc4 hc11 hc21 (k3 hc25d hr27 hc28d)) h
@[go_sem] def HH(N:Nat):FnS:=⟨[],false,fn3 ae.decA (aG .i64) aj.decA fun q0 q1 q2=>(vX N q0 q1 q2).map fun r=>.tup [.agg (ae.row r.1),sF 9 (r.2.map aD.row)],false⟩
def K7(N:Nat):aA prog 11 (HH N):=om3 (Rd N)
@[go_sem] def O4(N d f:Nat):Option FnS:=aw [(23,11,HH N)] d f
def O8(N:Nat)(a0:List aj)(r:ae ×(List aD))(h:uC N a0=some r):Con prog 18 [] false [sF 4 (a0.map aj.row)] (.tup [.agg (ae.row r.1),sO 9 (r.2.map aD.row)]):=by
 refine fk (G:=(O4 N)) func18 (gc 23 (K7 N) gn) ?_;simp only[f18];unfold uC at h;refine z0 ?_;refine z0 ?_;refine z0 ?_;refine z0 ?_;refine aS (gr fun hreal2=>?_);have hl1:=hreal2.lenT 0 (by decide) (by simp only[go_sem,seval,adD,ac7,adu,adl];rfl);first|rw[acL]at hl1|rw[eK]at hl1|rw[<-ac2,acL]at hl1
 refine pA (fun(v6:Nat) (b:List Txn×List ai×List aa×List aD)=>⟨tab 32 (af (af (af (af (af au 0 (sF 4 (a0.map aj.row))) 2 (pF 2)) 4 (pF 4)) 5 (.pal 29 [] 0 b.2.2.2.length none)) 6 (vI (v6:Int))),(upd (upd (upd RZ 2 (vA 3 [.val (.slice none 0 0),.val (.slice none 0 0),.val (.slice none 0 0)])) 4 (vA 3 [sF 11 (b.1.map Txn.row),sF 4 (b.2.1.map ai.row),sF 3 (b.2.2.1.map aa.row)])) 29 (sO 9 (b.2.2.2.map aD.row)))⟩) ([],[],[],[]) h ?_ ?_
 .refine aX.trans (El 4 [(0,0)] 11 (by simp only[go_sem,seval,adD,ac7,adu,adl]) (by simp only[go_sem,seval,adD,ac7,adu,adl];try rfl)) (aX.trans (El 4 [(0,1)] 4 (by simp only[go_sem,seval,adD,ac7,adu,adl]) (by simp only[go_sem,seval,adD,ac7,adu,adl];try rfl)) (aX.trans (El 4 [(0,2)] 3 (by simp only[go_sem,seval,adD,ac7,adu,adl]) (by simp only[go_sem,seval,adD,ac7,adu,adl];try rfl)) (aX.trans (j6 5 29 9 (by simp only[go_sem,seval,adD,ac7,adu,adl]) (by simp only[go_sem,seval,adD,ac7,adu,adl])) ?_)));refine wr ?_ ?_<;>repeat' first|rfl|constructor|simp only[go_sem,seval,adD,ac7,adu,adl]
 rintro v6 ⟨l2,l3,l4,l5⟩ hi3 h -;rcases(kq a0 v6 hi3).symm with⟨hi3',_,hd6⟩|⟨x9,hi3',hx4,hd6⟩
 .rw[hd6]at h;simp only[lA]at h;refine z1 hi3' ?_;refine cf ?_;refine z1 hi3' ?_;exact f1 hi3' h
 rw[hd6]at h;simp only[lA]at h;have hw5:=dX hi3' hl1;refine z1 (k3 hx4 hi3' hw5) ?_;refine ct ?_;obtain⟨r1,hr7,h⟩:=bI h;refine d1 (k4 hx4 hi3' hw5 hr7) ?_;refine z1 (k4 hx4 hi3' hw5 hr7) ?_;obtain⟨ha8,h⟩:=dE h;simp only[adi,acT,adh,adm,aek,Nat.reduceAdd]at ha8;refine z1 (k5 hx4 hi3' hw5 hr7 ha8) ?_;refine z1 (k5 hx4 hi3' hw5 hr7 ha8) ?_;first|refine⟨(r1.1.Txns,r1.1.Locks,r1.1.Stacks,(l5++r1.2)),?_,h⟩|refine⟨hi3',(r1.1.Txns,r1.1.Locks,r1.1.Stacks,(l5++r1.2)),?_,h⟩
 exact wF (k5 hx4 hi3' hw5 hr7 ha8)
@[go_sem] def FX(N:Nat):FnS:=⟨[],false,fn1 (aJ 4 aj.dec) fun q0=>(uC N q0).map fun r=>.tup [.agg (ae.row r.1),sF 9 (r.2.map aD.row)],false⟩
def Kb(N:Nat):aA prog 18 (FX N):=om1 fun q0 r h=>rs (O8 N q0 r h)
@[go_sem] def OX(N d f:Nat):Option FnS:=aw [(9,23,kh N),(20,73,zQ N)] d f
def Pk(N:Nat)(a0:ae)(a1:Int)(r:List Int)(h:uH N a0 a1=some r):Con prog 35 [] true [.agg (ae.row a0),vI a1] (sO 1 (r.map (ay .i64))):=by
 refine fk (G:=(OX N)) func35 (gc 9 (jf N) (gc 20 (Bq N) gn)) ?_;simp only[f35];unfold uH at h;refine z0 ?_;obtain⟨r1,hr1,h⟩:=bI h;refine z1 hr1 ?_;refine cM h (fun hc2 h=>?_) fun hc2 h=>?_
 .refine z1 hc2 ?_;exact e0 h
 refine z1 hc2 ?_;refine z0 ?_;refine aS (gr fun hreal4=>?_);have hl3:=hreal4.lenT 12 (by decide) (by simp only[go_sem,seval];rfl);first|rw[acL]at hl3|rw[eK]at hl3|rw[<-ac2,acL]at hl3
 refine pA (fun(v5:Nat) (b:List Int)=>⟨tab 36 (af (af (af (af (af (af au 1 (vI a1)) 2 (pF 2)) 5 (.pal 33 [] 0 b.length none)) 12 (sF 11 (a0.Txns.map Txn.row))) 13 (vI (a0.Txns.length:Int))) 14 (vI (v5:Int))),(upd (upd RZ 2 (vA 3 (ae.row a0))) 33 (sO 1 (b.map (ay .i64))))⟩) [] h ?_ ?_
 .refine aX.trans (j6 5 33 1 (by simp only[go_sem,seval]) (by simp only[go_sem,seval])) ?_;exact wF (k2 hr1 hc2)
 rintro v5 l4 hi5 h -;rcases(kq a0.Txns v5 hi5).symm with⟨hi5',_,hd8⟩|⟨x8,hi5',hx6,hd8⟩
 .rw[hd8]at h;simp only[jC]at h;refine z1 hi5' ?_;refine cf ?_;refine z0 ?_;exact e0 h
 rw[hd8]at h;simp only[jC]at h;have hw7:=dX hi5' hl3;refine z1 hi5' ?_;refine ct ?_;refine z1 (k2 hx6 hi5') ?_;apply aQ (fun(c3:Bool)=>⟨tab 36 (af (af (af (af (af (af (af (af au 1 (vI a1)) 2 (pF 2)) 5 (.pal 33 [] 0 l4.length none)) 7 (pF 7)) 12 (sF 11 (a0.Txns.map Txn.row))) 13 (vI (a0.Txns.length:Int))) 14 (vI (v5:Int))) 28 (vB c3)),(upd (upd (upd RZ 2 (vA 3 (ae.row a0))) 7 (vA 11 (Txn.row x8))) 33 (sO 1 (l4.map (ay .i64))))⟩)
 .intro hJ9;obtain⟨r4,hr10,h⟩:=bI h;refine iBs h (fun hc11 h=>?_) fun hc11 h=>?_
  .refine z1 (k2 hr10 hc11) ?_;refine hJ9 _ (decide ((IntKind.i64.wrap (x8.Born+40))<=a1)) ?_ h;exact wF (k5 hr1 hc2 hx6 hi5' (k3 hw7 hr10 hc11))
  refine z1 (k2 hr10 hc11) ?_;refine hJ9 _ false ?_ h;exact wF (k5 hr1 hc2 hx6 hi5' (k3 hw7 hr10 hc11))
 intro c3 h;unfold sH at h;refine cBs h (fun hc12 h=>?_) fun hc12 h=>?_
 .refine z1 (k2 hw7 hc12) ?_;first|refine⟨l4,?_,h⟩|refine⟨hi5',l4,?_,h⟩
  exact wF (k5 hr1 hc2 hx6 hi5' (k2 hw7 hc12))
 obtain⟨ha13,h⟩:=dE h;simp only[acT,adh,adm,Nat.reduceAdd]at ha13;refine z1 (k2 hc12 ha13) ?_;refine z1 hw7 ?_;first|refine⟨(l4++[x8.ID]),?_,h⟩|refine⟨hi5',(l4++[x8.ID]),?_,h⟩
 refine wr ?_ ?_<;>repeat' first|rfl|constructor|simp only[go_sem,seval]
@[go_sem] def FI(N:Nat):FnS:=⟨[],true,fn2 ae.decA (aG .i64) fun q0 q1=>(uH N q0 q1).map fun r=>sF 1 (r.map (ay .i64)),false⟩
def Kh(N:Nat):aA prog 35 (FI N):=om2 fun q0 q1 r h=>rs (Pk N q0 q1 r h)
def MN(N:Nat)(a0:List Int)(a1:List Int)(r:Bool)(h:tZ N a0 a1=some r):Con prog 36 [] true [sF 1 (a0.map (ay .i64)),sF 1 (a1.map (ay .i64))] (vB r):=by
 refine fk (G:=(aw [])) func36 gn ?_;simp only[f36];unfold tZ at h;refine z0 ?_;refine z0 ?_;refine cN h (fun hc1 hc1d h=>?_) fun hc1 hc1d h=>?_
 .refine z1 hc1d ?_;exact e0 h
 refine z1 hc1d ?_;refine lT 0 (fun(v3:Nat) (b:Unit)=>⟨tab 26 (af (af (af au 0 (sF 1 (a0.map (ay .i64)))) 1 (sF 1 (a1.map (ay .i64)))) 5 (vI (v3:Int))),RZ⟩) () h ?_ ?_
 .rintro v3 ⟨⟩ hi4' h;simp only[lg]at h;refine z1 hi4' ?_;refine cf ?_;refine z0 ?_;exact e0 h
 rintro v3 ⟨⟩ x6 hi4' hx5 hw6 h;simp only[lg]at h;refine z1 hi4' ?_;refine ct ?_;obtain⟨x1,hb8,hx9,h⟩:=aI h;try simp only[acX]at hx9
 try simp only[aey,adZ,true_and]at hb8
 refine d1 (k4 hx5 hi4' hb8 hx9) ?_;refine cN h (fun hc10 hc10d h=>?_) fun hc10 hc10d h=>?_
 .refine z1 hc10d ?_;exact e0 h
 refine z1 (k2 hw6 hc10d) ?_;first|refine⟨(),?_,h⟩|refine⟨hi4',(),?_,h⟩
 exact wR
@[go_sem] def DE(N:Nat):FnS:=⟨[],true,fn2 (aJ 1 (du (aG .i64))) (aJ 1 (du (aG .i64))) fun q0 q1=>(tZ N q0 q1).map fun r=>vB r,false⟩
def HN(N:Nat):aA prog 36 (DE N):=om2 (MN N)
def Ls(N:Nat)(a0:Ref)(r:Bool)(h:oq N a0=some r):Con prog 96 [] true [.agg [vS a0.Type_,vS a0.Key]] (vB r):=by
 refine fk (G:=(aw [])) func96 gn ?_;simp only[f96];unfold oq at h;refine z0 ?_;refine iDs h (fun hc1 hc1d h=>?_) fun hc1 hc1d h=>?_
 .refine z1 hc1d ?_;exact e0 h
 refine iD h (fun hc2 hc2d h=>?_) fun hc2 hc2d h=>?_
 .refine z1 (k2 hc1d hc2d) ?_;exact e0 h
 refine z1 (k2 hc1d hc2d) ?_;exact e0 h
@[go_sem] def Ct(N:Nat):FnS:=⟨[],true,fn1 Ref.decA fun q0=>(oq N q0).map fun r=>vB r,false⟩
def G1(N:Nat):aA prog 96 (Ct N):=om1 (Ls N)
def OS(N:Nat)(a0:Int)(r:Bool)(h:uF N a0=some r):Con prog 97 [] true [vI a0] (vB r):=by
 refine fk (G:=(aw [])) func97 gn ?_;simp only[f97];unfold uF at h;refine z0 ?_;refine iD h (fun hc1 hc1d h=>?_) fun hc1 hc1d h=>?_
 .refine z1 hc1d ?_;exact e0 h
 refine z1 hc1d ?_;exact e0 h
@[go_sem] def FD(N:Nat):FnS:=⟨[],true,fn1 (aG .i64) fun q0=>(uF N q0).map fun r=>vB r,false⟩
def Kg(N:Nat):aA prog 97 (FD N):=om1 (OS N)
@[go_sem] def Ia(N d f:Nat):Option FnS:=aw [(21,96,Ct N),(26,97,FD N),(47,77,B9 N)] d f
def IM(N:Nat)(a0:List ai)(r:Bool)(h:lf N a0=some r):Con prog 37 [] true [sF 4 (a0.map ai.row)] (vB r):=by
 refine fk (G:=(Ia N)) func37 (gc 21 (G1 N) (gc 26 (Kg N) (gc 47 (Dy N) gn))) ?_;simp only[f37];unfold lf at h;refine z0 ?_;refine z0 ?_;refine cD h (fun hc1 hc1d h=>?_) fun hc1 hc1d h=>?_
 .refine z1 hc1d ?_;exact e0 h
 refine z1 hc1d ?_;refine lT 0 (fun(v3:Nat) (b:Unit)=>⟨tab 92 (af (af au 0 (sF 4 (a0.map ai.row))) 3 (vI (v3:Int))),RZ⟩) () h ?_ ?_
 .rintro v3 ⟨⟩ hi4' h;simp only[dz]at h;refine z1 hi4' ?_;refine cf ?_;refine z0 ?_;exact e0 h
 rintro v3 ⟨⟩ x6 hi4' hx5 hw6 h;simp only[dz]at h;refine z1 hi4' ?_;refine ct ?_;refine z1 (k2 hx5 hi4') ?_;refine aK ?_;apply aQ (fun(c11:Bool)=>⟨tab 92 (af (af (af (af au 0 (sF 4 (a0.map ai.row))) 3 (vI (v3:Int))) 4 (pF 4)) 50 (vB c11)),(upd RZ 4 (vA 4 (ai.row x6)))⟩)
 .intro hJ8;obtain⟨r12,hr9,h⟩:=bI h;refine ki fun Z hZ=>?_;simp only[go_sem,seval,hr9];repeat with_reducible refine eL (by kernel_rfl) ?_
  refine lE rfl (fun hc10=>?_) (fun hc10=>?_)
  .rw[if_neg (ne_true_of_eq_false hc10)]at h;simp only[go_sem,seval,hc10];refine hZ _ (by kernel_rfl) (pp (hJ8 _ true ?_ h));exact wR
  rw[if_pos hc10]at h;obtain⟨r13,hr11,h⟩:=bI h;simp only[go_sem,seval,hc10,hr11];repeat with_reducible refine eL (by kernel_rfl) ?_
  refine lE rfl (fun hc12=>?_) (fun hc12=>?_)
  .rw[if_neg (ne_true_of_eq_false hc12)]at h;simp only[go_sem,seval,hc12];refine hZ _ (by kernel_rfl) (pp (hJ8 _ true ?_ h));exact wR
  rw[if_pos hc12]at h;simp only[go_sem,seval,hc12];repeat with_reducible refine eL (by kernel_rfl) ?_
  refine jr rfl (fun hc13=>?_) (fun hc13=>?_)
  .have hc13d:=decide_eq_true hc13;rw[if_pos hc13]at h;simp only[go_sem,seval,hc13d];refine hZ _ (by kernel_rfl) (pp (hJ8 _ true ?_ h));exact wR
  have hc13d:=decide_eq_false hc13;rw[if_neg hc13]at h;simp only[go_sem,seval,hc13d];refine jr rfl (fun hc14=>?_) (fun hc14=>?_)
  .have hc14d:=decide_eq_true hc14;rw[if_pos hc14]at h;obtain⟨x14,hb15,hx16,h⟩:=aI h;obtain⟨r15,hr17,h⟩:=bI h;simp only[go_sem,seval,hc14d,hb15,hx16,hr17];repeat with_reducible refine eL (by kernel_rfl) ?_
   refine hZ _ (by kernel_rfl) (pp (hJ8 _ (!r15) ?_ h));exact wR
  have hc14d:=decide_eq_false hc14;rw[if_neg hc14]at h;simp only[go_sem,seval,hc14d];refine hZ _ (by kernel_rfl) (pp (hJ8 _ false ?_ h));exact wR
 intro c11 h;unfold fK at h;refine cB h (fun hc18 h=>?_) fun hc18 h=>?_
 .refine z1 hc18 ?_;exact e0 h
 unfold fM at h;refine z1 hc18 ?_;refine lC 4 3 (fun(v16:Nat) (b:Unit)=>⟨tab 92 (af (af (af (af au 0 (sF 4 (a0.map ai.row))) 3 (vI (v3:Int))) 4 (pF 4)) 5 (vI (v16:Int))),(upd RZ 4 (vA 4 (ai.row x6)))⟩) () h ?_ ?_
 .rintro v16 ⟨⟩ hi21' h;simp only[eG]at h;refine z1 hi21' ?_;refine cf ?_;refine z1 hw6 ?_;first|refine⟨(),?_,h⟩|refine⟨hi4',(),?_,h⟩
  exact wR
 rintro v16 ⟨⟩ x19 hi21' hx22 hw23 h;simp only[eG]at h;refine z1 hi21' ?_;refine ct ?_;refine aW (pp (aK (aS ?_)));apply aQ (fun(c17:Bool)=>⟨tab 92 (af (af (af (af (af au 0 (sF 4 (a0.map ai.row))) 3 (vI (v3:Int))) 4 (pF 4)) 5 (vI (v16:Int))) 91 (vB c17)),(upd RZ 4 (vA 4 (ai.row x6)))⟩)
 .intro hJ25;refine iD h (fun hc26 hc26d h=>?_) fun hc26 hc26d h=>?_
  .refine d1 (k3 hx22 hi21' hc26d) ?_;refine hJ25 _ true ?_ h;exact wR
  refine iD h (fun hc27 hc27d h=>?_) fun hc27 hc27d h=>?_
  .refine d1 (k4 hx22 hi21' hc26d hc27d) ?_;refine hJ25 _ true ?_ h;exact wR
  refine iD h (fun hc28 hc28d h=>?_) fun hc28 hc28d h=>?_
  .obtain⟨x18,hb29,hx30,h⟩:=aI h;refine d1 (k5 hx22 hi21' hc26d hc27d (k3 hc28d hb29 hx30)) ?_;refine hJ25 _ (decide (x19<=x18)) ?_ h;exact wR
  refine d1 (k5 hx22 hi21' hc26d hc27d hc28d) ?_;refine hJ25 _ false ?_ h;exact wR
 intro c17 h;unfold gS at h;refine cB h (fun hc31 h=>?_) fun hc31 h=>?_
 .refine z1 hc31 ?_;exact e0 h
 refine z1 (k2 hw23 hc31) ?_;first|refine⟨(),?_,h⟩|refine⟨hi21',(),?_,h⟩
 exact wR
@[go_sem] def Ak(N:Nat):FnS:=⟨[],true,fn1 (aJ 4 ai.dec) fun q0=>(lf N q0).map fun r=>vB r,false⟩
def Fc(N:Nat):aA prog 37 (Ak N):=om1 (IM N)
@[go_sem] def Ij(N d f:Nat):Option FnS:=aw [(17,10,AE N),(24,18,FX N),(30,35,FI N),(44,13,pD N),(52,15,Cd N),(93,36,DE N),(97,37,Ak N)] d f
def Br(N:Nat)(a0:List aj)(a1:Int)(r:Bool)(h:lJ N a0 a1=some r):Con prog 9 [] true [sF 4 (a0.map aj.row),.val (.int .u8 a1)] (vB r):=by
 refine fk (G:=(Ij N)) func9 (gc 17 (Kf N) (gc 24 (Kb N) (gc 30 (Kh N) (gc 44 (qZ N) (gc 52 (C7 N) (gc 93 (HN N) (gc 97 (Fc N) gn))))))) ?_;simp only[f9];unfold lJ at h;refine z0 ?_;obtain⟨r1,hr1,h⟩:=bI h;refine z1 hr1 ?_;refine cM h (fun hc2 h=>?_) fun hc2 h=>?_
 .refine z1 hc2 ?_;exact e0 h
 refine z1 hc2 ?_;refine cD h (fun hc3 hc3d h=>?_) fun hc3 hc3d h=>?_
 .refine z1 hc3d ?_;exact e0 h
 obtain⟨r2,hr4,h⟩:=bI h;refine z1 (k2 hc3d hr4) ?_;obtain⟨r3,hr5,h⟩:=bI h;refine z1 hr5 ?_;refine z0 ?_;refine z0 ?_;refine aS (gr fun hreal7=>?_);have hl6:=hreal7.cell 5 0 (by simp only[go_sem,seval];rfl) rfl;first|rw[acL]at hl6|rw[eK]at hl6|rw[<-ac2,acL]at hl6
 refine pA (fun(v8:Nat) (b:List Int)=>⟨tab 99 (af (af (af (af (af au 1 (.val (.int .u8 a1))) 5 (pF 5)) 7 (sF 1 (r3.map (ay .i64)))) 8 (.pal 90 [] 0 b.length none)) 9 (vI (v8:Int))),(upd (upd RZ 5 (vA 3 (ae.row r2.1))) 90 (sO 1 (b.map (ay .i64))))⟩) [] h ?_ ?_
 .refine aX.trans (j6 8 90 1 (by simp only[go_sem,seval]) (by simp only[go_sem,seval])) ?_;exact wF (k5 hr1 hc2 hc3d hr4 hr5)
 rintro v8 l7 hi8 h -;rcases(kq r2.1.Txns v8 hi8).symm with⟨hi8',_,hd11⟩|⟨x11,hi8',hx9,hd11⟩
 .rw[hd11]at h;simp only[gW]at h;refine z1 hi8' ?_;refine cf ?_;refine fT (pp ?_);unfold uI at h;refine aK ?_;obtain⟨r69,hr33,h⟩:=bI h;refine iB h (fun hc34 h=>?_) fun hc34 h=>?_
  .obtain⟨r70,hr35,h⟩:=bI h;refine z1 (k3 hr33 hc34 hr35) ?_;exact e0 h
  refine z1 (k2 hr33 hc34) ?_;exact e0 h
 rw[hd11]at h;simp only[gW]at h;have hw10:=dX hi8' hl6;refine z1 hi8' ?_;refine ct ?_;refine z1 (k2 hx9 hi8') ?_;refine z0 ?_;obtain⟨r57,hr12,h⟩:=bI h;refine z1 hr12 ?_;refine lT 44 (fun(v17:Nat) (b:Bool)=>⟨tab 99 (af (af (af (af (af (af (af (af (af (af au 1 (.val (.int .u8 a1))) 5 (pF 5)) 7 (sF 1 (r3.map (ay .i64)))) 8 (.pal 90 [] 0 l7.length none)) 9 (vI (v8:Int))) 10 (pF 10)) 11 (vB b)) 44 (sF 2 (r57.map Ref.row))) 45 (vI (r57.length:Int))) 46 (vI (v17:Int))),(upd (upd (upd RZ 5 (vA 3 (ae.row r2.1))) 10 (vA 11 (Txn.row x11))) 90 (sO 1 (l7.map (ay .i64))))⟩) false h ?_ ?_ (h0:=wF (k5 hr1 hc2 hc3d hr4 (k5 hr5 hx9 hi8' hw10 hr12)))
 .rintro v17 c16 hi15' h;simp only[gO]at h;refine z1 hi15' ?_;refine cf ?_;refine fT (pp ?_);unfold uS at h;apply aQ (fun(c68:Bool)=>⟨tab 99 (af (af (af (af (af (af (af au 1 (.val (.int .u8 a1))) 5 (pF 5)) 7 (sF 1 (r3.map (ay .i64)))) 8 (.pal 90 [] 0 l7.length none)) 9 (vI (v8:Int))) 10 (pF 10)) 85 (vB c68)),(upd (upd (upd RZ 5 (vA 3 (ae.row r2.1))) 10 (vA 11 (Txn.row x11))) 90 (sO 1 (l7.map (ay .i64))))⟩)
  .intro hJ29;refine iB h (fun hc30 h=>?_) fun hc30 h=>?_
   .refine z1 hc30 ?_;refine hJ29 _ (decide ((IntKind.i64.wrap (x11.Born+40))<=(IntKind.i64.wrap a1))) ?_ h;exact wF (k5 hr1 hc2 hc3d hr4 (k5 hr5 hx9 hi8' hw10 (k3 hr12 hi15' hc30)))
   refine z1 hc30 ?_;refine hJ29 _ false ?_ h;exact wF (k5 hr1 hc2 hc3d hr4 (k5 hr5 hx9 hi8' hw10 (k3 hr12 hi15' hc30)))
  intro c68 h;unfold pI at h;refine cBs h (fun hc31 h=>?_) fun hc31 h=>?_
  .refine z1 (k2 hw10 hc31) ?_;first|refine⟨l7,?_,h⟩|refine⟨hi8',l7,?_,h⟩
   exact wF (k5 hr1 hc2 hc3d hr4 (k5 hr5 hx9 hi8' hw10 (k3 hr12 hi15' hc31)))
  obtain⟨ha32,h⟩:=dE h;simp only[acT,adh,adm,Nat.reduceAdd]at ha32;refine z1 (k2 hc31 ha32) ?_;refine z1 hw10 ?_;first|refine⟨(l7++[x11.ID]),?_,h⟩|refine⟨hi8',(l7++[x11.ID]),?_,h⟩
  refine wr ?_ ?_<;>repeat' first|rfl|constructor|simp only[go_sem,seval]
 rintro v17 c16 x20 hi15' hx16 hw17 h;simp only[gO]at h;refine z1 hi15' ?_;refine ct ?_;refine z1 (k2 hx16 hi15') ?_;refine z0 ?_;obtain⟨r67,hr19,h⟩:=bI h;refine z1 hr19 ?_;refine lT 52 (fun(v26:Nat) (b:Bool)=>⟨tab 99 (af (af (af (af (af (af (af (af (af (af (af (af (af (af au 1 (.val (.int .u8 a1))) 5 (pF 5)) 7 (sF 1 (r3.map (ay .i64)))) 8 (.pal 90 [] 0 l7.length none)) 9 (vI (v8:Int))) 10 (pF 10)) 11 (vB c16)) 14 (vB b)) 44 (sF 2 (r57.map Ref.row))) 45 (vI (r57.length:Int))) 46 (vI (v17:Int))) 52 (sF 3 (r67.map al.row))) 53 (vI (r67.length:Int))) 54 (vI (v26:Int))),(upd (upd (upd RZ 5 (vA 3 (ae.row r2.1))) 10 (vA 11 (Txn.row x11))) 90 (sO 1 (l7.map (ay .i64))))⟩) false h ?_ ?_ (h0:=wF (k5 hr1 hc2 hc3d hr4 (k5 hr5 hx9 hi8' hw10 (k5 hr12 hx16 hi15' hw17 hr19))))
 .rintro v26 c25 hi22' h;simp only[eI]at h;refine z1 hi22' ?_;refine cf ?_;refine fT (pp ?_);unfold uP at h;refine iB h (fun hc28 h=>?_) fun hc28 h=>?_
  .refine z1 hc28 ?_;refine z1 hw17 ?_;first|refine⟨true,?_,h⟩|refine⟨hi15',true,?_,h⟩
   exact wF (k5 hr1 hc2 hc3d hr4 (k5 hr5 hx9 hi8' hw10 (k5 hr12 hx16 hi15' hw17 (k3 hr19 hi22' hc28))))
  refine z1 hc28 ?_;refine z1 hw17 ?_;first|refine⟨(!c25),?_,h⟩|refine⟨hi15',(!c25),?_,h⟩
  exact wF (k5 hr1 hc2 hc3d hr4 (k5 hr5 hx9 hi8' hw10 (k5 hr12 hx16 hi15' hw17 (k3 hr19 hi22' hc28))))
 rintro v26 c25 x29 hi22' hx23 hw24 h;simp only[eI]at h;refine z1 hi22' ?_;refine ct ?_;refine z1 (k2 hx23 hi22') ?_;refine iB h (fun hc26 h=>?_) fun hc26 h=>?_
 .refine z1 hc26 ?_;refine z1 hw24 ?_;first|refine⟨true,?_,h⟩|refine⟨hi22',true,?_,h⟩
  exact wF (k5 hr1 hc2 hc3d hr4 (k5 hr5 hx9 hi8' hw10 (k5 hr12 hx16 hi15' hw17 (k5 hr19 hx23 hi22' hw24 hc26))))
 refine iD h (fun hc27 hc27d h=>?_) fun hc27 hc27d h=>?_
 .refine z1 (k2 hc26 hc27d) ?_;refine z1 hw24 ?_;first|refine⟨x29.Prepared,?_,h⟩|refine⟨hi22',x29.Prepared,?_,h⟩
  exact wF (k5 hr1 hc2 hc3d hr4 (k5 hr5 hx9 hi8' hw10 (k5 hr12 hx16 hi15' hw17 (k5 hr19 hx23 hi22' hw24 (k2 hc26 hc27d)))))
 refine z1 (k2 hc26 hc27d) ?_;refine z1 hw24 ?_;first|refine⟨false,?_,h⟩|refine⟨hi22',false,?_,h⟩
 exact wF (k5 hr1 hc2 hc3d hr4 (k5 hr5 hx9 hi8' hw10 (k5 hr12 hx16 hi15' hw17 (k5 hr19 hx23 hi22' hw24 (k2 hc26 hc27d)))))
@[go_sem] def HP(N:Nat):FnS:=⟨[],true,fn2 (aJ 4 aj.dec) (aG .u8) fun q0 q1=>(lJ N q0 q1).map fun r=>vB r,false⟩
def SA(N:Nat):aA prog 9 (HP N):=om2 (Br N)
end
end Go.Proofs.YtmacaidmhchpgaaGreat
