/- Walks: each function computes its model. No condition. -/
import Derived.Test.YtmacaidmhchpgaaGreatB
import Derived.Test.YtmacaidmhchpgaaGreatWA
/- Each Go function computes its model: proofs laid by a program of ours. -/
set_option linter.defProp false
set_option maxHeartbeats 40000000
set_option synthInstance.maxHeartbeats 2000000
set_option synthInstance.maxSize 4000
set_option linter.unusedSimpArgs false
set_option linter.unusedVariables false
set_option maxRecDepth 100000
namespace Go.Proofs.YtmacaidmhchpgaaGreat
open Go Go.Proofs Go.Abs Tryz
noncomputable section
@[go_sem] def Kt (N d f:Nat):Option FnS:=ay [(8,116,mh N),(11,117,zQ N),(25,118,bm N)] d f
def Kw (N:Nat) (a0:List ai) (a1:Int) (r:List ai) (h:oY N a0 a1=some r):Con prog 50 [] false [sF 4 (a0.map ai.row),vI a1] (sO 4 (r.map ai.rowD)):=by
 refine fk (G:=(Kt N)) func50 (gc 8 (kZ N) (gc 11 (Bw N) (gc 25 (qO N) gn))) ?_;simp only [f50];unfold oY at h;refine z0 ?_;obtain ⟨r1,hr1,h⟩:=bI h;refine z1 hr1 ?_;refine cM h (fun hc2 h=>?_) fun hc2 h=>?_
 ·refine z1 hc2 ?_;exact f0 h
 obtain ⟨r2,hr3,h⟩:=bI h;refine z1 (k2 hc2 hr3) ?_;refine z0 ?_;refine aX (ic fun hreal5=>?_);have hl4:=hreal5.lenX 11 (by simp only [go_sem,seval]; rfl);first|rw [ab5] at hl4|rw [fC] at hl4|rw [<-acs,ab5] at hl4
 refine pS (fun (v6:Nat) (b:List ai)=>⟨tab 30 (af (af (af (af av 3 (pF 3)) 5 (.pal 11 [] 0 b.length none)) 13 (vI (r2.length:Int))) 14 (vI (v6:Int))),(upd (upd RZ 3 (vA 1 [vI a1])) 11 (sO 4 (b.map ai.rowD)))⟩) r2 h ?_ ?_
 ·exact wF (k3 hr1 hc2 hr3)
 rintro v6 l5 _ h -;rcases (jL r2.length v6).symm with ⟨hi6',hd9⟩|⟨hi6',hd9⟩
 ·rw [hd9] at h;simp only [jw] at h;refine z1 hi6' ?_;refine cf ?_;refine z0 ?_;exact f0 h
 rw [hd9] at h;simp only [jw] at h;have hw8:=eW hi6' hl4;refine z1 hi6' ?_;refine ct ?_;refine z0 ?_;obtain ⟨x3,hb10,hx11,h⟩:=aI h;try simp only [acm] at hx11
 try simp only [ad4,adt,true_and] at hb10
 obtain ⟨r4,hr12,h⟩:=bI h;refine z1 (k5 hb10 hx11 (ov1 (row:=ai.rowD) (rx:=[vS x3.Actor.Type_,vS x3.Actor.Key,vI x3.Owner,sO 1 (x3.Waiters.map (aA .i64))]) hx11 rfl) (ov2 (row:=ai.rowD) hx11) (k2 (ov3 (row:=ai.rowD) hx11) hr12)) ?_;refine z1 hw8 ?_;first|refine ⟨(l5.set v6 (ai.mk x3.Actor x3.Owner r4)),?_,h⟩|refine ⟨hi6',(l5.set v6 (ai.mk x3.Actor x3.Owner r4)),?_,h⟩
 refine bh.trans (Tx (n:=11) (ai.mk x3.Actor x3.Owner r4) (by simp only [go_sem,seval]; rfl) rfl rfl) ?_;refine wr ?_ ?_<;>repeat' first|rfl|constructor|simp only [go_sem,seval,ac2,acy]
@[go_sem] def Cp (N:Nat):FnS:=⟨[],false,fn2 (aJ 4 ai.dec) (aG .i64) fun q0 q1=>(oY N q0 q1).map fun r=>sF 4 (r.map ai.row),false⟩
def GJ (N:Nat):aC prog 50 (Cp N):=om2 fun q0 q1 r h=>rs (Kw N q0 q1 r h)
def oB:Env:={ T:=fb prog,G:=fun d f=>none }
theorem jO:oB.T=fb prog:=rfl
theorem jM (d:Nat):oB.F d=none:=rfl
def DN:GOk prog { T:=fb prog,G:=oB.G }:=by
 refine ⟨?_,fun _ _ _ h=>by cases h⟩;intro d f fs hfs;cases hfs
theorem FP:Ed prog 190 f190 f190.body.get! := ⟨func190,rfl,by decide,by kernel_rfl⟩
set_option maxHeartbeats 4000000 in
def Fv {α:Type} (row:α->List C) (ok:ar row) (l:List α) (i j:Nat) (r:List α) (hr:r=l.take i++l.drop j) (hij:i<=j) (hj:j<=l.length) :
  Con prog 190 [true,false,false] false [sO 4 (l.map row),vI i,vI j] (sO 4 (r.map row)):=by
 refine Jp (E:=oB) (zo prog _) DN mix FP (acv rfl) ?_;intro _;rw [vx (by simp)];rw [show gQ [true,false,false] [C.sl true none 4 none (l.map row),C.val (.int .i64 i),C.val (.int .i64 j)]=(af (af (af av 0 (.pal 0 [] 0 l.length none)) 1 (vI i)) 2 (vI j)) from by funext t; match t with|0=>simp [gQ,ju,kJ,af]|1=>rfl|2=>rfl|t+3=>rfl];rw [show R0 [true,false,false] [C.sl true none 4 none (l.map row),C.val (.int .i64 i),C.val (.int .i64 j)]=upd RZ 0 (C.sl true none 4 none (l.map row)) from by funext t; match t with|0=>rfl|1=>rfl|2=>rfl|t+3=>rfl];apply Jq;simp only [f190,Option.get!];have hi1:(i:Int)<=(j:Int):=by omega
 have hj1:(j:Int)<=(l.length:Int):=by omega
 have hj0:i<=l.length:=by omega
 simp only [go_sem,seval,jO,jM,hi1,hj1,hij,hj,hj0,ab6,ar.frzRows ok,ar.all ok,ar.allPlain ok,ar.allD ok,aK,Dt,bO,eP,fu,tG,sI,yC,yA,ab3,acp,acj,eh,acE,decide_not,acg];refine tH rfl (fun hc=>?_) (fun hc=>?_)
 ·have e:i=j:=by omega
  subst e;simp only [go_sem,seval,jO,jM,hi1,hj1,hij,hj,hj0,ab6,ar.frzRows ok,ar.all ok,ar.allPlain ok,ar.allD ok,aK,Dt,bO,eP,fu,tG,sI,yC,yA,ab3,acp,acj,eh,acE,decide_not,acg,eC,gK];refine tj ok ?_;rw [hr];simp [acr]
 ·have hc1:decide ((i:Int)=(j:Int))=false:=decide_eq_false hc;have hlt:i < j:=by omega
  have hlt2:i < l.length:=by omega
  have hm3:(l.drop j).take (l.length - j)=l.drop j:=acr (by simp);have hd:(l.drop j).length=l.length - j:=by simp
  have hle:i+(l.length - j)<=l.length:=by omega
  have hnle:¬ l.length<=i+(l.length - j):=by omega
  obtain ⟨A,hA⟩:∃ A,aL (List.map row l) i (List.map row (List.drop j l))=A:=⟨_,rfl⟩;have hAp:bY A:=by rw [<-hA]; exact gH (gG ok _) (gG ok _)
  have hAl:A.length=l.length:=by rw [<-hA]; simp [aL]; omega
  obtain ⟨B,hB⟩:∃ B,aL A (i+(l.length - j)) (List.replicate (l.length - (i+(l.length - j))) [C.val (Value.string ⟨#[]⟩),C.val (Value.string ⟨#[]⟩),C.val (Value.int .i64 0),C.val (Value.slice none 0 0)])=B:=⟨_,rfl⟩;have hBp:bY B:=by rw [<-hB]; exact gH hAp (zM _ [Value.string ⟨#[]⟩,Value.string ⟨#[]⟩,Value.int .i64 0,Value.slice none 0 0] (by simp [Value.oneCell']))
  have hBe:B.take (i+(l.length - j))=r.map row:=by
   have:=Wa (L:=l.map row) (List.replicate (l.length - (i+(l.length - j))) [C.val (Value.string ⟨#[]⟩),C.val (Value.string ⟨#[]⟩),C.val (Value.int .i64 0),C.val (Value.slice none 0 0)]) hij (by simpa using hj);rw [ab5,<-adA,hA,hB] at this;rw [this,hr]; simp
  simp only [go_sem,seval,jO,jM,hi1,hj1,hij,hj,hj0,ab6,ar.frzRows ok,ar.all ok,ar.allPlain ok,ar.allD ok,aK,Dt,bO,eP,fu,tG,sI,yC,yA,ab3,acp,acj,eh,acE,decide_not,acg,hc1,hlt,hlt2,hm3,hd,hle,hnle,hA,hAl,hAp.1,hAp.2];repeat' ((with_reducible refine fZ ?_ ?_); kernel_rfl)
  simp only [go_sem,seval,jO,jM,hi1,hj1,hij,hj,hj0,ab6,ar.frzRows ok,ar.all ok,ar.allPlain ok,ar.allD ok,aK,Dt,bO,eP,fu,tG,sI,yC,yA,ab3,acp,acj,eh,acE,decide_not,acg,hc1,hlt,hlt2,hm3,hd,hle,hnle,hA,hAl,hAp.1,hAp.2,hB,hBp.1,hBp.2,eC,gK];repeat' ((with_reducible refine fZ ?_ ?_); kernel_rfl)
  try simp only [go_sem,seval,jO,jM,hi1,hj1,hij,hj,hj0,ab6,ar.frzRows ok,ar.all ok,ar.allPlain ok,ar.allD ok,aK,Dt,bO,eP,fu,tG,sI,yC,yA,ab3,acp,acj,eh,acE,decide_not,acg,eC,gK,hBp.1,hBp.2]
  refine tj ok ?_;rw [<-hBe]
def GR (N:Nat) (a0:List ai) (a1:Int) (a2:Int) (r:List ai) (h:mG N a0 a1 a2=some r) :
  Con prog 190 [true,false,false] false [sO 4 (a0.map ai.row),vI a1,vI a2] (sO 4 (r.map ai.row)):=by
 unfold mG at h;obtain ⟨n,m,rfl,rfl,h1,h2,h3⟩:=Uz h;exact Fv ai.row ai.row_ok a0 n m r (acM h3).symm h1 h2
def fR (N:Nat):FnS:={ own:=[true,false,false],pure:=false,fn:=fun cs=>match cs with
 | [c0,c1,c2]=>(vV 4 ai.dec c0).bind fun q0=>(aG .i64 c1).bind fun q1=>(aG .i64 c2).bind fun q2=>(mG N q0 q1 q2).map fun r=>sO 4 (r.map ai.row)
 | _=>none }
theorem Cf (N:Nat):(fR N).own=[true,false,false]:=rfl
theorem BS (N:Nat):(fR N).pure=false:=rfl
theorem BZ (N:Nat):(fR N).peek=false:=rfl
attribute [go_sem] fR Cf BS BZ
def CG (N:Nat):aC prog 190 (fR N):=by
 refine ⟨fun cs r h=>?_,fun h=>by cases h⟩;simp only [fR] at h;split at h
 ·simp only [abZ,abY] at h;obtain ⟨q0,h0,q1,h1,q2,h2,r',hr,rfl⟩:=h;exact (GR N q0 q1 q2 r' hr).argsO rfl (j6 (qE ai.row_ok ai.dec_le h0) (rT (bN h1) (rT (bN h2) oJ)))
 ·cases h
@[go_sem] def QM (N d f:Nat):Option FnS:=ay [(20,190,fR N)] d f
def PQ (N:Nat) (a0:List ai) (a1:Int) (r:(List ai) × Int) (h:tU N a0 a1=some r):Con prog 120 [true,false] false [sO 4 (a0.map ai.row),vI a1] (.tup [sO 4 (r.1.map ai.row),vI r.2]):=by
 refine A7 (G:=(QM N)) (L:=noL) func120 rfl (by decide) (by kernel_rfl) (gc 20 (CG N) gn) (fun _ _ _ h=>by cases h) [] mix (acv rfl) ?_;rw [show gQ [true,false] [sO 4 (a0.map ai.row),vI a1]=(af (af av 0 (.pal 0 [] 0 a0.length none)) 1 (vI a1)) from by funext t; match t with|0=>simp [gQ,ju,kJ,af]|1=>rfl|t+2=>rfl];rw [show R0 [true,false] [sO 4 (a0.map ai.row),vI a1]=upd RZ 0 (sO 4 (a0.map ai.row)) from by funext t; match t with|0=>rfl|1=>rfl|t+2=>rfl];simp only [f120];unfold tU at h;refine z0 ?_;obtain ⟨x1,hb1,hx2,h⟩:=aI h;refine z1 (k2 hb1 hx2) ?_;refine z1 (k2 hb1 hx2) ?_;refine cD h (fun hc3 hc3d h=>?_) fun hc3 hc3d h=>?_
 ·obtain ⟨r2,hr4,h⟩:=bI h;refine z1 (k4 hb1 hx2 hc3d hr4) ?_;refine fD (pp ?_);cases h;simp only [go_sem,seval,hb1,hx2,hc3d,hr4,eC,gK];exact ⟨_,rfl,iz.h,rI.h⟩
 obtain ⟨x3,hb5,hx6,h⟩:=aI h;refine z1 (k5 hb1 hx2 hc3d hb5 hx6) ?_;refine aM ?_;obtain ⟨hs7,ht8,h⟩:=Ra h;try simp only [acm] at hs7 ht8 h
 have hx10:=ld (y:=(ai.mk x1.Actor x3 x1.Waiters)) hx2;refine kQ fun Z hZ=>?_;simp only [go_sem,seval,hb1,hx2,hc3d,hb5,hx6,hs7,ht8,Iv ht8,acj,acp,ab6,yn (row:=ai.row) (y:=(ai.mk x1.Actor x3 x1.Waiters)) (rx:=[vS x1.Actor.Type_,vS x1.Actor.Key,vI x1.Owner,sF 1 (x1.Waiters.map (aA .i64))]) (ry:=[vS x1.Actor.Type_,vS x1.Actor.Key,vI x3,sF 1 (x1.Waiters.map (aA .i64))]) hx2 rfl rfl,hx10,E9 (row:=ai.row) (rx:=[vS x1.Actor.Type_,vS x1.Actor.Key,vI x3,sF 1 (x1.Waiters.map (aA .i64))]) hx10 rfl rfl,yV (row:=ai.row) _ hx10,y8 (row:=ai.row) hx10 rfl];repeat with_reducible refine fZ (by kernel_rfl) ?_
 refine hZ _ (by kernel_rfl) (pp (Ws fun Z hZ=>?_));simp only [go_sem,seval,hb1,hx2,hc3d,hb5,hx6,hs7,ht8,Iv ht8,acj,acp,ab6,yn (row:=ai.row) (y:=(ai.mk x1.Actor x3 x1.Waiters)) (rx:=[vS x1.Actor.Type_,vS x1.Actor.Key,vI x1.Owner,sF 1 (x1.Waiters.map (aA .i64))]) (ry:=[vS x1.Actor.Type_,vS x1.Actor.Key,vI x3,sF 1 (x1.Waiters.map (aA .i64))]) hx2 rfl rfl,hx10,E9 (row:=ai.row) (rx:=[vS x1.Actor.Type_,vS x1.Actor.Key,vI x3,sF 1 (x1.Waiters.map (aA .i64))]) hx10 rfl rfl,yV (row:=ai.row) _ hx10,y8 (row:=ai.row) hx10 rfl];refine hZ _ (pp (fD (pp ?_)));cases h;simp only [go_sem,seval,hb1,hx2,hc3d,hb5,hx6,hs7,ht8,Iv ht8,acj,acp,ab6,yn (row:=ai.row) (y:=(ai.mk x1.Actor x3 x1.Waiters)) (rx:=[vS x1.Actor.Type_,vS x1.Actor.Key,vI x1.Owner,sF 1 (x1.Waiters.map (aA .i64))]) (ry:=[vS x1.Actor.Type_,vS x1.Actor.Key,vI x3,sF 1 (x1.Waiters.map (aA .i64))]) hx2 rfl rfl,hx10,E9 (row:=ai.row) (rx:=[vS x1.Actor.Type_,vS x1.Actor.Key,vI x3,sF 1 (x1.Waiters.map (aA .i64))]) hx10 rfl rfl,yV (row:=ai.row) _ hx10,y8 (row:=ai.row) hx10 rfl,eC,gK];exact ⟨_,rfl,iz.h,rI.h⟩
def ky (N:Nat):FnS:={ own:=[true,false],pure:=false,fn:=fun cs=>match cs with
 | [c0,c1]=>((vV 4 ai.dec) c0).bind fun q0=>((aG .i64) c1).bind fun q1=>(tU N q0 q1).map fun r=>.tup [sO 4 (r.1.map ai.row),vI r.2]
 | _=>none }
theorem Iu (N:Nat):(ky N).own=[true,false]:=rfl
theorem Hy (N:Nat):(ky N).pure=false:=rfl
theorem Hp (N:Nat):(ky N).peek=false:=rfl
attribute [go_sem] ky Iu Hy Hp
def Cl (N:Nat):aC prog 120 (ky N):=by
 refine ⟨fun cs r h=>?_,fun h=>by cases h⟩;simp only [ky] at h;split at h
 ·simp only [abZ,abY] at h;obtain ⟨q0,h0,q1,h1,r',hr,rfl⟩:=h;exact (PQ N q0 q1 r' hr).argsO rfl (j6 (qE ai.row_ok ai.dec_le h0) (rT (bN h1) (oJ)))
 ·cases h
@[go_sem] def Im (N d f:Nat):Option FnS:=ay [(12,116,mh N),(15,117,kD N),(37,120,ky N)] d f
def H4 (N:Nat) (a0:List ai) (a1:Int) (r:(List ai) × (List az)) (h:mg N a0 a1=some r):Con prog 51 [] false [sF 4 (a0.map ai.row),vI a1] (.tup [sO 4 (r.1.map ai.row),sO 3 (r.2.map az.row)]):=by
 refine fk (G:=(Im N)) func51 (gc 12 (kZ N) (gc 15 (jV N) (gc 37 (Cl N) gn))) ?_;simp only [f51];unfold mg at h;refine z0 ?_;obtain ⟨r1,hr1,h⟩:=bI h;refine z1 hr1 ?_;refine cM h (fun hc2 h=>?_) fun hc2 h=>?_
 ·refine z1 hc2 ?_;exact f0 h
 obtain ⟨r2,hr3,h⟩:=bI h;refine z1 (k2 hc2 hr3) ?_;refine z0 ?_;refine z0 ?_;refine aX (iS (fun (b:List ai × List az × Int)=>⟨tab 52 (af (af (af (af av 1 (vI a1)) 6 (.pal 15 [] 0 b.1.length none)) 7 (.pal 47 [] 0 b.2.1.length none)) 8 (vI b.2.2)),(upd (upd RZ 15 (sO 4 (b.1.map ai.row))) 47 (sO 3 (b.2.1.map az.row)))⟩) (r2,[],0) h ?_ ?_)
 ·refine bh.trans (oD 7 47 3 (by simp only [go_sem,seval]) (by simp only [go_sem,seval])) ?_;exact wF (k3 hr1 hc2 hr3)
 rintro n ⟨l5,l6,v7⟩ h -;cases n with
 | zero=>simp [fj] at h
 | succ n=>
 simp only [fj] at h;refine z0 ?_;refine cDs h (fun hc4 hc4d h=>?_) fun hc4 hc4d h=>?_
 ·refine z1 hc4d ?_;exact f0 h
 obtain ⟨x3,hb5,hx6,h⟩:=aI h;refine z1 (k2 hb5 hx6) ?_;refine cN h (fun hc7 hc7d h=>?_) fun hc7 hc7d h=>?_
 ·refine z1 hc7d ?_;refine iQ (pp (⟨_,acK _,(l5,l6,IntKind.i64.wrap (v7+1)),?_,h⟩));exact wF (k5 hr1 hc2 hr3 hc4d (k3 hb5 hx6 hc7d))
 refine z1 (k3 hb5 hx6 hc7d) ?_;obtain ⟨r4,hr8,h⟩:=bI h;refine z1 hr8 ?_;refine z0 ?_;refine cNs h (fun hc9 hc9d h=>?_) fun hc9 hc9d h=>?_
 ·refine bc (pp (⟨_,acK _,(r4.1,l6,v7),?_,h⟩));refine bh.trans (N7 6 37 [(0,0)] 15 (by decide) (by decide) (by simp only [go_sem,seval]) (by simp only [go_sem,seval]; rfl) (by simp only [go_sem,seval,hc9d]; rfl) (by simp) (by simp only [jF,iN,go_sem,seval]; rfl) (by simp only [go_sem,seval]; rfl)) ?_;exact wF (k5 hr1 hc2 hr3 hc4d (k5 hb5 hx6 hc7d hr8 hc9d))
 obtain ⟨ha10,h⟩:=ey h;simp only [acf,acJ,acP,Nat.reduceAdd] at ha10;refine z1 (k2 hc9d ha10) ?_;refine z0 ?_;refine ⟨_,acK _,(r4.1,(l6++[(az.mk x3.Actor r4.2)]),IntKind.i64.wrap (v7+1)),?_,h⟩;refine bh.trans (N7 6 37 [(0,0)] 15 (by decide) (by decide) (by simp only [go_sem,seval]) (by simp only [go_sem,seval]; rfl) (by simp only [go_sem,seval]; rfl) (by simp) (by simp only [jF,iN,go_sem,seval]; rfl) (by simp only [go_sem,seval]; rfl)) ?_;refine wr ?_ ?_<;>repeat' first|rfl|constructor|simp only [go_sem,seval]
@[go_sem] def Au (N:Nat):FnS:=⟨[],false,fn2 (aJ 4 ai.dec) (aG .i64) fun q0 q1=>(mg N q0 q1).map fun r=>.tup [sF 4 (r.1.map ai.row),sF 3 (r.2.map az.row)],false⟩
def EV (N:Nat):aC prog 51 (Au N):=om2 fun q0 q1 r h=>rs (H4 N q0 q1 r h)
@[go_sem] def Rd (N d f:Nat):Option FnS:=ay [(13,23,mv N),(19,40,gZ N),(24,48,Cs N),(27,49,Cb N),(37,50,Cp N),(50,51,Au N)] d f
def RT (N:Nat) (a0:ae) (a1:Int) (r:ae × (List Int) × Int) (h:ll N a0 a1=some r):Con prog 20 [] false [.agg (ae.row a0),vI a1] (.tup [.agg (ae.row r.1),sF 1 (r.2.1.map (aA .i64)),vI r.2.2]):=by
 refine fk (G:=(Rd N)) func20 (gc 13 (kG N) (gc 19 (fH N) (gc 24 (Gf N) (gc 27 (Dz N) (gc 37 (GJ N) (gc 50 (EV N) gn)))))) ?_;simp only [f20];unfold ll at h;refine z0 ?_;obtain ⟨r1,hr1,h⟩:=bI h;refine z1 hr1 ?_;refine cM h (fun hc2 h=>?_) fun hc2 h=>?_
 ·refine z1 hc2 ?_;exact f0 h
 obtain ⟨r2,hr3,h⟩:=bI h;refine z1 (k2 hc2 hr3) ?_;refine cD h (fun hc4 hc4d h=>?_) fun hc4 hc4d h=>?_
 ·refine z1 hc4d ?_;exact f0 h
 obtain ⟨r3,hr5,h⟩:=bI h;refine z1 (k2 hc4d hr5) ?_;obtain ⟨r4,hr6,h⟩:=bI h;refine z1 hr6 ?_;refine z0 ?_;refine lTs 5 (fun (v8:Nat) (b:List ai)=>⟨tab 57 (af (af (af (af (af av 4 (pF 4)) 5 (sF 1 (r3.map (aA .i64)))) 28 (sF 1 (r3.map (aA .i64)))) 29 (vI (r3.length:Int))) 30 (vI (v8:Int))),(upd RZ 4 (vA 3 [sF 11 (r4.Txns.map Txn.row),sF 4 (b.map ai.row),sF 3 (r4.Stacks.map aa.row)]))⟩) r4.Locks h ?_ ?_
 ·rintro v8 l7 x11 hi9' hx10 hw11 h;simp only [ph] at h;refine z1 hi9' ?_;refine ct ?_;refine z1 (k2 hx10 hi9') ?_;obtain ⟨r13,hr13,h⟩:=bI h;refine z1 hr13 ?_;refine z1 hw11 ?_;first|refine ⟨r13,?_,h⟩|refine ⟨hi9',r13,?_,h⟩
  exact wR
 rintro v8 l7 hi9' h;simp only [ph] at h;refine z1 hi9' ?_;refine cf ?_;unfold DA at h;refine z0 ?_;refine lT 5 (fun (v18:Nat) (b:List ai)=>⟨tab 57 (af (af (af (af (af av 4 (pF 4)) 5 (sF 1 (r3.map (aA .i64)))) 40 (sF 1 (r3.map (aA .i64)))) 41 (vI (r3.length:Int))) 42 (vI (v18:Int))),(upd RZ 4 (vA 3 [sF 11 (r4.Txns.map Txn.row),sF 4 (b.map ai.row),sF 3 (r4.Stacks.map aa.row)]))⟩) l7 h ?_ ?_
 ·rintro v18 l17 hi16' h;simp only [pq] at h;refine z1 hi16' ?_;refine cf ?_;refine z0 ?_;exact f0 h
 rintro v18 l17 x21 hi16' hx17 hw18 h;simp only [pq] at h;refine z1 hi16' ?_;refine ct ?_;refine z1 (k2 hx17 hi16') ?_;obtain ⟨r14,hr20,h⟩:=bI h;refine z1 hr20 ?_;refine z1 hw18 ?_;first|refine ⟨r14.1,?_,h⟩|refine ⟨hi16',r14.1,?_,h⟩
 exact wR
@[go_sem] def Ad (N:Nat):FnS:=⟨[],false,fn2 ae.decA (aG .i64) fun q0 q1=>(ll N q0 q1).map fun r=>.tup [.agg (ae.row r.1),sF 1 (r.2.1.map (aA .i64)),vI r.2.2],false⟩
def zI (N:Nat):aC prog 20 (Ad N):=om2 (RT N)
@[go_sem] def TE (N d f:Nat):Option FnS:=ay [(12,23,mv N),(18,24,Ev N),(30,58,Cr N),(43,20,Ad N),(52,59,qD N)] d f
def Tb (N:Nat) (a0:ae) (a1:Int) (r:ae × Int × (List Int) × Int) (h:iZ N a0 a1=some r):Con prog 25 [] false [.agg (ae.row a0),vI a1] (.tup [.agg (ae.row r.1),vI r.2.1,sF 1 (r.2.2.1.map (aA .i64)),vI r.2.2.2]):=by
 refine fk (G:=(TE N)) func25 (gc 12 (kG N) (gc 18 (Fs N) (gc 30 (F2 N) (gc 43 (zI N) (gc 52 (pn N) gn))))) ?_;simp only [f25];unfold iZ at h;refine z0 ?_;obtain ⟨r1,hr1,h⟩:=bI h;refine z1 hr1 ?_;refine cM h (fun hc2 h=>?_) fun hc2 h=>?_
 ·refine z1 hc2 ?_;exact f0 h
 obtain ⟨r2,hr3,h⟩:=bI h;refine z1 (k2 hc2 hr3) ?_;refine z0 ?_;refine cM h (fun hc4 h=>?_) fun hc4 h=>?_
 ·refine z1 hc4 ?_;exact f0 h
 obtain ⟨r3,hr5,h⟩:=bI h;refine z1 (k2 hc4 hr5) ?_;refine z0 ?_;refine cN h (fun hc6 hc6d h=>?_) fun hc6 hc6d h=>?_
 ·refine z1 hc6d ?_;exact f0 h
 refine z1 hc6d ?_;refine cD h (fun hc7 hc7d h=>?_) fun hc7 hc7d h=>?_
 ·obtain ⟨r4,hr8,h⟩:=bI h;refine z1 (k2 hc7d hr8) ?_;refine z0 ?_;exact f0 h
 obtain ⟨r5,hr9,h⟩:=bI h;refine z1 (k2 hc7d hr9) ?_;refine z0 ?_;refine z0 ?_;exact f0 h
@[go_sem] def Bm (N:Nat):FnS:=⟨[],false,fn2 ae.decA (aG .i64) fun q0 q1=>(iZ N q0 q1).map fun r=>.tup [.agg (ae.row r.1),vI r.2.1,sF 1 (r.2.2.1.map (aA .i64)),vI r.2.2.2],false⟩
def AA (N:Nat):aC prog 25 (Bm N):=om2 (Tb N)
def SM (N:Nat) (a0:Int) (r:Value) (h:lN N a0=some r):Con prog 34 [] true [vI a0] (.agg (Value.row r)):=by
 refine fk (G:=(ay [])) func34 gn ?_;simp only [f34];unfold lN at h;refine z0 ?_;refine z0 ?_;exact e0 h
@[go_sem] def rQ (N:Nat):FnS:=⟨[],true,fn1 (aG .i64) fun q0=>(lN N q0).map fun r=>.agg (Value.row r),false⟩
def o6 (N:Nat):aC prog 34 (rQ N):=om1 (SM N)
@[go_sem] def QJ (N d f:Nat):Option FnS:=ay [(8,43,wM N)] d f
def PA (N:Nat) (a0:aa) (a1:Ref) (r:Int) (h:qR N a0 a1=some r):Con prog 65 [] true [.agg (aa.row a0),.agg [vS a1.Type_,vS a1.Key]] (vI r):=by
 refine fk (G:=(QJ N)) func65 (gc 8 (wX N) gn) ?_;simp only [f65];unfold qR at h;refine z0 ?_;obtain ⟨r1,hr1,h⟩:=bI h;refine z1 hr1 ?_;exact e0 h
@[go_sem] def Ce (N:Nat):FnS:=⟨[],true,fn2 aa.decA Ref.decA fun q0 q1=>(qR N q0 q1).map fun r=>vI r,false⟩
def DB (N:Nat):aC prog 65 (Ce N):=om2 (PA N)
@[go_sem] def ug (N d f:Nat):Option FnS:=ay [(30,65,Ce N),(46,65,Ce N)] d f
def ue (N:Nat) (a0:List aa) (a1:Ref) (r:Int × Bool) (h:bg N a0 a1=some r):Con prog 64 [] true [sF 3 (a0.map aa.row),.agg [vS a1.Type_,vS a1.Key],.clo 65 []] (.tup [vI r.1,vB r.2]):=by
 refine fk (G:=(ug N)) func64 (gc 30 (DB N) (gc 46 (DB N) gn)) ?_;simp only [f64];unfold bg at h;refine z0 ?_;refine z0 ?_;refine z0 ?_;refine aM (aX (iS (fun (b:Int × Int)=>⟨tab 49 (af (af (af (af (af (af av 0 (sF 3 (a0.map aa.row))) 2 (.clo 65 [])) 4 (pF 4)) 8 (vI (a0.length:Int))) 9 (vI b.1)) 10 (vI b.2)),(upd RZ 4 (vA 2 [vS a1.Type_,vS a1.Key]))⟩) (0,(a0.length:Int)) h ?_ ?_))
 ·exact wR
 rintro n ⟨v2,v3⟩ h -;cases n with
 | zero=>simp [bq] at h
 | succ n=>
 simp only [bq] at h;refine z0 ?_;refine cDs h (fun hc1 hc1d h=>?_) fun hc1 hc1d h=>?_
 ·refine iQ (pp ?_);unfold bE at h;refine iD h (fun hc6 hc6d h=>?_) fun hc6 hc6d h=>?_
  ·obtain ⟨x11,hb7,hx8,h⟩:=aI h;obtain ⟨r12,hr9,h⟩:=bI h;refine d1 (k4 hc1d hb7 hx8 hr9) ?_;exact e0 h
  refine d1 (k2 hc1d hc6d) ?_;exact e0 h
 refine z1 hc1d ?_;obtain ⟨x9,hb2,hx3,h⟩:=aI h;obtain ⟨r10,hr4,h⟩:=bI h;refine d1 (k3 hb2 hx3 hr4) ?_;refine cD h (fun hc5 hc5d h=>?_) fun hc5 hc5d h=>?_
 ·refine z1 hc5d ?_;refine ⟨_,acK _,(IntKind.i64.wrap ((IntKind.i64.wrap (kR .u64 (IntKind.u64.wrap (IntKind.i64.wrap (v2+v3))) 1))+1),v3),?_,h⟩;exact wR
 refine z1 hc5d ?_;refine ⟨_,acK _,(v2,IntKind.i64.wrap (kR .u64 (IntKind.u64.wrap (IntKind.i64.wrap (v2+v3))) 1)),?_,h⟩;exact wR
@[go_sem] def gL (N:Nat):FnS:={ own:=[],pure:=true,fn:=fun cs=>match cs with
 | [c0,c1,.clo 65 []]=>((aJ 3 aa.dec) c0).bind fun qc0=>(Ref.decA c1).bind fun qc1=>(bg N qc0 qc1).map fun r=>.tup [vI r.1,vB r.2]
 | _=>none }
def rX (N:Nat):aC prog 64 (gL N):=by
 refine ⟨fun cs r h=>?_,fun h=>by cases h⟩;simp only [gL] at h;split at h
 ·simp only [abZ,abY] at h;obtain ⟨q0,h0,q1,h1,r',hr,rfl⟩:=h;exact (ag (ue N q0 q1 r' hr))
 ·cases h
def dh:FnS:={ own:=[true,true],pure:=false,fn:=fun _=>none,peek:=true }
theorem aS:dh.own=[true,true]:=rfl
theorem aO:dh.peek=true:=rfl
theorem yi:HJ prog 137:=
 M0 (fn:=f137) (tS:=26) (tR:=4) (e:=67) (size:=3) func137 rfl rfl (by kernel_rfl) (by kernel_rfl) (by kernel_rfl) (by kernel_rfl)
def uB:aC prog 137 dh:=⟨(fun cs r h=>by simp [dh] at h),fun _=>yi⟩
def eA:Env:={ T:=fb prog,G:=fun d f=>if d=67/\f=137 then some dh else none }
theorem bM:eA.T=fb prog:=rfl
theorem bJ (d:Nat):eA.F d=none:=rfl
theorem bK (d f:Nat):eA.L d f=none:=rfl
theorem bL:eA.G 67 137=some dh:=rfl
def Am:GOk prog { T:=fb prog,G:=eA.G }:=by
 refine ⟨?_,fun _ _ _ h=>by cases h⟩;intro d f fs hfs;simp only [eA] at hfs;split at hfs
 ·rename_i hc; obtain ⟨rfl,rfl⟩:=hc; obtain rfl:=acM hfs; exact uB
 cases hfs
theorem BT:Ed prog 66 f66 f66.body.get! := ⟨func66,rfl,by decide,by kernel_rfl⟩
set_option maxHeartbeats 4000000 in
def tC {α:Type} (row:α->List C) (ok:ar row) (l:List α) (i:Nat) (x:α) (k:Nat) (r:List α) (hr:r=l.take i++[x]++l.drop i) (hi:i<=l.length) (hsz:(l.length+1) * 56<=140737488355328) (hk1:l.length<=k) (hk2:k<=maxLen) :
  Con prog 66 [true,false,true] false [.sl true none 3 (some k) (l.map row),vI i,sO 3 ([x].map row)] (sO 3 (r.map row)):=by
 refine Jp (E:=eA) (zo prog _) Am mix BT (acv rfl) ?_;intro _;rw [vx (by simp)];rw [show gQ [true,false,true] [C.sl true none 3 (some k) (l.map row),C.val (.int .i64 i),C.sl true none 3 none ([x].map row)]=(af (af (af av 0 (.pal 0 [] 0 l.length none)) 1 (vI i)) 2 (.pal 2 [] 0 1 none)) from by funext t; match t with|0=>simp [gQ,ju,kJ,af]|1=>rfl|2=>rfl|t+3=>rfl];rw [show R0 [true,false,true] [C.sl true none 3 (some k) (l.map row),C.val (.int .i64 i),C.sl true none 3 none ([x].map row)]=upd (upd RZ 0 (C.sl true none 3 (some k) (l.map row))) 2 (C.sl true none 3 none ([x].map row)) from by funext t; match t with|0=>rfl|1=>rfl|2=>rfl|t+3=>rfl];apply Jq;simp only [f66,Option.get!];have hi1:(i:Int)<=(l.length:Int):=by omega
 have hi2:i<=l.length:=hi;have h10:(((1:Nat):Int)=0)=False:=by simp
 have hp:(row x).all Abs.plainCell=true:=ok.plain x;have hf:(row x).map C.frz=(row x):=ok.frz x;have hpD:(row x).all qP=true:=by have:=(ar.allD ok [x]); simpa using this
 have hw1:IntKind.i64.wrap ((l.length:Int)+((1:Nat):Int))=((l.length+1:Nat):Int):=by rw [mE (by omega) (by omega)]; rfl
 have hlt0:(l.take i).length=i:=by simp; omega
 have hes:(3 != 0)=true:=rfl;have hm1:min 1 (l.length+1 - i)=1:=by omega
 have hm2:min (l.length - i) (l.length+1 - (i+1))=l.length - i:=by omega
 have hm3:(l.drop i).take (l.length - i)=l.drop i:=acr (by simp);have hm4:i+1<=l.length+1:=by omega
 have hw2:IntKind.i64.wrap (((l.length+1:Nat):Int) - (i:Int))=((l.length+1 - i:Nat):Int):=by rw [mE (by omega) (by omega)]; omega
 have hw1b:IntKind.i64.wrap ((l.length:Int)+1)=((l.length+1:Nat):Int):=hw1;have hw3:IntKind.i64.wrap ((i:Int)+((1:Nat):Int))=((i+1:Nat):Int):=by rw [mE (by omega) (by omega)]; rfl
 have hw3b:IntKind.i64.wrap ((i:Int)+1)=((i+1:Nat):Int):=hw3;simp only [go_sem,seval,bM,bJ,bK,bL,hi1,hi2,h10,ab6,hp,hf,hpD,ar.frzRows ok,ar.all ok,ar.allPlain ok,ar.allD ok,aK,gp,fa,bO,eP,fu,kA,ib,dt,aR,gI,Ext.all,ia,bz,ab3,hw1,hw2,hw3,hw1b,hw3b,acX,acp,acj,eh,bne_self_eq_false,acE,decide_not,acg,hlt0,hm1,hm2,hm3,hm4,aS,aO,acD];refine Kz rfl ?_;simp only [go_sem,seval,bM,bJ,bK,bL,hi1,hi2,h10,ab6,hp,hf,hpD,ar.frzRows ok,ar.all ok,ar.allPlain ok,ar.allD ok,aK,gp,fa,bO,eP,fu,kA,ib,dt,aR,gI,Ext.all,ia,bz,ab3,hw1,hw2,hw3,hw1b,hw3b,acX,acp,acj,eh,bne_self_eq_false,acE,decide_not,acg,hlt0,hm1,hm2,hm3,hm4,aS,aO,acD];refine tH rfl (fun hc=>?_) (fun hc=>?_)
 ·have e:i=l.length:=by omega
  subst e;simp only [go_sem,seval,bM,bJ,bK,bL,hi1,hi2,h10,ab6,hp,hf,hpD,ar.frzRows ok,ar.all ok,ar.allPlain ok,ar.allD ok,aK,gp,fa,bO,eP,fu,kA,ib,dt,aR,gI,Ext.all,ia,bz,ab3,hw1,hw2,hw3,hw1b,hw3b,acX,acp,acj,eh,bne_self_eq_false,acE,decide_not,acg,hlt0,hm1,hm2,hm3,hm4,aS,aO,acD,eC,gK,hsz];refine tj ok ?_;rw [hr];simp [acr]
 ·have hc1:decide ((i:Int)=(l.length:Int))=false:=decide_eq_false hc;have hlt:i < l.length:=by omega
  simp only [go_sem,seval,bM,bJ,bK,bL,hi1,hi2,h10,ab6,hp,hf,hpD,ar.frzRows ok,ar.all ok,ar.allPlain ok,ar.allD ok,aK,gp,fa,bO,eP,fu,kA,ib,dt,aR,gI,Ext.all,ia,bz,ab3,hw1,hw2,hw3,hw1b,hw3b,acX,acp,acj,eh,bne_self_eq_false,acE,decide_not,acg,hlt0,hm1,hm2,hm3,hm4,aS,aO,acD,hc1];refine tH rfl (fun hk=>?_) (fun hk=>?_)
  ·have hk1:decide (k < l.length+1)=true:=decide_eq_true hk;have hk2:k < i+(l.length+1 - i):=by omega
   have e1:i+(l.length+1 - i)=l.length+1:=by omega
   have hi3:(i:Int)<=((l.length+1:Nat):Int):=by omega
   have hi4:i<=l.length+1:=by omega
   obtain ⟨A,hA⟩:∃ A,List.map row (List.take i l)++List.replicate (l.length+1 - i) [C.val (Value.string ⟨#[]⟩),C.val (Value.string ⟨#[]⟩),C.val (Value.slice none 0 0)]=A:=⟨_,rfl⟩;have hAp:bY A:=by rw [<-hA]; exact j3 (gG ok _) (zM _ [Value.string ⟨#[]⟩,Value.string ⟨#[]⟩,Value.slice none 0 0] (by simp [Value.oneCell']))
   have hAl:A.length=l.length+1:=by rw [<-hA,acH,ab5,hlt0,acg]; omega
   obtain ⟨B,hB⟩:∃ B,aL A i [(row x)]=B:=⟨_,rfl⟩;have hBp:bY B:=by rw [<-hB]; exact gH hAp ⟨by simp [frzRows,hf],by simp [hpD]⟩
   have hBl:B.length=l.length+1:=by rw [<-hB]; simp [aL,hAl]; omega
   obtain ⟨D,hD⟩:∃ D,aL B (i+1) (List.map row (List.drop i l))=D:=⟨_,rfl⟩;have hDp:bY D:=by rw [<-hD]; exact gH hBp (gG ok _)
   have hDl:D.length=l.length+1:=by rw [<-hD]; simp [aL,hBl]; omega
   have hDe:D=(l.take i++[x]++l.drop i).map row:=by
    rw [<-hD,<-hB,<-hA,adK,adA,Nn (A:=l.map row) (n:=l.length) (by simp) hi2 (by simp)];simp
   simp only [go_sem,seval,bM,bJ,bK,bL,hi1,hi2,h10,ab6,hp,hf,hpD,ar.frzRows ok,ar.all ok,ar.allPlain ok,ar.allD ok,aK,gp,fa,bO,eP,fu,kA,ib,dt,aR,gI,Ext.all,ia,bz,ab3,hw1,hw2,hw3,hw1b,hw3b,acX,acp,acj,eh,bne_self_eq_false,acE,decide_not,acg,hlt0,hm1,hm2,hm3,hm4,aS,aO,acD,hc1,hk1,hk,hk2,e1,hi3,hi4,hA,hAl,hAp.1,hAp.2,hB,hBp.1,hBp.2,hBl,hD,hDp.1,hDp.2,hsz];repeat' ((with_reducible refine fZ ?_ ?_); kernel_rfl)
   simp only [go_sem,seval,bM,bJ,bK,bL,hi1,hi2,h10,ab6,hp,hf,hpD,ar.frzRows ok,ar.all ok,ar.allPlain ok,ar.allD ok,aK,gp,fa,bO,eP,fu,kA,ib,dt,aR,gI,Ext.all,ia,bz,ab3,hw1,hw2,hw3,hw1b,hw3b,acX,acp,acj,eh,bne_self_eq_false,acE,decide_not,acg,hlt0,hm1,hm2,hm3,hm4,aS,aO,acD,eC,gK,hDp.1,hDp.2,hD];refine tj ok ?_;rw [hr,<-hDe,<-hDl,adX]
  ·have hk1:decide (k < l.length+1)=false:=decide_eq_false hk;have hk2:¬ k < i+(l.length+1 - i):=by omega
   have hk3:l.length+1<=k:=by omega
   have e2:l.length+1 - l.length=1:=by omega
   have e3:l.length<=l.length+1:=by omega
   have hi3:(i:Int)<=((l.length+1:Nat):Int):=by omega
   have hi4:i<=l.length+1:=by omega
   have hne:¬ l.length+1 - (i+1)=0:=by omega
   have hne2:¬ l.length - i=0:=by omega
   obtain ⟨A,hA⟩:∃ A,List.map row l++[[C.dead,C.dead,C.dead]]=A:=⟨_,rfl⟩;have hAp:bY A:=by rw [<-hA]; exact j3 (gG ok _) (DI 1 3)
   have hAl:A.length=l.length+1:=by rw [<-hA]; simp
   have hm5:min (l.length+1 - i) (l.length+1 - (i+1))=l.length - i:=by omega
   have hm5b:min (l.length+1 - i) (l.length - i)=l.length - i:=by omega
   obtain ⟨A2,hA2⟩:∃ A2,(A.drop i).take (l.length - i)=A2:=⟨_,rfl⟩;have hA2e:A2=List.map row (l.drop i):=by
    rw [<-hA2,<-hA,aeh,ab5,show i - l.length=0 by omega,ady,adI,acr (by simp),show l.length - i - (List.drop i (List.map row l)).length=0 by simp];simp [adA]
   have hA2p:(A2.all fun r=>r.all Abs.plainCell)=true:=by rw [hA2e]; exact ok.allPlain _
   have hA2f:frzRows A2=A2:=by rw [hA2e]; exact ok.frzRows _
   have hA2d:bY A2:=by rw [hA2e]; exact gG ok _
   obtain ⟨B,hB⟩:∃ B,aL A (i+1) A2=B:=⟨_,rfl⟩;have hBp:bY B:=by rw [<-hB]; exact gH hAp hA2d
   have hBl:B.length=l.length+1:=by rw [<-hB]; simp [aL,hAl,hA2e]; omega
   obtain ⟨D,hD⟩:∃ D,aL B i [(row x)]=D:=⟨_,rfl⟩;have hDp:bY D:=by rw [<-hD]; exact gH hBp ⟨by simp [frzRows,hf],by simp [hpD]⟩
   have hDl:D.length=l.length+1:=by rw [<-hD]; simp [aL,hBl]; omega
   have hDe:D=(l.take i++[x]++l.drop i).map row:=by
    rw [<-hD,<-hB,<-hA2,<-hA,Ky (A:=l.map row) (n:=l.length) (by simp) hi2];simp [adK,adA]
   simp only [go_sem,seval,bM,bJ,bK,bL,hi1,hi2,h10,ab6,hp,hf,hpD,ar.frzRows ok,ar.all ok,ar.allPlain ok,ar.allD ok,aK,gp,fa,bO,eP,fu,kA,ib,dt,aR,gI,Ext.all,ia,bz,ab3,hw1,hw2,hw3,hw1b,hw3b,acX,acp,acj,eh,bne_self_eq_false,acE,decide_not,acg,hlt0,hm1,hm2,hm3,hm4,aS,aO,acD,hc1,hk1,hk,hk2,hk3,e2,e3,hi3,hi4,hne,hne2,hA,hAl,hAp.1,hAp.2,hes,hA2,hA2p,hA2f,hB,hBp.1,hBp.2,hBl,hD,hDp.1,hDp.2,hDl,hm5,hm5b];refine Kf rfl ?_;simp only [go_sem,seval,bM,bJ,bK,bL,hi1,hi2,h10,ab6,hp,hf,hpD,ar.frzRows ok,ar.all ok,ar.allPlain ok,ar.allD ok,aK,gp,fa,bO,eP,fu,kA,ib,dt,aR,gI,Ext.all,ia,bz,ab3,hw1,hw2,hw3,hw1b,hw3b,acX,acp,acj,eh,bne_self_eq_false,acE,decide_not,acg,hlt0,hm1,hm2,hm3,hm4,aS,aO,acD,hc1,hk1,hk,hk2,hk3,e2,e3,hi3,hi4,hne,hne2,hA,hAl,hAp.1,hAp.2,hes,hA2,hA2p,hA2f,hB,hBp.1,hBp.2,hBl,hD,hDp.1,hDp.2,hDl,hm5,hm5b];repeat' ((with_reducible refine fZ ?_ ?_); kernel_rfl)
   simp only [go_sem,seval,bM,bJ,bK,bL,hi1,hi2,h10,ab6,hp,hf,hpD,ar.frzRows ok,ar.all ok,ar.allPlain ok,ar.allD ok,aK,gp,fa,bO,eP,fu,kA,ib,dt,aR,gI,Ext.all,ia,bz,ab3,hw1,hw2,hw3,hw1b,hw3b,acX,acp,acj,eh,bne_self_eq_false,acE,decide_not,acg,hlt0,hm1,hm2,hm3,hm4,aS,aO,acD,eC,gK,hDp.1,hDp.2,hD,hDl];refine tj ok ?_;rw [hr,<-hDe,<-hDl,adX]
def OC (N:Nat) (a0:List aa) (a1:Int) (a2:List aa) (r:List aa) (h:bT N a0 a1 a2=some r) :
  Con prog 66 [true,false,true] false [sO 3 (a0.map aa.row),vI a1,sO 3 (a2.map aa.row)] (sO 3 (r.map aa.row)):=by
 unfold bT at h;obtain ⟨n,x,rfl,rfl,h1,h2,h3⟩:=BC h;exact Jr fun k hk1 hk2=>tC aa.row aa.row_ok a0 n x k r (acM h3).symm h1 h2 (by simpa using hk1) hk2
def y4 {N:Nat} {a0:List aa} {a1:Int} {x:aa} {r:List aa} (h:bT N a0 a1 [x]=some r):r[a1.toNat]?=some x:=by
 unfold bT at h;obtain ⟨n,y,rfl,hy,h1,h2,h3⟩:=BC h;obtain rfl:x=y:=by simpa using hy
 obtain rfl:=acM h3;rw [acm,acT,ab7 (by simp only [ac5]; omega)];simp only [ac5,aex h1,ad3,adi,ab1]
def BO (N:Nat) (a0:List aa) (a1:Int) (a2:List aa) (r:List aa) (h:bT N a0 a1 a2=some r) :
  Con prog 66 [true,false,true] false [sO 3 (a0.map aa.rowD),vI a1,sO 3 (a2.map aa.rowN)] (sO 3 ((r.map aa.rowD).set a1.toNat ((a2.map aa.rowN).headD []))):=by
 unfold bT at h;obtain ⟨n,x,rfl,rfl,h1,h2,h3⟩:=BC h;obtain rfl:=acM h3;have e2:((a0.take n++[x]++a0.drop n).map aa.rowD).set n (aa.rowN x)=(a0.map aa.rowD).take n++[aa.rowN x]++(a0.map aa.rowD).drop n:=by
  simp only [acs,adg,ad2,acT];rw [<-adK,<-adA,afv _ _ (by simp only [ab5,ac5]; omega)];simp only [ab5,ac5,aex h1,ad3,adi,ach,afL]
 have:=WD (P:=prog) (f:=66) (es:=3) (by1:=56) (fun α row ok l i x k r a b c d e=>tC row ok l i x k r a b c d e) (A:=a0.map aa.rowD) (rx:=aa.rowN x) (i:=n) (by simpa using h1) (by simpa using h2) (fun row hr c hc=>by obtain ⟨y,_,rfl⟩:=acC.1 hr; simp only [aa.rowD,acu,adq,or_false] at hc; rcases hc with rfl|rfl|rfl<;>rfl) (fun c hc=>by simp only [aa.rowN,acu,adq,or_false] at hc; rcases hc with rfl|rfl|rfl<;>rfl)
 rw [<-e2] at this;exact this
def dR (N:Nat):FnS:={ own:=[true,false,true],pure:=false,fn:=fun cs=>match cs with
 | [c0,c1,c2]=>(exL 3 aa.decE c0).bind fun q0=>(aG .i64 c1).bind fun q1=>(vV 3 aa.decN c2).bind fun q2=>(bT N q0 q1 q2).map fun r=>sO 3 ((r.map aa.rowD).set q1.toNat ((q2.map aa.rowN).headD []))
 | _=>none }
theorem yU (N:Nat):(dR N).own=[true,false,true]:=rfl
theorem yw (N:Nat):(dR N).pure=false:=rfl
theorem yu (N:Nat):(dR N).peek=false:=rfl
attribute [go_sem] dR yU yw yu List.headD_cons aa.rowN aa.decN
def zr (N:Nat):aC prog 66 (dR N):=by
 refine ⟨fun cs r h=>?_,fun h=>by cases h⟩;simp only [dR] at h;split at h
 ·simp only [abZ,abY] at h;obtain ⟨q0,h0,q1,h1,q2,h2,r',hr,rfl⟩:=h;obtain rfl:=UC aa.decE_eq h0;exact (BO N q0 q1 q2 r' hr).argsO rfl (j6 ⟨ROk.refl _,fun _ h=>h⟩ (rT (bN h1) (j6 (qE aa.rowN_ok aa.decN_le h2) oJ)))
 ·cases h
@[go_sem] def TL (N d f:Nat):Option FnS:=ay [(19,23,mv N),(23,60,wb N),(28,61,mC N),(35,24,Ev N),(47,62,A8 N),(52,59,qD N),(57,40,gZ N),(67,63,sA N),(77,64,gL N),(89,66,dR N),(135,67,ru N)] d f
def To (N:Nat) (a0:ae) (a1:Int) (a2:List Value) (a3:Value) (r:ae × Int) (h:lO N a0 a1 a2 a3=some r):Con prog 26 [] false [.agg (ae.row a0),vI a1,sF 5 (a2.map Value.row),.agg (Value.row a3)] (.tup [.agg [sO 11 (r.1.Txns.map Txn.row),sO 4 (r.1.Locks.map ai.row),sO 3 (r.1.Stacks.map aa.rowD)],vI r.2]):=by
 refine fk (G:=(TL N)) func26 (gc 19 (kG N) (gc 23 (zj N) (gc 28 (mQ N) (gc 35 (Fs N) (gc 47 (Cv N) (gc 52 (pn N) (gc 57 (fH N) (gc 67 (uj N) (gc 77 (rX N) (gc 89 (zr N) (gc 135 (s9 N) gn))))))))))) ?_;simp only [f26];unfold lO at h;refine z0 ?_;refine aM ?_;apply aW (fun (c9:Bool)=>⟨tab 139 (af (af (af (af (af (af av 1 (vI a1)) 2 (sF 5 (a2.map Value.row))) 4 (pF 4)) 7 (pF 7)) 8 (pF 8)) 30 (vB c9)),(upd (upd (upd RZ 4 (vA 3 (ae.row a0))) 7 (vA 5 (Value.row a3))) 8 (vA 3 [.val (.slice none 0 0),.val (.slice none 0 0),.val (.slice none 0 0)]))⟩)
 ·intro hJ1;obtain ⟨r10,hr2,h⟩:=bI h;refine iBs h (fun hc3 h=>?_) fun hc3 h=>?_
  ·refine z1 (k2 hr2 hc3) ?_;refine hJ1 _ true ?_ h;exact wR
  obtain ⟨r11,hr4,h⟩:=bI h;refine iBs h (fun hc5 h=>?_) fun hc5 h=>?_
  ·refine z1 (k4 hr2 hc3 hr4 hc5) ?_;refine hJ1 _ true ?_ h;exact wR
  obtain ⟨r12,hr6,h⟩:=bI h;refine z1 (k5 hr2 hc3 hr4 hc5 hr6) ?_;refine hJ1 _ (!r12) ?_ h;exact wR
 intro c9 h;unfold yz at h;refine cB h (fun hc7 h=>?_) fun hc7 h=>?_
 ·refine z1 hc7 ?_;exact f0 h
 refine bc (pp ?_);unfold rV at h;obtain ⟨r13,hr8,h⟩:=bI h;refine z1 (k2 hc7 hr8) ?_;refine z0 ?_;refine cM h (fun hc9 h=>?_) fun hc9 h=>?_
 ·refine z1 hc9 ?_;exact f0 h
 obtain ⟨r14,hr10,h⟩:=bI h;refine z1 (k2 hc9 hr10) ?_;refine cN h (fun hc11 hc11d h=>?_) fun hc11 hc11d h=>?_
 ·refine z1 hc11d ?_;exact f0 h
 obtain ⟨r15,hr12,h⟩:=bI h;refine z1 (k2 hc11d hr12) ?_;obtain ⟨r16,hr13,h⟩:=bI h;obtain ⟨x17,hb14,hx15,h⟩:=aI h;refine d1 (k2 hr13 hb14) ?_;obtain ⟨r18,hr16,h⟩:=bI h;have hx18:=ld (y:=(Txn.mk x17.ID x17.Born x17.Client x17.Seq x17.Calls (IntKind.i64.wrap (x17.Done+1)) x17.Last)) hx15;have hx20:=ld (y:=(Txn.mk x17.ID x17.Born x17.Client x17.Seq x17.Calls (IntKind.i64.wrap (x17.Done+1)) r18)) hx15;refine d1 (k5 hx15 hr16 (mm2 (row:=Txn.row) (y:=(Txn.mk x17.ID x17.Born x17.Client x17.Seq x17.Calls (IntKind.i64.wrap (x17.Done+1)) x17.Last)) (rx:=[vI x17.ID,vI x17.Born,vS x17.Client,vI x17.Seq,sF 4 (x17.Calls.map ah.row),vI x17.Done,vI x17.Last.Kind,vI x17.Last.N,vS x17.Last.S,sF 1 (x17.Last.I.map (aA .i64)),sF 1 (x17.Last.L.map eD)]) (ry:=[vI x17.ID,vI x17.Born,vS x17.Client,vI x17.Seq,sF 4 (x17.Calls.map ah.row),vI (IntKind.i64.wrap (x17.Done+1)),vI x17.Last.Kind,vI x17.Last.N,vS x17.Last.S,sF 1 (x17.Last.I.map (aA .i64)),sF 1 (x17.Last.L.map eD)]) hx15 rfl rfl) hx18 (mm3 (row:=Txn.row) (y0:=(Txn.mk x17.ID x17.Born x17.Client x17.Seq x17.Calls (IntKind.i64.wrap (x17.Done+1)) x17.Last)) (y:=(Txn.mk x17.ID x17.Born x17.Client x17.Seq x17.Calls (IntKind.i64.wrap (x17.Done+1)) r18)) (rx:=[vI x17.ID,vI x17.Born,vS x17.Client,vI x17.Seq,sF 4 (x17.Calls.map ah.row),vI (IntKind.i64.wrap (x17.Done+1)),vI x17.Last.Kind,vI x17.Last.N,vS x17.Last.S,sF 1 (x17.Last.I.map (aA .i64)),sF 1 (x17.Last.L.map eD)]) (ry:=[vI x17.ID,vI x17.Born,vS x17.Client,vI x17.Seq,sF 4 (x17.Calls.map ah.row),vI (IntKind.i64.wrap (x17.Done+1)),vI r18.Kind,vI r18.N,vS r18.S,sF 1 (r18.I.map (aA .i64)),sF 1 (r18.L.map eD)]) hx15 rfl rfl)) ?_;obtain ⟨r19,hr21,h⟩:=bI h;refine z1 hr21 ?_;apply aW (fun (l21:List aa)=>⟨tab 139 (af (af (af (af (af av 1 (vI a1)) 2 (sF 5 (a2.map Value.row))) 8 (pF 8)) 12 (pF 12)) 14 (vI r19.1)),(upd (upd RZ 8 (vA 3 [.val (.slice none 0 0),.val (.slice none 0 0),.val (.slice none 0 0)])) 12 (vA 3 [sO 11 ((r15.Txns.set ((r16).toNat) (Txn.mk x17.ID x17.Born x17.Client x17.Seq x17.Calls (IntKind.i64.wrap (x17.Done+1)) r18)).map Txn.row),sO 4 (r15.Locks.map ai.row),sO 3 (l21.map aa.rowD)]))⟩)
 ·intro hJ22;refine z0 ?_;refine cMs h (fun hc23 h=>?_) fun hc23 h=>?_
  ·refine bc (pp (hJ22 _ r15.Stacks ?_ h));exact wR
  obtain ⟨r22,hr24,h⟩:=bI h;have hx25:=y4 hr24;refine z1 (k2 hc23 hr24) ?_;refine mT (NK 12 [(0,2),((r19.1).toNat,2)] 3 (by simp only [go_sem,seval,yV (row:=aa.rowD) _ hx25]) (by simp only [go_sem,seval,y8 (row:=aa.rowD) hx25 rfl]; try rfl)) (mT (zd (n:=12) (c':=vA 3 [sO 11 ((r15.Txns.set ((r16).toNat) (Txn.mk x17.ID x17.Born x17.Client x17.Seq x17.Calls (IntKind.i64.wrap (x17.Done+1)) r18)).map Txn.row),sO 4 (r15.Locks.map ai.row),sO 3 (r22.map aa.rowD)]) (by simp only [go_sem,seval]; rfl) (by simp only [Uu (row:=aa.rowD) (rc:=[vS r13.1.Target.Type_,vS r13.1.Target.Key,sO 3 []]) hx25 rfl])) (hJ22 _ r22 ?_ h));exact wR
 intro l21 h;unfold rK at h;obtain ⟨x23,hb26,hx27,h⟩:=aI h;refine z1 hb26 ?_;refine z1 hx27 ?_;apply Dh (fun (l28:List aa) (v29:Int)=>⟨tab 139 (af (af (af (af (af av 2 (sF 5 (a2.map Value.row))) 8 (pF 8)) 12 (pF 12)) 16 (.pref 12 [(0,2)] ((r19.1).toNat) 0)) 17 (vI v29)),(upd (upd RZ 8 (vA 3 [.val (.slice none 0 0),.val (.slice none 0 0),.val (.slice none 0 0)])) 12 (vA 3 [sO 11 ((r15.Txns.set ((r16).toNat) (Txn.mk x17.ID x17.Born x17.Client x17.Seq x17.Calls (IntKind.i64.wrap (x17.Done+1)) r18)).map Txn.row),sO 4 (r15.Locks.map ai.row),sO 3 (l28.map aa.rowD)]))⟩)
 ·intro hJ28;apply aW (fun (c31:Bool)=>⟨tab 139 (af (af (af (af (af (af (af av 1 (vI a1)) 2 (sF 5 (a2.map Value.row))) 8 (pF 8)) 12 (pF 12)) 16 (.pref 12 [(0,2)] ((r19.1).toNat) 0)) 17 (vI (x23.Layers.length:Int))) 114 (vB c31)),(upd (upd RZ 8 (vA 3 [.val (.slice none 0 0),.val (.slice none 0 0),.val (.slice none 0 0)])) 12 (vA 3 [sO 11 ((r15.Txns.set ((r16).toNat) (Txn.mk x17.ID x17.Born x17.Client x17.Seq x17.Calls (IntKind.i64.wrap (x17.Done+1)) r18)).map Txn.row),sO 4 (r15.Locks.map ai.row),sO 3 (l21.map aa.rowD)]))⟩)
  ·intro hJ29;refine iD h (fun hc30 hc30d h=>?_) fun hc30 hc30d h=>?_
   ·refine z1 hc30d ?_;refine hJ29 _ true ?_ h;exact wR
   obtain ⟨x32,hb31,hx32,h⟩:=aI h;refine z1 (k4 hx27 hc30d hb31 hx32) ?_;refine hJ29 _ (!decide (x32.Txn_=a1)) ?_ h;exact wR
  intro c31 h;unfold uV at h;refine cBs h (fun hc33 h=>?_) fun hc33 h=>?_
  ·refine bc (pp (hJ28 _ l21 (x23.Layers.length:Int) ?_ h));exact wR
  obtain ⟨ha34,h⟩:=ey h;simp only [acf,acJ,acP,Nat.reduceAdd] at ha34;refine z1 (k5 hx27 hc33 ha34 (ov1 (row:=aa.rowD) (rx:=[vS x23.Actor.Type_,vS x23.Actor.Key,sO 3 (x23.Layers.map al.row)]) hx27 rfl) (k2 (ov2 (row:=aa.rowD) hx27) (ov3 (row:=aa.rowD) hx27))) ?_;refine mT (Ei 12 [(0,2),((r19.1).toNat,2),(x23.Layers.length,1)] 5 (by simp only [go_sem,seval,yV (row:=aa.rowD) _ hx27,UU]) (by simp only [go_sem,seval,y8 (row:=aa.rowD) hx27 rfl,Vu]; try rfl)) (hJ28 _ (l21.set ((r19.1).toNat) (aa.mk x23.Actor (x23.Layers++[(al.mk a1 [] false)]))) (IntKind.i64.wrap ((x23.Layers.length:Int)+1)) ?_ h);refine bh.trans (zd (n:=12) (c':=vA 3 [sO 11 ((r15.Txns.set ((r16).toNat) (Txn.mk x17.ID x17.Born x17.Client x17.Seq x17.Calls (IntKind.i64.wrap (x17.Done+1)) r18)).map Txn.row),sO 4 (r15.Locks.map ai.row),sO 3 ((l21.set ((r19.1).toNat) (aa.mk x23.Actor (x23.Layers++[(al.mk a1 [] false)]))).map aa.rowD)]) (by simp only [go_sem,seval]; rfl) (by first|(simp only [pb (row:=aa.rowD) (l:=l21) (i:=((r19.1).toNat)) (y:=(aa.mk x23.Actor (x23.Layers++[(al.mk a1 [] false)]))) (rc:=[vS x23.Actor.Type_,vS x23.Actor.Key,sO 3 ((x23.Layers++[(al.mk a1 [] false)]).map al.row)]) rfl]; done)|(simp only [pb (row:=aa.rowD) (l:=l21) (i:=((r19.1).toNat)) (y:=(aa.mk x23.Actor (x23.Layers++[(al.mk a1 [] false)]))) (rc:=[vS x23.Actor.Type_,vS x23.Actor.Key,sO 3 ((x23.Layers++[(al.mk a1 [] false)]).map al.row)]) rfl,acs,adg,ad2]<;>rfl)|(rw [<-pb (row:=aa.rowD) (l:=l21) (i:=((r19.1).toNat)) (y:=(aa.mk x23.Actor (x23.Layers++[(al.mk a1 [] false)]))) (rc:=[vS x23.Actor.Type_,vS x23.Actor.Key,sO 3 ((x23.Layers++[(al.mk a1 [] false)]).map al.row)]) rfl]; simp only [acs,adg,ad2]<;>rfl))) (bh.trans (wu (n:=122) ([[vI a1,sF 5 [],vB false]]) (by (try simp only [go_sem]); rfl) (by simp only [go_sem,seval]; rfl) (by simp only [jF,iN,go_sem]; rfl)) ?_)
  exact wR
 intro l28 v29 h;unfold yq at h;obtain ⟨x33,hb35,hx36,h⟩:=aI h;obtain ⟨r34,hr37,h⟩:=bI h;obtain ⟨x35,hb38,hx39,h⟩:=aI h;have hx41:=ld (y:=(al.mk x35.Txn_ r34 x35.Prepared)) hx39;refine d1 (k5 hx36 hr37 hb38 hx39 (k2 (mm2 (row:=al.row) (y:=(al.mk x35.Txn_ r34 x35.Prepared)) (rx:=[vI x35.Txn_,sF 5 (x35.Fields.map Value.row),vB x35.Prepared]) (ry:=[vI x35.Txn_,sF 5 (r34.map Value.row),vB x35.Prepared]) hx39 rfl rfl) (ov1 (row:=aa.rowD) (rx:=[vS x33.Actor.Type_,vS x33.Actor.Key,sO 3 (x33.Layers.map al.row)]) hx36 rfl))) ?_;refine aM ?_;refine mT (zd (n:=12) (c':=vA 3 [sO 11 ((r15.Txns.set ((r16).toNat) (Txn.mk x17.ID x17.Born x17.Client x17.Seq x17.Calls (IntKind.i64.wrap (x17.Done+1)) r18)).map Txn.row),sO 4 (r15.Locks.map ai.row),sO 3 ((l28.set ((r19.1).toNat) (aa.mk x33.Actor (x33.Layers.set ((IntKind.i64.wrap (v29 - 1)).toNat) (al.mk x35.Txn_ r34 x35.Prepared)))).map aa.rowD)]) (by simp only [go_sem,seval]; rfl) (by first|(simp only [pb (row:=aa.rowD) (l:=l28) (i:=((r19.1).toNat)) (y:=(aa.mk x33.Actor (x33.Layers.set ((IntKind.i64.wrap (v29 - 1)).toNat) (al.mk x35.Txn_ r34 x35.Prepared)))) (rc:=[vS x33.Actor.Type_,vS x33.Actor.Key,sO 3 ((x33.Layers.set ((IntKind.i64.wrap (v29 - 1)).toNat) (al.mk x35.Txn_ r34 x35.Prepared)).map al.row)]) rfl]; done)|(simp only [pb (row:=aa.rowD) (l:=l28) (i:=((r19.1).toNat)) (y:=(aa.mk x33.Actor (x33.Layers.set ((IntKind.i64.wrap (v29 - 1)).toNat) (al.mk x35.Txn_ r34 x35.Prepared)))) (rc:=[vS x33.Actor.Type_,vS x33.Actor.Key,sO 3 ((x33.Layers.set ((IntKind.i64.wrap (v29 - 1)).toNat) (al.mk x35.Txn_ r34 x35.Prepared)).map al.row)]) rfl,acs,adg,ad2]<;>rfl)|(rw [<-pb (row:=aa.rowD) (l:=l28) (i:=((r19.1).toNat)) (y:=(aa.mk x33.Actor (x33.Layers.set ((IntKind.i64.wrap (v29 - 1)).toNat) (al.mk x35.Txn_ r34 x35.Prepared)))) (rc:=[vS x33.Actor.Type_,vS x33.Actor.Key,sO 3 ((x33.Layers.set ((IntKind.i64.wrap (v29 - 1)).toNat) (al.mk x35.Txn_ r34 x35.Prepared)).map al.row)]) rfl]; simp only [acs,adg,ad2]<;>rfl))) (z0 ?_)
 exact f0 h
@[go_sem] def Bh (N:Nat):FnS:=⟨[],false,fn4 ae.decA (aG .i64) (aJ 5 Value.dec) Value.decA fun q0 q1 q2 q3=>(lO N q0 q1 q2 q3).map fun r=>.tup [.agg (ae.row r.1),vI r.2],false⟩
def AX (N:Nat):aC prog 26 (Bh N):=om4 fun q0 q1 q2 q3 r h=>rs (To N q0 q1 q2 q3 r h)
@[go_sem] def Ml (N d f:Nat):Option FnS:=ay [(12,116,mh N),(16,124,pZ N),(21,125,sB N),(27,126,yK N),(43,117,kD N),(45,120,ky N)] d f
def MF (N:Nat) (a0:List ai) (a1:Ref) (a2:Int) (r:(List ai) × Int × Int) (h:m9 N a0 a1 a2=some r):Con prog 70 [] false [sF 4 (a0.map ai.row),.agg [vS a1.Type_,vS a1.Key],vI a2] (.tup [sO 4 (r.1.map ai.row),vI r.2.1,vI r.2.2]):=by
 refine fk (G:=(Ml N)) func70 (gc 12 (kZ N) (gc 16 (rY N) (gc 21 (tK N) (gc 27 (yO N) (gc 43 (jV N) (gc 45 (Cl N) gn)))))) ?_;simp only [f70];unfold m9 at h;refine z0 ?_;refine aM ?_;apply aW (fun (c9:Bool)=>⟨tab 50 (af (af (af (af av 0 (sF 4 (a0.map ai.row))) 2 (vI a2)) 4 (pF 4)) 23 (vB c9)),(upd RZ 4 (vA 2 [vS a1.Type_,vS a1.Key]))⟩)
 ·intro hJ1;obtain ⟨r10,hr2,h⟩:=bI h;refine iBs h (fun hc3 h=>?_) fun hc3 h=>?_
  ·refine z1 (k2 hr2 hc3) ?_;refine hJ1 _ true ?_ h;exact wR
  obtain ⟨r11,hr4,h⟩:=bI h;refine iBs h (fun hc5 h=>?_) fun hc5 h=>?_
  ·refine z1 (k4 hr2 hc3 hr4 hc5) ?_;refine hJ1 _ true ?_ h;exact wR
  obtain ⟨r12,hr6,h⟩:=bI h;refine z1 (k5 hr2 hc3 hr4 hc5 hr6) ?_;refine hJ1 _ (!r12) ?_ h;exact wR
 intro c9 h;unfold pj at h;refine cB h (fun hc7 h=>?_) fun hc7 h=>?_
 ·refine z1 hc7 ?_;exact f0 h
 refine bc (pp ?_);unfold pg at h;obtain ⟨r13,hr8,h⟩:=bI h;refine z1 (k2 hc7 hr8) ?_;refine aM ?_;apply aW (fun (c18:Bool)=>⟨tab 50 (af (af (af av 0 (sF 4 (a0.map ai.row))) 9 (vI r13.1)) 40 (vB c18)),RZ⟩)
 ·intro hJ9;refine iBs h (fun hc10 h=>?_) fun hc10 h=>?_
  ·refine z1 hc10 ?_;refine hJ9 _ true ?_ h;exact wR
  obtain ⟨x19,hb11,hx12,h⟩:=aI h;refine z1 (k3 hc10 hb11 hx12) ?_;refine hJ9 _ (!decide (x19.Owner=a2)) ?_ h;exact wR
 intro c18 h;unfold lW at h;refine cB h (fun hc13 h=>?_) fun hc13 h=>?_
 ·refine z1 hc13 ?_;exact f0 h
 refine bc (pp ?_);unfold tP at h;obtain ⟨r20,hr14,h⟩:=bI h;obtain ⟨r21,hr15,h⟩:=bI h;refine z1 (k3 hc13 hr14 hr15) ?_;refine z0 ?_;exact f0 h
@[go_sem] def Cm (N:Nat):FnS:=⟨[],false,fn3 (aJ 4 ai.dec) Ref.decA (aG .i64) fun q0 q1 q2=>(m9 N q0 q1 q2).map fun r=>.tup [sO 4 (r.1.map ai.row),vI r.2.1,vI r.2.2],false⟩
def FU (N:Nat):aC prog 70 (Cm N):=om3 (MF N)
@[go_sem] def Oq (N d f:Nat):Option FnS:=ay [(14,23,mv N),(19,40,gZ N),(30,68,Az N),(53,69,sZ N),(60,59,qD N),(65,46,vU N),(80,70,Cm N)] d f
def Oo (N:Nat) (a0:ae) (a1:Int) (a2:Ref) (r:ae × Int) (h:gE N a0 a1 a2=some r):Con prog 27 [] false [.agg (ae.row a0),vI a1,.agg [vS a2.Type_,vS a2.Key]] (.tup [.agg [sF 11 (r.1.Txns.map Txn.row),sO 4 (r.1.Locks.map ai.row),sF 3 (r.1.Stacks.map aa.row)],vI r.2]):=by
 refine fk (G:=(Oq N)) func27 (gc 14 (kG N) (gc 19 (fH N) (gc 30 (Ct N) (gc 53 (qM N) (gc 60 (pn N) (gc 65 (vi N) (gc 80 (FU N) gn))))))) ?_;simp only [f27];unfold gE at h;refine z0 ?_;obtain ⟨r1,hr1,h⟩:=bI h;refine z1 hr1 ?_;refine cM h (fun hc2 h=>?_) fun hc2 h=>?_
 ·refine z1 hc2 ?_;exact f0 h
 obtain ⟨r2,hr3,h⟩:=bI h;refine z1 (k2 hc2 hr3) ?_;refine aM ?_;apply aW (fun (c9:Bool)=>⟨tab 86 (af (af (af (af (af (af av 1 (vI a1)) 3 (pF 3)) 5 (pF 5)) 6 (pF 6)) 8 (vI r2)) 32 (vB c9)),(upd (upd (upd RZ 3 (vA 3 (ae.row a0))) 5 (vA 2 [vS a2.Type_,vS a2.Key])) 6 (vA 3 [.val (.slice none 0 0),.val (.slice none 0 0),.val (.slice none 0 0)]))⟩)
 ·intro hJ4;refine iD h (fun hc5 hc5d h=>?_) fun hc5 hc5d h=>?_
  ·refine d1 hc5d ?_;refine hJ4 _ true ?_ h;exact wR
  obtain ⟨x10,hb6,hx7,h⟩:=aI h;obtain ⟨r11,hr8,h⟩:=bI h;refine d1 (k4 hc5d hb6 hx7 hr8) ?_;refine hJ4 _ (!r11) ?_ h;exact wR
 intro c9 h;unfold js at h;refine cB h (fun hc9 h=>?_) fun hc9 h=>?_
 ·refine z1 hc9 ?_;exact f0 h
 refine bc (pp ?_);unfold lF at h;obtain ⟨x12,hb10,hx11,h⟩:=aI h;refine d1 (k3 hc9 hb10 hx11) ?_;refine cD h (fun hc12 hc12d h=>?_) fun hc12 hc12d h=>?_
 ·refine z1 hc12d ?_;exact f0 h
 obtain ⟨r13,hr13,h⟩:=bI h;refine z1 (k2 hc12d hr13) ?_;refine z0 ?_;refine cB h (fun hc14 h=>?_) fun hc14 h=>?_
 ·refine z1 hc14 ?_;exact f0 h
 obtain ⟨r14,hr15,h⟩:=bI h;refine z1 (k2 hc14 hr15) ?_;obtain ⟨r15,hr16,h⟩:=bI h;obtain ⟨x16,hb17,hx18,h⟩:=aI h;refine d1 (k3 hr16 hb17 hx18) ?_;obtain ⟨x17,hb19,hx20,h⟩:=aI h;have hx22:=ld (y:=(al.mk x17.Txn_ x17.Fields true)) hx20;refine z1 (k5 hx18 hb19 hx20 (mm2 (row:=al.row) (y:=(al.mk x17.Txn_ x17.Fields true)) (rx:=[vI x17.Txn_,sF 5 (x17.Fields.map Value.row),vB x17.Prepared]) (ry:=[vI x17.Txn_,sF 5 (x17.Fields.map Value.row),vB true]) hx20 rfl rfl) (ov1 (row:=aa.rowD) (rx:=[vS x16.Actor.Type_,vS x16.Actor.Key,sO 3 (x16.Layers.map al.row)]) hx18 rfl)) ?_;refine aM ?_;refine mT (zd (n:=11) (c':=vA 3 [sO 11 (r14.Txns.map Txn.row),sO 4 (r14.Locks.map ai.row),sO 3 ((r14.Stacks.set ((r15).toNat) (aa.mk x16.Actor (x16.Layers.set ((IntKind.i64.wrap ((x16.Layers.length:Int) - 1)).toNat) (al.mk x17.Txn_ x17.Fields true)))).map aa.rowD)]) (by simp only [go_sem,seval]; rfl) (by first|(simp only [pb (row:=aa.rowD) (l:=r14.Stacks) (i:=((r15).toNat)) (y:=(aa.mk x16.Actor (x16.Layers.set ((IntKind.i64.wrap ((x16.Layers.length:Int) - 1)).toNat) (al.mk x17.Txn_ x17.Fields true)))) (rc:=[vS x16.Actor.Type_,vS x16.Actor.Key,sO 3 ((x16.Layers.set ((IntKind.i64.wrap ((x16.Layers.length:Int) - 1)).toNat) (al.mk x17.Txn_ x17.Fields true)).map al.row)]) rfl]; done)|(simp only [pb (row:=aa.rowD) (l:=r14.Stacks) (i:=((r15).toNat)) (y:=(aa.mk x16.Actor (x16.Layers.set ((IntKind.i64.wrap ((x16.Layers.length:Int) - 1)).toNat) (al.mk x17.Txn_ x17.Fields true)))) (rc:=[vS x16.Actor.Type_,vS x16.Actor.Key,sO 3 ((x16.Layers.set ((IntKind.i64.wrap ((x16.Layers.length:Int) - 1)).toNat) (al.mk x17.Txn_ x17.Fields true)).map al.row)]) rfl,acs,adg,ad2]<;>rfl)|(rw [<-pb (row:=aa.rowD) (l:=r14.Stacks) (i:=((r15).toNat)) (y:=(aa.mk x16.Actor (x16.Layers.set ((IntKind.i64.wrap ((x16.Layers.length:Int) - 1)).toNat) (al.mk x17.Txn_ x17.Fields true)))) (rc:=[vS x16.Actor.Type_,vS x16.Actor.Key,sO 3 ((x16.Layers.set ((IntKind.i64.wrap ((x16.Layers.length:Int) - 1)).toNat) (al.mk x17.Txn_ x17.Fields true)).map al.row)]) rfl]; simp only [acs,adg,ad2]<;>rfl))) (mT (PV (n:=11) (by simp only [go_sem,seval]; rfl) (by simp only [jF,iN,go_sem]; rfl)) ?_)
 obtain ⟨r18,hr23,h⟩:=bI h;refine z1 hr23 ?_;refine z0 ?_;exact f0 h
@[go_sem] def wE (N:Nat):FnS:=⟨[],false,fn3 ae.decA (aG .i64) Ref.decA fun q0 q1 q2=>(gE N q0 q1 q2).map fun r=>.tup [.agg (ae.row r.1),vI r.2],false⟩
def wV (N:Nat):aC prog 27 (wE N):=om3 fun q0 q1 q2 r h=>rs (Oo N q0 q1 q2 r h)
@[go_sem] def Qp (N d f:Nat):Option FnS:=ay [(8,46,vU N),(17,47,va N)] d f
def PK (N:Nat) (a0:ae) (a1:Ref) (r:List al) (h:tW N a0 a1=some r):Con prog 15 [] false [.agg (ae.row a0),.agg [vS a1.Type_,vS a1.Key]] (sO 3 (r.map al.row)):=by
 refine fk (G:=(Qp N)) func15 (gc 8 (vi N) (gc 17 (yd N) gn)) ?_;simp only [f15];unfold tW at h;refine z0 ?_;obtain ⟨r1,hr1,h⟩:=bI h;refine z1 hr1 ?_;refine z0 ?_;refine cD h (fun hc2 hc2d h=>?_) fun hc2 hc2d h=>?_
 ·obtain ⟨x2,hb3,hx4,h⟩:=aI h;obtain ⟨r3,hr5,h⟩:=bI h;refine z1 (k3 hb3 hx4 hr5) ?_;exact f0 h
 refine z1 hc2d ?_;exact f0 h
@[go_sem] def Hi (N:Nat):FnS:=⟨[],false,fn2 ae.decA Ref.decA fun q0 q1=>(tW N q0 q1).map fun r=>sF 3 (r.map al.row),false⟩
def KT (N:Nat):aC prog 15 (Hi N):=om2 fun q0 q1 r h=>rs (PK N q0 q1 r h)
@[go_sem] def KG (N d f:Nat):Option FnS:=ay [(13,69,sZ N)] d f
def Lg (N:Nat) (a0:ah) (c0_0:List Txn) (c0_1:List ai) (c0_2:List aa) (c1_0:Int) (c1_1:Int) (c1_2:ByteArray) (c1_3:Int) (c1_4:List ah) (c1_5:Int) (c1_6:Int) (c1_7:Int) (c1_8:ByteArray) (c1_9:List Int) (c1_10:List ByteArray) (r:Bool) (h:lX N a0 c0_0 c0_1 c0_2 c1_0 c1_1 c1_2 c1_3 c1_4 c1_5 c1_6 c1_7 c1_8 c1_9 c1_10=some r):Con prog 142 [] true [.agg (ah.row a0),.iref 3 [[sF 11 (c0_0.map Txn.row),sF 4 (c0_1.map ai.row),sF 3 (c0_2.map aa.row)]] 0 0,.iref 11 [[vI c1_0,vI c1_1,vS c1_2,vI c1_3,sF 4 (c1_4.map ah.row),vI c1_5,vI c1_6,vI c1_7,vS c1_8,sF 1 (c1_9.map (aA .i64)),sF 1 (c1_10.map eD)]] 0 0] (vB r):=by
 refine fk (G:=(KG N)) func142 (gc 13 (qM N) gn) ?_;simp only [f142];unfold lX at h;refine z0 ?_;obtain ⟨r1,hr1,h⟩:=bI h;refine z1 hr1 ?_;refine iBs h (fun hc2 h=>?_) fun hc2 h=>?_
 ·refine z1 hc2 ?_;exact e0 h
 refine z1 hc2 ?_;exact e0 h
@[go_sem] def wW (N:Nat):FnS:={ own:=[],pure:=true,fn:=fun cs=>match cs with
 | [c0,.iref 3 [[c1_0,c1_1,c1_2]] 0 0,.iref 11 [[c2_0,c2_1,c2_2,c2_3,c2_4,c2_5,c2_6,c2_7,c2_8,c2_9,c2_10]] 0 0]=>(ah.decA c0).bind fun qc0=>((aJ 11 Txn.dec) c1_0).bind fun qc1_0=>((aJ 4 ai.dec) c1_1).bind fun qc1_1=>((aJ 3 aa.dec) c1_2).bind fun qc1_2=>((aG .i64) c2_0).bind fun qc2_0=>((aG .i64) c2_1).bind fun qc2_1=>(du c2_2).bind fun qc2_2=>((aG .i64) c2_3).bind fun qc2_3=>((aJ 4 ah.dec) c2_4).bind fun qc2_4=>((aG .i64) c2_5).bind fun qc2_5=>((aG .i64) c2_6).bind fun qc2_6=>((aG .i64) c2_7).bind fun qc2_7=>(du c2_8).bind fun qc2_8=>((aJ 1 (dP (aG .i64))) c2_9).bind fun qc2_9=>((aJ 1 (dP du)) c2_10).bind fun qc2_10=>(lX N qc0 qc1_0 qc1_1 qc1_2 qc2_0 qc2_1 qc2_2 qc2_3 qc2_4 qc2_5 qc2_6 qc2_7 qc2_8 qc2_9 qc2_10).map fun r=>vB r
 | _=>none }
def GW (N:Nat):aC prog 142 (wW N):=by
 refine ⟨fun cs r h=>?_,fun h=>by cases h⟩;simp only [wW] at h;split at h
 ·simp only [abZ,abY] at h;obtain ⟨q0,h0,q1,h1,q2,h2,q3,h3,q4,h4,q5,h5,q6,h6,q7,h7,q8,h8,q9,h9,q10,h10,q11,h11,q12,h12,q13,h13,q14,h14,r',hr,rfl⟩:=h;exact (ag (Lg N q0 q1 q2 q3 q4 q5 q6 q7 q8 q9 q10 q11 q12 q13 q14 r' hr))
 ·cases h
@[go_sem] def rZ (N d f:Nat):Option FnS:=ay [(16,142,wW N)] d f
def sg (N:Nat) (a0:List ah) (k1_0_0:List Txn) (k1_0_1:List ai) (k1_0_2:List aa) (k1_1_0:Int) (k1_1_1:Int) (k1_1_2:ByteArray) (k1_1_3:Int) (k1_1_4:List ah) (k1_1_5:Int) (k1_1_6:Int) (k1_1_7:Int) (k1_1_8:ByteArray) (k1_1_9:List Int) (k1_1_10:List ByteArray) (r:Int) (h:dA N a0 k1_0_0 k1_0_1 k1_0_2 k1_1_0 k1_1_1 k1_1_2 k1_1_3 k1_1_4 k1_1_5 k1_1_6 k1_1_7 k1_1_8 k1_1_9 k1_1_10=some r):Con prog 203 [] true [sF 4 (a0.map ah.row),.clo 142 [.iref 3 [[sF 11 (k1_0_0.map Txn.row),sF 4 (k1_0_1.map ai.row),sF 3 (k1_0_2.map aa.row)]] 0 0,.iref 11 [[vI k1_1_0,vI k1_1_1,vS k1_1_2,vI k1_1_3,sF 4 (k1_1_4.map ah.row),vI k1_1_5,vI k1_1_6,vI k1_1_7,vS k1_1_8,sF 1 (k1_1_9.map (aA .i64)),sF 1 (k1_1_10.map eD)]] 0 0]] (vI r):=by
 refine fk (G:=(rZ N)) func203 (gc 16 (GW N) gn) ?_;simp only [f203];unfold dA at h;refine z0 ?_;refine z0 ?_;refine lT 0 (fun (v2:Nat) (b:Unit)=>⟨tab 19 (af (af (af (af av 0 (sF 4 (a0.map ah.row))) 1 (.clo 142 [.iref 3 [[sF 11 (k1_0_0.map Txn.row),sF 4 (k1_0_1.map ai.row),sF 3 (k1_0_2.map aa.row)]] 0 0,.iref 11 [[vI k1_1_0,vI k1_1_1,vS k1_1_2,vI k1_1_3,sF 4 (k1_1_4.map ah.row),vI k1_1_5,vI k1_1_6,vI k1_1_7,vS k1_1_8,sF 1 (k1_1_9.map (aA .i64)),sF 1 (k1_1_10.map eD)]] 0 0])) 7 (vI (a0.length:Int))) 8 (vI (v2:Int))),RZ⟩) () h ?_ ?_
 ·rintro v2 ⟨⟩ hi3' h;simp only [bS] at h;refine z1 hi3' ?_;refine cf ?_;refine z0 ?_;exact e0 h
 rintro v2 ⟨⟩ x5 hi3' hx4 hw5 h;simp only [bS] at h;refine z1 hi3' ?_;refine ct ?_;refine z0 ?_;obtain ⟨r1,hr7,h⟩:=bI h;refine z1 (k3 hx4 hi3' hr7) ?_;refine cB h (fun hc8 h=>?_) fun hc8 h=>?_
 ·refine z1 hc8 ?_;exact e0 h
 refine z1 (k2 hw5 hc8) ?_;first|refine ⟨(),?_,h⟩|refine ⟨hi3',(),?_,h⟩
 exact wR
@[go_sem] def fT (N:Nat):FnS:={ own:=[],pure:=true,fn:=fun cs=>match cs with
 | [c0,.clo 142 [.iref 3 [[k1_0_0,k1_0_1,k1_0_2]] 0 0,.iref 11 [[k1_1_0,k1_1_1,k1_1_2,k1_1_3,k1_1_4,k1_1_5,k1_1_6,k1_1_7,k1_1_8,k1_1_9,k1_1_10]] 0 0]]=>((aJ 4 ah.dec) c0).bind fun qc0=>((aJ 11 Txn.dec) k1_0_0).bind fun qk1_0_0=>((aJ 4 ai.dec) k1_0_1).bind fun qk1_0_1=>((aJ 3 aa.dec) k1_0_2).bind fun qk1_0_2=>((aG .i64) k1_1_0).bind fun qk1_1_0=>((aG .i64) k1_1_1).bind fun qk1_1_1=>(du k1_1_2).bind fun qk1_1_2=>((aG .i64) k1_1_3).bind fun qk1_1_3=>((aJ 4 ah.dec) k1_1_4).bind fun qk1_1_4=>((aG .i64) k1_1_5).bind fun qk1_1_5=>((aG .i64) k1_1_6).bind fun qk1_1_6=>((aG .i64) k1_1_7).bind fun qk1_1_7=>(du k1_1_8).bind fun qk1_1_8=>((aJ 1 (dP (aG .i64))) k1_1_9).bind fun qk1_1_9=>((aJ 1 (dP du)) k1_1_10).bind fun qk1_1_10=>(dA N qc0 qk1_0_0 qk1_0_1 qk1_0_2 qk1_1_0 qk1_1_1 qk1_1_2 qk1_1_3 qk1_1_4 qk1_1_5 qk1_1_6 qk1_1_7 qk1_1_8 qk1_1_9 qk1_1_10).map fun r=>vI r
 | _=>none }
def qd (N:Nat):aC prog 203 (fT N):=by
 refine ⟨fun cs r h=>?_,fun h=>by cases h⟩;simp only [fT] at h;split at h
 ·simp only [abZ,abY] at h;obtain ⟨q0,h0,q1,h1,q2,h2,q3,h3,q4,h4,q5,h5,q6,h6,q7,h7,q8,h8,q9,h9,q10,h10,q11,h11,q12,h12,q13,h13,q14,h14,r',hr,rfl⟩:=h;exact (ag (sg N q0 q1 q2 q3 q4 q5 q6 q7 q8 q9 q10 q11 q12 q13 q14 r' hr))
 ·cases h
@[go_sem] def qk (N d f:Nat):Option FnS:=ay [(7,203,fT N)] d f
def qi (N:Nat) (a0:List ah) (k1_0_0:List Txn) (k1_0_1:List ai) (k1_0_2:List aa) (k1_1_0:Int) (k1_1_1:Int) (k1_1_2:ByteArray) (k1_1_3:Int) (k1_1_4:List ah) (k1_1_5:Int) (k1_1_6:Int) (k1_1_7:Int) (k1_1_8:ByteArray) (k1_1_9:List Int) (k1_1_10:List ByteArray) (r:Bool) (h:bU N a0 k1_0_0 k1_0_1 k1_0_2 k1_1_0 k1_1_1 k1_1_2 k1_1_3 k1_1_4 k1_1_5 k1_1_6 k1_1_7 k1_1_8 k1_1_9 k1_1_10=some r):Con prog 140 [] true [sF 4 (a0.map ah.row),.clo 142 [.iref 3 [[sF 11 (k1_0_0.map Txn.row),sF 4 (k1_0_1.map ai.row),sF 3 (k1_0_2.map aa.row)]] 0 0,.iref 11 [[vI k1_1_0,vI k1_1_1,vS k1_1_2,vI k1_1_3,sF 4 (k1_1_4.map ah.row),vI k1_1_5,vI k1_1_6,vI k1_1_7,vS k1_1_8,sF 1 (k1_1_9.map (aA .i64)),sF 1 (k1_1_10.map eD)]] 0 0]] (vB r):=by
 refine fk (G:=(qk N)) func140 (gc 7 (qd N) gn) ?_;simp only [f140];unfold bU at h;refine z0 ?_;obtain ⟨r1,hr1,h⟩:=bI h;refine z1 hr1 ?_;exact e0 h
@[go_sem] def fm (N:Nat):FnS:={ own:=[],pure:=true,fn:=fun cs=>match cs with
 | [c0,.clo 142 [.iref 3 [[k1_0_0,k1_0_1,k1_0_2]] 0 0,.iref 11 [[k1_1_0,k1_1_1,k1_1_2,k1_1_3,k1_1_4,k1_1_5,k1_1_6,k1_1_7,k1_1_8,k1_1_9,k1_1_10]] 0 0]]=>((aJ 4 ah.dec) c0).bind fun qc0=>((aJ 11 Txn.dec) k1_0_0).bind fun qk1_0_0=>((aJ 4 ai.dec) k1_0_1).bind fun qk1_0_1=>((aJ 3 aa.dec) k1_0_2).bind fun qk1_0_2=>((aG .i64) k1_1_0).bind fun qk1_1_0=>((aG .i64) k1_1_1).bind fun qk1_1_1=>(du k1_1_2).bind fun qk1_1_2=>((aG .i64) k1_1_3).bind fun qk1_1_3=>((aJ 4 ah.dec) k1_1_4).bind fun qk1_1_4=>((aG .i64) k1_1_5).bind fun qk1_1_5=>((aG .i64) k1_1_6).bind fun qk1_1_6=>((aG .i64) k1_1_7).bind fun qk1_1_7=>(du k1_1_8).bind fun qk1_1_8=>((aJ 1 (dP (aG .i64))) k1_1_9).bind fun qk1_1_9=>((aJ 1 (dP du)) k1_1_10).bind fun qk1_1_10=>(bU N qc0 qk1_0_0 qk1_0_1 qk1_0_2 qk1_1_0 qk1_1_1 qk1_1_2 qk1_1_3 qk1_1_4 qk1_1_5 qk1_1_6 qk1_1_7 qk1_1_8 qk1_1_9 qk1_1_10).map fun r=>vB r
 | _=>none }
def oC (N:Nat):aC prog 140 (fm N):=by
 refine ⟨fun cs r h=>?_,fun h=>by cases h⟩;simp only [fm] at h;split at h
 ·simp only [abZ,abY] at h;obtain ⟨q0,h0,q1,h1,q2,h2,q3,h3,q4,h4,q5,h5,q6,h6,q7,h7,q8,h8,q9,h9,q10,h10,q11,h11,q12,h12,q13,h13,q14,h14,r',hr,rfl⟩:=h;exact (ag (qi N q0 q1 q2 q3 q4 q5 q6 q7 q8 q9 q10 q11 q12 q13 q14 r' hr))
 ·cases h
@[go_sem] def MZ (N d f:Nat):Option FnS:=ay [(8,140,fm N)] d f
def Nw (N:Nat) (a0:ae) (a1:Txn) (r:Bool) (h:tf N a0 a1=some r):Con prog 73 [] true [.agg (ae.row a0),.agg (Txn.row a1)] (vB r):=by
 refine fk (G:=(MZ N)) func73 (gc 8 (oC N) gn) ?_;simp only [f73];unfold tf at h;refine z0 ?_;obtain ⟨r1,hr1,h⟩:=bI h;refine z1 hr1 ?_;exact e0 h
@[go_sem] def Eb (N:Nat):FnS:=⟨[],true,fn2 ae.decA Txn.decA fun q0 q1=>(tf N q0 q1).map fun r=>vB r,false⟩
def IG (N:Nat):aC prog 73 (Eb N):=om2 (Nw N)
@[go_sem] def LH (N d f:Nat):Option FnS:=ay [(13,73,Eb N),(19,74,Dq N)] d f
def LU (N:Nat) (a0:Txn) (c0_0:List Txn) (c0_1:List ai) (c0_2:List aa) (r:Bool) (h:oc N a0 c0_0 c0_1 c0_2=some r):Con prog 72 [] true [.agg (Txn.row a0),.iref 3 [[sF 11 (c0_0.map Txn.row),sF 4 (c0_1.map ai.row),sF 3 (c0_2.map aa.row)]] 0 0] (vB r):=by
 refine fk (G:=(LH N)) func72 (gc 13 (IG N) (gc 19 (En N) gn)) ?_;simp only [f72];unfold oc at h;refine z0 ?_;refine iDs h (fun hc1 hc1d h=>?_) fun hc1 hc1d h=>?_
 ·refine z1 hc1d ?_;exact e0 h
 obtain ⟨r1,hr2,h⟩:=bI h;refine iB h (fun hc3 h=>?_) fun hc3 h=>?_
 ·obtain ⟨r2,hr4,h⟩:=bI h;refine z1 (k4 hc1d hr2 hc3 hr4) ?_;exact e0 h
 refine z1 (k3 hc1d hr2 hc3) ?_;exact e0 h
@[go_sem] def yX (N:Nat):FnS:={ own:=[],pure:=true,fn:=fun cs=>match cs with
 | [c0,.iref 3 [[c1_0,c1_1,c1_2]] 0 0]=>(Txn.decA c0).bind fun qc0=>((aJ 11 Txn.dec) c1_0).bind fun qc1_0=>((aJ 4 ai.dec) c1_1).bind fun qc1_1=>((aJ 3 aa.dec) c1_2).bind fun qc1_2=>(oc N qc0 qc1_0 qc1_1 qc1_2).map fun r=>vB r
 | _=>none }
def Ho (N:Nat):aC prog 72 (yX N):=by
 refine ⟨fun cs r h=>?_,fun h=>by cases h⟩;simp only [yX] at h;split at h
 ·simp only [abZ,abY] at h;obtain ⟨q0,h0,q1,h1,q2,h2,q3,h3,r',hr,rfl⟩:=h;exact (ag (LU N q0 q1 q2 q3 r' hr))
 ·cases h
@[go_sem] def vF (N d f:Nat):Option FnS:=ay [(16,72,yX N)] d f
def vv (N:Nat) (a0:List Txn) (k1_0_0:List Txn) (k1_0_1:List ai) (k1_0_2:List aa) (r:Int) (h:eI N a0 k1_0_0 k1_0_1 k1_0_2=some r):Con prog 71 [] true [sF 11 (a0.map Txn.row),.clo 72 [.iref 3 [[sF 11 (k1_0_0.map Txn.row),sF 4 (k1_0_1.map ai.row),sF 3 (k1_0_2.map aa.row)]] 0 0]] (vI r):=by
 refine fk (G:=(vF N)) func71 (gc 16 (Ho N) gn) ?_;simp only [f71];unfold eI at h;refine z0 ?_;refine z0 ?_;refine lT 0 (fun (v2:Nat) (b:Unit)=>⟨tab 19 (af (af (af (af av 0 (sF 11 (a0.map Txn.row))) 1 (.clo 72 [.iref 3 [[sF 11 (k1_0_0.map Txn.row),sF 4 (k1_0_1.map ai.row),sF 3 (k1_0_2.map aa.row)]] 0 0])) 7 (vI (a0.length:Int))) 8 (vI (v2:Int))),RZ⟩) () h ?_ ?_
 ·rintro v2 ⟨⟩ hi3' h;simp only [dS] at h;refine z1 hi3' ?_;refine cf ?_;refine z0 ?_;exact e0 h
 rintro v2 ⟨⟩ x5 hi3' hx4 hw5 h;simp only [dS] at h;refine z1 hi3' ?_;refine ct ?_;refine z0 ?_;obtain ⟨r1,hr7,h⟩:=bI h;refine z1 (k3 hx4 hi3' hr7) ?_;refine cB h (fun hc8 h=>?_) fun hc8 h=>?_
 ·refine z1 hc8 ?_;exact e0 h
 refine z1 (k2 hw5 hc8) ?_;first|refine ⟨(),?_,h⟩|refine ⟨hi3',(),?_,h⟩
 exact wR
@[go_sem] def iO (N:Nat):FnS:={ own:=[],pure:=true,fn:=fun cs=>match cs with
 | [c0,.clo 72 [.iref 3 [[k1_0_0,k1_0_1,k1_0_2]] 0 0]]=>((aJ 11 Txn.dec) c0).bind fun qc0=>((aJ 11 Txn.dec) k1_0_0).bind fun qk1_0_0=>((aJ 4 ai.dec) k1_0_1).bind fun qk1_0_1=>((aJ 3 aa.dec) k1_0_2).bind fun qk1_0_2=>(eI N qc0 qk1_0_0 qk1_0_1 qk1_0_2).map fun r=>vI r
 | _=>none }
def tO (N:Nat):aC prog 71 (iO N):=by
 refine ⟨fun cs r h=>?_,fun h=>by cases h⟩;simp only [iO] at h;split at h
 ·simp only [abZ,abY] at h;obtain ⟨q0,h0,q1,h1,q2,h2,q3,h3,r',hr,rfl⟩:=h;exact (ag (vv N q0 q1 q2 q3 r' hr))
 ·cases h
def FY (N:Nat) (a0:List Ref) (r:List Ref) (h:j5 N a0=some r):Con prog 44 [true] true [sO 2 (a0.map Ref.row)] (sO 2 (r.map Ref.row)):=by
 refine A7 (G:=(ay [])) (L:=noL) func44 rfl (by decide) (by kernel_rfl) gn (fun _ _ _ h=>by cases h) [] mix (acv rfl) ?_;rw [show gQ [true] [sO 2 (a0.map Ref.row)]=(af av 0 (.pal 0 [] 0 a0.length none)) from by funext t; match t with|0=>simp [gQ,ju,kJ,af]|t+1=>rfl];rw [show R0 [true] [sO 2 (a0.map Ref.row)]=upd RZ 0 (sO 2 (a0.map Ref.row)) from by funext t; match t with|0=>rfl|t+1=>rfl];simp only [f44];unfold j5 at h;refine z0 ?_;refine z0 ?_;refine cD h (fun hc1 hc1d h=>?_) fun hc1 hc1d h=>?_
 ·refine z1 hc1d ?_;refine fD (pp ?_);cases h;simp only [go_sem,seval,eC];exact ⟨_,rfl,iz.h,rI.h,qI.h⟩
 refine z1 hc1d ?_;refine aX (ic fun hreal3=>?_);have hl2:=hreal3.lenX 0 (by simp only [go_sem,seval]; rfl);first|rw [ab5] at hl2|rw [fC] at hl2|rw [<-acs,ab5] at hl2
 refine pS (fun (v3:Nat) (b:Unit)=>⟨tab 61 (af (af av 0 (.pal 0 [] 0 a0.length none)) 3 (vI (v3:Int))),(upd RZ 0 (sO 2 (a0.map Ref.row)))⟩) () h ?_ ?_
 ·exact wF hc1d
 rintro v3 ⟨⟩ _ h -;rcases (jL a0.length v3).symm with ⟨hi4',hd7⟩|⟨hi4',hd7⟩
 ·rw [hd7] at h;simp only [iR] at h;refine z1 hi4' ?_;refine cf ?_;refine z0 ?_;refine fD (pp ?_);cases h;simp only [go_sem,seval,eC];exact ⟨_,rfl,iz.h,rI.h,qI.h⟩
 rw [hd7] at h;simp only [iR] at h;have hw6:=eW hi4' hl2;refine z1 hi4' ?_;refine ct ?_;obtain ⟨x1,hb8,hx9,h⟩:=aI h;try simp only [acm] at hx9
 try simp only [ad4,adt,true_and] at hb8
 obtain ⟨x2,hb10,hx11,h⟩:=aI h;refine d1 (k4 hi4' hx9 hb10 hx11) ?_;refine cBs h (fun hc12 h=>?_) fun hc12 h=>?_
 ·refine z1 (k2 hw6 hc12) ?_;first|refine ⟨(),?_,h⟩|refine ⟨hi4',(),?_,h⟩
  exact wF (k5 hc1d hi4' hw6 hb8 (k4 hx9 hb10 hx11 hc12))
 obtain ⟨hs13,h⟩:=jy h;try simp only [acm] at hs13 h
 refine z1 (k3 hc12 hs13 @acp) ?_;refine z0 ?_;refine aX (iS (fun (b:List Ref × Int × Int)=>⟨tab 61 (af (af (af (af av 0 (.pal 0 [] 0 b.1.length none)) 3 (vI b.2.1)) 4 (.pal 0 [] v3 (a0.length - v3) none)) 5 (vI b.2.2)),(upd RZ 0 (sO 2 (b.1.map Ref.row)))⟩) (a0,(v3:Int),1) h ?_ ?_)
 ·exact wF (k5 hc1d hi4' hw6 hb8 (k5 hx9 hb10 hx11 hc12 (k3 hs13 @acj @acp)))
 rintro n ⟨l12,v13,v14⟩ h -;cases n with
 | zero=>simp [gw] at h
 | succ n=>
 simp only [gw] at h;refine z0 ?_;refine cDs h (fun hc14 hc14d h=>?_) fun hc14 hc14d h=>?_
 ·refine iQ (pp ?_);unfold kf at h;refine aM ?_;obtain ⟨hs24,h⟩:=jy h;try simp only [acm] at hs24 h
  refine iJ fun Z hZ=>?_;simp only [go_sem,seval,acp,hc14d,hs24,Pl (row:=Ref.row) (z:=(Ref.mk (⟨#[]⟩) (⟨#[]⟩))) (rz:=[vS (⟨#[]⟩),vS (⟨#[]⟩)]) (k:=(v13).toNat) (l:=l12) (by have:=hs24; omega) rfl,bO,sI,aK,ar.allD Ref.row_ok];refine hZ _ (pp (aM ?_));obtain ⟨hs25,h⟩:=jy h;try simp only [adZ] at hs25 h
  refine iJ fun Z hZ=>?_;simp only [go_sem,seval,acj,hs24,eh,hs25];refine hZ _ (pp (fD (pp ?_)));cases h;simp only [go_sem,seval,eC];exact ⟨_,rfl,iz.h,rI.h,qI.h⟩
 obtain ⟨x16,hb15,hx16,h⟩:=aI h;obtain ⟨x17,hb17,hx18,h⟩:=aI h;refine d1 (k5 hb15 (Fo hx16) (IF hb15) hb17 (k2 (Fo hx18) (IF hb17))) ?_;refine cMs h (fun hc19 h=>?_) fun hc19 h=>?_
 ·refine z1 hc19 ?_;refine ⟨_,acK _,(l12,v13,IntKind.i64.wrap (v14+1)),?_,h⟩;exact wF (k5 hc1d hi4' hw6 hb8 (k5 hx9 hb10 hx11 hc12 (k5 hs13 @acj @acp hc14d (k5 hb15 hx16 (Fo hx16) (IF hb15) (k5 hb17 hx18 (Fo hx18) (IF hb17) hc19)))))
 obtain ⟨x18,hb20,hx21,h⟩:=aI h;have hx23:=ld (y:=x16) hx21;refine z1 (k5 hb15 (IF hb15) hc19 (Fo hx16) (k3 hb20 hx21 (mm2 (row:=Ref.row) (y:=x16) (rx:=[vS x18.Type_,vS x18.Key]) (ry:=[vS x16.Type_,vS x16.Key]) hx21 rfl rfl))) ?_;refine z0 ?_;refine z0 ?_;refine ⟨_,acK _,((l12.set ((v13).toNat) x16),IntKind.i64.wrap (v13+1),IntKind.i64.wrap (v14+1)),?_,h⟩;refine wr ?_ ?_<;>repeat' first|rfl|constructor|simp only [go_sem,seval,acy]
def fQ (N:Nat):FnS:={ own:=[true],pure:=true,fn:=fun cs=>match cs with
 | [c0]=>((vV 2 Ref.dec) c0).bind fun q0=>(j5 N q0).map fun r=>sO 2 (r.map Ref.row)
 | _=>none }
theorem Ch (N:Nat):(fQ N).own=[true]:=rfl
theorem BE (N:Nat):(fQ N).pure=true:=rfl
theorem Bu (N:Nat):(fQ N).peek=false:=rfl
attribute [go_sem] fQ Ch BE Bu
def CI (N:Nat):aC prog 44 (fQ N):=by
 refine ⟨fun cs r h=>?_,fun h=>by cases h⟩;simp only [fQ] at h;split at h
 ·simp only [abZ,abY] at h;obtain ⟨q0,h0,r',hr,rfl⟩:=h;exact (FY N q0 r' hr).argsO rfl (j6 (qE Ref.row_ok Ref.dec_le h0) (oJ))
 ·cases h
@[go_sem] def o4 (N d f:Nat):Option FnS:=ay [(32,43,wM N)] d f
def ir (N:Nat) (a0:List Ref) (a1:Int) (a2:Int) (r:List Ref) (h:bo N a0 a1 a2=some r):(r).length=a0.length:=by
 unfold bo at h; exact (lh h).2
def oS (N:Nat) (a0:List Ref) (a1:Int) (a2:Int) (r:List Ref) (h:bo N a0 a1 a2=some r):m8 prog 173 1 [sO 2 (a0.map Ref.row),vI a1,vI a2,.clo 43 []] (.tup []) [sO 2 (r.map Ref.row)]:=by
 unfold bo at h;obtain ⟨h,hlen⟩:=lh h;refine zl (G:=(o4 N)) (L:=noL) func173 rfl (by decide) (by kernel_rfl) 1 (by kernel_rfl) (gc 32 (wX N) gn) (fun _ _ _ h=>by cases h) [] mix (acv rfl) (acv rfl) rfl (by simp [dT,hlen]) ?_;simp only [f173];refine z0 ?_;refine aX (iS (fun (b:Int)=>⟨tab 53 (af (af (af (af (af av 0 (.pal 0 [] 0 a0.length none)) 1 (vI a1)) 2 (vI a2)) 3 (.clo 43 [])) 8 (vI b)),(upd RZ 0 (sO 2 (a0.map Ref.row)))⟩) (IntKind.i64.wrap (a1+1)) h ?_ ?_)
 ·exact wR
 rintro n v1 h -;cases n with
 | zero=>simp [dp] at h
 | succ n=>
 simp only [dp] at h;refine z0 ?_;refine cDs h (fun hc1 hc1d h=>?_) fun hc1 hc1d h=>?_
 ·refine iQ (pp ?_);obtain rfl:=acM h;refine CU (.inr rfl) (bh.refl _) (by simp only [go_sem,seval,hc1d]; rfl) (by simp only [go_sem,seval]; rfl) (by (try simp only [go_sem,seval]); first|exact Le.refl _|exact LeI.h) ?_;exact CS (by simp only [go_sem,seval,hc1d]<;>rfl) (by simp only [go_sem,seval]<;>rfl) (E3)
 refine z1 hc1d ?_;refine aX (iS (fun (b:Unit)=>⟨tab 53 (af (af (af (af (af (af av 0 (.pal 0 [] 0 a0.length none)) 1 (vI a1)) 2 (vI a2)) 3 (.clo 43 [])) 8 (vI v1)) 9 (vI v1)),(upd RZ 0 (sO 2 (a0.map Ref.row)))⟩) () h ?_ ?_)
 ·exact wR
 rintro n ⟨⟩ h -;cases n with
 | zero=>simp [eQ] at h
 | succ n=>
 simp only [eQ] at h;refine aM ?_;apply aW (fun (c9:Bool)=>⟨tab 53 (af (af (af (af (af (af (af av 0 (.pal 0 [] 0 a0.length none)) 1 (vI a1)) 2 (vI a2)) 3 (.clo 43 [])) 8 (vI v1)) 9 (vI v1)) 34 (vB c9)),(upd RZ 0 (sO 2 (a0.map Ref.row)))⟩)
 ·intro hJ2;refine iDs h (fun hc3 hc3d h=>?_) fun hc3 hc3d h=>?_
  ·refine d1 hc3d ?_;refine hJ2 _ false ?_ h;exact wR
  obtain ⟨x10,hb4,hx5,h⟩:=aI h;obtain ⟨x11,hb6,hx7,h⟩:=aI h;obtain ⟨r12,hr8,h⟩:=bI h;refine d1 (k5 hc3d hb4 hx5 hb6 (k2 hx7 hr8)) ?_;refine hJ2 _ (decide (r12 < 0)) ?_ h;exact wR
 intro c9 h;unfold eS at h;refine cB h (fun hc9 h=>?_) fun hc9 h=>?_
 ·refine bc (pp ?_);unfold eU at h;refine aM (aX ?_);obtain ⟨x13,hb10,hx11,h⟩:=aI h;obtain ⟨x14,hb12,hx13,h⟩:=aI h;cases h
 refine z1 hc9 ?_;refine ⟨_,acK _,(IntKind.i64.wrap (v1+1)),?_,h⟩;exact wR
@[go_sem] def eN (N:Nat):FnL:=⟨1,fun cs rest=>match cs,rest with
 | [v0],[c1,c2,.clo 43 []]=>(C8 2 Ref.dec v0).bind fun q0=>((aG .i64) c1).bind fun q1=>((aG .i64) c2).bind fun q2=>(bo N q0 q1 q2).map fun r=>(.tup [],[sO 2 (r.map Ref.row)])
 | _,_=>none,false⟩
def mL (N:Nat):wZ prog 173 (eN N):=by
 refine HQ (ad6 _) rfl ?_;intro cs rest r ls hlen h;simp only [eN] at h;split at h
 ·simp only [abZ,abY] at h;obtain ⟨q0,h0,q1,h1,q2,h2,r',hr,he⟩:=h;cases he;exact m8.told rfl rfl (zm (zc Ref.row_ok Ref.dec_le h0) (Bx)) (LeL.cons (bN h1) (LeL.cons (bN h2) (LeL.cons (Le.clo (LeL.nil)) (LeL.nil)))) (oS N q0 q1 q2 r' hr)
 ·cases h
@[go_sem] def sm (N d f:Nat):Option FnL:=Bl [(30,173,eN N)] d f
def jD (N:Nat) (a0:List Ref) (a1:Int) (a2:Int) (a3:Int) (r:List Ref) (h:bG N a0 a1 a2 a3=some r):(r).length=a0.length:=by
 unfold bG at h; exact (lh h).2
def sd (N:Nat) (a0:List Ref) (a1:Int) (a2:Int) (a3:Int) (r:List Ref) (h:bG N a0 a1 a2 a3=some r):m8 prog 101 1 [sO 2 (a0.map Ref.row),vI a1,vI a2,vI a3,.clo 43 []] (.tup []) [sO 2 (r.map Ref.row)]:=by
 unfold bG at h;obtain ⟨h,hlen⟩:=lh h;refine zl (G:=(ay [])) (L:=(sm N)) func101 rfl (by decide) (by kernel_rfl) 1 (by kernel_rfl) gn (lc 30 (mL N) ln) [] mix (acv rfl) (acv rfl) rfl (by simp [dT,hlen]) ?_;simp only [f101];refine z0 ?_;refine z0 ?_;refine aX (iS (fun (b:Unit)=>⟨tab 148 (af (af (af (af (af (af (af av 0 (.pal 0 [] 0 a0.length none)) 1 (vI a1)) 2 (vI a2)) 3 (vI a3)) 4 (.clo 43 [])) 10 (vB true)) 11 (vB true)),(upd RZ 0 (sO 2 (a0.map Ref.row)))⟩) () h ?_ ?_)
 ·exact wR
 rintro n ⟨⟩ h -;cases n with
 | zero=>simp [fV] at h
 | succ n=>
 simp only [fV] at h;refine z0 ?_;refine z0 ?_;refine cDs h (fun hc1 hc1d h=>?_) fun hc1 hc1d h=>?_
 ·refine z1 hc1d ?_;refine cD h (fun hc3 hc3d h=>?_) fun hc3 hc3d h=>?_
  ·refine aM ?_;cases h
  refine z1 hc3d ?_;refine cf ?_;first|rw [if_pos (rfl:true=true)] at h|rw [if_neg acV] at h|skip
  refine bc (pp (aM ?_));cases h
 obtain ⟨r1,hr2,h⟩:=bI h;refine z1 (k3 hc1d hr2 (ir N a0 a1 a2 r1 hr2)) ?_;refine fD (pp ?_);obtain rfl:=acM h;refine CU (.inl rfl) (bh.refl _) (by simp only [go_sem,seval]; rfl) (by simp only [go_sem,seval]; rfl) (by (try simp only [go_sem,seval]); first|exact Le.refl _|exact LeI.h) ?_;exact CS (by simp only [go_sem,seval,ir N a0 a1 a2 r1 hr2]<;>rfl) (by simp only [go_sem,seval]<;>rfl) (E3)
@[go_sem] def fU (N:Nat):FnL:=⟨1,fun cs rest=>match cs,rest with
 | [v0],[c1,c2,c3,.clo 43 []]=>(C8 2 Ref.dec v0).bind fun q0=>((aG .i64) c1).bind fun q1=>((aG .i64) c2).bind fun q2=>((aG .i64) c3).bind fun q3=>(bG N q0 q1 q2 q3).map fun r=>(.tup [],[sO 2 (r.map Ref.row)])
 | _,_=>none,false⟩
def qe (N:Nat):wZ prog 101 (fU N):=by
 refine HQ (ad6 _) rfl ?_;intro cs rest r ls hlen h;simp only [fU] at h;split at h
 ·simp only [abZ,abY] at h;obtain ⟨q0,h0,q1,h1,q2,h2,q3,h3,r',hr,he⟩:=h;cases he;exact m8.told rfl rfl (zm (zc Ref.row_ok Ref.dec_le h0) (Bx)) (LeL.cons (bN h1) (LeL.cons (bN h2) (LeL.cons (bN h3) (LeL.cons (Le.clo (LeL.nil)) (LeL.nil))))) (sd N q0 q1 q2 q3 r' hr)
 ·cases h
@[go_sem] def uw (N d f:Nat):Option FnS:=ay [(11,102,y7 N)] d f
@[go_sem] def uq (N d f:Nat):Option FnL:=Bl [(13,101,fU N)] d f
def tw (N:Nat) (a0:List Ref) (r:List Ref) (h:bX N a0=some r):(r).length=a0.length:=by
 unfold bX at h; exact (lh h).2
def lj (N:Nat) (a0:List Ref) (r:List Ref) (h:bX N a0=some r):m8 prog 42 1 [sO 2 (a0.map Ref.row),.clo 43 []] (.tup []) [sO 2 (r.map Ref.row)]:=by
 unfold bX at h;obtain ⟨h,hlen⟩:=lh h;refine zl (G:=(uw N)) (L:=(uq N)) func42 rfl (by decide) (by kernel_rfl) 1 (by kernel_rfl) (gc 11 (As N) gn) (lc 13 (qe N) ln) [] mix (acv rfl) (acv rfl) rfl (by simp [dT,hlen]) ?_;simp only [f42];refine z0 ?_;obtain ⟨r1,hr1,h⟩:=bI h;obtain ⟨r2,hr2,h⟩:=bI h;refine z1 (k3 hr1 hr2 (jD N a0 0 (a0.length:Int) r1 r2 hr2)) ?_;obtain rfl:=acM h;refine CU (.inr rfl) (bh.refl _) (by simp only [go_sem,seval]; rfl) (by simp only [go_sem,seval]; rfl) (by (try simp only [go_sem,seval]); first|exact Le.refl _|exact LeI.h) ?_;exact CS (by simp only [go_sem,seval,jD N a0 0 (a0.length:Int) r1 r2 hr2]<;>rfl) (by simp only [go_sem,seval]<;>rfl) (E3)
@[go_sem] def kM (N:Nat):FnL:=⟨1,fun cs rest=>match cs,rest with
 | [v0],[.clo 43 []]=>(C8 2 Ref.dec v0).bind fun q0 =>  (bX N q0).map fun r=>(.tup [],[sO 2 (r.map Ref.row)])
 | _,_=>none,false⟩
def EZ (N:Nat):wZ prog 42 (kM N):=by
 refine HQ (ad6 _) rfl ?_;intro cs rest r ls hlen h;simp only [kM] at h;split at h
 ·simp only [abZ,abY] at h;obtain ⟨q0,h0,r',hr,he⟩:=h;cases he;exact m8.told rfl rfl (zm (zc Ref.row_ok Ref.dec_le h0) (Bx)) (LeL.cons (Le.clo (LeL.nil)) (LeL.nil)) (lj N q0 r' hr)
 ·cases h
def wB:Go.Shelf.Ren:=⟨fun|6=>42|14=>101|15=>102|20=>173|21=>174|22=>175|23=>176|24=>177|25=>178|26=>179|27=>180|28=>181|29=>182|46=>214|47=>215|48=>216|49=>217|50=>218|57=>231|n=>n,fun|0=>0|3=>3|4=>4|5=>5|9=>9|22=>46|24=>52|25=>94|39=>136|45=>179|46=>180|50=>115|53=>186|55=>188|66=>207|70=>211|76=>219|77=>220|n=>n,fun n=>n⟩
def wL:Go.Proofs.SlLaysF0.n6 prog wB where
 mixed:=by kernel_rfl
 f6:=⟨f42.name, by decide, func42.trans (congrArg some (by kernel_rfl))⟩
 f14:=⟨f101.name, by decide, func101.trans (congrArg some (by kernel_rfl))⟩
 f15:=func102.trans (congrArg some (by kernel_rfl))
 f20:=⟨f173.name, by decide, func173.trans (congrArg some (by kernel_rfl))⟩
 f21:=⟨f174.name, by decide, func174.trans (congrArg some (by kernel_rfl))⟩
 f22:=⟨f175.name, by decide, func175.trans (congrArg some (by kernel_rfl))⟩
 f23:=⟨f176.name, by decide, func176.trans (congrArg some (by kernel_rfl))⟩
 f24:=⟨f177.name, by decide, func177.trans (congrArg some (by kernel_rfl))⟩
 f25:=⟨f178.name, by decide, func178.trans (congrArg some (by kernel_rfl))⟩
 f26:=⟨f179.name, by decide, func179.trans (congrArg some (by kernel_rfl))⟩
 f27:=⟨f180.name, by decide, func180.trans (congrArg some (by kernel_rfl))⟩
 f28:=func181.trans (congrArg some (by kernel_rfl))
 f29:=func182.trans (congrArg some (by kernel_rfl))
 f46:=⟨f214.name, by decide, func214.trans (congrArg some (by kernel_rfl))⟩
 f47:=func215.trans (congrArg some (by kernel_rfl))
 f48:=func216.trans (congrArg some (by kernel_rfl))
 f49:=⟨f217.name, by decide, func217.trans (congrArg some (by kernel_rfl))⟩
 f50:=⟨f218.name, by decide, func218.trans (congrArg some (by kernel_rfl))⟩
 f57:=⟨f231.name, by decide, func231.trans (congrArg some (by kernel_rfl))⟩
 t0:=underlying0
 a0:=Tryz.isAgg0
 z0:=Tryz.sizeOf0
 v0:=Tryz.zeroValue0
 t3:=underlying3
 a3:=Tryz.isAgg3
 z3:=Tryz.sizeOf3
 v3:=Tryz.zeroValue3
 t4:=underlying4
 a4:=Tryz.isAgg4
 z4:=Tryz.sizeOf4
 v4:=Tryz.zeroValue4
 t5:=underlying5
 a5:=Tryz.isAgg5
 z5:=Tryz.sizeOf5
 v5:=Tryz.zeroValue5
 t9:=underlying9
 a9:=Tryz.isAgg9
 z9:=Tryz.sizeOf9
 v9:=Tryz.zeroValue9
 t22:=underlying46
 a22:=Tryz.isAgg46
 z22:=Tryz.sizeOf46
 v22:=Tryz.zeroValue46
 t25:=underlying94
 a25:=Tryz.isAgg94
 z25:=Tryz.sizeOf94
 v25:=Tryz.zeroValue94
 t39:=underlying136
 a39:=Tryz.isAgg136
 z39:=Tryz.sizeOf136
 v39:=Tryz.zeroValue136
 t45:=underlying179
 a45:=Tryz.isAgg179
 z45:=Tryz.sizeOf179
 v45:=Tryz.zeroValue179
 t46:=underlying180
 a46:=Tryz.isAgg180
 z46:=Tryz.sizeOf180
 v46:=Tryz.zeroValue180
 t50:=underlying115
 a50:=Tryz.isAgg115
 z50:=Tryz.sizeOf115
 v50:=Tryz.zeroValue115
 t53:=underlying186
 a53:=Tryz.isAgg186
 z53:=Tryz.sizeOf186
 v53:=Tryz.zeroValue186
 t55:=underlying188
 a55:=Tryz.isAgg188
 z55:=Tryz.sizeOf188
 v55:=Tryz.zeroValue188
 t66:=underlying207
 a66:=Tryz.isAgg207
 z66:=Tryz.sizeOf207
 v66:=Tryz.zeroValue207
 t70:=underlying211
 a70:=Tryz.isAgg211
 z70:=Tryz.sizeOf211
 v70:=Tryz.zeroValue211
 t76:=underlying219
 a76:=Tryz.isAgg219
 z76:=Tryz.sizeOf219
 v76:=Tryz.zeroValue219
 t77:=underlying220
 a77:=Tryz.isAgg220
 z77:=Tryz.sizeOf220
 v77:=Tryz.zeroValue220
def mP (x:Ref):List Go.Value:=[.string x.Type_,.string x.Key]
def mN (N:Nat) (a0:List Ref) (r:List Ref) (h:dq N a0=some r):(r).length=a0.length:=by
 unfold dq at h;split at h
 ·exact tw N a0 r h
 ·exact UT h
def ym (N:Nat) (a0:List Ref) (r:List Ref) (h:dq N a0=some r):m8 prog 42 1 [sO 2 (a0.map Ref.row),.clo 43 []] (.tup []) [sO 2 (r.map Ref.row)]:=by
 unfold dq at h;split at h
 ·exact lj N a0 r h
 ·rename_i hne;obtain ⟨h1,h2,h3,rfl⟩:=Lz h;refine U3 wL 2 (by decide) Tryz.isAgg52 Tryz.sizeOf52 mP (fun _=>rfl) (fun x v hv=>by simp only [mP,acu,adq,or_false] at hv; rcases hv with rfl|rfl<;>rfl) Ref.row (fun _=>rfl) rfl (enters_of func42 (by kernel_rfl) rfl) (enters_of func43 (by kernel_rfl) rfl) h2 (fun x y=>⟨true,?_⟩) (fun e=>hne (by rw [e]; rfl)) h3
  obtain ⟨z,hz⟩:=h1 x y;have hw:=G9 N x y  z hz;show Con prog 43 [] true _ (vI ((il N x y ).getD 0));rw [hz];exact hw
@[go_sem] def jx (N:Nat):FnL:=⟨1,fun cs rest=>match cs,rest with
 | [v0],[.clo 43 []]=>(C8 2 Ref.dec v0).bind fun q0 =>  (dq N q0).map fun r=>(.tup [],[sO 2 (r.map Ref.row)])
 | _,_=>none,false⟩
def vp (N:Nat):wZ prog 42 (jx N):=by
 refine HQ (ad6 _) rfl ?_;intro cs rest r ls hlen h;simp only [jx] at h;split at h
 ·simp only [abZ,abY] at h;obtain ⟨q0,h0,r',hr,he⟩:=h;cases he;exact m8.told rfl rfl (zm (zc Ref.row_ok Ref.dec_le h0) (Bx)) (LeL.cons (Le.clo (LeL.nil)) (LeL.nil)) (ym N q0 r' hr)
 ·cases h
@[go_sem] def HU (N d f:Nat):Option FnS:=ay [(22,44,fQ N)] d f
@[go_sem] def Ir (N d f:Nat):Option FnL:=Bl [(20,42,jx N)] d f
def HX (N:Nat) (a0:Txn) (r:List Ref) (h:je N a0=some r):Con prog 13 [] true [.agg (Txn.row a0)] (sO 2 (r.map Ref.row)):=by
 refine Sk (G:=(HU N)) (L:=(Ir N)) func13 rfl (by decide) (by kernel_rfl) (gc 22 (CI N) gn) (lc 20 (vp N) ln) [] mix (acv rfl) ?_;simp only [f13];unfold je at h;refine z0 ?_;refine z0 ?_;refine z0 ?_;refine aX (ic fun hreal2=>?_);have hl1:=hreal2.lenT 7 (by decide) (by simp only [go_sem,seval]; rfl);first|rw [ab5] at hl1|rw [fC] at hl1|rw [<-acs,ab5] at hl1
 refine rO (fun (v3:Nat) (b:List Ref)=>⟨tab 23 (af (af (af (af av 3 (.pal 17 [] 0 b.length none)) 7 (sF 4 (a0.Calls.map ah.row))) 8 (vI (a0.Calls.length:Int))) 9 (vI (v3:Int))),(upd RZ 17 (sO 2 (b.map Ref.row)))⟩) [] h ?_ ?_
 ·refine bh.trans (oD 3 17 2 (by simp only [go_sem,seval]) (by simp only [go_sem,seval])) ?_;refine wr ?_ ?_<;>repeat' first|rfl|constructor|simp only [go_sem,seval,ac2,acy,acS,acL]
 rintro v3 l2 hi3 h -;rcases (ml a0.Calls v3 hi3) with ⟨x6,hi3',hx4,hd6⟩|⟨hi3',_,hd6⟩
 ·rw [hd6] at h;simp only [iI] at h;have hw5:=eW hi3' hl1;refine z1 hi3' ?_;refine ct ?_;refine z1 (k2 hx4 hi3') ?_;obtain ⟨ha7,h⟩:=ey h;simp only [acf,acJ,acP,Nat.reduceAdd] at ha7;refine z1 ha7 ?_;refine z1 hw5 ?_;first|refine ⟨(l2++[x6.Target]),?_,h⟩|refine ⟨hi3',(l2++[x6.Target]),?_,h⟩
  refine wr ?_ ?_<;>repeat' first|rfl|constructor|simp only [go_sem,seval]
 rw [hd6] at h;simp only [iI] at h;refine z1 hi3' ?_;refine cf ?_;refine iQ (pp ?_);unfold lE at h;obtain ⟨r9,hr8,h⟩:=bI h;refine z1 (k2 hr8 (mN N l2 r9 hr8)) ?_;obtain ⟨r10,hr9,h⟩:=bI h;refine z1 (k2 (acr (afm (mN N l2 r9 hr8))) hr9) ?_;refine fD (pp ?_);obtain rfl:=acM h;simp only [go_sem,seval];exact ⟨_,rfl,iz.h,qI.h⟩
@[go_sem] def u9 (N:Nat):FnS:=⟨[],true,fn1 Txn.decA fun q0=>(je N q0).map fun r=>sF 2 (r.map Ref.row),false⟩
def yj (N:Nat):aC prog 13 (u9 N):=om1 fun q0 r h=>rs (HX N q0 r h)
@[go_sem] def OA (N d f:Nat):Option FnS:=ay [(14,23,mv N),(18,59,H3 N),(22,71,iO N),(40,63,sA N),(43,13,u9 N),(54,69,sZ N),(62,67,ru N),(72,49,Cb N)] d f
def Ow (N:Nat) (a0:ae) (r:ae × (List aF)) (h:oN N a0=some r):Con prog 28 [] false [.agg (ae.row a0)] (.tup [.agg (ae.row r.1),sO 9 (r.2.map aF.row)]):=by
 refine Jl (G:=(OA N)) func28 rfl (by decide) (by kernel_rfl) (gc 14 (kG N) (gc 18 (LQ N) (gc 22 (tO N) (gc 40 (uj N) (gc 43 (yj N) (gc 54 (qM N) (gc 62 (s9 N) (gc 72 (Dz N) gn)))))))) [(71,false)] mix (acv rfl) ?_;simp only [f28];unfold oN at h;refine z0 ?_;obtain ⟨r1,hr1,h⟩:=bI h;refine z1 hr1 ?_;refine cM h (fun hc2 h=>?_) fun hc2 h=>?_
 ·refine z1 hc2 ?_;exact f0 h
 obtain ⟨r2,hr3,h⟩:=bI h;refine z1 (k2 hc2 hr3) ?_;refine z0 ?_;refine aX (iS (fun (b:List Txn × List ai × List aa × List aF)=>⟨tab 77 (af (af (af av 2 (pF 2)) 4 (pF 4)) 5 (.pal 76 [] 0 b.2.2.2.length none)),(upd (upd (upd RZ 2 (vA 3 [.val (.slice none 0 0),.val (.slice none 0 0),.val (.slice none 0 0)])) 4 (vA 3 [sF 11 (b.1.map Txn.row),sF 4 (b.2.1.map ai.row),sF 3 (b.2.2.1.map aa.row)])) 76 (sO 9 (b.2.2.2.map aF.row)))⟩) (r2.Txns,r2.Locks,r2.Stacks,[]) h ?_ ?_)
 ·refine bh.trans (oD 5 76 9 (by simp only [go_sem,seval]) (by simp only [go_sem,seval])) ?_;exact wF (k3 hr1 hc2 hr3)
 rintro n ⟨l4,l5,l6,l7⟩ h -;cases n with
 | zero=>simp [lH] at h
 | succ n=>
 simp only [lH] at h;obtain ⟨r3,hr4,h⟩:=bI h;refine z1 hr4 ?_;refine z0 ?_;refine cD h (fun hc5 hc5d h=>?_) fun hc5 hc5d h=>?_
 ·refine z1 hc5d ?_;exact f0 h
 obtain ⟨x4,hb6,hx7,h⟩:=aI h;refine z1 (k3 hc5d hb6 hx7) ?_;obtain ⟨r5,hr8,h⟩:=bI h;refine d1 hr8 ?_;obtain ⟨r18,hr9,h⟩:=bI h;refine z1 hr9 ?_;refine aX (ic fun hreal11=>?_);have hl10:=hreal11.lenT 43 (by decide) (by simp only [go_sem,seval]; rfl);first|rw [ab5] at hl10|rw [fC] at hl10|rw [<-acs,ab5] at hl10
 refine rO (fun (v16:Nat) (b:List aU)=>⟨tab 77 (af (af (af (af (af (af (af (af av 2 (pF 2)) 4 (pF 4)) 5 (.pal 76 [] 0 l7.length none)) 7 (pF 7)) 8 (pF 8)) 43 (sF 2 (r18.map Ref.row))) 44 (vI (r18.length:Int))) 45 (vI (v16:Int))),(upd (upd (upd (upd (upd RZ 2 (vA 3 [.val (.slice none 0 0),.val (.slice none 0 0),.val (.slice none 0 0)])) 4 (vA 3 [sF 11 (l4.map Txn.row),sF 4 (l5.map ai.row),sF 3 (l6.map aa.row)])) 7 (vA 11 (Txn.row x4))) 8 (vA 9 [vI x4.ID,vS x4.Client,vI x4.Seq,vI r5.Kind,vI r5.N,vS r5.S,sF 1 (r5.I.map (aA .i64)),sF 1 (r5.L.map eD),sO 3 (b.map aU.row)])) 76 (sO 9 (l7.map aF.row)))⟩) [] h ?_ ?_
 ·refine bh.trans (NK 8 [(0,8)] 3 (by simp only [go_sem,seval]) (by simp only [go_sem,seval]; try rfl)) ?_;exact wF (k5 hr1 hc2 hr3 hr4 (k5 hc5d hb6 hx7 hr8 hr9))
 rintro v16 l15 hi12 h -;rcases (ml r18 v16 hi12).symm with ⟨hi12',_,hd15⟩|⟨x19,hi12',hx13,hd15⟩
 ·rw [hd15] at h;simp only [lJ] at h;refine z1 hi12' ?_;refine cf ?_;refine iQ (pp ?_);unfold wm at h;refine mT (PV (n:=8) (by simp only [go_sem,seval]; rfl) (by simp only [jF,iN,go_sem]; rfl)) ?_;obtain ⟨r21,hr19,h⟩:=bI h;obtain ⟨ha20,h⟩:=ey h;simp only [acf,acJ,acP,Nat.reduceAdd] at ha20;refine d1 (k2 hr19 ha20) ?_;refine ⟨_,acK _,(r21.Txns,r21.Locks,r21.Stacks,(l7++[(aF.mk x4.ID x4.Client x4.Seq r5 l15)])),?_,h⟩;refine wr ?_ ?_<;>repeat' first|rfl|constructor|simp only [go_sem,seval]
 rw [hd15] at h;simp only [lJ] at h;have hw14:=eW hi12' hl10;refine z1 hi12' ?_;refine ct ?_;refine z1 (k2 hx13 hi12') ?_;obtain ⟨r19,hr16,h⟩:=bI h;refine z1 hr16 ?_;obtain ⟨r20,hr17,h⟩:=bI h;obtain ⟨ha18,h⟩:=ey h;simp only [acf,acJ,acP,Nat.reduceAdd] at ha18;refine d1 (k2 hr17 ha18) ?_;refine z1 hw14 ?_;first|refine ⟨(l15++[(aU.mk x19 r20)]),?_,h⟩|refine ⟨hi12',(l15++[(aU.mk x19 r20)]),?_,h⟩
 refine wr ?_ ?_<;>repeat' first|rfl|constructor|simp only [go_sem,seval]
@[go_sem] def AW (N:Nat):FnS:=⟨[],false,fn1 ae.decA fun q0=>(oN N q0).map fun r=>.tup [.agg (ae.row r.1),sF 9 (r.2.map aF.row)],false⟩
def Ci (N:Nat):aC prog 28 (AW N):=om1 fun q0 r h=>rs (Ow N q0 r h)
@[go_sem] def SC (N d f:Nat):Option FnS:=ay [(9,40,gZ N),(17,41,DG N)] d f
def SR (N:Nat) (a0:ae) (a1:Int) (r:Txn × Bool) (h:AD N a0 a1=some r):Con prog 12 [] false [.agg (ae.row a0),vI a1] (.tup [.agg [vI r.1.ID,vI r.1.Born,vS r.1.Client,vI r.1.Seq,sO 4 (r.1.Calls.map ah.row),vI r.1.Done,vI r.1.Last.Kind,vI r.1.Last.N,vS r.1.Last.S,sO 1 (r.1.Last.I.map (aA .i64)),sO 1 (r.1.Last.L.map eD)],vB r.2]):=by
 refine fk (G:=(SC N)) func12 (gc 9 (fH N) (gc 17 (Ht N) gn)) ?_;simp only [f12];unfold AD at h;refine z0 ?_;obtain ⟨r1,hr1,h⟩:=bI h;refine z1 hr1 ?_;refine z0 ?_;refine cD h (fun hc2 hc2d h=>?_) fun hc2 hc2d h=>?_
 ·obtain ⟨x2,hb3,hx4,h⟩:=aI h;obtain ⟨r3,hr5,h⟩:=bI h;refine z1 (k3 hb3 hx4 hr5) ?_;exact f0 h
 refine z1 hc2d ?_;exact f0 h
@[go_sem] def JX (N:Nat):FnS:=⟨[],false,fn2 ae.decA (aG .i64) fun q0 q1=>(AD N q0 q1).map fun r=>.tup [.agg (Txn.row r.1),vB r.2],false⟩
def Ny (N:Nat):aC prog 12 (JX N):=om2 fun q0 q1 r h=>rs (SR N q0 q1 r h)
@[go_sem] def O6 (N d f:Nat):Option FnS:=ay [(10,46,vU N),(40,67,p7 N),(42,67,p7 N)] d f
def Pc (N:Nat) (a0:ae) (a1:Ref) (a2:List Value) (r:List Value) (h:tI N a0 a1 a2=some r):Con prog 39 [] false [.agg (ae.row a0),.agg [vS a1.Type_,vS a1.Key],sF 5 (a2.map Value.row)] (sO 5 (r.map Value.row)):=by
 refine fk (G:=(O6 N)) func39 (gc 10 (vi N) (gc 40 (rS N) (gc 42 (rS N) gn))) ?_;simp only [f39];unfold tI at h;refine z0 ?_;obtain ⟨r8,hr1,h⟩:=bI h;refine z1 hr1 ?_;apply aW (fun (c10:Bool)=>⟨tab 43 (af (af (af (af av 2 (sF 5 (a2.map Value.row))) 3 (pF 3)) 7 (vI r8)) 22 (vB c10)),(upd RZ 3 (vA 3 (ae.row a0)))⟩)
 ·intro hJ2;refine iD h (fun hc3 hc3d h=>?_) fun hc3 hc3d h=>?_
  ·obtain ⟨x11,hb4,hx5,h⟩:=aI h;refine z1 (k2 hb4 hx5) ?_;refine hJ2 _ (decide (0 < (x11.Layers.length:Int))) ?_ h;exact wR
  refine z1 hc3d ?_;refine hJ2 _ false ?_ h;exact wR
 intro c10 h;unfold yE at h;refine cB h (fun hc6 h=>?_) fun hc6 h=>?_
 ·obtain ⟨x12,hb7,hx8,h⟩:=aI h;obtain ⟨x13,hb9,hx10,h⟩:=aI h;obtain ⟨r14,hr11,h⟩:=bI h;refine d1 (k5 hc6 hb7 hx8 hb9 (k2 hx10 hr11)) ?_;exact f0 h
 refine bc (pp ?_);unfold yD at h;obtain ⟨r15,hr12,h⟩:=bI h;refine z1 (k2 hc6 hr12) ?_;exact f0 h
@[go_sem] def G5 (N:Nat):FnS:=⟨[],false,fn3 ae.decA Ref.decA (aJ 5 Value.dec) fun q0 q1 q2=>(tI N q0 q1 q2).map fun r=>sF 5 (r.map Value.row),false⟩
def KI (N:Nat):aC prog 39 (G5 N):=om3 fun q0 q1 q2 r h=>rs (Pc N q0 q1 q2 r h)
@[go_sem] def OS (N d f:Nat):Option FnS:=ay [(26,38,zV N),(36,38,zV N),(47,25,Bm N),(61,34,rQ N),(64,34,rQ N),(65,26,Bh N),(73,27,wE N),(80,25,Bm N),(93,34,rQ N),(95,34,rQ N),(96,26,Bh N),(104,15,Hi N),(110,23,mv N),(115,20,Ad N),(129,27,wE N),(136,28,AW N),(159,12,JX N),(165,13,u9 N),(172,39,G5 N)] d f
def OL (N:Nat)  (r:Bool) (h:uR N  = some r):Con prog 10 [] true [] (vB r):=by
 refine Jl (G:=(OS N)) func10 rfl (by decide) (by kernel_rfl) (gc 26 (zS N) (gc 36 (zS N) (gc 47 (AA N) (gc 61 (o6 N) (gc 64 (o6 N) (gc 65 (AX N) (gc 73 (wV N) (gc 80 (AA N) (gc 93 (o6 N) (gc 95 (o6 N) (gc 96 (AX N) (gc 104 (KT N) (gc 110 (kG N) (gc 115 (zI N) (gc 129 (wV N) (gc 136 (Ci N) (gc 159 (Ny N) (gc 165 (yj N) (gc 172 (KI N) gn))))))))))))))))))) [(62,false),(94,false)] mix (acv rfl) ?_;simp only [f10];unfold uR at h;refine z0 ?_;refine z0 ?_;obtain ⟨r1,hr1,h⟩:=bI h;refine z1 hr1 ?_;refine z1 hr1 ?_;refine cN h (fun hc2 hc2d h=>?_) fun hc2 hc2d h=>?_
 ·refine z1 (k2 hr1 hc2d) ?_;exact e1 (k2 hr1 hc2d) h
 obtain ⟨r2,hr3,h⟩:=bI h;refine z1 (k3 hr1 hc2d hr3) ?_;refine z1 (k3 hr1 hc2d hr3) ?_;refine cN h (fun hc4 hc4d h=>?_) fun hc4 hc4d h=>?_
 ·refine z1 (k4 hr1 hc2d hr3 hc4d) ?_;exact e1 (k4 hr1 hc2d hr3 hc4d) h
 refine z1 (k4 hr1 hc2d hr3 hc4d) ?_;refine aX (iS (fun (b:List Txn × List ai × List aa × Int)=>⟨tab 176 (af (af (af (af av 1 (pF 1)) 2 (pF 2)) 3 (pF 3)) 5 (vI b.2.2.2)),(upd (upd (upd RZ 1 (vA 2 [vS (⟨#[65]⟩),vS (⟨#[97]⟩)])) 2 (vA 2 [vS (⟨#[65]⟩),vS (⟨#[98]⟩)])) 3 (vA 3 [sF 11 (b.1.map Txn.row),sF 4 (b.2.1.map ai.row),sF 3 (b.2.2.1.map aa.row)]))⟩) (r2.1.Txns,r2.1.Locks,r2.1.Stacks,0) h ?_ ?_)
 ·exact wR
 rintro n ⟨l6,l7,l8,v9⟩ h -;cases n with
 | zero=>simp [gA] at h
 | succ n=>
 simp only [gA] at h;refine z1 (k4 hr1 hc2d hr3 hc4d) ?_;refine cD h (fun hc5 hc5d h=>?_) fun hc5 hc5d h=>?_
 ·obtain ⟨r20,hr6,h⟩:=bI h;refine z1 (k5 hr1 hc2d hr3 hc4d (k2 hc5d hr6)) ?_;refine aM ?_;apply aW (fun (c23:Bool)=>⟨tab 176 (af (af (af (af (af (af av 1 (pF 1)) 2 (pF 2)) 3 (pF 3)) 5 (vI v9)) 6 (pF 6)) 57 (vB c23)),(upd (upd (upd (upd RZ 1 (vA 2 [vS (⟨#[65]⟩),vS (⟨#[97]⟩)])) 2 (vA 2 [vS (⟨#[65]⟩),vS (⟨#[98]⟩)])) 3 (vA 3 [sF 11 (l6.map Txn.row),sF 4 (l7.map ai.row),sF 3 (l8.map aa.row)])) 6 (vA 3 (ae.row r20.1)))⟩)
  ·intro hJ7;refine iDs h (fun hc8 hc8d h=>?_) fun hc8 hc8d h=>?_
   ·refine z1 (k5 hr1 hc2d hr3 hc4d (k3 hc5d hr6 hc8d)) ?_;refine hJ7 _ true ?_ h;exact wR
   refine z1 (k5 hr1 hc2d hr3 hc4d (k3 hc5d hr6 hc8d)) ?_;refine hJ7 _ (!decide (r20.2.1=1)) ?_ h;exact wR
  intro c23 h;unfold tk at h;refine cB h (fun hc9 h=>?_) fun hc9 h=>?_
  ·refine z1 (k5 hr1 hc2d hr3 hc4d (k3 hc5d hr6 hc9)) ?_;exact e1 (k5 hr1 hc2d hr3 hc4d (k3 hc5d hr6 hc9)) h
  refine bc (pp ?_);unfold sL at h;obtain ⟨r24,hr10,h⟩:=bI h;obtain ⟨r25,hr11,h⟩:=bI h;obtain rfl:=acM (hr10.symm.trans hr11);obtain ⟨r26,hr12,h⟩:=bI h;refine d1 (k5 hr1 hc2d hr3 hc4d (k5 hc5d hr6 hc9 hr10 hr12)) ?_;refine z1 (k5 hr1 hc2d hr3 hc4d (k5 hc5d hr6 hc9 hr10 hr12)) ?_;refine cN h (fun hc13 hc13d h=>?_) fun hc13 hc13d h=>?_
  ·refine z1 (k5 hr1 hc2d hr3 hc4d (k5 hc5d hr6 hc9 hr10 (k2 hr12 hc13d))) ?_;exact e1 (k5 hr1 hc2d hr3 hc4d (k5 hc5d hr6 hc9 hr10 (k2 hr12 hc13d))) h
  refine z1 (k5 hr1 hc2d hr3 hc4d (k5 hc5d hr6 hc9 hr10 (k2 hr12 hc13d))) ?_;refine ⟨_,acK _,(r26.1.Txns,r26.1.Locks,r26.1.Stacks,IntKind.i64.wrap (v9+1)),?_,h⟩;exact wR
 refine iQ (pp ?_);unfold rH at h;obtain ⟨r27,hr14,h⟩:=bI h;refine z1 (k5 hr1 hc2d hr3 hc4d (k2 hc5d hr14)) ?_;refine z1 (k5 hr1 hc2d hr3 hc4d (k2 hc5d hr14)) ?_;refine cN h (fun hc15 hc15d h=>?_) fun hc15 hc15d h=>?_
 ·refine z1 (k5 hr1 hc2d hr3 hc4d (k3 hc5d hr14 hc15d)) ?_;exact e1 (k5 hr1 hc2d hr3 hc4d (k3 hc5d hr14 hc15d)) h
 obtain ⟨r28,hr16,h⟩:=bI h;refine z1 (k5 hr1 hc2d hr3 hc4d (k4 hc5d hr14 hc15d hr16)) ?_;refine aM ?_;apply aW (fun (c31:Bool)=>⟨tab 176 (af (af (af (af av 1 (pF 1)) 2 (pF 2)) 3 (pF 3)) 90 (vB c31)),(upd (upd (upd RZ 1 (vA 2 [vS (⟨#[65]⟩),vS (⟨#[97]⟩)])) 2 (vA 2 [vS (⟨#[65]⟩),vS (⟨#[98]⟩)])) 3 (vA 3 (ae.row r28.1)))⟩)
 ·intro hJ17;refine iDs h (fun hc18 hc18d h=>?_) fun hc18 hc18d h=>?_
  ·refine z1 (k5 hr1 hc2d hr3 hc4d (k5 hc5d hr14 hc15d hr16 hc18d)) ?_;refine hJ17 _ true ?_ h;exact wR
  refine z1 (k5 hr1 hc2d hr3 hc4d (k5 hc5d hr14 hc15d hr16 hc18d)) ?_;refine hJ17 _ (!decide (r28.2.1=1)) ?_ h;exact wR
 intro c31 h;unfold wJ at h;refine cB h (fun hc19 h=>?_) fun hc19 h=>?_
 ·refine z1 (k5 hr1 hc2d hr3 hc4d (k5 hc5d hr14 hc15d hr16 hc19)) ?_;exact e1 (k5 hr1 hc2d hr3 hc4d (k5 hc5d hr14 hc15d hr16 hc19)) h
 refine bc (pp ?_);unfold vl at h;obtain ⟨r32,hr20,h⟩:=bI h;obtain ⟨r33,hr21,h⟩:=bI h;obtain rfl:=acM (hr20.symm.trans hr21);obtain ⟨r34,hr22,h⟩:=bI h;refine d1 (k5 hr1 hc2d hr3 hc4d (k5 hc5d hr14 hc15d hr16 (k3 hc19 hr20 hr22))) ?_;refine aM ?_;apply aW (fun (c41:Bool)=>⟨tab 176 (af (af (af (af av 1 (pF 1)) 2 (pF 2)) 3 (pF 3)) 112 (vB c41)),(upd (upd (upd RZ 1 (vA 2 [vS (⟨#[65]⟩),vS (⟨#[97]⟩)])) 2 (vA 2 [vS (⟨#[65]⟩),vS (⟨#[98]⟩)])) 3 (vA 3 (ae.row r34.1)))⟩)
 ·intro hJ23;refine iDs h (fun hc24 hc24d h=>?_) fun hc24 hc24d h=>?_
  ·refine z1 (k5 hr1 hc2d hr3 hc4d (k5 hc5d hr14 hc15d hr16 (k4 hc19 hr20 hr22 hc24d))) ?_;refine hJ23 _ true ?_ h;exact wR
  obtain ⟨r42,hr25,h⟩:=bI h;refine iDs h (fun hc26 hc26d h=>?_) fun hc26 hc26d h=>?_
  ·refine z1 (k5 hr1 hc2d hr3 hc4d (k5 hc5d hr14 hc15d hr16 (k5 hc19 hr20 hr22 hc24d (k2 hr25 hc26d)))) ?_;refine hJ23 _ true ?_ h;exact wR
  obtain ⟨r43,hr27,h⟩:=bI h;refine z1 (k5 hr1 hc2d hr3 hc4d (k5 hc5d hr14 hc15d hr16 (k5 hc19 hr20 hr22 hc24d (k3 hr25 hc26d hr27)))) ?_;refine hJ23 _ (!r43) ?_ h;exact wR
 intro c41 h;unfold sP at h;refine cB h (fun hc28 h=>?_) fun hc28 h=>?_
 ·refine z1 (k5 hr1 hc2d hr3 hc4d (k5 hc5d hr14 hc15d hr16 (k4 hc19 hr20 hr22 hc28))) ?_;exact e1 (k5 hr1 hc2d hr3 hc4d (k5 hc5d hr14 hc15d hr16 (k4 hc19 hr20 hr22 hc28))) h
 refine bc (pp ?_);unfold s3 at h;obtain ⟨r44,hr29,h⟩:=bI h;refine z1 (k5 hr1 hc2d hr3 hc4d (k5 hc5d hr14 hc15d hr16 (k5 hc19 hr20 hr22 hc28 hr29))) ?_;refine aM ?_;apply aW (fun (c47:Bool)=>⟨tab 176 (af (af (af (af av 1 (pF 1)) 2 (pF 2)) 3 (pF 3)) 125 (vB c47)),(upd (upd (upd RZ 1 (vA 2 [vS (⟨#[65]⟩),vS (⟨#[97]⟩)])) 2 (vA 2 [vS (⟨#[65]⟩),vS (⟨#[98]⟩)])) 3 (vA 3 (ae.row r34.1)))⟩)
 ·intro hJ30;refine iDs h (fun hc31 hc31d h=>?_) fun hc31 hc31d h=>?_
  ·refine z1 (k5 hr1 hc2d hr3 hc4d (k5 hc5d hr14 hc15d hr16 (k5 hc19 hr20 hr22 hc28 (k2 hr29 hc31d)))) ?_;refine hJ30 _ true ?_ h;exact wR
  refine z1 (k5 hr1 hc2d hr3 hc4d (k5 hc5d hr14 hc15d hr16 (k5 hc19 hr20 hr22 hc28 (k2 hr29 hc31d)))) ?_;refine hJ30 _ (!decide ((r44.2.1.length:Int)=2)) ?_ h;exact wR
 intro c47 h;unfold wC at h;refine cB h (fun hc32 h=>?_) fun hc32 h=>?_
 ·refine z1 (k5 hr1 hc2d hr3 hc4d (k5 hc5d hr14 hc15d hr16 (k5 hc19 hr20 hr22 hc28 (k2 hr29 hc32)))) ?_;exact e1 (k5 hr1 hc2d hr3 hc4d (k5 hc5d hr14 hc15d hr16 (k5 hc19 hr20 hr22 hc28 (k2 hr29 hc32)))) h
 refine bc (pp ?_);unfold wK at h;obtain ⟨r48,hr33,h⟩:=bI h;refine z1 (k5 hr1 hc2d hr3 hc4d (k5 hc5d hr14 hc15d hr16 (k5 hc19 hr20 hr22 hc28 (k3 hr29 hc32 hr33)))) ?_;refine z1 (k5 hr1 hc2d hr3 hc4d (k5 hc5d hr14 hc15d hr16 (k5 hc19 hr20 hr22 hc28 (k3 hr29 hc32 hr33)))) ?_;refine cN h (fun hc34 hc34d h=>?_) fun hc34 hc34d h=>?_
 ·refine z1 (k5 hr1 hc2d hr3 hc4d (k5 hc5d hr14 hc15d hr16 (k5 hc19 hr20 hr22 hc28 (k4 hr29 hc32 hr33 hc34d)))) ?_;exact e1 (k5 hr1 hc2d hr3 hc4d (k5 hc5d hr14 hc15d hr16 (k5 hc19 hr20 hr22 hc28 (k4 hr29 hc32 hr33 hc34d)))) h
 obtain ⟨r49,hr35,h⟩:=bI h;refine z1 (k5 hr1 hc2d hr3 hc4d (k5 hc5d hr14 hc15d hr16 (k5 hc19 hr20 hr22 hc28 (k5 hr29 hc32 hr33 hc34d hr35)))) ?_;refine aM ?_;apply aW (fun (c54:Bool)=>⟨tab 176 (af (af (af av 1 (pF 1)) 3 (pF 3)) 156 (vB c54)),(upd (upd RZ 1 (vA 2 [vS (⟨#[65]⟩),vS (⟨#[97]⟩)])) 3 (vA 3 (ae.row r49.1)))⟩)
 ·intro hJ36;refine iDs h (fun hc37 hc37d h=>?_) fun hc37 hc37d h=>?_
  ·refine z1 (k5 hr1 hc2d hr3 hc4d (k5 hc5d hr14 hc15d hr16 (k5 hc19 hr20 hr22 hc28 (k5 hr29 hc32 hr33 hc34d (k2 hr35 hc37d))))) ?_;refine hJ36 _ true ?_ h;exact wR
  obtain ⟨x55,hb38,hx39,h⟩:=aI h;try simp only [acm,Int.reduceToNat,adZ] at hx39
  try simp only [ad4,adt,true_and] at hb38
  refine iDs h (fun hc40 hc40d h=>?_) fun hc40 hc40d h=>?_
  ·refine z1 (k5 hr1 hc2d hr3 hc4d (k5 hc5d hr14 hc15d hr16 (k5 hc19 hr20 hr22 hc28 (k5 hr29 hc32 hr33 hc34d (k5 hr35 hc37d hb38 hx39 hc40d))))) ?_;refine hJ36 _ true ?_ h;exact wR
  refine z1 (k5 hr1 hc2d hr3 hc4d (k5 hc5d hr14 hc15d hr16 (k5 hc19 hr20 hr22 hc28 (k5 hr29 hc32 hr33 hc34d (k5 hr35 hc37d hb38 hx39 hc40d))))) ?_;refine hJ36 _ (!decide ((x55.Writes.length:Int)=2)) ?_ h;exact wR
 intro c54 h;unfold sY at h;refine cB h (fun hc41 h=>?_) fun hc41 h=>?_
 ·refine z1 (k5 hr1 hc2d hr3 hc4d (k5 hc5d hr14 hc15d hr16 (k5 hc19 hr20 hr22 hc28 (k5 hr29 hc32 hr33 hc34d (k2 hr35 hc41))))) ?_;exact e1 (k5 hr1 hc2d hr3 hc4d (k5 hc5d hr14 hc15d hr16 (k5 hc19 hr20 hr22 hc28 (k5 hr29 hc32 hr33 hc34d (k2 hr35 hc41))))) h
 refine bc (pp ?_);unfold sN at h;obtain ⟨r56,hr42,h⟩:=bI h;refine z1 (k5 hr1 hc2d hr3 hc4d (k5 hc5d hr14 hc15d hr16 (k5 hc19 hr20 hr22 hc28 (k5 hr29 hc32 hr33 hc34d (k3 hr35 hc41 hr42))))) ?_;refine iBs h (fun hc43 h=>?_) fun hc43 h=>?_
 ·refine z1 (k5 hr1 hc2d hr3 hc4d (k5 hc5d hr14 hc15d hr16 (k5 hc19 hr20 hr22 hc28 (k5 hr29 hc32 hr33 hc34d (k4 hr35 hc41 hr42 hc43))))) ?_;exact e1 (k5 hr1 hc2d hr3 hc4d (k5 hc5d hr14 hc15d hr16 (k5 hc19 hr20 hr22 hc28 (k5 hr29 hc32 hr33 hc34d (k4 hr35 hc41 hr42 hc43))))) h
 obtain ⟨r57,hr44,h⟩:=bI h;refine iD h (fun hc45 hc45d h=>?_) fun hc45 hc45d h=>?_
 ·obtain ⟨r58,hr46,h⟩:=bI h;refine z1 (k5 hr1 hc2d hr3 hc4d (k5 hc5d hr14 hc15d hr16 (k5 hc19 hr20 hr22 hc28 (k5 hr29 hc32 hr33 hc34d (k5 hr35 hc41 hr42 hc43 (k3 hr44 hc45d hr46)))))) ?_;exact e1 (k5 hr1 hc2d hr3 hc4d (k5 hc5d hr14 hc15d hr16 (k5 hc19 hr20 hr22 hc28 (k5 hr29 hc32 hr33 hc34d (k5 hr35 hc41 hr42 hc43 (k3 hr44 hc45d hr46)))))) h
 refine z1 (k5 hr1 hc2d hr3 hc4d (k5 hc5d hr14 hc15d hr16 (k5 hc19 hr20 hr22 hc28 (k5 hr29 hc32 hr33 hc34d (k5 hr35 hc41 hr42 hc43 (k2 hr44 hc45d)))))) ?_;exact e1 (k5 hr1 hc2d hr3 hc4d (k5 hc5d hr14 hc15d hr16 (k5 hc19 hr20 hr22 hc28 (k5 hr29 hc32 hr33 hc34d (k5 hr35 hc41 hr42 hc43 (k2 hr44 hc45d)))))) h
@[go_sem] def AM (N:Nat):FnS:={ own:=[],pure:=true,fn:=fun cs=>match cs with
 | [] =>  (uR N ).map fun r=>vB r
 | _=>none }
def Js (N:Nat):aC prog 10 (AM N):=by
 refine ⟨fun cs r h=>?_,fun h=>by cases h⟩;simp only [AM] at h;split at h
 ·simp only [abZ,abY] at h;obtain ⟨r',hr,rfl⟩:=h;exact (ag (OL N  r' hr))
 ·cases h
def Pq (N:Nat) (a0:ae) (a1:Int) (r:Int) (h:wH N a0 a1=some r):Con prog 19 [] true [.agg (ae.row a0),.val (.int .u8 a1)] (vI r):=by
 refine fk (G:=(ay [])) func19 gn ?_;simp only [f19];unfold wH at h;refine z0 ?_;refine z0 ?_;refine cD h (fun hc1 hc1d h=>?_) fun hc1 hc1d h=>?_
 ·refine z1 hc1d ?_;exact e0 h
 obtain ⟨hd2,h⟩:=Pt h;obtain ⟨x1,hb3,hx4,h⟩:=aI h;refine d1 (k3 hd2 hb3 hx4) ?_;exact e0 h
@[go_sem] def Hj (N:Nat):FnS:=⟨[],true,fn2 ae.decA (aG .u8) fun q0 q1=>(wH N q0 q1).map fun r=>vI r,false⟩
def KS (N:Nat):aC prog 19 (Hj N):=om2 (Pq N)
def Ru (N:Nat) (a0:Int) (r:Ref) (h:vO N a0=some r):Con prog 95 [] true [.val (.int .u8 a0)] (.agg (Ref.row r)):=by
 refine fk (G:=(ay [])) func95 gn ?_;simp only [f95];unfold vO at h;refine z0 ?_;refine z0 ?_;obtain ⟨hs1,h⟩:=Wq h;simp only [ByteArray.size,adl,acf,acJ,Nat.reduceAdd] at hs1;refine z1 hs1 ?_;exact e0 h
@[go_sem] def DF (N:Nat):FnS:=⟨[],true,fn1 (aG .u8) fun q0=>(vO N q0).map fun r=>.agg (Ref.row r),false⟩
def Em (N:Nat):aC prog 95 (DF N):=om1 (Ru N)
@[go_sem] def Ou (N d f:Nat):Option FnS:=ay [(21,95,DF N)] d f
def Om (N:Nat) (a0:aj) (r:List ah) (h:yp N a0=some r):Con prog 33 [] false [.agg (aj.row a0)] (sO 4 (r.map ah.row)):=by
 refine fk (G:=(Ou N)) func33 (gc 21 (Em N) gn) ?_;simp only [f33];unfold yp at h;refine z0 ?_;refine z0 ?_;refine z0 ?_;refine aX (iS (fun (b:List ah × Int)=>⟨tab 26 (af (af (af av 1 (pF 1)) 3 (.pal 24 [] 0 b.1.length none)) 4 (vI b.2)),(upd (upd RZ 1 (vA 4 (aj.row a0))) 24 (sO 4 (b.1.map ah.row)))⟩) ([],0) h ?_ ?_)
 ·refine bh.trans (oD 3 24 4 (by simp only [go_sem,seval]) (by simp only [go_sem,seval])) ?_;refine wr ?_ ?_<;>repeat' first|rfl|constructor|simp only [go_sem,seval,ac2,acy,acS,acL]
 rintro n ⟨l2,v3⟩ h -;cases n with
 | zero=>simp [pe] at h
 | succ n=>
 simp only [pe] at h;refine z0 ?_;refine cDs h (fun hc1 hc1d h=>?_) fun hc1 hc1d h=>?_
 ·refine z1 hc1d ?_;exact f0 h
 obtain ⟨hd2,h⟩:=Wg h;obtain ⟨r1,hr3,h⟩:=bI h;obtain ⟨ha4,h⟩:=ey h;simp only [acf,acJ,acP,Nat.reduceAdd] at ha4;refine z1 (k4 hc1d hd2 hr3 ha4) ?_;refine z0 ?_;refine ⟨_,acK _,((l2++[(ah.mk r1 (⟨#[109]⟩) [])]),IntKind.i64.wrap (v3+1)),?_,h⟩;refine bh.trans (wu (n:=23) ([[vS r1.Type_,vS r1.Key,vS (⟨#[109]⟩),sF 5 []]]) (by (try simp only [go_sem]); rfl) (by simp only [go_sem,seval]; rfl) (by simp only [jF,iN,go_sem]; rfl)) (bh.trans (wu (n:=24) (l2.map ah.row++[[vS r1.Type_,vS r1.Key,vS (⟨#[109]⟩),sF 5 []]]) (by (try simp only [go_sem]); rfl) (by simp only [go_sem,seval]; rfl) (by simp only [jF,iN,go_sem]; rfl)) ?_);refine wr ?_ ?_<;>repeat' first|rfl|constructor|simp only [go_sem,seval]
@[go_sem] def FB (N:Nat):FnS:=⟨[],false,fn1 aj.decA fun q0=>(yp N q0).map fun r=>sF 4 (r.map ah.row),false⟩
def JA (N:Nat):aC prog 33 (FB N):=om1 fun q0 r h=>rs (Om N q0 r h)
def Ck (N:Nat) (a0:Value) (r:Value) (h:jI N a0=some r):Con prog 158 [] true [.agg (Value.row a0)] (.agg [vI r.Kind,vI r.N,vS r.S,sO 1 (r.I.map (aA .i64)),sO 1 (r.L.map eD)]):=by
 refine fk (G:=(ay [])) func158 gn ?_;simp only [f158];unfold jI at h;refine z0 ?_;refine aM ?_;first|obtain ⟨ha1,h⟩:=pU h|(obtain ⟨ha1,h⟩:=ey h; rw [ach] at h)
 simp only [Nat.reduceAdd] at ha1;refine z1 ha1 ?_;refine aM ?_;first|obtain ⟨ha2,h⟩:=pU h|(obtain ⟨ha2,h⟩:=ey h; rw [ach] at h)
 simp only [Nat.reduceAdd] at ha2;refine z1 ha2 ?_;refine z0 ?_;exact e0 h
@[go_sem] def BX (N:Nat):FnS:=⟨[],true,fn1 Value.decA fun q0=>(jI N q0).map fun r=>.agg (Value.row r),false⟩
def Fp (N:Nat):aC prog 158 (BX N):=om1 fun q0 r h=>rs (Ck N q0 r h)
@[go_sem] def Ar (N:Nat):FnS:=⟨[],true,fn1 Value.decA fun q0=>(jI N q0).map fun r=>.agg [vI r.Kind,vI r.N,vS r.S,sO 1 (r.I.map (aA .i64)),sO 1 (r.L.map eD)],false⟩
def EC (N:Nat):aC prog 158 (Ar N):=om1 (Ck N)
@[go_sem] def IC (N d f:Nat):Option FnS:=ay [(16,158,BX N)] d f
def It (N:Nat) (a0:List Value) (r:List Value) (h:lR N a0=some r):Con prog 159 [] false [sF 5 (a0.map Value.row)] (sO 5 (r.map Value.row)):=by
 refine fk (G:=(IC N)) func159 (gc 16 (Fp N) gn) ?_;simp only [f159];unfold lR at h;refine z0 ?_;refine z0 ?_;refine z0 ?_;refine aX (ic fun hreal2=>?_);have hl1:=hreal2.lenT 0 (by decide) (by simp only [go_sem,seval]; rfl);first|rw [ab5] at hl1|rw [fC] at hl1|rw [<-acs,ab5] at hl1
 refine rO (fun (v3:Nat) (b:List Value)=>⟨tab 20 (af (af (af av 0 (sF 5 (a0.map Value.row))) 3 (.pal 18 [] 0 b.length none)) 4 (vI (v3:Int))),(upd RZ 18 (sO 5 (b.map Value.row)))⟩) [] h ?_ ?_
 ·refine bh.trans (oD 3 18 5 (by simp only [go_sem,seval]) (by simp only [go_sem,seval])) ?_;refine wr ?_ ?_<;>repeat' first|rfl|constructor|simp only [go_sem,seval,ac2,acy,acS,acL]
 rintro v3 l2 hi3 h -;rcases (ml a0 v3 hi3).symm with ⟨hi3',_,hd6⟩|⟨x6,hi3',hx4,hd6⟩
 ·rw [hd6] at h;simp only [jJ] at h;refine z1 hi3' ?_;refine cf ?_;refine z0 ?_;exact f0 h
 rw [hd6] at h;simp only [jJ] at h;have hw5:=eW hi3' hl1;refine z1 hi3' ?_;refine ct ?_;obtain ⟨r1,hr7,h⟩:=bI h;obtain ⟨ha8,h⟩:=ey h;simp only [acf,acJ,acP,Nat.reduceAdd] at ha8;refine z1 (k4 hx4 hi3' hr7 ha8) ?_;refine z1 hw5 ?_;first|refine ⟨(l2++[r1]),?_,h⟩|refine ⟨hi3',(l2++[r1]),?_,h⟩
 refine wr ?_ ?_<;>repeat' first|rfl|constructor|simp only [go_sem,seval]
@[go_sem] def Ao (N:Nat):FnS:=⟨[],false,fn1 (aJ 5 Value.dec) fun q0=>(lR N q0).map fun r=>sF 5 (r.map Value.row),false⟩
def EH (N:Nat):aC prog 159 (Ao N):=om1 fun q0 r h=>rs (It N q0 r h)
@[go_sem] def Jx (N d f:Nat):Option FnS:=ay [(27,159,Ao N)] d f
def JP (N:Nat) (a0:List ah) (r:List ah) (h:mS N a0=some r):Con prog 205 [] false [sF 4 (a0.map ah.row)] (sO 4 (r.map ah.row)):=by
 refine fk (G:=(Jx N)) func205 (gc 27 (EH N) gn) ?_;simp only [f205];unfold mS at h;refine z0 ?_;refine z0 ?_;refine z0 ?_;refine aX (ic fun hreal2=>?_);have hl1:=hreal2.lenT 0 (by decide) (by simp only [go_sem,seval]; rfl);first|rw [ab5] at hl1|rw [fC] at hl1|rw [<-acs,ab5] at hl1
 refine rO (fun (v3:Nat) (b:List ah)=>⟨tab 32 (af (af (af av 0 (sF 4 (a0.map ah.row))) 3 (.pal 30 [] 0 b.length none)) 4 (vI (v3:Int))),(upd RZ 30 (sO 4 (b.map ah.row)))⟩) [] h ?_ ?_
 ·refine bh.trans (oD 3 30 4 (by simp only [go_sem,seval]) (by simp only [go_sem,seval])) ?_;refine wr ?_ ?_<;>repeat' first|rfl|constructor|simp only [go_sem,seval,ac2,acy,acS,acL]
 rintro v3 l2 hi3 h -;rcases (ml a0 v3 hi3).symm with ⟨hi3',_,hd6⟩|⟨x6,hi3',hx4,hd6⟩
 ·rw [hd6] at h;simp only [jZ] at h;refine z1 hi3' ?_;refine cf ?_;refine z0 ?_;exact f0 h
 rw [hd6] at h;simp only [jZ] at h;have hw5:=eW hi3' hl1;refine z1 hi3' ?_;refine ct ?_;obtain ⟨r1,hr7,h⟩:=bI h;obtain ⟨ha8,h⟩:=ey h;simp only [acf,acJ,acP,Nat.reduceAdd] at ha8;refine d1 (k4 hx4 hi3' hr7 ha8) ?_;refine z1 hw5 ?_;first|refine ⟨(l2++[(ah.mk x6.Target x6.Method r1)]),?_,h⟩|refine ⟨hi3',(l2++[(ah.mk x6.Target x6.Method r1)]),?_,h⟩
 refine wr ?_ ?_<;>repeat' first|rfl|constructor|simp only [go_sem,seval]
@[go_sem] def Aw (N:Nat):FnS:=⟨[],false,fn1 (aJ 4 ah.dec) fun q0=>(mS N q0).map fun r=>sO 4 (r.map ah.row),false⟩
def Eu (N:Nat):aC prog 205 (Aw N):=om1 (JP N)
@[go_sem] def Lm (N d f:Nat):Option FnS:=ay [(5,205,Aw N),(9,158,Ar N)] d f
def LC (N:Nat) (a0:Txn) (r:Txn) (h:qC N a0=some r):Con prog 150 [] false [.agg (Txn.row a0)] (.agg [vI r.ID,vI r.Born,vS r.Client,vI r.Seq,sO 4 (r.Calls.map ah.row),vI r.Done,vI r.Last.Kind,vI r.Last.N,vS r.Last.S,sO 1 (r.Last.I.map (aA .i64)),sO 1 (r.Last.L.map eD)]):=by
 refine fk (G:=(Lm N)) func150 (gc 5 (Eu N) (gc 9 (EC N) gn)) ?_;simp only [f150];unfold qC at h;refine z0 ?_;obtain ⟨r1,hr1,h⟩:=bI h;refine z1 hr1 ?_;obtain ⟨r2,hr2,h⟩:=bI h;refine z1 hr2 ?_;refine z0 ?_;exact f0 h
@[go_sem] def Cn (N:Nat):FnS:=⟨[],false,fn1 Txn.decA fun q0=>(qC N q0).map fun r=>.agg [vI r.ID,vI r.Born,vS r.Client,vI r.Seq,sO 4 (r.Calls.map ah.row),vI r.Done,vI r.Last.Kind,vI r.Last.N,vS r.Last.S,sO 1 (r.Last.I.map (aA .i64)),sO 1 (r.Last.L.map eD)],false⟩
def G0 (N:Nat):aC prog 150 (Cn N):=om1 (LC N)
@[go_sem] def Pb (N d f:Nat):Option FnS:=ay [(27,150,Cn N)] d f
def Qo (N:Nat) (a0:ae) (a1:Int) (r:Txn × Bool) (h:zU N a0 a1=some r):Con prog 80 [] false [.agg (ae.row a0),vI a1] (.tup [.agg [vI r.1.ID,vI r.1.Born,vS r.1.Client,vI r.1.Seq,sO 4 (r.1.Calls.map ah.row),vI r.1.Done,vI r.1.Last.Kind,vI r.1.Last.N,vS r.1.Last.S,sO 1 (r.1.Last.I.map (aA .i64)),sO 1 (r.1.Last.L.map eD)],vB r.2]):=by
 refine fk (G:=(Pb N)) func80 (gc 27 (G0 N) gn) ?_;simp only [f80];unfold zU at h;refine z0 ?_;refine z0 ?_;refine lC 2 0 (fun (v2:Nat) (b:Unit)=>⟨tab 29 (af (af (af (af av 1 (vI a1)) 2 (pF 2)) 4 (pF 4)) 6 (vI (v2:Int))),(upd (upd RZ 2 (vA 3 (ae.row a0))) 4 (vA 11 [vI 0,vI 0,vS (⟨#[]⟩),vI 0,.val (.slice none 0 0),vI 0,vI 0,vI 0,vS (⟨#[]⟩),.val (.slice none 0 0),.val (.slice none 0 0)]))⟩) () h ?_ ?_
 ·rintro v2 ⟨⟩ hi3' h;simp only [qz] at h;refine z1 hi3' ?_;refine cf ?_;refine z0 ?_;exact f0 h
 rintro v2 ⟨⟩ x5 hi3' hx4 hw5 h;simp only [qz] at h;refine z1 hi3' ?_;refine ct ?_;refine z1 (k2 hx4 hi3') ?_;refine cD h (fun hc7 hc7d h=>?_) fun hc7 hc7d h=>?_
 ·obtain ⟨r1,hr8,h⟩:=bI h;refine z1 (k4 hx4 hi3' hc7d hr8) ?_;exact f0 h
 refine z1 (k2 hw5 hc7d) ?_;first|refine ⟨(),?_,h⟩|refine ⟨hi3',(),?_,h⟩
 exact wR
@[go_sem] def G2 (N:Nat):FnS:=⟨[],false,fn2 ae.decA (aG .i64) fun q0 q1=>(zU N q0 q1).map fun r=>.tup [.agg (Txn.row r.1),vB r.2],false⟩
def K1 (N:Nat):aC prog 80 (G2 N):=om2 fun q0 q1 r h=>rs (Qo N q0 q1 r h)
def QD (N:Nat) (a0:Ref) (a1:Ref) (r:Bool) (h:wN N a0 a1=some r):Con prog 77 [] true [.agg [vS a0.Type_,vS a0.Key],.agg [vS a1.Type_,vS a1.Key]] (vB r):=by
 refine fk (G:=(ay [])) func77 gn ?_;simp only [f77];unfold wN at h;refine z0 ?_;refine iB h (fun hc1 h=>?_) fun hc1 h=>?_
 ·refine z1 hc1 ?_;exact e0 h
 refine iB h (fun hc2 h=>?_) fun hc2 h=>?_
 ·refine z1 (k2 hc1 hc2) ?_;exact e0 h
 refine z1 (k2 hc1 hc2) ?_;exact e0 h
@[go_sem] def Ha (N:Nat):FnS:=⟨[],true,fn2 Ref.decA Ref.decA fun q0 q1=>(wN N q0 q1).map fun r=>vB r,false⟩
def Ki (N:Nat):aC prog 77 (Ha N):=om2 (QD N)
@[go_sem] def LD (N d f:Nat):Option FnS:=ay [(30,77,Ha N)] d f
def Mx (N:Nat) (a0:List ah) (r:List Ref) (h:uG N a0=some r):Con prog 82 [] true [sF 4 (a0.map ah.row)] (sO 2 (r.map Ref.row)):=by
 refine fk (G:=(LD N)) func82 (gc 30 (Ki N) gn) ?_;simp only [f82];unfold uG at h;refine z0 ?_;refine z0 ?_;refine z0 ?_;refine aX (ic fun hreal2=>?_);have hl1:=hreal2.lenT 0 (by decide) (by simp only [go_sem,seval]; rfl);first|rw [ab5] at hl1|rw [fC] at hl1|rw [<-acs,ab5] at hl1
 refine rO (fun (v3:Nat) (b:List Ref)=>⟨tab 62 (af (af (af av 0 (sF 4 (a0.map ah.row))) 3 (.pal 60 [] 0 b.length none)) 4 (vI (v3:Int))),(upd RZ 60 (sO 2 (b.map Ref.row)))⟩) [] h ?_ ?_
 ·refine bh.trans (oD 3 60 2 (by simp only [go_sem,seval]) (by simp only [go_sem,seval])) ?_;refine wr ?_ ?_<;>repeat' first|rfl|constructor|simp only [go_sem,seval,ac2,acy,acS,acL]
 rintro v3 l2 hi3 h -;rcases (ml a0 v3 hi3).symm with ⟨hi3',_,hd6⟩|⟨x6,hi3',hx4,hd6⟩
 ·rw [hd6] at h;simp only [fO] at h;refine z1 hi3' ?_;refine cf ?_;refine z0 ?_;exact e0 h
 rw [hd6] at h;simp only [fO] at h;have hw5:=eW hi3' hl1;refine z1 hi3' ?_;refine ct ?_;refine z1 (k2 hx4 hi3') ?_;refine z0 ?_;refine aM (aX (iS (fun (b:Int)=>⟨tab 62 (af (af (af (af (af av 0 (sF 4 (a0.map ah.row))) 3 (.pal 60 [] 0 l2.length none)) 4 (vI (v3:Int))) 5 (pF 5)) 6 (vI b)),(upd (upd RZ 5 (vA 2 [vS x6.Target.Type_,vS x6.Target.Key])) 60 (sO 2 (l2.map Ref.row)))⟩) (l2.length:Int) h ?_ ?_))
 ·exact wF (k3 hx4 hi3' hw5)
 rintro n v10 h -;cases n with
 | zero=>simp [jU] at h
 | succ n=>
 simp only [jU] at h;refine aM ?_;apply aW (fun (c10:Bool)=>⟨tab 62 (af (af (af (af (af (af av 0 (sF 4 (a0.map ah.row))) 3 (.pal 60 [] 0 l2.length none)) 4 (vI (v3:Int))) 5 (pF 5)) 6 (vI v10)) 32 (vB c10)),(upd (upd RZ 5 (vA 2 [vS x6.Target.Type_,vS x6.Target.Key])) 60 (sO 2 (l2.map Ref.row)))⟩)
 ·intro hJ7;refine iD h (fun hc8 hc8d h=>?_) fun hc8 hc8d h=>?_
  ·obtain ⟨x11,hb9,hx10,h⟩:=aI h;obtain ⟨r12,hr11,h⟩:=bI h;refine d1 (k4 hc8d hb9 hx10 hr11) ?_;refine hJ7 _ (!r12) ?_ h;exact wF (k5 hx4 hi3' hw5 hc8d (k3 hb9 hx10 hr11))
  refine d1 hc8d ?_;refine hJ7 _ false ?_ h;exact wF (k4 hx4 hi3' hw5 hc8d)
 intro c10 h;unfold pA at h;refine cB h (fun hc12 h=>?_) fun hc12 h=>?_
 ·refine z1 hc12 ?_;refine ⟨_,acK _,(IntKind.i64.wrap (v10 - 1)),?_,h⟩;exact wF (k4 hx4 hi3' hw5 hc12)
 refine iQ (pp ?_);unfold tL at h;refine aM ?_;apply aW (fun (c17:Bool)=>⟨tab 62 (af (af (af (af (af (af av 0 (sF 4 (a0.map ah.row))) 3 (.pal 60 [] 0 l2.length none)) 4 (vI (v3:Int))) 5 (pF 5)) 6 (vI v10)) 46 (vB c17)),(upd (upd RZ 5 (vA 2 [vS x6.Target.Type_,vS x6.Target.Key])) 60 (sO 2 (l2.map Ref.row)))⟩)
 ·intro hJ13;refine kQ fun Z hZ=>?_;simp only [go_sem,seval,hc12];repeat with_reducible refine fZ (by kernel_rfl) ?_
  refine mB rfl (fun hc14=>?_) (fun hc14=>?_)
  ·have hc14d:=decide_eq_true hc14;rw [if_pos hc14] at h;obtain ⟨x18,hb15,hx16,h⟩:=aI h;simp only [go_sem,seval,hb15,hx16];refine hZ _ (by kernel_rfl) (pp (hJ13 _ (sEq x18.Type_ x6.Target.Type_ && sEq x18.Key x6.Target.Key) ?_ h));exact wF (k5 hx4 hi3' hw5 hc12 (k3 hc14d hb15 hx16))
  have hc14d:=decide_eq_false hc14;rw [if_neg hc14] at h;simp only [go_sem,seval,hc14d];refine hZ _ (by kernel_rfl) (pp (hJ13 _ false ?_ h));exact wF (k5 hx4 hi3' hw5 hc12 hc14d)
 intro c17 h;unfold pG at h;refine cB h (fun hc17 h=>?_) fun hc17 h=>?_
 ·refine z1 (k2 hw5 hc17) ?_;first|refine ⟨l2,?_,h⟩|refine ⟨hi3',l2,?_,h⟩
  exact wF (k5 hx4 hi3' hw5 hc12 hc17)
 refine bc (pp ?_);unfold mj at h;refine aM ?_;obtain ⟨hs18,h⟩:=jy h;try simp only [acm] at hs18 h
 first|obtain ⟨ha19,h⟩:=pU h|(obtain ⟨ha19,h⟩:=ey h; rw [ach] at h)
 simp only [Nat.reduceAdd] at ha19;refine z1 (k4 hc17 hs18 @acp ha19) ?_;refine Mq [0,1,2,4,7] [3,5] [[5,3]] [6,8,9] [] (by kernel_rfl) fun Z hZ Y hY=>?_;simp only [go_sem,seval];refine hY _ (by kernel_rfl) (K7 (by kernel_rfl) fun Y hY=>?_);obtain ⟨hs20,ht21,h⟩:=Ra h;try simp only [acm] at hs20 ht21 h
 simp only [go_sem,seval,hs18,acj,acp,ab6];refine hY _ (by kernel_rfl) (K7 (by kernel_rfl) fun Y hY=>?_);simp only [go_sem,seval,ab6];refine hY _ (by kernel_rfl) (Wx (sC:=⟨tab 62 (af (af (af (af (af (af (af (af (af (af (af (af (af (af (af (af (af (af av 0 (sF 4 (a0.map ah.row))) 3 (.pal 60 [] 0 l2.length none)) 4 (vI (v3:Int))) 5 (pF 5)) 6 (vI v10)) 7 (.pal 51 [] 0 (((l2.drop ((v10).toNat)).take (l2.length - (v10).toNat)).length) none)) 46 (vB false)) 48 (.pal 60 [] 0 l2.length none)) 49 (vI v10)) 50 (.pal 60 [] ((v10).toNat) (l2.length - (v10).toNat) none)) 51 (.pal 51 [] 0 (((l2.drop ((v10).toNat)).take (l2.length - (v10).toNat)).length) none)) 52 (.pal 60 [] 0 l2.length none)) 53 (vI v10)) 54 (vI v10)) 55 (.pal 60 [] 0 ((v10).toNat) (some ((v10).toNat)))) 56 (.agg [vS x6.Target.Type_,vS x6.Target.Key])) 57 (.pal 57 [] 0 ([x6.Target].length) none)) 59 (.pal 51 [] 0 (((l2.drop ((v10).toNat)).take (l2.length - (v10).toNat)).length) none)),(upd (upd (upd (upd RZ 5 (vA 2 [vS x6.Target.Type_,vS x6.Target.Key])) 51 (sO 2 (((l2.drop ((v10).toNat)).take (l2.length - (v10).toNat)).map Ref.row))) 57 (.sl true none 2 (some 1) ([x6.Target].map Ref.row))) 60 (sO 2 (l2.map Ref.row)))⟩) ?_ ?_ ?_)
 ·try simp only [jF,iN,go_sem,seval]
  refine wr ?_ ?_<;>repeat' first|rfl|constructor|simp only [go_sem,seval,ac2,acy,acS,acL,hx4,hi3',hw5,hc12,hc17,hs18,acj,acp,ha19,hs20,ht21,Iv ht21,ab6]
 ·refine ⟨?_,trivial⟩
  ·refine Lj (by kernel_rfl) fun Y hY=>?_;simp only [go_sem,seval,ab6];refine hY _ (by kernel_rfl) (Lj (by kernel_rfl) fun Y hY=>?_);simp only [go_sem,seval,hs18,acj,acp,ab6];refine hY _ (by kernel_rfl) (UP ?_);try simp only [jF,iN,go_sem,seval]
   refine wr ?_ ?_<;>repeat' first|rfl|constructor|simp only [go_sem,seval,ac2,acy,acS,acL,hx4,hi3',hw5,hc12,hc17,hs18,acj,acp,ha19,hs20,ht21,Iv ht21,ab6]
 obtain ⟨ha22,h⟩:=ey h;simp only [acf,acJ,acP,Nat.reduceAdd] at ha22;obtain ⟨ha23,h⟩:=ey h;simp only [acH,acf,acJ,acP,Nat.reduceAdd] at ha23;simp only [go_sem,seval,ha22,ha23];refine hZ _ (z1 hw5 ?_);first|refine ⟨(((l2.take ((v10).toNat))++[x6.Target])++((l2.drop ((v10).toNat)).take (l2.length - (v10).toNat))),?_,h⟩|refine ⟨hi3',(((l2.take ((v10).toNat))++[x6.Target])++((l2.drop ((v10).toNat)).take (l2.length - (v10).toNat))),?_,h⟩
 refine wr ?_ ?_<;>repeat' first|rfl|constructor|simp only [go_sem,seval]
@[go_sem] def Cj (N:Nat):FnS:=⟨[],true,fn1 (aJ 4 ah.dec) fun q0=>(uG N q0).map fun r=>sO 2 (r.map Ref.row),false⟩
def FX (N:Nat):aC prog 82 (Cj N):=om1 (Mx N)
@[go_sem] def Gz (N d f:Nat):Option FnS:=ay [(5,82,Cj N)] d f
def FR (N:Nat) (a0:Txn) (r:List Ref) (h:mA N a0=some r):Con prog 94 [] true [.agg (Txn.row a0)] (sO 2 (r.map Ref.row)):=by
 refine fk (G:=(Gz N)) func94 (gc 5 (FX N) gn) ?_;simp only [f94];unfold mA at h;refine z0 ?_;obtain ⟨r1,hr1,h⟩:=bI h;refine z1 hr1 ?_;exact e0 h
@[go_sem] def zn (N:Nat):FnS:=⟨[],true,fn1 Txn.decA fun q0=>(mA N q0).map fun r=>sF 2 (r.map Ref.row),false⟩
def Dx (N:Nat):aC prog 94 (zn N):=om1 fun q0 r h=>rs (FR N q0 r h)
@[go_sem] def Hq (N d f:Nat):Option FnS:=ay [(13,80,G2 N),(17,94,zn N),(22,95,DF N)] d f
def Hv (N:Nat) (a0:ae) (a1:Int) (a2:Int) (r:Ref) (h:kW N a0 a1 a2=some r):Con prog 32 [] true [.agg (ae.row a0),vI a1,.val (.int .u8 a2)] (.agg (Ref.row r)):=by
 refine fk (G:=(Hq N)) func32 (gc 13 (K1 N) (gc 17 (Dx N) (gc 22 (Em N) gn))) ?_;simp only [f32];unfold kW at h;refine z0 ?_;obtain ⟨r1,hr1,h⟩:=bI h;refine z1 hr1 ?_;obtain ⟨r2,hr2,h⟩:=bI h;refine z1 hr2 ?_;refine z0 ?_;refine cD h (fun hc3 hc3d h=>?_) fun hc3 hc3d h=>?_
 ·obtain ⟨r3,hr4,h⟩:=bI h;refine z1 (k2 hc3d hr4) ?_;exact e0 h
 obtain ⟨hd5,h⟩:=Pt h;obtain ⟨x4,hb6,hx7,h⟩:=aI h;refine z1 (k3 hd5 hb6 hx7) ?_;exact e0 h
@[go_sem] def zH (N:Nat):FnS:=⟨[],true,fn3 ae.decA (aG .i64) (aG .u8) fun q0 q1 q2=>(kW N q0 q1 q2).map fun r=>.agg (Ref.row r),false⟩
def DJ (N:Nat):aC prog 32 (zH N):=om3 (Hv N)
@[go_sem] def Pa (N d f:Nat):Option FnS:=ay [(25,19,Hj N),(58,33,FB N),(59,38,zV N),(72,25,Bm N),(88,34,rQ N),(92,34,rQ N),(93,26,Bh N),(110,32,zH N),(111,27,wE N),(34,28,AW N),(40,20,Ad N)] d f
def QI (N:Nat) (a0:ae) (a1:Int) (a2:aj) (r:ae × (List aF)) (h:wq N a0 a1 a2=some r):Con prog 11 [] false [.agg (ae.row a0),vI a1,.agg (aj.row a2)] (.tup [.agg (ae.row r.1),sF 9 (r.2.map aF.row)]):=by
 refine Jl (G:=(Pa N)) func11 rfl (by decide) (by kernel_rfl) (gc 25 (KS N) (gc 58 (JA N) (gc 59 (zS N) (gc 72 (AA N) (gc 88 (o6 N) (gc 92 (o6 N) (gc 93 (AX N) (gc 110 (DJ N) (gc 111 (wV N) (gc 34 (Ci N) (gc 40 (zI N) gn))))))))))) [(89,false)] mix (acv rfl) ?_;simp only [f11];unfold wq at h;refine z0 ?_;obtain ⟨r1,hr1,h⟩:=bI h;refine z1 hr1 ?_;refine z1 hr1 ?_;refine aX ?_;apply aW (fun (c2:Bool)=>⟨tab 118 (af (af (af (af (af (af (af av 1 (vI a1)) 3 (pF 3)) 5 (pF 5)) 6 (pF 6)) 8 (vI r1)) 28 (.val (.int .u8 (Int.tmod a2.Kind 8)))) 47 (vB c2)),(upd (upd (upd RZ 3 (vA 3 (ae.row a0))) 5 (vA 4 (aj.row a2))) 6 (vA 3 [.val (.slice none 0 0),.val (.slice none 0 0),.val (.slice none 0 0)]))⟩)
 ·intro hJ2;refine z1 hr1 ?_;refine cD h (fun hc3 hc3d h=>?_) fun hc3 hc3d h=>?_
  ·refine bc (pp (hJ2 _ true ?_ h));exact wF (k2 hr1 hc3d)
  refine z1 (k2 hr1 hc3d) ?_;refine hJ2 _ (decide ((Int.tmod a2.Kind 8)=1)) ?_ h;exact wF (k2 hr1 hc3d)
 intro c2 h;unfold uD at h;refine cB h (fun hc4 h=>?_) fun hc4 h=>?_
 ·obtain ⟨r3,hr5,h⟩:=bI h;obtain ⟨r4,hr6,h⟩:=bI h;refine d1 (k4 hr1 hc4 hr5 hr6) ?_;refine z1 (k4 hr1 hc4 hr5 hr6) ?_;refine cD h (fun hc7 hc7d h=>?_) fun hc7 hc7d h=>?_
  ·refine z1 (k5 hr1 hc4 hr5 hr6 hc7d) ?_;exact f1 (k5 hr1 hc4 hr5 hr6 hc7d) h
  refine z1 (k5 hr1 hc4 hr5 hr6 hc7d) ?_;exact f1 (k5 hr1 hc4 hr5 hr6 hc7d) h
 apply aW (fun (c5:Bool)=>⟨tab 118 (af (af (af (af (af (af av 3 (pF 3)) 5 (pF 5)) 6 (pF 6)) 8 (vI r1)) 28 (.val (.int .u8 (Int.tmod a2.Kind 8)))) 65 (vB c5)),(upd (upd (upd RZ 3 (vA 3 (ae.row a0))) 5 (vA 4 (aj.row a2))) 6 (vA 3 [.val (.slice none 0 0),.val (.slice none 0 0),.val (.slice none 0 0)]))⟩)
 ·intro hJ8;refine z1 (k2 hr1 hc4) ?_;refine cD h (fun hc9 hc9d h=>?_) fun hc9 hc9d h=>?_
  ·refine bc (pp (hJ8 _ true ?_ h));exact wF (k3 hr1 hc4 hc9d)
  refine z1 (k3 hr1 hc4 hc9d) ?_;refine cD h (fun hc10 hc10d h=>?_) fun hc10 hc10d h=>?_
  ·refine bc (pp (hJ8 _ true ?_ h));exact wF (k4 hr1 hc4 hc9d hc10d)
  refine z1 (k4 hr1 hc4 hc9d hc10d) ?_;refine hJ8 _ (decide ((Int.tmod a2.Kind 8)=4)) ?_ h;exact wF (k4 hr1 hc4 hc9d hc10d)
 intro c5 h;unfold qy at h;refine cB h (fun hc11 h=>?_) fun hc11 h=>?_
 ·obtain ⟨r6,hr12,h⟩:=bI h;refine z1 (k4 hr1 hc4 hc11 hr12) ?_;refine z1 (k4 hr1 hc4 hc11 hr12) ?_;refine cN h (fun hc13 hc13d h=>?_) fun hc13 hc13d h=>?_
  ·refine z1 (k5 hr1 hc4 hc11 hr12 hc13d) ?_;exact f1 (k5 hr1 hc4 hc11 hr12 hc13d) h
  refine z1 (k5 hr1 hc4 hc11 hr12 hc13d) ?_;refine cN h (fun hc14 hc14d h=>?_) fun hc14 hc14d h=>?_
  ·refine z1 (k5 hr1 hc4 hc11 hr12 (k2 hc13d hc14d)) ?_;exact f1 (k5 hr1 hc4 hc11 hr12 (k2 hc13d hc14d)) h
  obtain ⟨r7,hr15,h⟩:=bI h;obtain ⟨r8,hr16,h⟩:=bI h;obtain rfl:=acM (hr15.symm.trans hr16);obtain ⟨r9,hr17,h⟩:=bI h;refine d1 (k5 hr1 hc4 hc11 hr12 (k4 hc13d hc14d hr15 hr17)) ?_;refine z1 (k5 hr1 hc4 hc11 hr12 (k4 hc13d hc14d hr15 hr17)) ?_;refine cD h (fun hc18 hc18d h=>?_) fun hc18 hc18d h=>?_
  ·refine z1 (k5 hr1 hc4 hc11 hr12 (k5 hc13d hc14d hr15 hr17 hc18d)) ?_;exact f1 (k5 hr1 hc4 hc11 hr12 (k5 hc13d hc14d hr15 hr17 hc18d)) h
  refine z1 (k5 hr1 hc4 hc11 hr12 (k5 hc13d hc14d hr15 hr17 hc18d)) ?_;exact f1 (k5 hr1 hc4 hc11 hr12 (k5 hc13d hc14d hr15 hr17 hc18d)) h
 apply aW (fun (c10:Bool)=>⟨tab 118 (af (af (af (af (af av 3 (pF 3)) 5 (pF 5)) 6 (pF 6)) 8 (vI r1)) 100 (vB c10)),(upd (upd (upd RZ 3 (vA 3 (ae.row a0))) 5 (vA 4 (aj.row a2))) 6 (vA 3 [.val (.slice none 0 0),.val (.slice none 0 0),.val (.slice none 0 0)]))⟩)
 ·intro hJ19;refine z1 (k3 hr1 hc4 hc11) ?_;refine cD h (fun hc20 hc20d h=>?_) fun hc20 hc20d h=>?_
  ·refine bc (pp (hJ19 _ true ?_ h));exact wF (k4 hr1 hc4 hc11 hc20d)
  refine z1 (k4 hr1 hc4 hc11 hc20d) ?_;refine hJ19 _ (decide ((Int.tmod a2.Kind 8)=6)) ?_ h;exact wF (k4 hr1 hc4 hc11 hc20d)
 intro c10 h;unfold uI at h;refine cB h (fun hc21 h=>?_) fun hc21 h=>?_
 ·obtain ⟨r11,hr22,h⟩:=bI h;obtain ⟨r12,hr23,h⟩:=bI h;refine d1 (k5 hr1 hc4 hc11 hc21 (k2 hr22 hr23)) ?_;refine z1 (k5 hr1 hc4 hc11 hc21 (k2 hr22 hr23)) ?_;refine cD h (fun hc24 hc24d h=>?_) fun hc24 hc24d h=>?_
  ·refine z1 (k5 hr1 hc4 hc11 hc21 (k3 hr22 hr23 hc24d)) ?_;exact f1 (k5 hr1 hc4 hc11 hc21 (k3 hr22 hr23 hc24d)) h
  refine z1 (k5 hr1 hc4 hc11 hc21 (k3 hr22 hr23 hc24d)) ?_;exact f1 (k5 hr1 hc4 hc11 hc21 (k3 hr22 hr23 hc24d)) h
 refine z1 (k4 hr1 hc4 hc11 hc21) ?_;refine cD h (fun hc25 hc25d h=>?_) fun hc25 hc25d h=>?_
 ·obtain ⟨r13,hr26,h⟩:=bI h;refine z1 (k5 hr1 hc4 hc11 hc21 (k2 hc25d hr26)) ?_;exact f1 (k5 hr1 hc4 hc11 hc21 (k2 hc25d hr26)) h
 obtain ⟨r14,hr27,h⟩:=bI h;refine z1 (k5 hr1 hc4 hc11 hc21 (k2 hc25d hr27)) ?_;refine z1 (k5 hr1 hc4 hc11 hc21 (k2 hc25d hr27)) ?_;refine cD h (fun hc28 hc28d h=>?_) fun hc28 hc28d h=>?_
 ·refine z1 (k5 hr1 hc4 hc11 hc21 (k3 hc25d hr27 hc28d)) ?_;exact f1 (k5 hr1 hc4 hc11 hc21 (k3 hc25d hr27 hc28d)) h
 refine z1 (k5 hr1 hc4 hc11 hc21 (k3 hc25d hr27 hc28d)) ?_;exact f1 (k5 hr1 hc4 hc11 hc21 (k3 hc25d hr27 hc28d)) h
@[go_sem] def Hg (N:Nat):FnS:=⟨[],false,fn3 ae.decA (aG .i64) aj.decA fun q0 q1 q2=>(wq N q0 q1 q2).map fun r=>.tup [.agg (ae.row r.1),sF 9 (r.2.map aF.row)],false⟩
def Kn (N:Nat):aC prog 11 (Hg N):=om3 (QI N)
def K4 (N:Nat) (a0:List Int) (a1:Int) (r:Bool) (h:sM N a0 a1=some r):Con prog 21 [] true [sF 1 (a0.map (aA .i64)),vI a1] (vB r):=by
 refine fk (G:=(ay [])) func21 gn ?_;simp only [f21];unfold sM at h;refine z0 ?_;refine z0 ?_;refine lT 0 (fun (v2:Nat) (b:Unit)=>⟨tab 18 (af (af (af av 0 (sF 1 (a0.map (aA .i64)))) 1 (vI a1)) 5 (vI (v2:Int))),RZ⟩) () h ?_ ?_
 ·rintro v2 ⟨⟩ hi3' h;simp only [k7] at h;refine z1 hi3' ?_;refine cf ?_;refine z0 ?_;exact e0 h
 rintro v2 ⟨⟩ x5 hi3' hx4 hw5 h;simp only [k7] at h;refine z1 hi3' ?_;refine ct ?_;refine z1 (k2 hx4 hi3') ?_;refine cD h (fun hc7 hc7d h=>?_) fun hc7 hc7d h=>?_
 ·refine z1 hc7d ?_;exact e0 h
 refine z1 (k2 hw5 hc7d) ?_;first|refine ⟨(),?_,h⟩|refine ⟨hi3',(),?_,h⟩
 exact wR
@[go_sem] def Co (N:Nat):FnS:=⟨[],true,fn2 (aJ 1 (dP (aG .i64))) (aG .i64) fun q0 q1=>(sM N q0 q1).map fun r=>vB r,false⟩
def F5 (N:Nat):aC prog 21 (Co N):=om2 (K4 N)
def RY (N:Nat) (a0:List al) (a1:Int) (r:Bool) (h:Bp N a0 a1=some r):Con prog 29 [] true [sF 3 (a0.map al.row),vI a1] (vB r):=by
 refine fk (G:=(ay [])) func29 gn ?_;simp only [f29];unfold Bp at h;refine z0 ?_;refine z0 ?_;refine lT 0 (fun (v2:Nat) (b:Unit)=>⟨tab 19 (af (af (af av 0 (sF 3 (a0.map al.row))) 1 (vI a1)) 5 (vI (v2:Int))),RZ⟩) () h ?_ ?_
 ·rintro v2 ⟨⟩ hi3' h;simp only [th] at h;refine z1 hi3' ?_;refine cf ?_;refine z0 ?_;exact e0 h
 rintro v2 ⟨⟩ x5 hi3' hx4 hw5 h;simp only [th] at h;refine z1 hi3' ?_;refine ct ?_;refine z1 (k2 hx4 hi3') ?_;refine cD h (fun hc7 hc7d h=>?_) fun hc7 hc7d h=>?_
 ·refine z1 hc7d ?_;exact e0 h
 refine z1 (k2 hw5 hc7d) ?_;first|refine ⟨(),?_,h⟩|refine ⟨hi3',(),?_,h⟩
 exact wR
@[go_sem] def IA (N:Nat):FnS:=⟨[],true,fn2 (aJ 3 al.dec) (aG .i64) fun q0 q1=>(Bp N q0 q1).map fun r=>vB r,false⟩
def LG (N:Nat):aC prog 29 (IA N):=om2 (RY N)
@[go_sem] def Kl (N d f:Nat):Option FnS:=ay [(14,10,AM N),(34,11,Hg N),(69,21,Co N),(79,29,IA N)] d f
def Dj (N:Nat) (a0:List aj) (r:Bool) (h:pd N a0=some r):Con prog 7 [] true [sF 4 (a0.map aj.row)] (vB r):=by
 refine fk (G:=(Kl N)) func7 (gc 14 (Js N) (gc 34 (Kn N) (gc 69 (F5 N) (gc 79 (LG N) gn)))) ?_;simp only [f7];unfold pd at h;refine z0 ?_;obtain ⟨r1,hr1,h⟩:=bI h;refine z1 hr1 ?_;refine cM h (fun hc2 h=>?_) fun hc2 h=>?_
 ·refine z1 (k2 hr1 hc2) ?_;exact e1 (k2 hr1 hc2) h
 refine z1 (k2 hr1 hc2) ?_;refine cD h (fun hc3 hc3d h=>?_) fun hc3 hc3d h=>?_
 ·refine z1 (k3 hr1 hc2 hc3d) ?_;exact e1 (k3 hr1 hc2 hc3d) h
 refine z1 (k3 hr1 hc2 hc3d) ?_;refine z1 (k3 hr1 hc2 hc3d) ?_;refine aX (ic fun hreal5=>?_);have hl4:=hreal5.lenT 0 (by decide) (by simp only [go_sem,seval,ac2,acy,acS,acL,hr1,hc2,hc3d]; rfl);first|rw [ab5] at hl4|rw [fC] at hl4|rw [<-acs,ab5] at hl4
 refine rO (fun (v8:Nat) (b:List Txn × List ai × List aa)=>⟨tab 91 (af (af (af av 0 (sF 4 (a0.map aj.row))) 3 (pF 3)) 4 (vI (v8:Int))),(upd RZ 3 (vA 3 [sF 11 (b.1.map Txn.row),sF 4 (b.2.1.map ai.row),sF 3 (b.2.2.map aa.row)]))⟩) ([],[],[]) h ?_ ?_
 ·refine bh.trans (Ei 3 [(0,0)] 11 (by simp only [go_sem,seval,ac2,acy,acS,acL,hr1,hc2,hc3d]) (by simp only [go_sem,seval,ac2,acy,acS,acL,hr1,hc2,hc3d]; try rfl)) (bh.trans (Ei 3 [(0,1)] 4 (by simp only [go_sem,seval,ac2,acy,acS,acL,hr1,hc2,hc3d]) (by simp only [go_sem,seval,ac2,acy,acS,acL,hr1,hc2,hc3d]; try rfl)) (bh.trans (Ei 3 [(0,2)] 3 (by simp only [go_sem,seval,ac2,acy,acS,acL,hr1,hc2,hc3d]) (by simp only [go_sem,seval,ac2,acy,acS,acL,hr1,hc2,hc3d]; try rfl)) ?_));exact wF (k3 hr1 hc2 hc3d)
 rintro v8 ⟨l5,l6,l7⟩ hi6 h -;rcases (ml a0 v8 hi6).symm with ⟨hi6',_,hd9⟩|⟨x11,hi6',hx7,hd9⟩
 ·rw [hd9] at h;simp only [jB] at h;refine z1 (k4 hr1 hc2 hc3d hi6') ?_;refine cf ?_;refine z1 (k4 hr1 hc2 hc3d hi6') ?_;exact e1 (k4 hr1 hc2 hc3d hi6') h
 rw [hd9] at h;simp only [jB] at h;have hw8:=eW hi6' hl4;refine z1 (k5 hr1 hc2 hc3d hx7 (k2 hi6' hw8)) ?_;refine ct ?_;refine z1 (k5 hr1 hc2 hc3d hx7 (k2 hi6' hw8)) ?_;obtain ⟨r2,hr10,h⟩:=bI h;refine d1 (k5 hr1 hc2 hc3d hx7 (k3 hi6' hw8 hr10)) ?_;refine z1 (k5 hr1 hc2 hc3d hx7 (k3 hi6' hw8 hr10)) ?_;refine z1 (k5 hr1 hc2 hc3d hx7 (k3 hi6' hw8 hr10)) ?_;refine z1 (k5 hr1 hc2 hc3d hx7 (k3 hi6' hw8 hr10)) ?_;refine aX (ic fun hreal12=>?_);have hl11:=hreal12.lenT 7 (by decide) (by simp only [go_sem,seval,ac2,acy,acS,acL,hr1,hc2,hc3d,hx7,hi6',hw8,hr10]; rfl);first|rw [ab5] at hl11|rw [fC] at hl11|rw [<-acs,ab5] at hl11
 refine rO (fun (v16:Nat) (b:List Int)=>⟨tab 91 (af (af (af (af (af (af (af av 0 (sF 4 (a0.map aj.row))) 3 (pF 3)) 4 (vI (v8:Int))) 5 (pF 5)) 7 (sF 9 (r2.2.map aF.row))) 8 (.pal 90 [] 0 b.length none)) 9 (vI (v16:Int))),(upd (upd (upd RZ 3 (vA 3 (ae.row r2.1))) 5 (vA 3 [sF 11 (l5.map Txn.row),sF 4 (l6.map ai.row),sF 3 (l7.map aa.row)])) 90 (sO 1 (b.map (aA .i64))))⟩) [] h ?_ ?_
 ·refine bh.trans (oD 8 90 1 (by simp only [go_sem,seval,ac2,acy,acS,acL,hr1,hc2,hc3d,hx7,hi6',hw8,hr10]) (by simp only [go_sem,seval,ac2,acy,acS,acL,hr1,hc2,hc3d,hx7,hi6',hw8,hr10])) ?_;exact wF (k5 hr1 hc2 hc3d hx7 (k3 hi6' hw8 hr10))
 rintro v16 l15 hi13 h -;rcases (ml r2.2 v16 hi13).symm with ⟨hi13',_,hd16⟩|⟨x19,hi13',hx14,hd16⟩
 ·rw [hd16] at h;simp only [iq] at h;refine z1 (k5 hr1 hc2 hc3d hx7 (k4 hi6' hw8 hr10 hi13')) ?_;refine cf ?_;refine z1 (k5 hr1 hc2 hc3d hx7 (k4 hi6' hw8 hr10 hi13')) ?_;first|refine ⟨(r2.1.Txns,r2.1.Locks,r2.1.Stacks),?_,h⟩|refine ⟨hi6',(r2.1.Txns,r2.1.Locks,r2.1.Stacks),?_,h⟩
  exact wF (k5 hr1 hc2 hc3d hx7 (k4 hi6' hw8 hr10 hi13'))
 rw [hd16] at h;simp only [iq] at h;have hw15:=eW hi13' hl11;refine z1 (k5 hr1 hc2 hc3d hx7 (k5 hi6' hw8 hr10 hx14 (k2 hi13' hw15))) ?_;refine ct ?_;refine z1 (k5 hr1 hc2 hc3d hx7 (k5 hi6' hw8 hr10 hx14 (k2 hi13' hw15))) ?_;refine lT 45 (fun (v23:Nat) (b:Unit)=>⟨tab 91 (af (af (af (af (af (af (af (af (af (af av 0 (sF 4 (a0.map aj.row))) 3 (pF 3)) 4 (vI (v8:Int))) 5 (pF 5)) 7 (sF 9 (r2.2.map aF.row))) 8 (.pal 90 [] 0 l15.length none)) 9 (vI (v16:Int))) 45 (sF 3 (l7.map aa.row))) 46 (vI (l7.length:Int))) 47 (vI (v23:Int))),(upd (upd (upd RZ 3 (vA 3 (ae.row r2.1))) 5 (vA 3 [sF 11 (l5.map Txn.row),sF 4 (l6.map ai.row),sF 3 (l7.map aa.row)])) 90 (sO 1 (l15.map (aA .i64))))⟩) () h ?_ ?_ (h0:=wF (k5 hr1 hc2 hc3d hx7 (k5 hi6' hw8 hr10 hx14 (k2 hi13' hw15))))
 ·rintro v23 ⟨⟩ hi19' h;simp only [k9] at h;refine z1 (k5 hr1 hc2 hc3d hx7 (k5 hi6' hw8 hr10 hx14 (k3 hi13' hw15 hi19'))) ?_;refine cf ?_;unfold wY at h;obtain ⟨ha35,h⟩:=ey h;simp only [acH,acf,acJ,acP,adJ,Nat.reduceAdd] at ha35;refine z1 (k5 hr1 hc2 hc3d hx7 (k5 hi6' hw8 hr10 hx14 (k4 hi13' hw15 hi19' ha35))) ?_;refine z1 (k5 hr1 hc2 hc3d hx7 (k5 hi6' hw8 hr10 hx14 (k4 hi13' hw15 hi19' ha35))) ?_;first|refine ⟨(l15++[x19.ID]),?_,h⟩|refine ⟨hi13',(l15++[x19.ID]),?_,h⟩
  exact wF (k5 hr1 hc2 hc3d hx7 (k5 hi6' hw8 hr10 hx14 (k4 hi13' hw15 hi19' ha35)))
 rintro v23 ⟨⟩ x26 hi19' hx20 hw21 h;simp only [k9] at h;refine z1 (k5 hr1 hc2 hc3d hx7 (k5 hi6' hw8 hr10 hx14 (k5 hi13' hw15 hx20 hi19' hw21))) ?_;refine ct ?_;refine z1 (k5 hr1 hc2 hc3d hx7 (k5 hi6' hw8 hr10 hx14 (k5 hi13' hw15 hx20 hi19' hw21))) ?_;refine z1 (k5 hr1 hc2 hc3d hx7 (k5 hi6' hw8 hr10 hx14 (k5 hi13' hw15 hx20 hi19' hw21))) ?_;refine lT 52 (fun (v29:Nat) (b:Unit)=>⟨tab 91 (af (af (af (af (af (af (af (af (af (af (af (af (af (af av 0 (sF 4 (a0.map aj.row))) 3 (pF 3)) 4 (vI (v8:Int))) 5 (pF 5)) 7 (sF 9 (r2.2.map aF.row))) 8 (.pal 90 [] 0 l15.length none)) 9 (vI (v16:Int))) 11 (pF 11)) 45 (sF 3 (l7.map aa.row))) 46 (vI (l7.length:Int))) 47 (vI (v23:Int))) 52 (sF 3 (x26.Layers.map al.row))) 53 (vI (x26.Layers.length:Int))) 54 (vI (v29:Int))),(upd (upd (upd (upd RZ 3 (vA 3 (ae.row r2.1))) 5 (vA 3 [sF 11 (l5.map Txn.row),sF 4 (l6.map ai.row),sF 3 (l7.map aa.row)])) 11 (vA 3 (aa.row x26))) 90 (sO 1 (l15.map (aA .i64))))⟩) () h ?_ ?_ (h0:=wF (k5 hr1 hc2 hc3d hx7 (k5 hi6' hw8 hr10 hx14 (k5 hi13' hw15 hx20 hi19' hw21))))
 ·rintro v29 ⟨⟩ hi25' h;simp only [im] at h;refine z1 (k5 hr1 hc2 hc3d hx7 (k5 hi6' hw8 hr10 hx14 (k5 hi13' hw15 hx20 hi19' (k2 hw21 hi25')))) ?_;refine cf ?_;refine z1 (k5 hr1 hc2 hc3d hx7 (k5 hi6' hw8 hr10 hx14 (k5 hi13' hw15 hx20 hi19' (k2 hw21 hi25')))) ?_;first|refine ⟨(),?_,h⟩|refine ⟨hi19',(),?_,h⟩
  exact wF (k5 hr1 hc2 hc3d hx7 (k5 hi6' hw8 hr10 hx14 (k5 hi13' hw15 hx20 hi19' (k2 hw21 hi25'))))
 rintro v29 ⟨⟩ x32 hi25' hx26 hw27 h;simp only [im] at h;refine z1 (k5 hr1 hc2 hc3d hx7 (k5 hi6' hw8 hr10 hx14 (k5 hi13' hw15 hx20 hi19' (k4 hw21 hx26 hi25' hw27)))) ?_;refine ct ?_;refine z1 (k5 hr1 hc2 hc3d hx7 (k5 hi6' hw8 hr10 hx14 (k5 hi13' hw15 hx20 hi19' (k4 hw21 hx26 hi25' hw27)))) ?_;refine d1 (k5 hr1 hc2 hc3d hx7 (k5 hi6' hw8 hr10 hx14 (k5 hi13' hw15 hx20 hi19' (k4 hw21 hx26 hi25' hw27)))) ?_;refine cD h (fun hc29 hc29d h=>?_) fun hc29 hc29d h=>?_
 ·refine z1 (k5 hr1 hc2 hc3d hx7 (k5 hi6' hw8 hr10 hx14 (k5 hi13' hw15 hx20 hi19' (k5 hw21 hx26 hi25' hw27 hc29d)))) ?_;first|refine ⟨(),?_,h⟩|refine ⟨hi19',(),?_,h⟩
  exact wF (k5 hr1 hc2 hc3d hx7 (k5 hi6' hw8 hr10 hx14 (k5 hi13' hw15 hx20 hi19' (k5 hw21 hx26 hi25' hw27 hc29d))))
 refine bc (pp ?_);apply aW (fun (c22:Bool)=>⟨tab 91 (af (af (af (af (af (af (af (af (af (af (af (af (af (af (af av 0 (sF 4 (a0.map aj.row))) 3 (pF 3)) 4 (vI (v8:Int))) 5 (pF 5)) 7 (sF 9 (r2.2.map aF.row))) 8 (.pal 90 [] 0 l15.length none)) 9 (vI (v16:Int))) 11 (pF 11)) 45 (sF 3 (l7.map aa.row))) 46 (vI (l7.length:Int))) 47 (vI (v23:Int))) 52 (sF 3 (x26.Layers.map al.row))) 53 (vI (x26.Layers.length:Int))) 54 (vI (v29:Int))) 80 (vB c22)),(upd (upd (upd (upd RZ 3 (vA 3 (ae.row r2.1))) 5 (vA 3 [sF 11 (l5.map Txn.row),sF 4 (l6.map ai.row),sF 3 (l7.map aa.row)])) 11 (vA 3 (aa.row x26))) 90 (sO 1 (l15.map (aA .i64))))⟩)
 ·intro hJ30;obtain ⟨r23,hr31,h⟩:=bI h;refine kQ fun Z hZ=>?_;simp only [go_sem,seval,hr1,hc2,hc3d,hx7,hi6',hw8,hr10,hx14,hi13',hw15,hx20,hi19',hw21,hx26,hi25',hw27,hc29d,hr31];repeat with_reducible refine fZ (by kernel_rfl) ?_
  refine pc rfl (fun hc32=>?_) (fun hc32=>?_)
  ·rw [if_neg (ne_true_of_eq_false hc32)] at h;obtain ⟨r24,hr33,h⟩:=bI h;simp only [go_sem,seval,hr1,hc2,hc3d,hx7,hi6',hw8,hr10,hx14,hi13',hw15,hx20,hi19',hw21,hx26,hi25',hw27,hc29d,hr31,hc32,hr33];repeat with_reducible refine fZ (by kernel_rfl) ?_
   refine hZ _ (by kernel_rfl) (pp (hJ30 _ r24 ?_ h));exact wF (k5 hr1 hc2 hc3d hx7 (k5 hi6' hw8 hr10 hx14 (k5 hi13' hw15 hx20 hi19' (k5 hw21 hx26 hi25' hw27 (k4 hc29d hr31 hc32 hr33)))))
  rw [if_pos hc32] at h;simp only [go_sem,seval,hr1,hc2,hc3d,hx7,hi6',hw8,hr10,hx14,hi13',hw15,hx20,hi19',hw21,hx26,hi25',hw27,hc29d,hr31,hc32];refine hZ _ (by kernel_rfl) (pp (hJ30 _ false ?_ h));exact wF (k5 hr1 hc2 hc3d hx7 (k5 hi6' hw8 hr10 hx14 (k5 hi13' hw15 hx20 hi19' (k5 hw21 hx26 hi25' hw27 (k3 hc29d hr31 hc32)))))
 intro c22 h;unfold oh at h;refine cB h (fun hc34 h=>?_) fun hc34 h=>?_
 ·refine z1 (k5 hr1 hc2 hc3d hx7 (k5 hi6' hw8 hr10 hx14 (k5 hi13' hw15 hx20 hi19' (k5 hw21 hx26 hi25' hw27 (k2 hc29d hc34))))) ?_;exact e1 (k5 hr1 hc2 hc3d hx7 (k5 hi6' hw8 hr10 hx14 (k5 hi13' hw15 hx20 hi19' (k5 hw21 hx26 hi25' hw27 (k2 hc29d hc34))))) h
 refine z1 (k5 hr1 hc2 hc3d hx7 (k5 hi6' hw8 hr10 hx14 (k5 hi13' hw15 hx20 hi19' (k5 hw21 hx26 hi25' hw27 (k2 hc29d hc34))))) ?_;first|refine ⟨(),?_,h⟩|refine ⟨hi25',(),?_,h⟩
 exact wF (k5 hr1 hc2 hc3d hx7 (k5 hi6' hw8 hr10 hx14 (k5 hi13' hw15 hx20 hi19' (k5 hw21 hx26 hi25' hw27 (k2 hc29d hc34)))))
@[go_sem] def JB (N:Nat):FnS:=⟨[],true,fn1 (aJ 4 aj.dec) fun q0=>(pd N q0).map fun r=>vB r,false⟩
def Tg (N:Nat):aC prog 7 (JB N):=om1 (Dj N)
end
end Go.Proofs.YtmacaidmhchpgaaGreat
