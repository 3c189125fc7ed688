/- Walks: each function computes its model. No condition. -/
import Derived.Test.YtmacaidmhchpgaaGreatB
import Derived.Test.YtmacaidmhchpgaaGreatWA
/- Each Go function computes its model: proofs laid by a program of ours. -/
set_option maxHeartbeats 40000000
set_option synthInstance.maxHeartbeats 2000000
set_option synthInstance.maxSize 4000
set_option linter.unusedSimpArgs false
set_option linter.unusedVariables false
set_option maxRecDepth 100000
namespace Go.Proofs.YtmacaidmhchpgaaGreat
open Go Go.Proofs Go.Abs
@[go_sem] noncomputable def Kn (N d f:Nat):Option FnS:=ay [(8,116,lD N),(11,117,zu N),(25,118,bk N)] d f
theorem KF (N:Nat) (a0:(List ai)) (a1:Int) (r:(List ai)) (h:o5 N a0 a1=some r):Con Tryz.prog 50 [] false [sF 4 (a0.map ai.row),vI a1] (sO 4 (r.map ai.rowD)):=by
 refine fk (G:=(Kn N)) Tryz.func50 (gc 8 (kU N) (gc 11 (BP N) (gc 25 (qV N) gn))) ?_;simp only [Tryz.f50];unfold o5 at h;refine z0 ?_;obtain ⟨r1,hr1,h⟩:=bI h;refine z1 hr1 ?_;refine cM h (fun hc2 h=>?_) fun hc2 h=>?_
 ·refine z1 hc2 ?_;exact f0 h
 obtain ⟨r2,hr3,h⟩:=bI h;refine z1 (k2 hc2 hr3) ?_;refine z0 ?_;refine aX (iP fun hreal5=>?_);have hl4:=hreal5.lenX 11 (by simp only [go_sem,seval]; rfl);first|rw [abJ] at hl4|rw [fY] at hl4|rw [<-ab4,abJ] at hl4
 refine pj (fun (v6:Nat) (b:List ai)=>⟨tab 30 (af (af (af (af av 3 (pF 3)) 5 (.pal 11 [] 0 b.length none)) 13 (vI (r2.length:Int))) 14 (vI (v6:Int))),(upd (upd RZ 3 (vA 1 [vI a1])) 11 (sO 4 (b.map ai.rowD)))⟩) r2 h ?_ ?_
 ·exact wF (k3 hr1 hc2 hr3)
 rintro v6 l5 _ h -;rcases (jK r2.length v6).symm with ⟨hi6',hd9⟩|⟨hi6',hd9⟩
 ·rw [hd9] at h;simp only [jt] at h;refine z1 hi6' ?_;refine cf ?_;refine z0 ?_;exact f0 h
 rw [hd9] at h;simp only [jt] at h;have hw8:=fm hi6' hl4;refine z1 hi6' ?_;refine ct ?_;refine z0 ?_;obtain ⟨x3,hb10,hx11,h⟩:=aH h;try simp only [abX] at hx11
 try simp only [adD,ac3,true_and] at hb10
 obtain ⟨r4,hr12,h⟩:=bI h;refine z1 (k5 hb10 hx11 (ov1 (row:=ai.rowD) (rx:=[vS x3.Actor.Type_,vS x3.Actor.Key,vI x3.Owner,sO 1 (x3.Waiters.map (aA .i64))]) hx11 rfl) (ov2 (row:=ai.rowD) hx11) (k2 (ov3 (row:=ai.rowD) hx11) hr12)) ?_;refine z1 hw8 ?_;first|refine ⟨(l5.set v6 (ai.mk x3.Actor x3.Owner r4)),?_,h⟩|refine ⟨hi6',(l5.set v6 (ai.mk x3.Actor x3.Owner r4)),?_,h⟩
 refine bm.trans (TF (n:=11) (ai.mk x3.Actor x3.Owner r4) (by simp only [go_sem,seval]; rfl) rfl rfl) ?_;refine wr ?_ ?_<;>repeat' first|rfl|constructor|simp only [go_sem,seval,acN,acf]
@[go_sem] def Cm (N:Nat):FnS:=⟨[],false,fn2 (aJ 4 ai.dec) (aG .i64) fun q0 q1=>(o5 N q0 q1).map fun r=>sF 4 (r.map ai.row),false⟩
theorem GG (N:Nat):aC Tryz.prog 50 (Cm N):=om2 fun q0 q1 r h=>rs (KF N q0 q1 r h)

noncomputable def oA:Env:={ T:=fa Tryz.prog,G:=fun d f=>none }
theorem jI:oA.T=fa Tryz.prog:=rfl
theorem jL (d:Nat):oA.F d=none:=rfl
theorem Dx:GOk Tryz.prog { T:=fa Tryz.prog,G:=oA.G }:=by
 refine ⟨?_,fun _ _ _ h=>by cases h⟩;intro d f fs hfs;cases hfs
theorem EY:Eg Tryz.prog 190 Tryz.f190 Tryz.f190.body.get! := ⟨Tryz.func190,rfl,by decide,by kernel_rfl⟩
set_option maxHeartbeats 4000000 in
theorem FC {α:Type} (row:α->List C) (ok:ar row) (l:List α) (i j:Nat) (r:List α) (hr:r=l.take i++l.drop j) (hij:i<=j) (hj:j<=l.length) :
  Con Tryz.prog 190 [true,false,false] false [sO 4 (l.map row),vI i,vI j] (sO 4 (r.map row)):=by
 refine IK (E:=oA) (y6 Tryz.prog _) Dx mix EY (ab5 rfl) ?_;intro _;rw [vk (by simp)];rw [show gN [true,false,false] [C.sl true none 4 none (l.map row),C.val (.int .i64 i),C.val (.int .i64 j)]=(af (af (af av 0 (.pal 0 [] 0 l.length none)) 1 (vI i)) 2 (vI j)) from by funext t; match t with|0=>simp [gN,jz,kG,af]|1=>rfl|2=>rfl|t+3=>rfl];rw [show R0 [true,false,false] [C.sl true none 4 none (l.map row),C.val (.int .i64 i),C.val (.int .i64 j)]=upd RZ 0 (C.sl true none 4 none (l.map row)) from by funext t; match t with|0=>rfl|1=>rfl|2=>rfl|t+3=>rfl];apply IX;simp only [Tryz.f190,Option.get!];have hi1:(i:Int)<=(j:Int):=by omega
 have hj1:(j:Int)<=(l.length:Int):=by omega
 have hj0:i<=l.length:=by omega
 simp only [go_sem,seval,jI,jL,hi1,hj1,hij,hj,hj0,abI,ar.frzRows ok,ar.all ok,ar.allPlain ok,ar.allD ok,aK,Dm,bO,eP,fw,tv,sV,yf,yg,abF,ab2,abU,eh,acg,decide_not,abR];refine tM rfl (fun hc=>?_) (fun hc=>?_)
 ·have e:i=j:=by omega
  subst e;simp only [go_sem,seval,jI,jL,hi1,hj1,hij,hj,hj0,abI,ar.frzRows ok,ar.all ok,ar.allPlain ok,ar.allD ok,aK,Dm,bO,eP,fw,tv,sV,yf,yg,abF,ab2,abU,eh,acg,decide_not,abR,eD,gI];refine sI ok ?_;rw [hr];simp [ab3]
 ·have hc1:decide ((i:Int)=(j:Int))=false:=decide_eq_false hc;have hlt:i < j:=by omega
  have hlt2:i < l.length:=by omega
  have hm3:(l.drop j).take (l.length - j)=l.drop j:=ab3 (by simp);have hd:(l.drop j).length=l.length - j:=by simp
  have hle:i+(l.length - j)<=l.length:=by omega
  have hnle:¬ l.length<=i+(l.length - j):=by omega
  obtain ⟨A,hA⟩:∃ A,aL (List.map row l) i (List.map row (List.drop j l))=A:=⟨_,rfl⟩;have hAp:bX A:=by rw [<-hA]; exact gK (gF ok _) (gF ok _)
  have hAl:A.length=l.length:=by rw [<-hA]; simp [aL]; omega
  obtain ⟨B,hB⟩:∃ B,aL A (i+(l.length - j)) (List.replicate (l.length - (i+(l.length - j))) [C.val (Value.string ⟨#[]⟩),C.val (Value.string ⟨#[]⟩),C.val (Value.int .i64 0),C.val (Value.slice none 0 0)])=B:=⟨_,rfl⟩;have hBp:bX B:=by rw [<-hB]; exact gK hAp (zS _ [Value.string ⟨#[]⟩,Value.string ⟨#[]⟩,Value.int .i64 0,Value.slice none 0 0] (by simp [Value.oneCell']))
  have hBe:B.take (i+(l.length - j))=r.map row:=by
   have:=Wa (L:=l.map row) (List.replicate (l.length - (i+(l.length - j))) [C.val (Value.string ⟨#[]⟩),C.val (Value.string ⟨#[]⟩),C.val (Value.int .i64 0),C.val (Value.slice none 0 0)]) hij (by simpa using hj);rw [abJ,<-ade,hA,hB] at this;rw [this,hr]; simp
  simp only [go_sem,seval,jI,jL,hi1,hj1,hij,hj,hj0,abI,ar.frzRows ok,ar.all ok,ar.allPlain ok,ar.allD ok,aK,Dm,bO,eP,fw,tv,sV,yf,yg,abF,ab2,abU,eh,acg,decide_not,abR,hc1,hlt,hlt2,hm3,hd,hle,hnle,hA,hAl,hAp.1,hAp.2];repeat' ((with_reducible refine gS ?_ ?_); kernel_rfl)
  simp only [go_sem,seval,jI,jL,hi1,hj1,hij,hj,hj0,abI,ar.frzRows ok,ar.all ok,ar.allPlain ok,ar.allD ok,aK,Dm,bO,eP,fw,tv,sV,yf,yg,abF,ab2,abU,eh,acg,decide_not,abR,hc1,hlt,hlt2,hm3,hd,hle,hnle,hA,hAl,hAp.1,hAp.2,hB,hBp.1,hBp.2,eD,gI];repeat' ((with_reducible refine gS ?_ ?_); kernel_rfl)
  try simp only [go_sem,seval,jI,jL,hi1,hj1,hij,hj,hj0,abI,ar.frzRows ok,ar.all ok,ar.allPlain ok,ar.allD ok,aK,Dm,bO,eP,fw,tv,sV,yf,yg,abF,ab2,abU,eh,acg,decide_not,abR,eD,gI,hBp.1,hBp.2]
  refine sI ok ?_;rw [<-hBe]
theorem F6 (N:Nat) (a0:List ai) (a1:Int) (a2:Int) (r:List ai) (h:mn N a0 a1 a2=some r) :
  Con Tryz.prog 190 [true,false,false] false [sO 4 (a0.map ai.row),vI a1,vI a2] (sO 4 (r.map ai.row)):=by
 unfold mn at h;obtain ⟨n,m,rfl,rfl,h1,h2,h3⟩:=U8 h;exact FC ai.row ai.row_ok a0 n m r (aco h3).symm h1 h2
def fT (N:Nat):FnS:={ own:=[true,false,false],pure:=false,fn:=fun cs=>match cs with
 | [c0,c1,c2]=>(vL 4 ai.dec c0).bind fun q0=>(aG .i64 c1).bind fun q1=>(aG .i64 c2).bind fun q2=>(mn N q0 q1 q2).map fun r=>sO 4 (r.map ai.row)
 | _=>none }
theorem B2 (N:Nat):(fT N).own=[true,false,false]:=rfl
theorem BN (N:Nat):(fT N).pure=false:=rfl
theorem BU (N:Nat):(fT N).peek=false:=rfl
attribute [go_sem] fT B2 BN BU
theorem CD (N:Nat):aC Tryz.prog 190 (fT N):=by
 refine ⟨fun cs r h=>?_,fun h=>by cases h⟩;simp only [fT] at h;split at h
 ·simp only [abC,abB] at h;obtain ⟨q0,h0,q1,h1,q2,h2,r',hr,rfl⟩:=h;exact (F6 N q0 q1 q2 r' hr).argsO rfl (jW (qq ai.row_ok ai.dec_le h0) (rG (bN h1) (rG (bN h2) oD)))
 ·cases h


@[go_sem] noncomputable def OT (N d f:Nat):Option FnS:=ay [(20,190,fT N)] d f
theorem PH (N:Nat) (a0:(List ai)) (a1:Int) (r:(List ai) × Int) (h:tF N a0 a1=some r):Con Tryz.prog 120 [true,false] false [sO 4 (a0.map ai.row),vI a1] (.tup [sO 4 (r.1.map ai.row),vI r.2]):=by
 refine Aq (G:=(OT N)) (L:=noL) Tryz.func120 rfl (by decide) (by kernel_rfl) (gc 20 (CD N) gn) (fun _ _ _ h=>by cases h) [] mix (ab5 rfl) ?_;rw [show gN [true,false] [sO 4 (a0.map ai.row),vI a1]=(af (af av 0 (.pal 0 [] 0 a0.length none)) 1 (vI a1)) from by funext t; match t with|0=>simp [gN,jz,kG,af]|1=>rfl|t+2=>rfl];rw [show R0 [true,false] [sO 4 (a0.map ai.row),vI a1]=upd RZ 0 (sO 4 (a0.map ai.row)) from by funext t; match t with|0=>rfl|1=>rfl|t+2=>rfl];simp only [Tryz.f120];unfold tF at h;refine z0 ?_;obtain ⟨x1,hb1,hx2,h⟩:=aH h;refine z1 (k2 hb1 hx2) ?_;refine z1 (k2 hb1 hx2) ?_;refine cD h (fun hc3 hc3d h=>?_) fun hc3 hc3d h=>?_
 ·obtain ⟨r2,hr4,h⟩:=bI h;refine z1 (k4 hb1 hx2 hc3d hr4) ?_;refine fD (pp ?_);cases h;simp only [go_sem,seval,hb1,hx2,hc3d,hr4,eD,gI];exact ⟨_,rfl,iE.h,qI.h⟩
 obtain ⟨x3,hb5,hx6,h⟩:=aH h;refine z1 (k5 hb1 hx2 hc3d hb5 hx6) ?_;refine aM ?_;obtain ⟨hs7,ht8,h⟩:=Pw h;try simp only [abX] at hs7 ht8 h
 have hx10:=kX (y:=(ai.mk x1.Actor x3 x1.Waiters)) hx2;refine mh fun Z hZ=>?_;simp only [go_sem,seval,hb1,hx2,hc3d,hb5,hx6,hs7,ht8,Ic ht8,abU,ab2,abI,yr (row:=ai.row) (y:=(ai.mk x1.Actor x3 x1.Waiters)) (rx:=[vS x1.Actor.Type_,vS x1.Actor.Key,vI x1.Owner,sF 1 (x1.Waiters.map (aA .i64))]) (ry:=[vS x1.Actor.Type_,vS x1.Actor.Key,vI x3,sF 1 (x1.Waiters.map (aA .i64))]) hx2 rfl rfl,hx10,Ff (row:=ai.row) (rx:=[vS x1.Actor.Type_,vS x1.Actor.Key,vI x3,sF 1 (x1.Waiters.map (aA .i64))]) hx10 rfl rfl,yU (row:=ai.row) _ hx10,yG (row:=ai.row) hx10 rfl];repeat with_reducible refine gS (by kernel_rfl) ?_
 refine hZ _ (by kernel_rfl) (pp (Ws fun Z hZ=>?_));simp only [go_sem,seval,hb1,hx2,hc3d,hb5,hx6,hs7,ht8,Ic ht8,abU,ab2,abI,yr (row:=ai.row) (y:=(ai.mk x1.Actor x3 x1.Waiters)) (rx:=[vS x1.Actor.Type_,vS x1.Actor.Key,vI x1.Owner,sF 1 (x1.Waiters.map (aA .i64))]) (ry:=[vS x1.Actor.Type_,vS x1.Actor.Key,vI x3,sF 1 (x1.Waiters.map (aA .i64))]) hx2 rfl rfl,hx10,Ff (row:=ai.row) (rx:=[vS x1.Actor.Type_,vS x1.Actor.Key,vI x3,sF 1 (x1.Waiters.map (aA .i64))]) hx10 rfl rfl,yU (row:=ai.row) _ hx10,yG (row:=ai.row) hx10 rfl];refine hZ _ (pp (fD (pp ?_)));cases h;simp only [go_sem,seval,hb1,hx2,hc3d,hb5,hx6,hs7,ht8,Ic ht8,abU,ab2,abI,yr (row:=ai.row) (y:=(ai.mk x1.Actor x3 x1.Waiters)) (rx:=[vS x1.Actor.Type_,vS x1.Actor.Key,vI x1.Owner,sF 1 (x1.Waiters.map (aA .i64))]) (ry:=[vS x1.Actor.Type_,vS x1.Actor.Key,vI x3,sF 1 (x1.Waiters.map (aA .i64))]) hx2 rfl rfl,hx10,Ff (row:=ai.row) (rx:=[vS x1.Actor.Type_,vS x1.Actor.Key,vI x3,sF 1 (x1.Waiters.map (aA .i64))]) hx10 rfl rfl,yU (row:=ai.row) _ hx10,yG (row:=ai.row) hx10 rfl,eD,gI];exact ⟨_,rfl,iE.h,qI.h⟩
def j3 (N:Nat):FnS:={ own:=[true,false],pure:=false,fn:=fun cs=>match cs with
 | [c0,c1]=>((vL 4 ai.dec) c0).bind fun q0=>((aG .i64) c1).bind fun q1=>(tF N q0 q1).map fun r=>.tup [sO 4 (r.1.map ai.row),vI r.2]
 | _=>none }
theorem Ix (N:Nat):(j3 N).own=[true,false]:=rfl
theorem Hl (N:Nat):(j3 N).pure=false:=rfl
theorem Hn (N:Nat):(j3 N).peek=false:=rfl
attribute [go_sem] j3 Ix Hl Hn
theorem Cj (N:Nat):aC Tryz.prog 120 (j3 N):=by
 refine ⟨fun cs r h=>?_,fun h=>by cases h⟩;simp only [j3] at h;split at h
 ·simp only [abC,abB] at h;obtain ⟨q0,h0,q1,h1,r',hr,rfl⟩:=h;exact (PH N q0 q1 r' hr).argsO rfl (jW (qq ai.row_ok ai.dec_le h0) (rG (bN h1) (oD)))
 ·cases h


@[go_sem] noncomputable def HE (N d f:Nat):Option FnS:=ay [(12,116,lD N),(15,117,kF N),(37,120,j3 N)] d f
theorem Iu (N:Nat) (a0:(List ai)) (a1:Int) (r:(List ai) × (List az)) (h:lV N a0 a1=some r):Con Tryz.prog 51 [] false [sF 4 (a0.map ai.row),vI a1] (.tup [sO 4 (r.1.map ai.row),sO 3 (r.2.map az.row)]):=by
 refine fk (G:=(HE N)) Tryz.func51 (gc 12 (kU N) (gc 15 (kn N) (gc 37 (Cj N) gn))) ?_;simp only [Tryz.f51];unfold lV at h;refine z0 ?_;obtain ⟨r1,hr1,h⟩:=bI h;refine z1 hr1 ?_;refine cM h (fun hc2 h=>?_) fun hc2 h=>?_
 ·refine z1 hc2 ?_;exact f0 h
 obtain ⟨r2,hr3,h⟩:=bI h;refine z1 (k2 hc2 hr3) ?_;refine z0 ?_;refine z0 ?_;refine aX (iT (fun (b:List ai × List az × Int)=>⟨tab 52 (af (af (af (af av 1 (vI a1)) 6 (.pal 15 [] 0 b.1.length none)) 7 (.pal 47 [] 0 b.2.1.length none)) 8 (vI b.2.2)),(upd (upd RZ 15 (sO 4 (b.1.map ai.row))) 47 (sO 3 (b.2.1.map az.row)))⟩) (r2,[],0) h ?_ ?_)
 ·refine bm.trans (qS 7 47 3 (by simp only [go_sem,seval]) (by simp only [go_sem,seval])) ?_;exact wF (k3 hr1 hc2 hr3)
 rintro n ⟨l5,l6,v7⟩ h -;cases n with
 | zero=>simp [fj] at h
 | succ n=>
 simp only [fj] at h;refine z0 ?_;refine cDs h (fun hc4 hc4d h=>?_) fun hc4 hc4d h=>?_
 ·refine z1 hc4d ?_;exact f0 h
 obtain ⟨x3,hb5,hx6,h⟩:=aH h;refine z1 (k2 hb5 hx6) ?_;refine cN h (fun hc7 hc7d h=>?_) fun hc7 hc7d h=>?_
 ·refine z1 hc7d ?_;refine iR (pp (⟨_,acn _,(l5,l6,IntKind.i64.wrap (v7+1)),?_,h⟩));exact wF (k5 hr1 hc2 hr3 hc4d (k3 hb5 hx6 hc7d))
 refine z1 (k3 hb5 hx6 hc7d) ?_;obtain ⟨r4,hr8,h⟩:=bI h;refine z1 hr8 ?_;refine z0 ?_;refine cNs h (fun hc9 hc9d h=>?_) fun hc9 hc9d h=>?_
 ·refine bf (pp (⟨_,acn _,(r4.1,l6,v7),?_,h⟩));refine bm.trans (NH 6 37 [(0,0)] 15 (by decide) (by decide) (by simp only [go_sem,seval]) (by simp only [go_sem,seval]; rfl) (by simp only [go_sem,seval,hc9d]; rfl) (by simp) (by simp only [jF,iI,go_sem,seval]; rfl) (by simp only [go_sem,seval]; rfl)) ?_;exact wF (k5 hr1 hc2 hr3 hc4d (k5 hb5 hx6 hc7d hr8 hc9d))
 obtain ⟨ha10,h⟩:=eN h;simp only [abW,acm,acv,Nat.reduceAdd] at ha10;refine z1 (k2 hc9d ha10) ?_;refine z0 ?_;refine ⟨_,acn _,(r4.1,(l6++[(az.mk x3.Actor r4.2)]),IntKind.i64.wrap (v7+1)),?_,h⟩;refine bm.trans (NH 6 37 [(0,0)] 15 (by decide) (by decide) (by simp only [go_sem,seval]) (by simp only [go_sem,seval]; rfl) (by simp only [go_sem,seval]; rfl) (by simp) (by simp only [jF,iI,go_sem,seval]; rfl) (by simp only [go_sem,seval]; rfl)) ?_;refine wr ?_ ?_<;>repeat' first|rfl|constructor|simp only [go_sem,seval]
@[go_sem] def Ap (N:Nat):FnS:=⟨[],false,fn2 (aJ 4 ai.dec) (aG .i64) fun q0 q1=>(lV N q0 q1).map fun r=>.tup [sF 4 (r.1.map ai.row),sF 3 (r.2.map az.row)],false⟩
theorem EF (N:Nat):aC Tryz.prog 51 (Ap N):=om2 fun q0 q1 r h=>rs (Iu N q0 q1 r h)

@[go_sem] noncomputable def Rv (N d f:Nat):Option FnS:=ay [(13,23,mu N),(19,40,ia N),(24,48,B9 N),(27,49,B8 N),(37,50,Cm N),(50,51,Ap N)] d f
theorem RH (N:Nat) (a0:ae) (a1:Int) (r:ae × (List Int) × Int) (h:k9 N a0 a1=some r):Con Tryz.prog 20 [] false [.agg (ae.row a0),vI a1] (.tup [.agg (ae.row r.1),sF 1 (r.2.1.map (aA .i64)),vI r.2.2]):=by
 refine fk (G:=(Rv N)) Tryz.func20 (gc 13 (kL N) (gc 19 (fH N) (gc 24 (FM N) (gc 27 (C7 N) (gc 37 (GG N) (gc 50 (EF N) gn)))))) ?_;simp only [Tryz.f20];unfold k9 at h;refine z0 ?_;obtain ⟨r1,hr1,h⟩:=bI h;refine z1 hr1 ?_;refine cM h (fun hc2 h=>?_) fun hc2 h=>?_
 ·refine z1 hc2 ?_;exact f0 h
 obtain ⟨r2,hr3,h⟩:=bI h;refine z1 (k2 hc2 hr3) ?_;refine cD h (fun hc4 hc4d h=>?_) fun hc4 hc4d h=>?_
 ·refine z1 hc4d ?_;exact f0 h
 obtain ⟨r3,hr5,h⟩:=bI h;refine z1 (k2 hc4d hr5) ?_;obtain ⟨r4,hr6,h⟩:=bI h;refine z1 hr6 ?_;refine z0 ?_;refine lTs 5 (fun (v8:Nat) (b:List ai)=>⟨tab 57 (af (af (af (af (af av 4 (pF 4)) 5 (sF 1 (r3.map (aA .i64)))) 28 (sF 1 (r3.map (aA .i64)))) 29 (vI (r3.length:Int))) 30 (vI (v8:Int))),(upd RZ 4 (vA 3 [sF 11 (r4.Txns.map Txn.row),sF 4 (b.map ai.row),sF 3 (r4.Stacks.map aa.row)]))⟩) r4.Locks h ?_ ?_
 ·rintro v8 l7 x11 hi9' hx10 hw11 h;simp only [pD] at h;refine z1 hi9' ?_;refine ct ?_;refine z1 (k2 hx10 hi9') ?_;obtain ⟨r13,hr13,h⟩:=bI h;refine z1 hr13 ?_;refine z1 hw11 ?_;first|refine ⟨r13,?_,h⟩|refine ⟨hi9',r13,?_,h⟩
  exact wR
 rintro v8 l7 hi9' h;simp only [pD] at h;refine z1 hi9' ?_;refine cf ?_;unfold Dd at h;refine z0 ?_;refine lT 5 (fun (v18:Nat) (b:List ai)=>⟨tab 57 (af (af (af (af (af av 4 (pF 4)) 5 (sF 1 (r3.map (aA .i64)))) 40 (sF 1 (r3.map (aA .i64)))) 41 (vI (r3.length:Int))) 42 (vI (v18:Int))),(upd RZ 4 (vA 3 [sF 11 (r4.Txns.map Txn.row),sF 4 (b.map ai.row),sF 3 (r4.Stacks.map aa.row)]))⟩) l7 h ?_ ?_
 ·rintro v18 l17 hi16' h;simp only [pK] at h;refine z1 hi16' ?_;refine cf ?_;refine z0 ?_;exact f0 h
 rintro v18 l17 x21 hi16' hx17 hw18 h;simp only [pK] at h;refine z1 hi16' ?_;refine ct ?_;refine z1 (k2 hx17 hi16') ?_;obtain ⟨r14,hr20,h⟩:=bI h;refine z1 hr20 ?_;refine z1 hw18 ?_;first|refine ⟨r14.1,?_,h⟩|refine ⟨hi16',r14.1,?_,h⟩
 exact wR
@[go_sem] def z6 (N:Nat):FnS:=⟨[],false,fn2 ae.decA (aG .i64) fun q0 q1=>(k9 N q0 q1).map fun r=>.tup [.agg (ae.row r.1),sF 1 (r.2.1.map (aA .i64)),vI r.2.2],false⟩
theorem zC (N:Nat):aC Tryz.prog 20 (z6 N):=om2 (RH N)


@[go_sem] noncomputable def Sw (N d f:Nat):Option FnS:=ay [(12,23,mu N),(18,24,Ej N),(30,58,Cg N),(43,20,z6 N),(52,59,qu N)] d f
theorem S7 (N:Nat) (a0:ae) (a1:Int) (r:ae × Int × (List Int) × Int) (h:iv N a0 a1=some r):Con Tryz.prog 25 [] false [.agg (ae.row a0),vI a1] (.tup [.agg (ae.row r.1),vI r.2.1,sF 1 (r.2.2.1.map (aA .i64)),vI r.2.2.2]):=by
 refine fk (G:=(Sw N)) Tryz.func25 (gc 12 (kL N) (gc 18 (FE N) (gc 30 (GJ N) (gc 43 (zC N) (gc 52 (pE N) gn))))) ?_;simp only [Tryz.f25];unfold iv at h;refine z0 ?_;obtain ⟨r1,hr1,h⟩:=bI h;refine z1 hr1 ?_;refine cM h (fun hc2 h=>?_) fun hc2 h=>?_
 ·refine z1 hc2 ?_;exact f0 h
 obtain ⟨r2,hr3,h⟩:=bI h;refine z1 (k2 hc2 hr3) ?_;refine z0 ?_;refine cM h (fun hc4 h=>?_) fun hc4 h=>?_
 ·refine z1 hc4 ?_;exact f0 h
 obtain ⟨r3,hr5,h⟩:=bI h;refine z1 (k2 hc4 hr5) ?_;refine z0 ?_;refine cN h (fun hc6 hc6d h=>?_) fun hc6 hc6d h=>?_
 ·refine z1 hc6d ?_;exact f0 h
 refine z1 hc6d ?_;refine cD h (fun hc7 hc7d h=>?_) fun hc7 hc7d h=>?_
 ·obtain ⟨r4,hr8,h⟩:=bI h;refine z1 (k2 hc7d hr8) ?_;refine z0 ?_;exact f0 h
 obtain ⟨r5,hr9,h⟩:=bI h;refine z1 (k2 hc7d hr9) ?_;refine z0 ?_;refine z0 ?_;exact f0 h
@[go_sem] def yp (N:Nat):FnS:=⟨[],false,fn2 ae.decA (aG .i64) fun q0 q1=>(iv N q0 q1).map fun r=>.tup [.agg (ae.row r.1),vI r.2.1,sF 1 (r.2.2.1.map (aA .i64)),vI r.2.2.2],false⟩
theorem wu (N:Nat):aC Tryz.prog 25 (yp N):=om2 (S7 N)


theorem Tg (N:Nat) (a0:Int) (r:Value) (h:lS N a0=some r):Con Tryz.prog 34 [] true [vI a0] (.agg (Value.row r)):=by
 refine fk (G:=(ay [])) Tryz.func34 gn ?_;simp only [Tryz.f34];unfold lS at h;refine z0 ?_;refine z0 ?_;exact e0 h
@[go_sem] def rC (N:Nat):FnS:=⟨[],true,fn1 (aG .i64) fun q0=>(lS N q0).map fun r=>.agg (Value.row r),false⟩
theorem o4 (N:Nat):aC Tryz.prog 34 (rC N):=om1 (Tg N)


@[go_sem] noncomputable def Qd (N d f:Nat):Option FnS:=ay [(8,43,vU N)] d f
theorem QT (N:Nat) (a0:aa) (a1:Ref) (r:Int) (h:qy N a0 a1=some r):Con Tryz.prog 65 [] true [.agg (aa.row a0),.agg [vS a1.Type_,vS a1.Key]] (vI r):=by
 refine fk (G:=(Qd N)) Tryz.func65 (gc 8 (wT N) gn) ?_;simp only [Tryz.f65];unfold qy at h;refine z0 ?_;obtain ⟨r1,hr1,h⟩:=bI h;refine z1 hr1 ?_;exact e0 h
@[go_sem] def BW (N:Nat):FnS:=⟨[],true,fn2 aa.decA Ref.decA fun q0 q1=>(qy N q0 q1).map fun r=>vI r,false⟩
theorem CS (N:Nat):aC Tryz.prog 65 (BW N):=om2 (QT N)


@[go_sem] noncomputable def tB (N d f:Nat):Option FnS:=ay [(30,65,BW N),(46,65,BW N)] d f
theorem tZ (N:Nat) (a0:(List aa)) (a1:Ref) (r:Int × Bool) (h:bg N a0 a1=some r):Con Tryz.prog 64 [] true [sF 3 (a0.map aa.row),.agg [vS a1.Type_,vS a1.Key],.clo 65 []] (.tup [vI r.1,vB r.2]):=by
 refine fk (G:=(tB N)) Tryz.func64 (gc 30 (CS N) (gc 46 (CS N) gn)) ?_;simp only [Tryz.f64];unfold bg at h;refine z0 ?_;refine z0 ?_;refine z0 ?_;refine aM (aX (iT (fun (b:Int × Int)=>⟨tab 49 (af (af (af (af (af (af av 0 (sF 3 (a0.map aa.row))) 2 (.clo 65 [])) 4 (pF 4)) 8 (vI (a0.length:Int))) 9 (vI b.1)) 10 (vI b.2)),(upd RZ 4 (vA 2 [vS a1.Type_,vS a1.Key]))⟩) (0,(a0.length:Int)) h ?_ ?_))
 ·exact wR
 rintro n ⟨v2,v3⟩ h -;cases n with
 | zero=>simp [bp] at h
 | succ n=>
 simp only [bp] at h;refine z0 ?_;refine cDs h (fun hc1 hc1d h=>?_) fun hc1 hc1d h=>?_
 ·refine iR (pp ?_);unfold bE at h;refine iD h (fun hc6 hc6d h=>?_) fun hc6 hc6d h=>?_
  ·obtain ⟨x11,hb7,hx8,h⟩:=aH h;obtain ⟨r12,hr9,h⟩:=bI h;refine d1 (k4 hc1d hb7 hx8 hr9) ?_;exact e0 h
  refine d1 (k2 hc1d hc6d) ?_;exact e0 h
 refine z1 hc1d ?_;obtain ⟨x9,hb2,hx3,h⟩:=aH h;obtain ⟨r10,hr4,h⟩:=bI h;refine d1 (k3 hb2 hx3 hr4) ?_;refine cD h (fun hc5 hc5d h=>?_) fun hc5 hc5d h=>?_
 ·refine z1 hc5d ?_;refine ⟨_,acn _,(IntKind.i64.wrap ((IntKind.i64.wrap (kJ .u64 (IntKind.u64.wrap (IntKind.i64.wrap (v2+v3))) 1))+1),v3),?_,h⟩;exact wR
 refine z1 hc5d ?_;refine ⟨_,acn _,(v2,IntKind.i64.wrap (kJ .u64 (IntKind.u64.wrap (IntKind.i64.wrap (v2+v3))) 1)),?_,h⟩;exact wR
@[go_sem] def gM (N:Nat):FnS:={ own:=[],pure:=true,fn:=fun cs=>match cs with
 | [c0,c1,.clo 65 []]=>((aJ 3 aa.dec) c0).bind fun qc0=>(Ref.decA c1).bind fun qc1=>(bg N qc0 qc1).map fun r=>.tup [vI r.1,vB r.2]
 | _=>none }
theorem rD (N:Nat):aC Tryz.prog 64 (gM N):=by
 refine ⟨fun cs r h=>?_,fun h=>by cases h⟩;simp only [gM] at h;split at h
 ·simp only [abC,abB] at h;obtain ⟨q0,h0,q1,h1,r',hr,rfl⟩:=h;exact (ag (tZ N q0 q1 r' hr))
 ·cases h


def dg:FnS:={ own:=[true,true],pure:=false,fn:=fun _=>none,peek:=true }
theorem aT:dg.own=[true,true]:=rfl
theorem aO:dg.peek=true:=rfl
theorem wW:HY Tryz.prog 137:=
 Na (fn:=Tryz.f137) (tS:=26) (tR:=4) (e:=67) (size:=3) Tryz.func137 rfl rfl (by kernel_rfl) (by kernel_rfl) (by kernel_rfl) (by kernel_rfl)
theorem ui:aC Tryz.prog 137 dg:=⟨(fun cs r h=>by simp [dg] at h),fun _=>wW⟩
noncomputable def eA:Env:={ T:=fa Tryz.prog,G:=fun d f=>if d=67/\f=137 then some dg else none }
theorem bH:eA.T=fa Tryz.prog:=rfl
theorem bJ (d:Nat):eA.F d=none:=rfl
theorem bM (d f:Nat):eA.L d f=none:=rfl
theorem bK:eA.G 67 137=some dg:=rfl
theorem Ae:GOk Tryz.prog { T:=fa Tryz.prog,G:=eA.G }:=by
 refine ⟨?_,fun _ _ _ h=>by cases h⟩;intro d f fs hfs;simp only [eA] at hfs;split at hfs
 ·rename_i hc; obtain ⟨rfl,rfl⟩:=hc; obtain rfl:=aco hfs; exact ui
 cases hfs
theorem BJ:Eg Tryz.prog 66 Tryz.f66 Tryz.f66.body.get! := ⟨Tryz.func66,rfl,by decide,by kernel_rfl⟩
set_option maxHeartbeats 4000000 in
theorem tq {α:Type} (row:α->List C) (ok:ar row) (l:List α) (i:Nat) (x:α) (k:Nat) (r:List α) (hr:r=l.take i++[x]++l.drop i) (hi:i<=l.length) (hsz:(l.length+1) * 56<=140737488355328) (hk1:l.length<=k) (hk2:k<=maxLen) :
  Con Tryz.prog 66 [true,false,true] false [.sl true none 3 (some k) (l.map row),vI i,sO 3 ([x].map row)] (sO 3 (r.map row)):=by
 refine IK (E:=eA) (y6 Tryz.prog _) Ae mix BJ (ab5 rfl) ?_;intro _;rw [vk (by simp)];rw [show gN [true,false,true] [C.sl true none 3 (some k) (l.map row),C.val (.int .i64 i),C.sl true none 3 none ([x].map row)]=(af (af (af av 0 (.pal 0 [] 0 l.length none)) 1 (vI i)) 2 (.pal 2 [] 0 1 none)) from by funext t; match t with|0=>simp [gN,jz,kG,af]|1=>rfl|2=>rfl|t+3=>rfl];rw [show R0 [true,false,true] [C.sl true none 3 (some k) (l.map row),C.val (.int .i64 i),C.sl true none 3 none ([x].map row)]=upd (upd RZ 0 (C.sl true none 3 (some k) (l.map row))) 2 (C.sl true none 3 none ([x].map row)) from by funext t; match t with|0=>rfl|1=>rfl|2=>rfl|t+3=>rfl];apply IX;simp only [Tryz.f66,Option.get!];have hi1:(i:Int)<=(l.length:Int):=by omega
 have hi2:i<=l.length:=hi;have h10:(((1:Nat):Int)=0)=False:=by simp
 have hp:(row x).all Abs.plainCell=true:=ok.plain x;have hf:(row x).map C.frz=(row x):=ok.frz x;have hpD:(row x).all qL=true:=by have:=(ar.allD ok [x]); simpa using this
 have hw1:IntKind.i64.wrap ((l.length:Int)+((1:Nat):Int))=((l.length+1:Nat):Int):=by rw [my (by omega) (by omega)]; rfl
 have hlt0:(l.take i).length=i:=by simp; omega
 have hes:(3 != 0)=true:=rfl;have hm1:min 1 (l.length+1 - i)=1:=by omega
 have hm2:min (l.length - i) (l.length+1 - (i+1))=l.length - i:=by omega
 have hm3:(l.drop i).take (l.length - i)=l.drop i:=ab3 (by simp);have hm4:i+1<=l.length+1:=by omega
 have hw2:IntKind.i64.wrap (((l.length+1:Nat):Int) - (i:Int))=((l.length+1 - i:Nat):Int):=by rw [my (by omega) (by omega)]; omega
 have hw1b:IntKind.i64.wrap ((l.length:Int)+1)=((l.length+1:Nat):Int):=hw1;have hw3:IntKind.i64.wrap ((i:Int)+((1:Nat):Int))=((i+1:Nat):Int):=by rw [my (by omega) (by omega)]; rfl
 have hw3b:IntKind.i64.wrap ((i:Int)+1)=((i+1:Nat):Int):=hw3;simp only [go_sem,seval,bH,bJ,bM,bK,hi1,hi2,h10,abI,hp,hf,hpD,ar.frzRows ok,ar.all ok,ar.allPlain ok,ar.allD ok,aK,gv,fb,bO,eP,fw,kz,ic,dt,aS,gH,Ext.all,ib,bA,abF,hw1,hw2,hw3,hw1b,hw3b,acB,ab2,abU,eh,bne_self_eq_false,acg,decide_not,abR,hlt0,hm1,hm2,hm3,hm4,aT,aO,ace];refine Kq rfl ?_;simp only [go_sem,seval,bH,bJ,bM,bK,hi1,hi2,h10,abI,hp,hf,hpD,ar.frzRows ok,ar.all ok,ar.allPlain ok,ar.allD ok,aK,gv,fb,bO,eP,fw,kz,ic,dt,aS,gH,Ext.all,ib,bA,abF,hw1,hw2,hw3,hw1b,hw3b,acB,ab2,abU,eh,bne_self_eq_false,acg,decide_not,abR,hlt0,hm1,hm2,hm3,hm4,aT,aO,ace];refine tM rfl (fun hc=>?_) (fun hc=>?_)
 ·have e:i=l.length:=by omega
  subst e;simp only [go_sem,seval,bH,bJ,bM,bK,hi1,hi2,h10,abI,hp,hf,hpD,ar.frzRows ok,ar.all ok,ar.allPlain ok,ar.allD ok,aK,gv,fb,bO,eP,fw,kz,ic,dt,aS,gH,Ext.all,ib,bA,abF,hw1,hw2,hw3,hw1b,hw3b,acB,ab2,abU,eh,bne_self_eq_false,acg,decide_not,abR,hlt0,hm1,hm2,hm3,hm4,aT,aO,ace,eD,gI,hsz];refine sI ok ?_;rw [hr];simp [ab3]
 ·have hc1:decide ((i:Int)=(l.length:Int))=false:=decide_eq_false hc;have hlt:i < l.length:=by omega
  simp only [go_sem,seval,bH,bJ,bM,bK,hi1,hi2,h10,abI,hp,hf,hpD,ar.frzRows ok,ar.all ok,ar.allPlain ok,ar.allD ok,aK,gv,fb,bO,eP,fw,kz,ic,dt,aS,gH,Ext.all,ib,bA,abF,hw1,hw2,hw3,hw1b,hw3b,acB,ab2,abU,eh,bne_self_eq_false,acg,decide_not,abR,hlt0,hm1,hm2,hm3,hm4,aT,aO,ace,hc1];refine tM rfl (fun hk=>?_) (fun hk=>?_)
  ·have hk1:decide (k < l.length+1)=true:=decide_eq_true hk;have hk2:k < i+(l.length+1 - i):=by omega
   have e1:i+(l.length+1 - i)=l.length+1:=by omega
   have hi3:(i:Int)<=((l.length+1:Nat):Int):=by omega
   have hi4:i<=l.length+1:=by omega
   obtain ⟨A,hA⟩:∃ A,List.map row (List.take i l)++List.replicate (l.length+1 - i) [C.val (Value.string ⟨#[]⟩),C.val (Value.string ⟨#[]⟩),C.val (Value.slice none 0 0)]=A:=⟨_,rfl⟩;have hAp:bX A:=by rw [<-hA]; exact j6 (gF ok _) (zS _ [Value.string ⟨#[]⟩,Value.string ⟨#[]⟩,Value.slice none 0 0] (by simp [Value.oneCell']))
   have hAl:A.length=l.length+1:=by rw [<-hA,ack,abJ,hlt0,abR]; omega
   obtain ⟨B,hB⟩:∃ B,aL A i [(row x)]=B:=⟨_,rfl⟩;have hBp:bX B:=by rw [<-hB]; exact gK hAp ⟨by simp [frzRows,hf],by simp [hpD]⟩
   have hBl:B.length=l.length+1:=by rw [<-hB]; simp [aL,hAl]; omega
   obtain ⟨D,hD⟩:∃ D,aL B (i+1) (List.map row (List.drop i l))=D:=⟨_,rfl⟩;have hDp:bX D:=by rw [<-hD]; exact gK hBp (gF ok _)
   have hDl:D.length=l.length+1:=by rw [<-hD]; simp [aL,hBl]; omega
   have hDe:D=(l.take i++[x]++l.drop i).map row:=by
    rw [<-hD,<-hB,<-hA,ado,ade,Nl (A:=l.map row) (n:=l.length) (by simp) hi2 (by simp)];simp
   simp only [go_sem,seval,bH,bJ,bM,bK,hi1,hi2,h10,abI,hp,hf,hpD,ar.frzRows ok,ar.all ok,ar.allPlain ok,ar.allD ok,aK,gv,fb,bO,eP,fw,kz,ic,dt,aS,gH,Ext.all,ib,bA,abF,hw1,hw2,hw3,hw1b,hw3b,acB,ab2,abU,eh,bne_self_eq_false,acg,decide_not,abR,hlt0,hm1,hm2,hm3,hm4,aT,aO,ace,hc1,hk1,hk,hk2,e1,hi3,hi4,hA,hAl,hAp.1,hAp.2,hB,hBp.1,hBp.2,hBl,hD,hDp.1,hDp.2,hsz];repeat' ((with_reducible refine gS ?_ ?_); kernel_rfl)
   simp only [go_sem,seval,bH,bJ,bM,bK,hi1,hi2,h10,abI,hp,hf,hpD,ar.frzRows ok,ar.all ok,ar.allPlain ok,ar.allD ok,aK,gv,fb,bO,eP,fw,kz,ic,dt,aS,gH,Ext.all,ib,bA,abF,hw1,hw2,hw3,hw1b,hw3b,acB,ab2,abU,eh,bne_self_eq_false,acg,decide_not,abR,hlt0,hm1,hm2,hm3,hm4,aT,aO,ace,eD,gI,hDp.1,hDp.2,hD];refine sI ok ?_;rw [hr,<-hDe,<-hDl,adC]
  ·have hk1:decide (k < l.length+1)=false:=decide_eq_false hk;have hk2:¬ k < i+(l.length+1 - i):=by omega
   have hk3:l.length+1<=k:=by omega
   have e2:l.length+1 - l.length=1:=by omega
   have e3:l.length<=l.length+1:=by omega
   have hi3:(i:Int)<=((l.length+1:Nat):Int):=by omega
   have hi4:i<=l.length+1:=by omega
   have hne:¬ l.length+1 - (i+1)=0:=by omega
   have hne2:¬ l.length - i=0:=by omega
   obtain ⟨A,hA⟩:∃ A,List.map row l++[[C.dead,C.dead,C.dead]]=A:=⟨_,rfl⟩;have hAp:bX A:=by rw [<-hA]; exact j6 (gF ok _) (Dw 1 3)
   have hAl:A.length=l.length+1:=by rw [<-hA]; simp
   have hm5:min (l.length+1 - i) (l.length+1 - (i+1))=l.length - i:=by omega
   have hm5b:min (l.length+1 - i) (l.length - i)=l.length - i:=by omega
   obtain ⟨A2,hA2⟩:∃ A2,(A.drop i).take (l.length - i)=A2:=⟨_,rfl⟩;have hA2e:A2=List.map row (l.drop i):=by
    rw [<-hA2,<-hA,adV,abJ,show i - l.length=0 by omega,ada,adn,ab3 (by simp),show l.length - i - (List.drop i (List.map row l)).length=0 by simp];simp [ade]
   have hA2p:(A2.all fun r=>r.all Abs.plainCell)=true:=by rw [hA2e]; exact ok.allPlain _
   have hA2f:frzRows A2=A2:=by rw [hA2e]; exact ok.frzRows _
   have hA2d:bX A2:=by rw [hA2e]; exact gF ok _
   obtain ⟨B,hB⟩:∃ B,aL A (i+1) A2=B:=⟨_,rfl⟩;have hBp:bX B:=by rw [<-hB]; exact gK hAp hA2d
   have hBl:B.length=l.length+1:=by rw [<-hB]; simp [aL,hAl,hA2e]; omega
   obtain ⟨D,hD⟩:∃ D,aL B i [(row x)]=D:=⟨_,rfl⟩;have hDp:bX D:=by rw [<-hD]; exact gK hBp ⟨by simp [frzRows,hf],by simp [hpD]⟩
   have hDl:D.length=l.length+1:=by rw [<-hD]; simp [aL,hBl]; omega
   have hDe:D=(l.take i++[x]++l.drop i).map row:=by
    rw [<-hD,<-hB,<-hA2,<-hA,Kl (A:=l.map row) (n:=l.length) (by simp) hi2];simp [ado,ade]
   simp only [go_sem,seval,bH,bJ,bM,bK,hi1,hi2,h10,abI,hp,hf,hpD,ar.frzRows ok,ar.all ok,ar.allPlain ok,ar.allD ok,aK,gv,fb,bO,eP,fw,kz,ic,dt,aS,gH,Ext.all,ib,bA,abF,hw1,hw2,hw3,hw1b,hw3b,acB,ab2,abU,eh,bne_self_eq_false,acg,decide_not,abR,hlt0,hm1,hm2,hm3,hm4,aT,aO,ace,hc1,hk1,hk,hk2,hk3,e2,e3,hi3,hi4,hne,hne2,hA,hAl,hAp.1,hAp.2,hes,hA2,hA2p,hA2f,hB,hBp.1,hBp.2,hBl,hD,hDp.1,hDp.2,hDl,hm5,hm5b];refine Kx rfl ?_;simp only [go_sem,seval,bH,bJ,bM,bK,hi1,hi2,h10,abI,hp,hf,hpD,ar.frzRows ok,ar.all ok,ar.allPlain ok,ar.allD ok,aK,gv,fb,bO,eP,fw,kz,ic,dt,aS,gH,Ext.all,ib,bA,abF,hw1,hw2,hw3,hw1b,hw3b,acB,ab2,abU,eh,bne_self_eq_false,acg,decide_not,abR,hlt0,hm1,hm2,hm3,hm4,aT,aO,ace,hc1,hk1,hk,hk2,hk3,e2,e3,hi3,hi4,hne,hne2,hA,hAl,hAp.1,hAp.2,hes,hA2,hA2p,hA2f,hB,hBp.1,hBp.2,hBl,hD,hDp.1,hDp.2,hDl,hm5,hm5b];repeat' ((with_reducible refine gS ?_ ?_); kernel_rfl)
   simp only [go_sem,seval,bH,bJ,bM,bK,hi1,hi2,h10,abI,hp,hf,hpD,ar.frzRows ok,ar.all ok,ar.allPlain ok,ar.allD ok,aK,gv,fb,bO,eP,fw,kz,ic,dt,aS,gH,Ext.all,ib,bA,abF,hw1,hw2,hw3,hw1b,hw3b,acB,ab2,abU,eh,bne_self_eq_false,acg,decide_not,abR,hlt0,hm1,hm2,hm3,hm4,aT,aO,ace,eD,gI,hDp.1,hDp.2,hD,hDl];refine sI ok ?_;rw [hr,<-hDe,<-hDl,adC]
theorem OB (N:Nat) (a0:List aa) (a1:Int) (a2:List aa) (r:List aa) (h:bR N a0 a1 a2=some r) :
  Con Tryz.prog 66 [true,false,true] false [sO 3 (a0.map aa.row),vI a1,sO 3 (a2.map aa.row)] (sO 3 (r.map aa.row)):=by
 unfold bR at h;obtain ⟨n,x,rfl,rfl,h1,h2,h3⟩:=Bl h;exact Jg fun k hk1 hk2=>tq aa.row aa.row_ok a0 n x k r (aco h3).symm h1 h2 (by simpa using hk1) hk2
theorem yM {N:Nat} {a0:List aa} {a1:Int} {x:aa} {r:List aa} (h:bR N a0 a1 [x]=some r):r[a1.toNat]?=some x:=by
 unfold bR at h;obtain ⟨n,y,rfl,hy,h1,h2,h3⟩:=Bl h;obtain rfl:x=y:=by simpa using hy
 obtain rfl:=aco h3;rw [abX,acx,abO (by simp only [acJ]; omega)];simp only [acJ,aeb h1,adI,acV,abE]
theorem Bm (N:Nat) (a0:List aa) (a1:Int) (a2:List aa) (r:List aa) (h:bR N a0 a1 a2=some r) :
  Con Tryz.prog 66 [true,false,true] false [sO 3 (a0.map aa.rowD),vI a1,sO 3 (a2.map aa.rowN)] (sO 3 ((r.map aa.rowD).set a1.toNat ((a2.map aa.rowN).headD []))):=by
 unfold bR at h;obtain ⟨n,x,rfl,rfl,h1,h2,h3⟩:=Bl h;obtain rfl:=aco h3;have e2:((a0.take n++[x]++a0.drop n).map aa.rowD).set n (aa.rowN x)=(a0.map aa.rowD).take n++[aa.rowN x]++(a0.map aa.rowD).drop n:=by
  simp only [ab4,acT,adH,acx];rw [<-ado,<-ade,ae8 _ _ (by simp only [abJ,acJ]; omega)];simp only [abJ,acJ,aeb h1,adI,acV,abS,afo]
 have:=Vo (P:=Tryz.prog) (f:=66) (es:=3) (by1:=56) (fun α row ok l i x k r a b c d e=>tq row ok l i x k r a b c d e) (A:=a0.map aa.rowD) (rx:=aa.rowN x) (i:=n) (by simpa using h1) (by simpa using h2) (fun row hr c hc=>by obtain ⟨y,_,rfl⟩:=ab9.1 hr; simp only [aa.rowD,ab7,ac2,or_false] at hc; rcases hc with rfl|rfl|rfl<;>rfl) (fun c hc=>by simp only [aa.rowN,ab7,ac2,or_false] at hc; rcases hc with rfl|rfl|rfl<;>rfl)
 rw [<-e2] at this;exact this
def dP (N:Nat):FnS:={ own:=[true,false,true],pure:=false,fn:=fun cs=>match cs with
 | [c0,c1,c2]=>(exL 3 aa.decE c0).bind fun q0=>(aG .i64 c1).bind fun q1=>(vL 3 aa.decN c2).bind fun q2=>(bR N q0 q1 q2).map fun r=>sO 3 ((r.map aa.rowD).set q1.toNat ((q2.map aa.rowN).headD []))
 | _=>none }
theorem yW (N:Nat):(dP N).own=[true,false,true]:=rfl
theorem w6 (N:Nat):(dP N).pure=false:=rfl
theorem yo (N:Nat):(dP N).peek=false:=rfl
attribute [go_sem] dP yW w6 yo List.headD_cons aa.rowN aa.decN
theorem zk (N:Nat):aC Tryz.prog 66 (dP N):=by
 refine ⟨fun cs r h=>?_,fun h=>by cases h⟩;simp only [dP] at h;split at h
 ·simp only [abC,abB] at h;obtain ⟨q0,h0,q1,h1,q2,h2,r',hr,rfl⟩:=h;obtain rfl:=TJ aa.decE_eq h0;exact (Bm N q0 q1 q2 r' hr).argsO rfl (jW ⟨ROk.refl _,fun _ h=>h⟩ (rG (bN h1) (jW (qq aa.rowN_ok aa.decN_le h2) oD)))
 ·cases h


@[go_sem] noncomputable def TC (N d f:Nat):Option FnS:=ay [(19,23,mu N),(23,60,vC N),(28,61,mq N),(35,24,Ej N),(47,62,AP N),(52,59,qu N),(57,40,ia N),(67,63,sm N),(77,64,gM N),(89,66,dP N),(135,67,qB N)] d f
theorem SA (N:Nat) (a0:ae) (a1:Int) (a2:(List Value)) (a3:Value) (r:ae × Int) (h:lN N a0 a1 a2 a3=some r):Con Tryz.prog 26 [] false [.agg (ae.row a0),vI a1,sF 5 (a2.map Value.row),.agg (Value.row a3)] (.tup [.agg [sO 11 (r.1.Txns.map Txn.row),sO 4 (r.1.Locks.map ai.row),sO 3 (r.1.Stacks.map aa.rowD)],vI r.2]):=by
 refine fk (G:=(TC N)) Tryz.func26 (gc 19 (kL N) (gc 23 (ze N) (gc 28 (mJ N) (gc 35 (FE N) (gc 47 (Ci N) (gc 52 (pE N) (gc 57 (fH N) (gc 67 (tY N) (gc 77 (rD N) (gc 89 (zk N) (gc 135 (sr N) gn))))))))))) ?_;simp only [Tryz.f26];unfold lN at h;refine z0 ?_;refine aM ?_;apply aW (fun (c9:Bool)=>⟨tab 139 (af (af (af (af (af (af av 1 (vI a1)) 2 (sF 5 (a2.map Value.row))) 4 (pF 4)) 7 (pF 7)) 8 (pF 8)) 30 (vB c9)),(upd (upd (upd RZ 4 (vA 3 (ae.row a0))) 7 (vA 5 (Value.row a3))) 8 (vA 3 [.val (.slice none 0 0),.val (.slice none 0 0),.val (.slice none 0 0)]))⟩)
 ·intro hJ1;obtain ⟨r10,hr2,h⟩:=bI h;refine iBs h (fun hc3 h=>?_) fun hc3 h=>?_
  ·refine z1 (k2 hr2 hc3) ?_;refine hJ1 _ true ?_ h;exact wR
  obtain ⟨r11,hr4,h⟩:=bI h;refine iBs h (fun hc5 h=>?_) fun hc5 h=>?_
  ·refine z1 (k4 hr2 hc3 hr4 hc5) ?_;refine hJ1 _ true ?_ h;exact wR
  obtain ⟨r12,hr6,h⟩:=bI h;refine z1 (k5 hr2 hc3 hr4 hc5 hr6) ?_;refine hJ1 _ (!r12) ?_ h;exact wR
 intro c9 h;unfold ym at h;refine cB h (fun hc7 h=>?_) fun hc7 h=>?_
 ·refine z1 hc7 ?_;exact f0 h
 refine bf (pp ?_);unfold rM at h;obtain ⟨r13,hr8,h⟩:=bI h;refine z1 (k2 hc7 hr8) ?_;refine z0 ?_;refine cM h (fun hc9 h=>?_) fun hc9 h=>?_
 ·refine z1 hc9 ?_;exact f0 h
 obtain ⟨r14,hr10,h⟩:=bI h;refine z1 (k2 hc9 hr10) ?_;refine cN h (fun hc11 hc11d h=>?_) fun hc11 hc11d h=>?_
 ·refine z1 hc11d ?_;exact f0 h
 obtain ⟨r15,hr12,h⟩:=bI h;refine z1 (k2 hc11d hr12) ?_;obtain ⟨r16,hr13,h⟩:=bI h;obtain ⟨x17,hb14,hx15,h⟩:=aH h;refine d1 (k2 hr13 hb14) ?_;obtain ⟨r18,hr16,h⟩:=bI h;have hx18:=kX (y:=(Txn.mk x17.ID x17.Born x17.Client x17.Seq x17.Calls (IntKind.i64.wrap (x17.Done+1)) x17.Last)) hx15;have hx20:=kX (y:=(Txn.mk x17.ID x17.Born x17.Client x17.Seq x17.Calls (IntKind.i64.wrap (x17.Done+1)) r18)) hx15;refine d1 (k5 hx15 hr16 (mm2 (row:=Txn.row) (y:=(Txn.mk x17.ID x17.Born x17.Client x17.Seq x17.Calls (IntKind.i64.wrap (x17.Done+1)) x17.Last)) (rx:=[vI x17.ID,vI x17.Born,vS x17.Client,vI x17.Seq,sF 4 (x17.Calls.map ah.row),vI x17.Done,vI x17.Last.Kind,vI x17.Last.N,vS x17.Last.S,sF 1 (x17.Last.I.map (aA .i64)),sF 1 (x17.Last.L.map ey)]) (ry:=[vI x17.ID,vI x17.Born,vS x17.Client,vI x17.Seq,sF 4 (x17.Calls.map ah.row),vI (IntKind.i64.wrap (x17.Done+1)),vI x17.Last.Kind,vI x17.Last.N,vS x17.Last.S,sF 1 (x17.Last.I.map (aA .i64)),sF 1 (x17.Last.L.map ey)]) hx15 rfl rfl) hx18 (mm3 (row:=Txn.row) (y0:=(Txn.mk x17.ID x17.Born x17.Client x17.Seq x17.Calls (IntKind.i64.wrap (x17.Done+1)) x17.Last)) (y:=(Txn.mk x17.ID x17.Born x17.Client x17.Seq x17.Calls (IntKind.i64.wrap (x17.Done+1)) r18)) (rx:=[vI x17.ID,vI x17.Born,vS x17.Client,vI x17.Seq,sF 4 (x17.Calls.map ah.row),vI (IntKind.i64.wrap (x17.Done+1)),vI x17.Last.Kind,vI x17.Last.N,vS x17.Last.S,sF 1 (x17.Last.I.map (aA .i64)),sF 1 (x17.Last.L.map ey)]) (ry:=[vI x17.ID,vI x17.Born,vS x17.Client,vI x17.Seq,sF 4 (x17.Calls.map ah.row),vI (IntKind.i64.wrap (x17.Done+1)),vI r18.Kind,vI r18.N,vS r18.S,sF 1 (r18.I.map (aA .i64)),sF 1 (r18.L.map ey)]) hx15 rfl rfl)) ?_;obtain ⟨r19,hr21,h⟩:=bI h;refine z1 hr21 ?_;apply aW (fun (l21:List aa)=>⟨tab 139 (af (af (af (af (af av 1 (vI a1)) 2 (sF 5 (a2.map Value.row))) 8 (pF 8)) 12 (pF 12)) 14 (vI r19.1)),(upd (upd RZ 8 (vA 3 [.val (.slice none 0 0),.val (.slice none 0 0),.val (.slice none 0 0)])) 12 (vA 3 [sO 11 ((r15.Txns.set ((r16).toNat) (Txn.mk x17.ID x17.Born x17.Client x17.Seq x17.Calls (IntKind.i64.wrap (x17.Done+1)) r18)).map Txn.row),sO 4 (r15.Locks.map ai.row),sO 3 (l21.map aa.rowD)]))⟩)
 ·intro hJ22;refine z0 ?_;refine cMs h (fun hc23 h=>?_) fun hc23 h=>?_
  ·refine bf (pp (hJ22 _ r15.Stacks ?_ h));exact wR
  obtain ⟨r22,hr24,h⟩:=bI h;have hx25:=yM hr24;refine z1 (k2 hc23 hr24) ?_;refine mT (NG 12 [(0,2),((r19.1).toNat,2)] 3 (by simp only [go_sem,seval,yU (row:=aa.rowD) _ hx25]) (by simp only [go_sem,seval,yG (row:=aa.rowD) hx25 rfl]; try rfl)) (mT (zg (n:=12) (c':=vA 3 [sO 11 ((r15.Txns.set ((r16).toNat) (Txn.mk x17.ID x17.Born x17.Client x17.Seq x17.Calls (IntKind.i64.wrap (x17.Done+1)) r18)).map Txn.row),sO 4 (r15.Locks.map ai.row),sO 3 (r22.map aa.rowD)]) (by simp only [go_sem,seval]; rfl) (by simp only [UA (row:=aa.rowD) (rc:=[vS r13.1.Target.Type_,vS r13.1.Target.Key,sO 3 []]) hx25 rfl])) (hJ22 _ r22 ?_ h));exact wR
 intro l21 h;unfold rK at h;obtain ⟨x23,hb26,hx27,h⟩:=aH h;refine z1 hb26 ?_;refine z1 hx27 ?_;apply Dv (fun (l28:List aa) (v29:Int)=>⟨tab 139 (af (af (af (af (af av 2 (sF 5 (a2.map Value.row))) 8 (pF 8)) 12 (pF 12)) 16 (.pref 12 [(0,2)] ((r19.1).toNat) 0)) 17 (vI v29)),(upd (upd RZ 8 (vA 3 [.val (.slice none 0 0),.val (.slice none 0 0),.val (.slice none 0 0)])) 12 (vA 3 [sO 11 ((r15.Txns.set ((r16).toNat) (Txn.mk x17.ID x17.Born x17.Client x17.Seq x17.Calls (IntKind.i64.wrap (x17.Done+1)) r18)).map Txn.row),sO 4 (r15.Locks.map ai.row),sO 3 (l28.map aa.rowD)]))⟩)
 ·intro hJ28;apply aW (fun (c31:Bool)=>⟨tab 139 (af (af (af (af (af (af (af av 1 (vI a1)) 2 (sF 5 (a2.map Value.row))) 8 (pF 8)) 12 (pF 12)) 16 (.pref 12 [(0,2)] ((r19.1).toNat) 0)) 17 (vI (x23.Layers.length:Int))) 114 (vB c31)),(upd (upd RZ 8 (vA 3 [.val (.slice none 0 0),.val (.slice none 0 0),.val (.slice none 0 0)])) 12 (vA 3 [sO 11 ((r15.Txns.set ((r16).toNat) (Txn.mk x17.ID x17.Born x17.Client x17.Seq x17.Calls (IntKind.i64.wrap (x17.Done+1)) r18)).map Txn.row),sO 4 (r15.Locks.map ai.row),sO 3 (l21.map aa.rowD)]))⟩)
  ·intro hJ29;refine iD h (fun hc30 hc30d h=>?_) fun hc30 hc30d h=>?_
   ·refine z1 hc30d ?_;refine hJ29 _ true ?_ h;exact wR
   obtain ⟨x32,hb31,hx32,h⟩:=aH h;refine z1 (k4 hx27 hc30d hb31 hx32) ?_;refine hJ29 _ (!decide (x32.Txn_=a1)) ?_ h;exact wR
  intro c31 h;unfold uM at h;refine cBs h (fun hc33 h=>?_) fun hc33 h=>?_
  ·refine bf (pp (hJ28 _ l21 (x23.Layers.length:Int) ?_ h));exact wR
  obtain ⟨ha34,h⟩:=eN h;simp only [abW,acm,acv,Nat.reduceAdd] at ha34;refine z1 (k5 hx27 hc33 ha34 (ov1 (row:=aa.rowD) (rx:=[vS x23.Actor.Type_,vS x23.Actor.Key,sO 3 (x23.Layers.map al.row)]) hx27 rfl) (k2 (ov2 (row:=aa.rowD) hx27) (ov3 (row:=aa.rowD) hx27))) ?_;refine mT (Ef 12 [(0,2),((r19.1).toNat,2),(x23.Layers.length,1)] 5 (by simp only [go_sem,seval,yU (row:=aa.rowD) _ hx27,Uk]) (by simp only [go_sem,seval,yG (row:=aa.rowD) hx27 rfl,UK]; try rfl)) (hJ28 _ (l21.set ((r19.1).toNat) (aa.mk x23.Actor (x23.Layers++[(al.mk a1 [] false)]))) (IntKind.i64.wrap ((x23.Layers.length:Int)+1)) ?_ h);refine bm.trans (zg (n:=12) (c':=vA 3 [sO 11 ((r15.Txns.set ((r16).toNat) (Txn.mk x17.ID x17.Born x17.Client x17.Seq x17.Calls (IntKind.i64.wrap (x17.Done+1)) r18)).map Txn.row),sO 4 (r15.Locks.map ai.row),sO 3 ((l21.set ((r19.1).toNat) (aa.mk x23.Actor (x23.Layers++[(al.mk a1 [] false)]))).map aa.rowD)]) (by simp only [go_sem,seval]; rfl) (by first|(simp only [oR (row:=aa.rowD) (l:=l21) (i:=((r19.1).toNat)) (y:=(aa.mk x23.Actor (x23.Layers++[(al.mk a1 [] false)]))) (rc:=[vS x23.Actor.Type_,vS x23.Actor.Key,sO 3 ((x23.Layers++[(al.mk a1 [] false)]).map al.row)]) rfl]; done)|(simp only [oR (row:=aa.rowD) (l:=l21) (i:=((r19.1).toNat)) (y:=(aa.mk x23.Actor (x23.Layers++[(al.mk a1 [] false)]))) (rc:=[vS x23.Actor.Type_,vS x23.Actor.Key,sO 3 ((x23.Layers++[(al.mk a1 [] false)]).map al.row)]) rfl,ab4,acT,adH]<;>rfl)|(rw [<-oR (row:=aa.rowD) (l:=l21) (i:=((r19.1).toNat)) (y:=(aa.mk x23.Actor (x23.Layers++[(al.mk a1 [] false)]))) (rc:=[vS x23.Actor.Type_,vS x23.Actor.Key,sO 3 ((x23.Layers++[(al.mk a1 [] false)]).map al.row)]) rfl]; simp only [ab4,acT,adH]<;>rfl))) (bm.trans (wi (n:=122) ([[vI a1,sF 5 [],vB false]]) (by (try simp only [go_sem]); rfl) (by simp only [go_sem,seval]; rfl) (by simp only [jF,iI,go_sem]; rfl)) ?_)
  exact wR
 intro l28 v29 h;unfold ya at h;obtain ⟨x33,hb35,hx36,h⟩:=aH h;obtain ⟨r34,hr37,h⟩:=bI h;obtain ⟨x35,hb38,hx39,h⟩:=aH h;have hx41:=kX (y:=(al.mk x35.Txn_ r34 x35.Prepared)) hx39;refine d1 (k5 hx36 hr37 hb38 hx39 (k2 (mm2 (row:=al.row) (y:=(al.mk x35.Txn_ r34 x35.Prepared)) (rx:=[vI x35.Txn_,sF 5 (x35.Fields.map Value.row),vB x35.Prepared]) (ry:=[vI x35.Txn_,sF 5 (r34.map Value.row),vB x35.Prepared]) hx39 rfl rfl) (ov1 (row:=aa.rowD) (rx:=[vS x33.Actor.Type_,vS x33.Actor.Key,sO 3 (x33.Layers.map al.row)]) hx36 rfl))) ?_;refine aM ?_;refine mT (zg (n:=12) (c':=vA 3 [sO 11 ((r15.Txns.set ((r16).toNat) (Txn.mk x17.ID x17.Born x17.Client x17.Seq x17.Calls (IntKind.i64.wrap (x17.Done+1)) r18)).map Txn.row),sO 4 (r15.Locks.map ai.row),sO 3 ((l28.set ((r19.1).toNat) (aa.mk x33.Actor (x33.Layers.set ((IntKind.i64.wrap (v29 - 1)).toNat) (al.mk x35.Txn_ r34 x35.Prepared)))).map aa.rowD)]) (by simp only [go_sem,seval]; rfl) (by first|(simp only [oR (row:=aa.rowD) (l:=l28) (i:=((r19.1).toNat)) (y:=(aa.mk x33.Actor (x33.Layers.set ((IntKind.i64.wrap (v29 - 1)).toNat) (al.mk x35.Txn_ r34 x35.Prepared)))) (rc:=[vS x33.Actor.Type_,vS x33.Actor.Key,sO 3 ((x33.Layers.set ((IntKind.i64.wrap (v29 - 1)).toNat) (al.mk x35.Txn_ r34 x35.Prepared)).map al.row)]) rfl]; done)|(simp only [oR (row:=aa.rowD) (l:=l28) (i:=((r19.1).toNat)) (y:=(aa.mk x33.Actor (x33.Layers.set ((IntKind.i64.wrap (v29 - 1)).toNat) (al.mk x35.Txn_ r34 x35.Prepared)))) (rc:=[vS x33.Actor.Type_,vS x33.Actor.Key,sO 3 ((x33.Layers.set ((IntKind.i64.wrap (v29 - 1)).toNat) (al.mk x35.Txn_ r34 x35.Prepared)).map al.row)]) rfl,ab4,acT,adH]<;>rfl)|(rw [<-oR (row:=aa.rowD) (l:=l28) (i:=((r19.1).toNat)) (y:=(aa.mk x33.Actor (x33.Layers.set ((IntKind.i64.wrap (v29 - 1)).toNat) (al.mk x35.Txn_ r34 x35.Prepared)))) (rc:=[vS x33.Actor.Type_,vS x33.Actor.Key,sO 3 ((x33.Layers.set ((IntKind.i64.wrap (v29 - 1)).toNat) (al.mk x35.Txn_ r34 x35.Prepared)).map al.row)]) rfl]; simp only [ab4,acT,adH]<;>rfl))) (z0 ?_)
 exact f0 h
@[go_sem] def AY (N:Nat):FnS:=⟨[],false,fn4 ae.decA (aG .i64) (aJ 5 Value.dec) Value.decA fun q0 q1 q2 q3=>(lN N q0 q1 q2 q3).map fun r=>.tup [.agg (ae.row r.1),vI r.2],false⟩
theorem AJ (N:Nat):aC Tryz.prog 26 (AY N):=om4 fun q0 q1 q2 q3 r h=>rs (SA N q0 q1 q2 q3 r h)

@[go_sem] noncomputable def LW (N d f:Nat):Option FnS:=ay [(12,116,lD N),(16,124,pU N),(21,125,sj N),(27,126,yA N),(43,117,kF N),(45,120,j3 N)] d f
theorem Mx (N:Nat) (a0:(List ai)) (a1:Ref) (a2:Int) (r:(List ai) × Int × Int) (h:mW N a0 a1 a2=some r):Con Tryz.prog 70 [] false [sF 4 (a0.map ai.row),.agg [vS a1.Type_,vS a1.Key],vI a2] (.tup [sO 4 (r.1.map ai.row),vI r.2.1,vI r.2.2]):=by
 refine fk (G:=(LW N)) Tryz.func70 (gc 12 (kU N) (gc 16 (rN N) (gc 21 (tU N) (gc 27 (yX N) (gc 43 (kn N) (gc 45 (Cj N) gn)))))) ?_;simp only [Tryz.f70];unfold mW at h;refine z0 ?_;refine aM ?_;apply aW (fun (c9:Bool)=>⟨tab 50 (af (af (af (af av 0 (sF 4 (a0.map ai.row))) 2 (vI a2)) 4 (pF 4)) 23 (vB c9)),(upd RZ 4 (vA 2 [vS a1.Type_,vS a1.Key]))⟩)
 ·intro hJ1;obtain ⟨r10,hr2,h⟩:=bI h;refine iBs h (fun hc3 h=>?_) fun hc3 h=>?_
  ·refine z1 (k2 hr2 hc3) ?_;refine hJ1 _ true ?_ h;exact wR
  obtain ⟨r11,hr4,h⟩:=bI h;refine iBs h (fun hc5 h=>?_) fun hc5 h=>?_
  ·refine z1 (k4 hr2 hc3 hr4 hc5) ?_;refine hJ1 _ true ?_ h;exact wR
  obtain ⟨r12,hr6,h⟩:=bI h;refine z1 (k5 hr2 hc3 hr4 hc5 hr6) ?_;refine hJ1 _ (!r12) ?_ h;exact wR
 intro c9 h;unfold pc at h;refine cB h (fun hc7 h=>?_) fun hc7 h=>?_
 ·refine z1 hc7 ?_;exact f0 h
 refine bf (pp ?_);unfold pH at h;obtain ⟨r13,hr8,h⟩:=bI h;refine z1 (k2 hc7 hr8) ?_;refine aM ?_;apply aW (fun (c18:Bool)=>⟨tab 50 (af (af (af av 0 (sF 4 (a0.map ai.row))) 9 (vI r13.1)) 40 (vB c18)),RZ⟩)
 ·intro hJ9;refine iBs h (fun hc10 h=>?_) fun hc10 h=>?_
  ·refine z1 hc10 ?_;refine hJ9 _ true ?_ h;exact wR
  obtain ⟨x19,hb11,hx12,h⟩:=aH h;refine z1 (k3 hc10 hb11 hx12) ?_;refine hJ9 _ (!decide (x19.Owner=a2)) ?_ h;exact wR
 intro c18 h;unfold lL at h;refine cB h (fun hc13 h=>?_) fun hc13 h=>?_
 ·refine z1 hc13 ?_;exact f0 h
 refine bf (pp ?_);unfold tC at h;obtain ⟨r20,hr14,h⟩:=bI h;obtain ⟨r21,hr15,h⟩:=bI h;refine z1 (k3 hc13 hr14 hr15) ?_;refine z0 ?_;exact f0 h
@[go_sem] def Cf (N:Nat):FnS:=⟨[],false,fn3 (aJ 4 ai.dec) Ref.decA (aG .i64) fun q0 q1 q2=>(mW N q0 q1 q2).map fun r=>.tup [sO 4 (r.1.map ai.row),vI r.2.1,vI r.2.2],false⟩
theorem F9 (N:Nat):aC Tryz.prog 70 (Cf N):=om3 (Mx N)


@[go_sem] noncomputable def OC (N d f:Nat):Option FnS:=ay [(14,23,mu N),(19,40,ia N),(30,68,AK N),(53,69,s6 N),(60,59,qu N),(65,46,vl N),(80,70,Cf N)] d f
theorem Oa (N:Nat) (a0:ae) (a1:Int) (a2:Ref) (r:ae × Int) (h:gE N a0 a1 a2=some r):Con Tryz.prog 27 [] false [.agg (ae.row a0),vI a1,.agg [vS a2.Type_,vS a2.Key]] (.tup [.agg [sF 11 (r.1.Txns.map Txn.row),sO 4 (r.1.Locks.map ai.row),sF 3 (r.1.Stacks.map aa.row)],vI r.2]):=by
 refine fk (G:=(OC N)) Tryz.func27 (gc 14 (kL N) (gc 19 (fH N) (gc 30 (Ck N) (gc 53 (qX N) (gc 60 (pE N) (gc 65 (u4 N) (gc 80 (F9 N) gn))))))) ?_;simp only [Tryz.f27];unfold gE at h;refine z0 ?_;obtain ⟨r1,hr1,h⟩:=bI h;refine z1 hr1 ?_;refine cM h (fun hc2 h=>?_) fun hc2 h=>?_
 ·refine z1 hc2 ?_;exact f0 h
 obtain ⟨r2,hr3,h⟩:=bI h;refine z1 (k2 hc2 hr3) ?_;refine aM ?_;apply aW (fun (c9:Bool)=>⟨tab 86 (af (af (af (af (af (af av 1 (vI a1)) 3 (pF 3)) 5 (pF 5)) 6 (pF 6)) 8 (vI r2)) 32 (vB c9)),(upd (upd (upd RZ 3 (vA 3 (ae.row a0))) 5 (vA 2 [vS a2.Type_,vS a2.Key])) 6 (vA 3 [.val (.slice none 0 0),.val (.slice none 0 0),.val (.slice none 0 0)]))⟩)
 ·intro hJ4;refine iD h (fun hc5 hc5d h=>?_) fun hc5 hc5d h=>?_
  ·refine d1 hc5d ?_;refine hJ4 _ true ?_ h;exact wR
  obtain ⟨x10,hb6,hx7,h⟩:=aH h;obtain ⟨r11,hr8,h⟩:=bI h;refine d1 (k4 hc5d hb6 hx7 hr8) ?_;refine hJ4 _ (!r11) ?_ h;exact wR
 intro c9 h;unfold jr at h;refine cB h (fun hc9 h=>?_) fun hc9 h=>?_
 ·refine z1 hc9 ?_;exact f0 h
 refine bf (pp ?_);unfold lP at h;obtain ⟨x12,hb10,hx11,h⟩:=aH h;refine d1 (k3 hc9 hb10 hx11) ?_;refine cD h (fun hc12 hc12d h=>?_) fun hc12 hc12d h=>?_
 ·refine z1 hc12d ?_;exact f0 h
 obtain ⟨r13,hr13,h⟩:=bI h;refine z1 (k2 hc12d hr13) ?_;refine z0 ?_;refine cB h (fun hc14 h=>?_) fun hc14 h=>?_
 ·refine z1 hc14 ?_;exact f0 h
 obtain ⟨r14,hr15,h⟩:=bI h;refine z1 (k2 hc14 hr15) ?_;obtain ⟨r15,hr16,h⟩:=bI h;obtain ⟨x16,hb17,hx18,h⟩:=aH h;refine d1 (k3 hr16 hb17 hx18) ?_;obtain ⟨x17,hb19,hx20,h⟩:=aH h;have hx22:=kX (y:=(al.mk x17.Txn_ x17.Fields true)) hx20;refine z1 (k5 hx18 hb19 hx20 (mm2 (row:=al.row) (y:=(al.mk x17.Txn_ x17.Fields true)) (rx:=[vI x17.Txn_,sF 5 (x17.Fields.map Value.row),vB x17.Prepared]) (ry:=[vI x17.Txn_,sF 5 (x17.Fields.map Value.row),vB true]) hx20 rfl rfl) (ov1 (row:=aa.rowD) (rx:=[vS x16.Actor.Type_,vS x16.Actor.Key,sO 3 (x16.Layers.map al.row)]) hx18 rfl)) ?_;refine aM ?_;refine mT (zg (n:=11) (c':=vA 3 [sO 11 (r14.Txns.map Txn.row),sO 4 (r14.Locks.map ai.row),sO 3 ((r14.Stacks.set ((r15).toNat) (aa.mk x16.Actor (x16.Layers.set ((IntKind.i64.wrap ((x16.Layers.length:Int) - 1)).toNat) (al.mk x17.Txn_ x17.Fields true)))).map aa.rowD)]) (by simp only [go_sem,seval]; rfl) (by first|(simp only [oR (row:=aa.rowD) (l:=r14.Stacks) (i:=((r15).toNat)) (y:=(aa.mk x16.Actor (x16.Layers.set ((IntKind.i64.wrap ((x16.Layers.length:Int) - 1)).toNat) (al.mk x17.Txn_ x17.Fields true)))) (rc:=[vS x16.Actor.Type_,vS x16.Actor.Key,sO 3 ((x16.Layers.set ((IntKind.i64.wrap ((x16.Layers.length:Int) - 1)).toNat) (al.mk x17.Txn_ x17.Fields true)).map al.row)]) rfl]; done)|(simp only [oR (row:=aa.rowD) (l:=r14.Stacks) (i:=((r15).toNat)) (y:=(aa.mk x16.Actor (x16.Layers.set ((IntKind.i64.wrap ((x16.Layers.length:Int) - 1)).toNat) (al.mk x17.Txn_ x17.Fields true)))) (rc:=[vS x16.Actor.Type_,vS x16.Actor.Key,sO 3 ((x16.Layers.set ((IntKind.i64.wrap ((x16.Layers.length:Int) - 1)).toNat) (al.mk x17.Txn_ x17.Fields true)).map al.row)]) rfl,ab4,acT,adH]<;>rfl)|(rw [<-oR (row:=aa.rowD) (l:=r14.Stacks) (i:=((r15).toNat)) (y:=(aa.mk x16.Actor (x16.Layers.set ((IntKind.i64.wrap ((x16.Layers.length:Int) - 1)).toNat) (al.mk x17.Txn_ x17.Fields true)))) (rc:=[vS x16.Actor.Type_,vS x16.Actor.Key,sO 3 ((x16.Layers.set ((IntKind.i64.wrap ((x16.Layers.length:Int) - 1)).toNat) (al.mk x17.Txn_ x17.Fields true)).map al.row)]) rfl]; simp only [ab4,acT,adH]<;>rfl))) (mT (Pk (n:=11) (by simp only [go_sem,seval]; rfl) (by simp only [jF,iI,go_sem]; rfl)) ?_)
 obtain ⟨r18,hr23,h⟩:=bI h;refine z1 hr23 ?_;refine z0 ?_;exact f0 h
@[go_sem] def wo (N:Nat):FnS:=⟨[],false,fn3 ae.decA (aG .i64) Ref.decA fun q0 q1 q2=>(gE N q0 q1 q2).map fun r=>.tup [.agg (ae.row r.1),vI r.2],false⟩
theorem wU (N:Nat):aC Tryz.prog 27 (wo N):=om3 fun q0 q1 q2 r h=>rs (Oa N q0 q1 q2 r h)

@[go_sem] noncomputable def Qs (N d f:Nat):Option FnS:=ay [(8,46,vl N),(17,47,uV N)] d f
theorem P3 (N:Nat) (a0:ae) (a1:Ref) (r:(List al)) (h:tN N a0 a1=some r):Con Tryz.prog 15 [] false [.agg (ae.row a0),.agg [vS a1.Type_,vS a1.Key]] (sO 3 (r.map al.row)):=by
 refine fk (G:=(Qs N)) Tryz.func15 (gc 8 (u4 N) (gc 17 (wY N) gn)) ?_;simp only [Tryz.f15];unfold tN at h;refine z0 ?_;obtain ⟨r1,hr1,h⟩:=bI h;refine z1 hr1 ?_;refine z0 ?_;refine cD h (fun hc2 hc2d h=>?_) fun hc2 hc2d h=>?_
 ·obtain ⟨x2,hb3,hx4,h⟩:=aH h;obtain ⟨r3,hr5,h⟩:=bI h;refine z1 (k3 hb3 hx4 hr5) ?_;exact f0 h
 refine z1 hc2d ?_;exact f0 h
@[go_sem] def GX (N:Nat):FnS:=⟨[],false,fn2 ae.decA Ref.decA fun q0 q1=>(tN N q0 q1).map fun r=>sF 3 (r.map al.row),false⟩
theorem J7 (N:Nat):aC Tryz.prog 15 (GX N):=om2 fun q0 q1 r h=>rs (P3 N q0 q1 r h)

@[go_sem] noncomputable def J4 (N d f:Nat):Option FnS:=ay [(13,69,s6 N)] d f
theorem KY (N:Nat) (a0:ah) (c0_0:(List Txn)) (c0_1:(List ai)) (c0_2:(List aa)) (c1_0:Int) (c1_1:Int) (c1_2:ByteArray) (c1_3:Int) (c1_4:(List ah)) (c1_5:Int) (c1_6:Int) (c1_7:Int) (c1_8:ByteArray) (c1_9:(List Int)) (c1_10:(List ByteArray)) (r:Bool) (h:lH N a0 c0_0 c0_1 c0_2 c1_0 c1_1 c1_2 c1_3 c1_4 c1_5 c1_6 c1_7 c1_8 c1_9 c1_10=some r):Con Tryz.prog 142 [] true [.agg (ah.row a0),.iref 3 [[sF 11 (c0_0.map Txn.row),sF 4 (c0_1.map ai.row),sF 3 (c0_2.map aa.row)]] 0 0,.iref 11 [[vI c1_0,vI c1_1,vS c1_2,vI c1_3,sF 4 (c1_4.map ah.row),vI c1_5,vI c1_6,vI c1_7,vS c1_8,sF 1 (c1_9.map (aA .i64)),sF 1 (c1_10.map ey)]] 0 0] (vB r):=by
 refine fk (G:=(J4 N)) Tryz.func142 (gc 13 (qX N) gn) ?_;simp only [Tryz.f142];unfold lH at h;refine z0 ?_;obtain ⟨r1,hr1,h⟩:=bI h;refine z1 hr1 ?_;refine iBs h (fun hc2 h=>?_) fun hc2 h=>?_
 ·refine z1 hc2 ?_;exact e0 h
 refine z1 hc2 ?_;exact e0 h
@[go_sem] def wL (N:Nat):FnS:={ own:=[],pure:=true,fn:=fun cs=>match cs with
 | [c0,.iref 3 [[c1_0,c1_1,c1_2]] 0 0,.iref 11 [[c2_0,c2_1,c2_2,c2_3,c2_4,c2_5,c2_6,c2_7,c2_8,c2_9,c2_10]] 0 0]=>(ah.decA c0).bind fun qc0=>((aJ 11 Txn.dec) c1_0).bind fun qc1_0=>((aJ 4 ai.dec) c1_1).bind fun qc1_1=>((aJ 3 aa.dec) c1_2).bind fun qc1_2=>((aG .i64) c2_0).bind fun qc2_0=>((aG .i64) c2_1).bind fun qc2_1=>(du c2_2).bind fun qc2_2=>((aG .i64) c2_3).bind fun qc2_3=>((aJ 4 ah.dec) c2_4).bind fun qc2_4=>((aG .i64) c2_5).bind fun qc2_5=>((aG .i64) c2_6).bind fun qc2_6=>((aG .i64) c2_7).bind fun qc2_7=>(du c2_8).bind fun qc2_8=>((aJ 1 (eb (aG .i64))) c2_9).bind fun qc2_9=>((aJ 1 (eb du)) c2_10).bind fun qc2_10=>(lH N qc0 qc1_0 qc1_1 qc1_2 qc2_0 qc2_1 qc2_2 qc2_3 qc2_4 qc2_5 qc2_6 qc2_7 qc2_8 qc2_9 qc2_10).map fun r=>vB r
 | _=>none }
theorem Gf (N:Nat):aC Tryz.prog 142 (wL N):=by
 refine ⟨fun cs r h=>?_,fun h=>by cases h⟩;simp only [wL] at h;split at h
 ·simp only [abC,abB] at h;obtain ⟨q0,h0,q1,h1,q2,h2,q3,h3,q4,h4,q5,h5,q6,h6,q7,h7,q8,h8,q9,h9,q10,h10,q11,h11,q12,h12,q13,h13,q14,h14,r',hr,rfl⟩:=h;exact (ag (KY N q0 q1 q2 q3 q4 q5 q6 q7 q8 q9 q10 q11 q12 q13 q14 r' hr))
 ·cases h


@[go_sem] noncomputable def sd (N d f:Nat):Option FnS:=ay [(16,142,wL N)] d f
theorem rX (N:Nat) (a0:(List ah)) (k1_0_0:(List Txn)) (k1_0_1:(List ai)) (k1_0_2:(List aa)) (k1_1_0:Int) (k1_1_1:Int) (k1_1_2:ByteArray) (k1_1_3:Int) (k1_1_4:(List ah)) (k1_1_5:Int) (k1_1_6:Int) (k1_1_7:Int) (k1_1_8:ByteArray) (k1_1_9:(List Int)) (k1_1_10:(List ByteArray)) (r:Int) (h:dy N a0 k1_0_0 k1_0_1 k1_0_2 k1_1_0 k1_1_1 k1_1_2 k1_1_3 k1_1_4 k1_1_5 k1_1_6 k1_1_7 k1_1_8 k1_1_9 k1_1_10=some r):Con Tryz.prog 203 [] true [sF 4 (a0.map ah.row),.clo 142 [.iref 3 [[sF 11 (k1_0_0.map Txn.row),sF 4 (k1_0_1.map ai.row),sF 3 (k1_0_2.map aa.row)]] 0 0,.iref 11 [[vI k1_1_0,vI k1_1_1,vS k1_1_2,vI k1_1_3,sF 4 (k1_1_4.map ah.row),vI k1_1_5,vI k1_1_6,vI k1_1_7,vS k1_1_8,sF 1 (k1_1_9.map (aA .i64)),sF 1 (k1_1_10.map ey)]] 0 0]] (vI r):=by
 refine fk (G:=(sd N)) Tryz.func203 (gc 16 (Gf N) gn) ?_;simp only [Tryz.f203];unfold dy at h;refine z0 ?_;refine z0 ?_;refine lT 0 (fun (v2:Nat) (b:Unit)=>⟨tab 19 (af (af (af (af av 0 (sF 4 (a0.map ah.row))) 1 (.clo 142 [.iref 3 [[sF 11 (k1_0_0.map Txn.row),sF 4 (k1_0_1.map ai.row),sF 3 (k1_0_2.map aa.row)]] 0 0,.iref 11 [[vI k1_1_0,vI k1_1_1,vS k1_1_2,vI k1_1_3,sF 4 (k1_1_4.map ah.row),vI k1_1_5,vI k1_1_6,vI k1_1_7,vS k1_1_8,sF 1 (k1_1_9.map (aA .i64)),sF 1 (k1_1_10.map ey)]] 0 0])) 7 (vI (a0.length:Int))) 8 (vI (v2:Int))),RZ⟩) () h ?_ ?_
 ·rintro v2 ⟨⟩ hi3' h;simp only [bS] at h;refine z1 hi3' ?_;refine cf ?_;refine z0 ?_;exact e0 h
 rintro v2 ⟨⟩ x5 hi3' hx4 hw5 h;simp only [bS] at h;refine z1 hi3' ?_;refine ct ?_;refine z0 ?_;obtain ⟨r1,hr7,h⟩:=bI h;refine z1 (k3 hx4 hi3' hr7) ?_;refine cB h (fun hc8 h=>?_) fun hc8 h=>?_
 ·refine z1 hc8 ?_;exact e0 h
 refine z1 (k2 hw5 hc8) ?_;first|refine ⟨(),?_,h⟩|refine ⟨hi3',(),?_,h⟩
 exact wR
@[go_sem] def fN (N:Nat):FnS:={ own:=[],pure:=true,fn:=fun cs=>match cs with
 | [c0,.clo 142 [.iref 3 [[k1_0_0,k1_0_1,k1_0_2]] 0 0,.iref 11 [[k1_1_0,k1_1_1,k1_1_2,k1_1_3,k1_1_4,k1_1_5,k1_1_6,k1_1_7,k1_1_8,k1_1_9,k1_1_10]] 0 0]]=>((aJ 4 ah.dec) c0).bind fun qc0=>((aJ 11 Txn.dec) k1_0_0).bind fun qk1_0_0=>((aJ 4 ai.dec) k1_0_1).bind fun qk1_0_1=>((aJ 3 aa.dec) k1_0_2).bind fun qk1_0_2=>((aG .i64) k1_1_0).bind fun qk1_1_0=>((aG .i64) k1_1_1).bind fun qk1_1_1=>(du k1_1_2).bind fun qk1_1_2=>((aG .i64) k1_1_3).bind fun qk1_1_3=>((aJ 4 ah.dec) k1_1_4).bind fun qk1_1_4=>((aG .i64) k1_1_5).bind fun qk1_1_5=>((aG .i64) k1_1_6).bind fun qk1_1_6=>((aG .i64) k1_1_7).bind fun qk1_1_7=>(du k1_1_8).bind fun qk1_1_8=>((aJ 1 (eb (aG .i64))) k1_1_9).bind fun qk1_1_9=>((aJ 1 (eb du)) k1_1_10).bind fun qk1_1_10=>(dy N qc0 qk1_0_0 qk1_0_1 qk1_0_2 qk1_1_0 qk1_1_1 qk1_1_2 qk1_1_3 qk1_1_4 qk1_1_5 qk1_1_6 qk1_1_7 qk1_1_8 qk1_1_9 qk1_1_10).map fun r=>vI r
 | _=>none }
theorem p7 (N:Nat):aC Tryz.prog 203 (fN N):=by
 refine ⟨fun cs r h=>?_,fun h=>by cases h⟩;simp only [fN] at h;split at h
 ·simp only [abC,abB] at h;obtain ⟨q0,h0,q1,h1,q2,h2,q3,h3,q4,h4,q5,h5,q6,h6,q7,h7,q8,h8,q9,h9,q10,h10,q11,h11,q12,h12,q13,h13,q14,h14,r',hr,rfl⟩:=h;exact (ag (rX N q0 q1 q2 q3 q4 q5 q6 q7 q8 q9 q10 q11 q12 q13 q14 r' hr))
 ·cases h


@[go_sem] noncomputable def qc (N d f:Nat):Option FnS:=ay [(7,203,fN N)] d f
theorem qd (N:Nat) (a0:(List ah)) (k1_0_0:(List Txn)) (k1_0_1:(List ai)) (k1_0_2:(List aa)) (k1_1_0:Int) (k1_1_1:Int) (k1_1_2:ByteArray) (k1_1_3:Int) (k1_1_4:(List ah)) (k1_1_5:Int) (k1_1_6:Int) (k1_1_7:Int) (k1_1_8:ByteArray) (k1_1_9:(List Int)) (k1_1_10:(List ByteArray)) (r:Bool) (h:bT N a0 k1_0_0 k1_0_1 k1_0_2 k1_1_0 k1_1_1 k1_1_2 k1_1_3 k1_1_4 k1_1_5 k1_1_6 k1_1_7 k1_1_8 k1_1_9 k1_1_10=some r):Con Tryz.prog 140 [] true [sF 4 (a0.map ah.row),.clo 142 [.iref 3 [[sF 11 (k1_0_0.map Txn.row),sF 4 (k1_0_1.map ai.row),sF 3 (k1_0_2.map aa.row)]] 0 0,.iref 11 [[vI k1_1_0,vI k1_1_1,vS k1_1_2,vI k1_1_3,sF 4 (k1_1_4.map ah.row),vI k1_1_5,vI k1_1_6,vI k1_1_7,vS k1_1_8,sF 1 (k1_1_9.map (aA .i64)),sF 1 (k1_1_10.map ey)]] 0 0]] (vB r):=by
 refine fk (G:=(qc N)) Tryz.func140 (gc 7 (p7 N) gn) ?_;simp only [Tryz.f140];unfold bT at h;refine z0 ?_;obtain ⟨r1,hr1,h⟩:=bI h;refine z1 hr1 ?_;exact e0 h
@[go_sem] def fp (N:Nat):FnS:={ own:=[],pure:=true,fn:=fun cs=>match cs with
 | [c0,.clo 142 [.iref 3 [[k1_0_0,k1_0_1,k1_0_2]] 0 0,.iref 11 [[k1_1_0,k1_1_1,k1_1_2,k1_1_3,k1_1_4,k1_1_5,k1_1_6,k1_1_7,k1_1_8,k1_1_9,k1_1_10]] 0 0]]=>((aJ 4 ah.dec) c0).bind fun qc0=>((aJ 11 Txn.dec) k1_0_0).bind fun qk1_0_0=>((aJ 4 ai.dec) k1_0_1).bind fun qk1_0_1=>((aJ 3 aa.dec) k1_0_2).bind fun qk1_0_2=>((aG .i64) k1_1_0).bind fun qk1_1_0=>((aG .i64) k1_1_1).bind fun qk1_1_1=>(du k1_1_2).bind fun qk1_1_2=>((aG .i64) k1_1_3).bind fun qk1_1_3=>((aJ 4 ah.dec) k1_1_4).bind fun qk1_1_4=>((aG .i64) k1_1_5).bind fun qk1_1_5=>((aG .i64) k1_1_6).bind fun qk1_1_6=>((aG .i64) k1_1_7).bind fun qk1_1_7=>(du k1_1_8).bind fun qk1_1_8=>((aJ 1 (eb (aG .i64))) k1_1_9).bind fun qk1_1_9=>((aJ 1 (eb du)) k1_1_10).bind fun qk1_1_10=>(bT N qc0 qk1_0_0 qk1_0_1 qk1_0_2 qk1_1_0 qk1_1_1 qk1_1_2 qk1_1_3 qk1_1_4 qk1_1_5 qk1_1_6 qk1_1_7 qk1_1_8 qk1_1_9 qk1_1_10).map fun r=>vB r
 | _=>none }
theorem oh (N:Nat):aC Tryz.prog 140 (fp N):=by
 refine ⟨fun cs r h=>?_,fun h=>by cases h⟩;simp only [fp] at h;split at h
 ·simp only [abC,abB] at h;obtain ⟨q0,h0,q1,h1,q2,h2,q3,h3,q4,h4,q5,h5,q6,h6,q7,h7,q8,h8,q9,h9,q10,h10,q11,h11,q12,h12,q13,h13,q14,h14,r',hr,rfl⟩:=h;exact (ag (qd N q0 q1 q2 q3 q4 q5 q6 q7 q8 q9 q10 q11 q12 q13 q14 r' hr))
 ·cases h


@[go_sem] noncomputable def MH (N d f:Nat):Option FnS:=ay [(8,140,fp N)] d f
theorem MQ (N:Nat) (a0:ae) (a1:Txn) (r:Bool) (h:sQ N a0 a1=some r):Con Tryz.prog 73 [] true [.agg (ae.row a0),.agg (Txn.row a1)] (vB r):=by
 refine fk (G:=(MH N)) Tryz.func73 (gc 8 (oh N) gn) ?_;simp only [Tryz.f73];unfold sQ at h;refine z0 ?_;obtain ⟨r1,hr1,h⟩:=bI h;refine z1 hr1 ?_;exact e0 h
@[go_sem] def DT (N:Nat):FnS:=⟨[],true,fn2 ae.decA Txn.decA fun q0 q1=>(sQ N q0 q1).map fun r=>vB r,false⟩
theorem IH (N:Nat):aC Tryz.prog 73 (DT N):=om2 (MQ N)


@[go_sem] noncomputable def Ms (N d f:Nat):Option FnS:=ay [(13,73,DT N),(19,74,C3 N)] d f
theorem Lb (N:Nat) (a0:Txn) (c0_0:(List Txn)) (c0_1:(List ai)) (c0_2:(List aa)) (r:Bool) (h:mU N a0 c0_0 c0_1 c0_2=some r):Con Tryz.prog 72 [] true [.agg (Txn.row a0),.iref 3 [[sF 11 (c0_0.map Txn.row),sF 4 (c0_1.map ai.row),sF 3 (c0_2.map aa.row)]] 0 0] (vB r):=by
 refine fk (G:=(Ms N)) Tryz.func72 (gc 13 (IH N) (gc 19 (D8 N) gn)) ?_;simp only [Tryz.f72];unfold mU at h;refine z0 ?_;refine iDs h (fun hc1 hc1d h=>?_) fun hc1 hc1d h=>?_
 ·refine z1 hc1d ?_;exact e0 h
 obtain ⟨r1,hr2,h⟩:=bI h;refine iB h (fun hc3 h=>?_) fun hc3 h=>?_
 ·obtain ⟨r2,hr4,h⟩:=bI h;refine z1 (k4 hc1d hr2 hc3 hr4) ?_;exact e0 h
 refine z1 (k3 hc1d hr2 hc3) ?_;exact e0 h
@[go_sem] def yE (N:Nat):FnS:={ own:=[],pure:=true,fn:=fun cs=>match cs with
 | [c0,.iref 3 [[c1_0,c1_1,c1_2]] 0 0]=>(Txn.decA c0).bind fun qc0=>((aJ 11 Txn.dec) c1_0).bind fun qc1_0=>((aJ 4 ai.dec) c1_1).bind fun qc1_1=>((aJ 3 aa.dec) c1_2).bind fun qc1_2=>(mU N qc0 qc1_0 qc1_1 qc1_2).map fun r=>vB r
 | _=>none }
theorem G9 (N:Nat):aC Tryz.prog 72 (yE N):=by
 refine ⟨fun cs r h=>?_,fun h=>by cases h⟩;simp only [yE] at h;split at h
 ·simp only [abC,abB] at h;obtain ⟨q0,h0,q1,h1,q2,h2,q3,h3,r',hr,rfl⟩:=h;exact (ag (Lb N q0 q1 q2 q3 r' hr))
 ·cases h


@[go_sem] noncomputable def vx (N d f:Nat):Option FnS:=ay [(16,72,yE N)] d f
theorem vK (N:Nat) (a0:(List Txn)) (k1_0_0:(List Txn)) (k1_0_1:(List ai)) (k1_0_2:(List aa)) (r:Int) (h:eI N a0 k1_0_0 k1_0_1 k1_0_2=some r):Con Tryz.prog 71 [] true [sF 11 (a0.map Txn.row),.clo 72 [.iref 3 [[sF 11 (k1_0_0.map Txn.row),sF 4 (k1_0_1.map ai.row),sF 3 (k1_0_2.map aa.row)]] 0 0]] (vI r):=by
 refine fk (G:=(vx N)) Tryz.func71 (gc 16 (G9 N) gn) ?_;simp only [Tryz.f71];unfold eI at h;refine z0 ?_;refine z0 ?_;refine lT 0 (fun (v2:Nat) (b:Unit)=>⟨tab 19 (af (af (af (af av 0 (sF 11 (a0.map Txn.row))) 1 (.clo 72 [.iref 3 [[sF 11 (k1_0_0.map Txn.row),sF 4 (k1_0_1.map ai.row),sF 3 (k1_0_2.map aa.row)]] 0 0])) 7 (vI (a0.length:Int))) 8 (vI (v2:Int))),RZ⟩) () h ?_ ?_
 ·rintro v2 ⟨⟩ hi3' h;simp only [dR] at h;refine z1 hi3' ?_;refine cf ?_;refine z0 ?_;exact e0 h
 rintro v2 ⟨⟩ x5 hi3' hx4 hw5 h;simp only [dR] at h;refine z1 hi3' ?_;refine ct ?_;refine z0 ?_;obtain ⟨r1,hr7,h⟩:=bI h;refine z1 (k3 hx4 hi3' hr7) ?_;refine cB h (fun hc8 h=>?_) fun hc8 h=>?_
 ·refine z1 hc8 ?_;exact e0 h
 refine z1 (k2 hw5 hc8) ?_;first|refine ⟨(),?_,h⟩|refine ⟨hi3',(),?_,h⟩
 exact wR
@[go_sem] def iN (N:Nat):FnS:={ own:=[],pure:=true,fn:=fun cs=>match cs with
 | [c0,.clo 72 [.iref 3 [[k1_0_0,k1_0_1,k1_0_2]] 0 0]]=>((aJ 11 Txn.dec) c0).bind fun qc0=>((aJ 11 Txn.dec) k1_0_0).bind fun qk1_0_0=>((aJ 4 ai.dec) k1_0_1).bind fun qk1_0_1=>((aJ 3 aa.dec) k1_0_2).bind fun qk1_0_2=>(eI N qc0 qk1_0_0 qk1_0_1 qk1_0_2).map fun r=>vI r
 | _=>none }
theorem tL (N:Nat):aC Tryz.prog 71 (iN N):=by
 refine ⟨fun cs r h=>?_,fun h=>by cases h⟩;simp only [iN] at h;split at h
 ·simp only [abC,abB] at h;obtain ⟨q0,h0,q1,h1,q2,h2,q3,h3,r',hr,rfl⟩:=h;exact (ag (vK N q0 q1 q2 q3 r' hr))
 ·cases h


theorem FL (N:Nat) (a0:(List Ref)) (r:(List Ref)) (h:kr N a0=some r):Con Tryz.prog 44 [true] true [sO 2 (a0.map Ref.row)] (sO 2 (r.map Ref.row)):=by
 refine Aq (G:=(ay [])) (L:=noL) Tryz.func44 rfl (by decide) (by kernel_rfl) gn (fun _ _ _ h=>by cases h) [] mix (ab5 rfl) ?_;rw [show gN [true] [sO 2 (a0.map Ref.row)]=(af av 0 (.pal 0 [] 0 a0.length none)) from by funext t; match t with|0=>simp [gN,jz,kG,af]|t+1=>rfl];rw [show R0 [true] [sO 2 (a0.map Ref.row)]=upd RZ 0 (sO 2 (a0.map Ref.row)) from by funext t; match t with|0=>rfl|t+1=>rfl];simp only [Tryz.f44];unfold kr at h;refine z0 ?_;refine z0 ?_;refine cD h (fun hc1 hc1d h=>?_) fun hc1 hc1d h=>?_
 ·refine z1 hc1d ?_;refine fD (pp ?_);cases h;simp only [go_sem,seval,eD];exact ⟨_,rfl,iE.h,qI.h,rp.h⟩
 refine z1 hc1d ?_;refine aX (iP fun hreal3=>?_);have hl2:=hreal3.lenX 0 (by simp only [go_sem,seval]; rfl);first|rw [abJ] at hl2|rw [fY] at hl2|rw [<-ab4,abJ] at hl2
 refine pj (fun (v3:Nat) (b:Unit)=>⟨tab 61 (af (af av 0 (.pal 0 [] 0 a0.length none)) 3 (vI (v3:Int))),(upd RZ 0 (sO 2 (a0.map Ref.row)))⟩) () h ?_ ?_
 ·exact wF hc1d
 rintro v3 ⟨⟩ _ h -;rcases (jK a0.length v3).symm with ⟨hi4',hd7⟩|⟨hi4',hd7⟩
 ·rw [hd7] at h;simp only [iS] at h;refine z1 hi4' ?_;refine cf ?_;refine z0 ?_;refine fD (pp ?_);cases h;simp only [go_sem,seval,eD];exact ⟨_,rfl,iE.h,qI.h,rp.h⟩
 rw [hd7] at h;simp only [iS] at h;have hw6:=fm hi4' hl2;refine z1 hi4' ?_;refine ct ?_;obtain ⟨x1,hb8,hx9,h⟩:=aH h;try simp only [abX] at hx9
 try simp only [adD,ac3,true_and] at hb8
 obtain ⟨x2,hb10,hx11,h⟩:=aH h;refine d1 (k4 hi4' hx9 hb10 hx11) ?_;refine cBs h (fun hc12 h=>?_) fun hc12 h=>?_
 ·refine z1 (k2 hw6 hc12) ?_;first|refine ⟨(),?_,h⟩|refine ⟨hi4',(),?_,h⟩
  exact wF (k5 hc1d hi4' hw6 hb8 (k4 hx9 hb10 hx11 hc12))
 obtain ⟨hs13,h⟩:=jw h;try simp only [abX] at hs13 h
 refine z1 (k3 hc12 hs13 @ab2) ?_;refine z0 ?_;refine aX (iT (fun (b:List Ref × Int × Int)=>⟨tab 61 (af (af (af (af av 0 (.pal 0 [] 0 b.1.length none)) 3 (vI b.2.1)) 4 (.pal 0 [] v3 (a0.length - v3) none)) 5 (vI b.2.2)),(upd RZ 0 (sO 2 (b.1.map Ref.row)))⟩) (a0,(v3:Int),1) h ?_ ?_)
 ·exact wF (k5 hc1d hi4' hw6 hb8 (k5 hx9 hb10 hx11 hc12 (k3 hs13 @abU @ab2)))
 rintro n ⟨l12,v13,v14⟩ h -;cases n with
 | zero=>simp [gw] at h
 | succ n=>
 simp only [gw] at h;refine z0 ?_;refine cDs h (fun hc14 hc14d h=>?_) fun hc14 hc14d h=>?_
 ·refine iR (pp ?_);unfold jZ at h;refine aM ?_;obtain ⟨hs24,h⟩:=jw h;try simp only [abX] at hs24 h
  refine iL fun Z hZ=>?_;simp only [go_sem,seval,ab2,hc14d,hs24,O7 (row:=Ref.row) (z:=(Ref.mk (⟨#[]⟩) (⟨#[]⟩))) (rz:=[vS (⟨#[]⟩),vS (⟨#[]⟩)]) (k:=(v13).toNat) (l:=l12) (by have:=hs24; omega) rfl,bO,sV,aK,ar.allD Ref.row_ok];refine hZ _ (pp (aM ?_));obtain ⟨hs25,h⟩:=jw h;try simp only [adp] at hs25 h
  refine iL fun Z hZ=>?_;simp only [go_sem,seval,abU,hs24,eh,hs25];refine hZ _ (pp (fD (pp ?_)));cases h;simp only [go_sem,seval,eD];exact ⟨_,rfl,iE.h,qI.h,rp.h⟩
 obtain ⟨x16,hb15,hx16,h⟩:=aH h;obtain ⟨x17,hb17,hx18,h⟩:=aH h;refine d1 (k5 hb15 (E9 hx16) (Il hb15) hb17 (k2 (E9 hx18) (Il hb17))) ?_;refine cMs h (fun hc19 h=>?_) fun hc19 h=>?_
 ·refine z1 hc19 ?_;refine ⟨_,acn _,(l12,v13,IntKind.i64.wrap (v14+1)),?_,h⟩;exact wF (k5 hc1d hi4' hw6 hb8 (k5 hx9 hb10 hx11 hc12 (k5 hs13 @abU @ab2 hc14d (k5 hb15 hx16 (E9 hx16) (Il hb15) (k5 hb17 hx18 (E9 hx18) (Il hb17) hc19)))))
 obtain ⟨x18,hb20,hx21,h⟩:=aH h;have hx23:=kX (y:=x16) hx21;refine z1 (k5 hb15 (Il hb15) hc19 (E9 hx16) (k3 hb20 hx21 (mm2 (row:=Ref.row) (y:=x16) (rx:=[vS x18.Type_,vS x18.Key]) (ry:=[vS x16.Type_,vS x16.Key]) hx21 rfl rfl))) ?_;refine z0 ?_;refine z0 ?_;refine ⟨_,acn _,((l12.set ((v13).toNat) x16),IntKind.i64.wrap (v13+1),IntKind.i64.wrap (v14+1)),?_,h⟩;refine wr ?_ ?_<;>repeat' first|rfl|constructor|simp only [go_sem,seval,acf]
def fP (N:Nat):FnS:={ own:=[true],pure:=true,fn:=fun cs=>match cs with
 | [c0]=>((vL 2 Ref.dec) c0).bind fun q0=>(kr N q0).map fun r=>sO 2 (r.map Ref.row)
 | _=>none }
theorem B3 (N:Nat):(fP N).own=[true]:=rfl
theorem BK (N:Nat):(fP N).pure=true:=rfl
theorem Bx (N:Nat):(fP N).peek=false:=rfl
attribute [go_sem] fP B3 BK Bx
theorem Cr (N:Nat):aC Tryz.prog 44 (fP N):=by
 refine ⟨fun cs r h=>?_,fun h=>by cases h⟩;simp only [fP] at h;split at h
 ·simp only [abC,abB] at h;obtain ⟨q0,h0,r',hr,rfl⟩:=h;exact (FL N q0 r' hr).argsO rfl (jW (qq Ref.row_ok Ref.dec_le h0) (oD))
 ·cases h


@[go_sem] noncomputable def oK (N d f:Nat):Option FnS:=ay [(32,43,vU N)] d f
theorem im (N:Nat) (a0:(List Ref)) (a1:Int) (a2:Int) (r:(List Ref)) (h:bo N a0 a1 a2=some r):(r).length=a0.length:=by
 unfold bo at h; exact (lg h).2
theorem oP (N:Nat) (a0:(List Ref)) (a1:Int) (a2:Int) (r:(List Ref)) (h:bo N a0 a1 a2=some r):m6 Tryz.prog 173 1 [sO 2 (a0.map Ref.row),vI a1,vI a2,.clo 43 []] (.tup []) [sO 2 (r.map Ref.row)]:=by
 unfold bo at h;obtain ⟨h,hlen⟩:=lg h;refine y9 (G:=(oK N)) (L:=noL) Tryz.func173 rfl (by decide) (by kernel_rfl) 1 (by kernel_rfl) (gc 32 (wT N) gn) (fun _ _ _ h=>by cases h) [] mix (ab5 rfl) (ab5 rfl) rfl (by simp [dT,hlen]) ?_;simp only [Tryz.f173];refine z0 ?_;refine aX (iT (fun (b:Int)=>⟨tab 53 (af (af (af (af (af av 0 (.pal 0 [] 0 a0.length none)) 1 (vI a1)) 2 (vI a2)) 3 (.clo 43 [])) 8 (vI b)),(upd RZ 0 (sO 2 (a0.map Ref.row)))⟩) (IntKind.i64.wrap (a1+1)) h ?_ ?_)
 ·exact wR
 rintro n v1 h -;cases n with
 | zero=>simp [dj] at h
 | succ n=>
 simp only [dj] at h;refine z0 ?_;refine cDs h (fun hc1 hc1d h=>?_) fun hc1 hc1d h=>?_
 ·refine iR (pp ?_);obtain rfl:=aco h;refine CN (.inr rfl) (bm.refl _) (by simp only [go_sem,seval,hc1d]; rfl) (by simp only [go_sem,seval]; rfl) (by (try simp only [go_sem,seval]); first|exact Le.refl _|exact LeI.h) ?_;exact CL (by simp only [go_sem,seval,hc1d]<;>rfl) (by simp only [go_sem,seval]<;>rfl) (Fq)
 refine z1 hc1d ?_;refine aX (iT (fun (b:Unit)=>⟨tab 53 (af (af (af (af (af (af av 0 (.pal 0 [] 0 a0.length none)) 1 (vI a1)) 2 (vI a2)) 3 (.clo 43 [])) 8 (vI v1)) 9 (vI v1)),(upd RZ 0 (sO 2 (a0.map Ref.row)))⟩) () h ?_ ?_)
 ·exact wR
 rintro n ⟨⟩ h -;cases n with
 | zero=>simp [eS] at h
 | succ n=>
 simp only [eS] at h;refine aM ?_;apply aW (fun (c9:Bool)=>⟨tab 53 (af (af (af (af (af (af (af av 0 (.pal 0 [] 0 a0.length none)) 1 (vI a1)) 2 (vI a2)) 3 (.clo 43 [])) 8 (vI v1)) 9 (vI v1)) 34 (vB c9)),(upd RZ 0 (sO 2 (a0.map Ref.row)))⟩)
 ·intro hJ2;refine iDs h (fun hc3 hc3d h=>?_) fun hc3 hc3d h=>?_
  ·refine d1 hc3d ?_;refine hJ2 _ false ?_ h;exact wR
  obtain ⟨x10,hb4,hx5,h⟩:=aH h;obtain ⟨x11,hb6,hx7,h⟩:=aH h;obtain ⟨r12,hr8,h⟩:=bI h;refine d1 (k5 hc3d hb4 hx5 hb6 (k2 hx7 hr8)) ?_;refine hJ2 _ (decide (r12 < 0)) ?_ h;exact wR
 intro c9 h;unfold eQ at h;refine cB h (fun hc9 h=>?_) fun hc9 h=>?_
 ·refine bf (pp ?_);unfold eV at h;refine aM (aX ?_);obtain ⟨x13,hb10,hx11,h⟩:=aH h;obtain ⟨x14,hb12,hx13,h⟩:=aH h;cases h
 refine z1 hc9 ?_;refine ⟨_,acn _,(IntKind.i64.wrap (v1+1)),?_,h⟩;exact wR
@[go_sem] def eU (N:Nat):FnL:=⟨1,fun cs rest=>match cs,rest with
 | [v0],[c1,c2,.clo 43 []]=>(CU 2 Ref.dec v0).bind fun q0=>((aG .i64) c1).bind fun q1=>((aG .i64) c2).bind fun q2=>(bo N q0 q1 q2).map fun r=>(.tup [],[sO 2 (r.map Ref.row)])
 | _,_=>none,false⟩
theorem mF (N:Nat):wM Tryz.prog 173 (eU N):=by
 refine H5 (adK _) rfl ?_;intro cs rest r ls hlen h;simp only [eU] at h;split at h
 ·simp only [abC,abB] at h;obtain ⟨q0,h0,q1,h1,q2,h2,r',hr,he⟩:=h;cases he;exact m6.told rfl rfl (zi (zh Ref.row_ok Ref.dec_le h0) (BB)) ((LeL.cons (bN h1) (LeL.cons (bN h2) (LeL.cons (Le.clo (LeL.nil)) (LeL.nil))))) (oP N q0 q1 q2 r' hr)
 ·cases h


@[go_sem] noncomputable def rQ (N d f:Nat):Option FnL:=Bd [(30,173,eU N)] d f
theorem jA (N:Nat) (a0:(List Ref)) (a1:Int) (a2:Int) (a3:Int) (r:(List Ref)) (h:bF N a0 a1 a2 a3=some r):(r).length=a0.length:=by
 unfold bF at h; exact (lg h).2
theorem rS (N:Nat) (a0:(List Ref)) (a1:Int) (a2:Int) (a3:Int) (r:(List Ref)) (h:bF N a0 a1 a2 a3=some r):m6 Tryz.prog 101 1 [sO 2 (a0.map Ref.row),vI a1,vI a2,vI a3,.clo 43 []] (.tup []) [sO 2 (r.map Ref.row)]:=by
 unfold bF at h;obtain ⟨h,hlen⟩:=lg h;refine y9 (G:=(ay [])) (L:=(rQ N)) Tryz.func101 rfl (by decide) (by kernel_rfl) 1 (by kernel_rfl) gn (lc 30 (mF N) ln) [] mix (ab5 rfl) (ab5 rfl) rfl (by simp [dT,hlen]) ?_;simp only [Tryz.f101];refine z0 ?_;refine z0 ?_;refine aX (iT (fun (b:Unit)=>⟨tab 148 (af (af (af (af (af (af (af av 0 (.pal 0 [] 0 a0.length none)) 1 (vI a1)) 2 (vI a2)) 3 (vI a3)) 4 (.clo 43 [])) 10 (vB true)) 11 (vB true)),(upd RZ 0 (sO 2 (a0.map Ref.row)))⟩) () h ?_ ?_)
 ·exact wR
 rintro n ⟨⟩ h -;cases n with
 | zero=>simp [fR] at h
 | succ n=>
 simp only [fR] at h;refine z0 ?_;refine z0 ?_;refine cDs h (fun hc1 hc1d h=>?_) fun hc1 hc1d h=>?_
 ·refine z1 hc1d ?_;refine cD h (fun hc3 hc3d h=>?_) fun hc3 hc3d h=>?_
  ·refine aM ?_;cases h
  refine z1 hc3d ?_;refine cf ?_;first|rw [if_pos (rfl:true=true)] at h|rw [if_neg acz] at h|skip
  refine bf (pp (aM ?_));cases h
 obtain ⟨r1,hr2,h⟩:=bI h;refine z1 (k3 hc1d hr2 (im N a0 a1 a2 r1 hr2)) ?_;refine fD (pp ?_);obtain rfl:=aco h;refine CN (.inl rfl) (bm.refl _) (by simp only [go_sem,seval]; rfl) (by simp only [go_sem,seval]; rfl) (by (try simp only [go_sem,seval]); first|exact Le.refl _|exact LeI.h) ?_;exact CL (by simp only [go_sem,seval,im N a0 a1 a2 r1 hr2]<;>rfl) (by simp only [go_sem,seval]<;>rfl) (Fq)
@[go_sem] def fS (N:Nat):FnL:=⟨1,fun cs rest=>match cs,rest with
 | [v0],[c1,c2,c3,.clo 43 []]=>(CU 2 Ref.dec v0).bind fun q0=>((aG .i64) c1).bind fun q1=>((aG .i64) c2).bind fun q2=>((aG .i64) c3).bind fun q3=>(bF N q0 q1 q2 q3).map fun r=>(.tup [],[sO 2 (r.map Ref.row)])
 | _,_=>none,false⟩
theorem pZ (N:Nat):wM Tryz.prog 101 (fS N):=by
 refine H5 (adK _) rfl ?_;intro cs rest r ls hlen h;simp only [fS] at h;split at h
 ·simp only [abC,abB] at h;obtain ⟨q0,h0,q1,h1,q2,h2,q3,h3,r',hr,he⟩:=h;cases he;exact m6.told rfl rfl (zi (zh Ref.row_ok Ref.dec_le h0) (BB)) ((LeL.cons (bN h1) (LeL.cons (bN h2) (LeL.cons (bN h3) (LeL.cons (Le.clo (LeL.nil)) (LeL.nil)))))) (rS N q0 q1 q2 q3 r' hr)
 ·cases h


@[go_sem] noncomputable def uz (N d f:Nat):Option FnS:=ay [(11,102,yR N)] d f
@[go_sem] noncomputable def uB (N d f:Nat):Option FnL:=Bd [(13,101,fS N)] d f
theorem tk (N:Nat) (a0:(List Ref)) (r:(List Ref)) (h:bY N a0=some r):(r).length=a0.length:=by
 unfold bY at h; exact (lg h).2
theorem ld (N:Nat) (a0:(List Ref)) (r:(List Ref)) (h:bY N a0=some r):m6 Tryz.prog 42 1 [sO 2 (a0.map Ref.row),.clo 43 []] (.tup []) [sO 2 (r.map Ref.row)]:=by
 unfold bY at h;obtain ⟨h,hlen⟩:=lg h;refine y9 (G:=(uz N)) (L:=(uB N)) Tryz.func42 rfl (by decide) (by kernel_rfl) 1 (by kernel_rfl) (gc 11 (Ai N) gn) (lc 13 (pZ N) ln) [] mix (ab5 rfl) (ab5 rfl) rfl (by simp [dT,hlen]) ?_;simp only [Tryz.f42];refine z0 ?_;obtain ⟨r1,hr1,h⟩:=bI h;obtain ⟨r2,hr2,h⟩:=bI h;refine z1 (k3 hr1 hr2 (jA N a0 0 (a0.length:Int) r1 r2 hr2)) ?_;obtain rfl:=aco h;refine CN (.inr rfl) (bm.refl _) (by simp only [go_sem,seval]; rfl) (by simp only [go_sem,seval]; rfl) (by (try simp only [go_sem,seval]); first|exact Le.refl _|exact LeI.h) ?_;exact CL (by simp only [go_sem,seval,jA N a0 0 (a0.length:Int) r1 r2 hr2]<;>rfl) (by simp only [go_sem,seval]<;>rfl) (Fq)
@[go_sem] def kH (N:Nat):FnL:=⟨1,fun cs rest=>match cs,rest with
 | [v0],[.clo 43 []]=>(CU 2 Ref.dec v0).bind fun q0 =>  (bY N q0).map fun r=>(.tup [],[sO 2 (r.map Ref.row)])
 | _,_=>none,false⟩
theorem EO (N:Nat):wM Tryz.prog 42 (kH N):=by
 refine H5 (adK _) rfl ?_;intro cs rest r ls hlen h;simp only [kH] at h;split at h
 ·simp only [abC,abB] at h;obtain ⟨q0,h0,r',hr,he⟩:=h;cases he;exact m6.told rfl rfl (zi (zh Ref.row_ok Ref.dec_le h0) (BB)) ((LeL.cons (Le.clo (LeL.nil)) (LeL.nil))) (ld N q0 r' hr)
 ·cases h


def wj:Go.Shelf.Ren:=⟨fun|6=>42|14=>101|15=>102|20=>173|21=>174|22=>175|23=>176|24=>177|25=>178|26=>179|27=>180|28=>181|29=>182|46=>214|47=>215|48=>216|49=>217|50=>218|57=>231|n=>n,fun|0=>0|3=>3|4=>4|5=>5|9=>9|22=>46|24=>52|25=>94|39=>136|45=>179|46=>180|50=>115|53=>186|55=>188|66=>207|70=>211|76=>219|77=>220|n=>n,fun n=>n⟩
theorem wx:Go.Proofs.SlLaysF0.n6 Tryz.prog wj where
 mixed:=by kernel_rfl
 f6:=⟨Tryz.f42.name, by decide, Tryz.func42.trans (congrArg some (by kernel_rfl))⟩
 f14:=⟨Tryz.f101.name, by decide, Tryz.func101.trans (congrArg some (by kernel_rfl))⟩
 f15:=Tryz.func102.trans (congrArg some (by kernel_rfl))
 f20:=⟨Tryz.f173.name, by decide, Tryz.func173.trans (congrArg some (by kernel_rfl))⟩
 f21:=⟨Tryz.f174.name, by decide, Tryz.func174.trans (congrArg some (by kernel_rfl))⟩
 f22:=⟨Tryz.f175.name, by decide, Tryz.func175.trans (congrArg some (by kernel_rfl))⟩
 f23:=⟨Tryz.f176.name, by decide, Tryz.func176.trans (congrArg some (by kernel_rfl))⟩
 f24:=⟨Tryz.f177.name, by decide, Tryz.func177.trans (congrArg some (by kernel_rfl))⟩
 f25:=⟨Tryz.f178.name, by decide, Tryz.func178.trans (congrArg some (by kernel_rfl))⟩
 f26:=⟨Tryz.f179.name, by decide, Tryz.func179.trans (congrArg some (by kernel_rfl))⟩
 f27:=⟨Tryz.f180.name, by decide, Tryz.func180.trans (congrArg some (by kernel_rfl))⟩
 f28:=Tryz.func181.trans (congrArg some (by kernel_rfl))
 f29:=Tryz.func182.trans (congrArg some (by kernel_rfl))
 f46:=⟨Tryz.f214.name, by decide, Tryz.func214.trans (congrArg some (by kernel_rfl))⟩
 f47:=Tryz.func215.trans (congrArg some (by kernel_rfl))
 f48:=Tryz.func216.trans (congrArg some (by kernel_rfl))
 f49:=⟨Tryz.f217.name, by decide, Tryz.func217.trans (congrArg some (by kernel_rfl))⟩
 f50:=⟨Tryz.f218.name, by decide, Tryz.func218.trans (congrArg some (by kernel_rfl))⟩
 f57:=⟨Tryz.f231.name, by decide, Tryz.func231.trans (congrArg some (by kernel_rfl))⟩
 t0:=Tryz.underlying0
 a0:=Tryz.isAgg0
 z0:=Tryz.sizeOf0
 v0:=Tryz.zeroValue0
 t3:=Tryz.underlying3
 a3:=Tryz.isAgg3
 z3:=Tryz.sizeOf3
 v3:=Tryz.zeroValue3
 t4:=Tryz.underlying4
 a4:=Tryz.isAgg4
 z4:=Tryz.sizeOf4
 v4:=Tryz.zeroValue4
 t5:=Tryz.underlying5
 a5:=Tryz.isAgg5
 z5:=Tryz.sizeOf5
 v5:=Tryz.zeroValue5
 t9:=Tryz.underlying9
 a9:=Tryz.isAgg9
 z9:=Tryz.sizeOf9
 v9:=Tryz.zeroValue9
 t22:=Tryz.underlying46
 a22:=Tryz.isAgg46
 z22:=Tryz.sizeOf46
 v22:=Tryz.zeroValue46
 t25:=Tryz.underlying94
 a25:=Tryz.isAgg94
 z25:=Tryz.sizeOf94
 v25:=Tryz.zeroValue94
 t39:=Tryz.underlying136
 a39:=Tryz.isAgg136
 z39:=Tryz.sizeOf136
 v39:=Tryz.zeroValue136
 t45:=Tryz.underlying179
 a45:=Tryz.isAgg179
 z45:=Tryz.sizeOf179
 v45:=Tryz.zeroValue179
 t46:=Tryz.underlying180
 a46:=Tryz.isAgg180
 z46:=Tryz.sizeOf180
 v46:=Tryz.zeroValue180
 t50:=Tryz.underlying115
 a50:=Tryz.isAgg115
 z50:=Tryz.sizeOf115
 v50:=Tryz.zeroValue115
 t53:=Tryz.underlying186
 a53:=Tryz.isAgg186
 z53:=Tryz.sizeOf186
 v53:=Tryz.zeroValue186
 t55:=Tryz.underlying188
 a55:=Tryz.isAgg188
 z55:=Tryz.sizeOf188
 v55:=Tryz.zeroValue188
 t66:=Tryz.underlying207
 a66:=Tryz.isAgg207
 z66:=Tryz.sizeOf207
 v66:=Tryz.zeroValue207
 t70:=Tryz.underlying211
 a70:=Tryz.isAgg211
 z70:=Tryz.sizeOf211
 v70:=Tryz.zeroValue211
 t76:=Tryz.underlying219
 a76:=Tryz.isAgg219
 z76:=Tryz.sizeOf219
 v76:=Tryz.zeroValue219
 t77:=Tryz.underlying220
 a77:=Tryz.isAgg220
 z77:=Tryz.sizeOf220
 v77:=Tryz.zeroValue220
def mN (x:Ref):List Go.Value:=[.string x.Type_,.string x.Key]
theorem mP (N:Nat) (a0:(List Ref)) (r:(List Ref)) (h:dq N a0=some r):(r).length=a0.length:=by
 unfold dq at h;split at h
 ·exact tk N a0 r h
 ·exact Um h
theorem yj (N:Nat) (a0:(List Ref)) (r:(List Ref)) (h:dq N a0=some r):m6 Tryz.prog 42 1 [sO 2 (a0.map Ref.row),.clo 43 []] (.tup []) [sO 2 (r.map Ref.row)]:=by
 unfold dq at h;split at h
 ·exact ld N a0 r h
 ·rename_i hne;obtain ⟨h1,h2,h3,rfl⟩:=Ll h;refine UN wx 2 (by decide) Tryz.isAgg52 Tryz.sizeOf52 mN (fun _=>rfl) (fun x v hv=>by simp only [mN,ab7,ac2,or_false] at hv; rcases hv with rfl|rfl<;>rfl) Ref.row (fun _=>rfl) rfl (enters_of Tryz.func42 (by kernel_rfl) rfl) (enters_of Tryz.func43 (by kernel_rfl) rfl) h2 (fun x y=>⟨true,?_⟩) (fun e=>hne (by rw [e]; rfl)) h3
  obtain ⟨z,hz⟩:=h1 x y;have hw:=GW N x y  z hz;show Con Tryz.prog 43 [] true _ (vI ((il N x y ).getD 0));rw [hz];exact hw
@[go_sem] noncomputable def ju (N:Nat):FnL:=⟨1,fun cs rest=>match cs,rest with
 | [v0],[.clo 43 []]=>(CU 2 Ref.dec v0).bind fun q0 =>  (dq N q0).map fun r=>(.tup [],[sO 2 (r.map Ref.row)])
 | _,_=>none,false⟩
theorem vh (N:Nat):wM Tryz.prog 42 (ju N):=by
 refine H5 (adK _) rfl ?_;intro cs rest r ls hlen h;simp only [ju] at h;split at h
 ·simp only [abC,abB] at h;obtain ⟨q0,h0,r',hr,he⟩:=h;cases he;exact m6.told rfl rfl (zi (zh Ref.row_ok Ref.dec_le h0) (BB)) ((LeL.cons (Le.clo (LeL.nil)) (LeL.nil))) (yj N q0 r' hr)
 ·cases h


@[go_sem] noncomputable def II (N d f:Nat):Option FnS:=ay [(22,44,fP N)] d f
@[go_sem] noncomputable def IE (N d f:Nat):Option FnL:=Bd [(20,42,ju N)] d f
theorem Iy (N:Nat) (a0:Txn) (r:(List Ref)) (h:ji N a0=some r):Con Tryz.prog 13 [] true [.agg (Txn.row a0)] (sO 2 (r.map Ref.row)):=by
 refine Sc (G:=(II N)) (L:=(IE N)) Tryz.func13 rfl (by decide) (by kernel_rfl) (gc 22 (Cr N) gn) (lc 20 (vh N) ln) [] mix (ab5 rfl) ?_;simp only [Tryz.f13];unfold ji at h;refine z0 ?_;refine z0 ?_;refine z0 ?_;refine aX (iP fun hreal2=>?_);have hl1:=hreal2.lenT 7 (by decide) (by simp only [go_sem,seval]; rfl);first|rw [abJ] at hl1|rw [fY] at hl1|rw [<-ab4,abJ] at hl1
 refine tz (fun (v3:Nat) (b:List Ref)=>⟨tab 23 (af (af (af (af av 3 (.pal 17 [] 0 b.length none)) 7 (sF 4 (a0.Calls.map ah.row))) 8 (vI (a0.Calls.length:Int))) 9 (vI (v3:Int))),(upd RZ 17 (sO 2 (b.map Ref.row)))⟩) [] h ?_ ?_
 ·refine bm.trans (qS 3 17 2 (by simp only [go_sem,seval]) (by simp only [go_sem,seval])) ?_;refine wr ?_ ?_<;>repeat' first|rfl|constructor|simp only [go_sem,seval,acN,acf,acC,acw]
 rintro v3 l2 hi3 h -;rcases (ov a0.Calls v3 hi3) with ⟨x6,hi3',hx4,hd6⟩|⟨hi3',_,hd6⟩
 ·rw [hd6] at h;simp only [iG] at h;have hw5:=fm hi3' hl1;refine z1 hi3' ?_;refine ct ?_;refine z1 (k2 hx4 hi3') ?_;obtain ⟨ha7,h⟩:=eN h;simp only [abW,acm,acv,Nat.reduceAdd] at ha7;refine z1 ha7 ?_;refine z1 hw5 ?_;first|refine ⟨(l2++[x6.Target]),?_,h⟩|refine ⟨hi3',(l2++[x6.Target]),?_,h⟩
  refine wr ?_ ?_<;>repeat' first|rfl|constructor|simp only [go_sem,seval]
 rw [hd6] at h;simp only [iG] at h;refine z1 hi3' ?_;refine cf ?_;refine iR (pp ?_);unfold ly at h;obtain ⟨r9,hr8,h⟩:=bI h;refine z1 (k2 hr8 (mP N l2 r9 hr8)) ?_;obtain ⟨r10,hr9,h⟩:=bI h;refine z1 (k2 (ab3 (aeY (mP N l2 r9 hr8))) hr9) ?_;refine fD (pp ?_);obtain rfl:=aco h;simp only [go_sem,seval];exact ⟨_,rfl,iE.h,rp.h⟩
@[go_sem] noncomputable def uU (N:Nat):FnS:=⟨[],true,fn1 Txn.decA fun q0=>(ji N q0).map fun r=>sF 2 (r.map Ref.row),false⟩
theorem w7 (N:Nat):aC Tryz.prog 13 (uU N):=om1 fun q0 r h=>rs (Iy N q0 r h)

@[go_sem] noncomputable def Oi (N d f:Nat):Option FnS:=ay [(14,23,mu N),(18,59,Ip N),(22,71,iN N),(40,63,sm N),(43,13,uU N),(54,69,s6 N),(62,67,qB N),(72,49,B8 N)] d f
theorem OE (N:Nat) (a0:ae) (r:ae × (List aI)) (h:oI N a0=some r):Con Tryz.prog 28 [] false [.agg (ae.row a0)] (.tup [.agg (ae.row r.1),sO 9 (r.2.map aI.row)]):=by
 refine IV (G:=(Oi N)) Tryz.func28 rfl (by decide) (by kernel_rfl) (gc 14 (kL N) (gc 18 (Lg N) (gc 22 (tL N) (gc 40 (tY N) (gc 43 (w7 N) (gc 54 (qX N) (gc 62 (sr N) (gc 72 (C7 N) gn)))))))) [(71,false)] mix (ab5 rfl) ?_;simp only [Tryz.f28];unfold oI at h;refine z0 ?_;obtain ⟨r1,hr1,h⟩:=bI h;refine z1 hr1 ?_;refine cM h (fun hc2 h=>?_) fun hc2 h=>?_
 ·refine z1 hc2 ?_;exact f0 h
 obtain ⟨r2,hr3,h⟩:=bI h;refine z1 (k2 hc2 hr3) ?_;refine z0 ?_;refine aX (iT (fun (b:List Txn × List ai × List aa × List aI)=>⟨tab 77 (af (af (af av 2 (pF 2)) 4 (pF 4)) 5 (.pal 76 [] 0 b.2.2.2.length none)),(upd (upd (upd RZ 2 (vA 3 [.val (.slice none 0 0),.val (.slice none 0 0),.val (.slice none 0 0)])) 4 (vA 3 [sF 11 (b.1.map Txn.row),sF 4 (b.2.1.map ai.row),sF 3 (b.2.2.1.map aa.row)])) 76 (sO 9 (b.2.2.2.map aI.row)))⟩) (r2.Txns,r2.Locks,r2.Stacks,[]) h ?_ ?_)
 ·refine bm.trans (qS 5 76 9 (by simp only [go_sem,seval]) (by simp only [go_sem,seval])) ?_;exact wF (k3 hr1 hc2 hr3)
 rintro n ⟨l4,l5,l6,l7⟩ h -;cases n with
 | zero=>simp [lJ] at h
 | succ n=>
 simp only [lJ] at h;obtain ⟨r3,hr4,h⟩:=bI h;refine z1 hr4 ?_;refine z0 ?_;refine cD h (fun hc5 hc5d h=>?_) fun hc5 hc5d h=>?_
 ·refine z1 hc5d ?_;exact f0 h
 obtain ⟨x4,hb6,hx7,h⟩:=aH h;refine z1 (k3 hc5d hb6 hx7) ?_;obtain ⟨r5,hr8,h⟩:=bI h;refine d1 hr8 ?_;obtain ⟨r18,hr9,h⟩:=bI h;refine z1 hr9 ?_;refine aX (iP fun hreal11=>?_);have hl10:=hreal11.lenT 43 (by decide) (by simp only [go_sem,seval]; rfl);first|rw [abJ] at hl10|rw [fY] at hl10|rw [<-ab4,abJ] at hl10
 refine tz (fun (v16:Nat) (b:List aU)=>⟨tab 77 (af (af (af (af (af (af (af (af av 2 (pF 2)) 4 (pF 4)) 5 (.pal 76 [] 0 l7.length none)) 7 (pF 7)) 8 (pF 8)) 43 (sF 2 (r18.map Ref.row))) 44 (vI (r18.length:Int))) 45 (vI (v16:Int))),(upd (upd (upd (upd (upd RZ 2 (vA 3 [.val (.slice none 0 0),.val (.slice none 0 0),.val (.slice none 0 0)])) 4 (vA 3 [sF 11 (l4.map Txn.row),sF 4 (l5.map ai.row),sF 3 (l6.map aa.row)])) 7 (vA 11 (Txn.row x4))) 8 (vA 9 [vI x4.ID,vS x4.Client,vI x4.Seq,vI r5.Kind,vI r5.N,vS r5.S,sF 1 (r5.I.map (aA .i64)),sF 1 (r5.L.map ey),sO 3 (b.map aU.row)])) 76 (sO 9 (l7.map aI.row)))⟩) [] h ?_ ?_
 ·refine bm.trans (NG 8 [(0,8)] 3 (by simp only [go_sem,seval]) (by simp only [go_sem,seval]; try rfl)) ?_;exact wF (k5 hr1 hc2 hr3 hr4 (k5 hc5d hb6 hx7 hr8 hr9))
 rintro v16 l15 hi12 h -;rcases (ov r18 v16 hi12).symm with ⟨hi12',_,hd15⟩|⟨x19,hi12',hx13,hd15⟩
 ·rw [hd15] at h;simp only [lU] at h;refine z1 hi12' ?_;refine cf ?_;refine iR (pp ?_);unfold wc at h;refine mT (Pk (n:=8) (by simp only [go_sem,seval]; rfl) (by simp only [jF,iI,go_sem]; rfl)) ?_;obtain ⟨r21,hr19,h⟩:=bI h;obtain ⟨ha20,h⟩:=eN h;simp only [abW,acm,acv,Nat.reduceAdd] at ha20;refine d1 (k2 hr19 ha20) ?_;refine ⟨_,acn _,(r21.Txns,r21.Locks,r21.Stacks,(l7++[(aI.mk x4.ID x4.Client x4.Seq r5 l15)])),?_,h⟩;refine wr ?_ ?_<;>repeat' first|rfl|constructor|simp only [go_sem,seval]
 rw [hd15] at h;simp only [lU] at h;have hw14:=fm hi12' hl10;refine z1 hi12' ?_;refine ct ?_;refine z1 (k2 hx13 hi12') ?_;obtain ⟨r19,hr16,h⟩:=bI h;refine z1 hr16 ?_;obtain ⟨r20,hr17,h⟩:=bI h;obtain ⟨ha18,h⟩:=eN h;simp only [abW,acm,acv,Nat.reduceAdd] at ha18;refine d1 (k2 hr17 ha18) ?_;refine z1 hw14 ?_;first|refine ⟨(l15++[(aU.mk x19 r20)]),?_,h⟩|refine ⟨hi12',(l15++[(aU.mk x19 r20)]),?_,h⟩
 refine wr ?_ ?_<;>repeat' first|rfl|constructor|simp only [go_sem,seval]
@[go_sem] noncomputable def AQ (N:Nat):FnS:=⟨[],false,fn1 ae.decA fun q0=>(oI N q0).map fun r=>.tup [.agg (ae.row r.1),sF 9 (r.2.map aI.row)],false⟩
theorem Ch (N:Nat):aC Tryz.prog 28 (AQ N):=om1 fun q0 r h=>rs (OE N q0 r h)

@[go_sem] noncomputable def SO (N d f:Nat):Option FnS:=ay [(9,40,ia N),(17,41,CT N)] d f
theorem Ta (N:Nat) (a0:ae) (a1:Int) (r:Txn × Bool) (h:AA N a0 a1=some r):Con Tryz.prog 12 [] false [.agg (ae.row a0),vI a1] (.tup [.agg [vI r.1.ID,vI r.1.Born,vS r.1.Client,vI r.1.Seq,sO 4 (r.1.Calls.map ah.row),vI r.1.Done,vI r.1.Last.Kind,vI r.1.Last.N,vS r.1.Last.S,sO 1 (r.1.Last.I.map (aA .i64)),sO 1 (r.1.Last.L.map ey)],vB r.2]):=by
 refine fk (G:=(SO N)) Tryz.func12 (gc 9 (fH N) (gc 17 (Hq N) gn)) ?_;simp only [Tryz.f12];unfold AA at h;refine z0 ?_;obtain ⟨r1,hr1,h⟩:=bI h;refine z1 hr1 ?_;refine z0 ?_;refine cD h (fun hc2 hc2d h=>?_) fun hc2 hc2d h=>?_
 ·obtain ⟨x2,hb3,hx4,h⟩:=aH h;obtain ⟨r3,hr5,h⟩:=bI h;refine z1 (k3 hb3 hx4 hr5) ?_;exact f0 h
 refine z1 hc2d ?_;exact f0 h
@[go_sem] def JY (N:Nat):FnS:=⟨[],false,fn2 ae.decA (aG .i64) fun q0 q1=>(AA N q0 q1).map fun r=>.tup [.agg (Txn.row r.1),vB r.2],false⟩
theorem M4 (N:Nat):aC Tryz.prog 12 (JY N):=om2 fun q0 q1 r h=>rs (Ta N q0 q1 r h)

@[go_sem] noncomputable def PN (N d f:Nat):Option FnS:=ay [(10,46,vl N),(40,67,pQ N),(42,67,pQ N)] d f
theorem Qj (N:Nat) (a0:ae) (a1:Ref) (a2:(List Value)) (r:(List Value)) (h:tA N a0 a1 a2=some r):Con Tryz.prog 39 [] false [.agg (ae.row a0),.agg [vS a1.Type_,vS a1.Key],sF 5 (a2.map Value.row)] (sO 5 (r.map Value.row)):=by
 refine fk (G:=(PN N)) Tryz.func39 (gc 10 (u4 N) (gc 40 (rI N) (gc 42 (rI N) gn))) ?_;simp only [Tryz.f39];unfold tA at h;refine z0 ?_;obtain ⟨r8,hr1,h⟩:=bI h;refine z1 hr1 ?_;apply aW (fun (c10:Bool)=>⟨tab 43 (af (af (af (af av 2 (sF 5 (a2.map Value.row))) 3 (pF 3)) 7 (vI r8)) 22 (vB c10)),(upd RZ 3 (vA 3 (ae.row a0)))⟩)
 ·intro hJ2;refine iD h (fun hc3 hc3d h=>?_) fun hc3 hc3d h=>?_
  ·obtain ⟨x11,hb4,hx5,h⟩:=aH h;refine z1 (k2 hb4 hx5) ?_;refine hJ2 _ (decide (0 < (x11.Layers.length:Int))) ?_ h;exact wR
  refine z1 hc3d ?_;refine hJ2 _ false ?_ h;exact wR
 intro c10 h;unfold yx at h;refine cB h (fun hc6 h=>?_) fun hc6 h=>?_
 ·obtain ⟨x12,hb7,hx8,h⟩:=aH h;obtain ⟨x13,hb9,hx10,h⟩:=aH h;obtain ⟨r14,hr11,h⟩:=bI h;refine d1 (k5 hc6 hb7 hx8 hb9 (k2 hx10 hr11)) ?_;exact f0 h
 refine bf (pp ?_);unfold yB at h;obtain ⟨r15,hr12,h⟩:=bI h;refine z1 (k2 hc6 hr12) ?_;exact f0 h
@[go_sem] def GQ (N:Nat):FnS:=⟨[],false,fn3 ae.decA Ref.decA (aJ 5 Value.dec) fun q0 q1 q2=>(tA N q0 q1 q2).map fun r=>sF 5 (r.map Value.row),false⟩
theorem Kz (N:Nat):aC Tryz.prog 39 (GQ N):=om3 fun q0 q1 q2 r h=>rs (Qj N q0 q1 q2 r h)

@[go_sem] noncomputable def Oq (N d f:Nat):Option FnS:=ay [(26,38,z7 N),(36,38,z7 N),(47,25,yp N),(61,34,rC N),(64,34,rC N),(65,26,AY N),(73,27,wo N),(80,25,yp N),(93,34,rC N),(95,34,rC N),(96,26,AY N),(104,15,GX N),(110,23,mu N),(115,20,z6 N),(129,27,wo N),(136,28,AQ N),(159,12,JY N),(165,13,uU N),(172,39,GQ N)] d f
theorem Oe (N:Nat)  (r:Bool) (h:uK N  = some r):Con Tryz.prog 10 [] true [] (vB r):=by
 refine IV (G:=(Oq N)) Tryz.func10 rfl (by decide) (by kernel_rfl) (gc 26 (zq N) (gc 36 (zq N) (gc 47 (wu N) (gc 61 (o4 N) (gc 64 (o4 N) (gc 65 (AJ N) (gc 73 (wU N) (gc 80 (wu N) (gc 93 (o4 N) (gc 95 (o4 N) (gc 96 (AJ N) (gc 104 (J7 N) (gc 110 (kL N) (gc 115 (zC N) (gc 129 (wU N) (gc 136 (Ch N) (gc 159 (M4 N) (gc 165 (w7 N) (gc 172 (Kz N) gn))))))))))))))))))) [(62,false),(94,false)] mix (ab5 rfl) ?_;simp only [Tryz.f10];unfold uK at h;refine z0 ?_;refine z0 ?_;obtain ⟨r1,hr1,h⟩:=bI h;refine z1 hr1 ?_;refine z1 hr1 ?_;refine cN h (fun hc2 hc2d h=>?_) fun hc2 hc2d h=>?_
 ·refine z1 (k2 hr1 hc2d) ?_;exact e1 (k2 hr1 hc2d) h
 obtain ⟨r2,hr3,h⟩:=bI h;refine z1 (k3 hr1 hc2d hr3) ?_;refine z1 (k3 hr1 hc2d hr3) ?_;refine cN h (fun hc4 hc4d h=>?_) fun hc4 hc4d h=>?_
 ·refine z1 (k4 hr1 hc2d hr3 hc4d) ?_;exact e1 (k4 hr1 hc2d hr3 hc4d) h
 refine z1 (k4 hr1 hc2d hr3 hc4d) ?_;refine aX (iT (fun (b:List Txn × List ai × List aa × Int)=>⟨tab 176 (af (af (af (af av 1 (pF 1)) 2 (pF 2)) 3 (pF 3)) 5 (vI b.2.2.2)),(upd (upd (upd RZ 1 (vA 2 [vS (⟨#[65]⟩),vS (⟨#[97]⟩)])) 2 (vA 2 [vS (⟨#[65]⟩),vS (⟨#[98]⟩)])) 3 (vA 3 [sF 11 (b.1.map Txn.row),sF 4 (b.2.1.map ai.row),sF 3 (b.2.2.1.map aa.row)]))⟩) (r2.1.Txns,r2.1.Locks,r2.1.Stacks,0) h ?_ ?_)
 ·exact wR
 rintro n ⟨l6,l7,l8,v9⟩ h -;cases n with
 | zero=>simp [gA] at h
 | succ n=>
 simp only [gA] at h;refine z1 (k4 hr1 hc2d hr3 hc4d) ?_;refine cD h (fun hc5 hc5d h=>?_) fun hc5 hc5d h=>?_
 ·obtain ⟨r20,hr6,h⟩:=bI h;refine z1 (k5 hr1 hc2d hr3 hc4d (k2 hc5d hr6)) ?_;refine aM ?_;apply aW (fun (c23:Bool)=>⟨tab 176 (af (af (af (af (af (af av 1 (pF 1)) 2 (pF 2)) 3 (pF 3)) 5 (vI v9)) 6 (pF 6)) 57 (vB c23)),(upd (upd (upd (upd RZ 1 (vA 2 [vS (⟨#[65]⟩),vS (⟨#[97]⟩)])) 2 (vA 2 [vS (⟨#[65]⟩),vS (⟨#[98]⟩)])) 3 (vA 3 [sF 11 (l6.map Txn.row),sF 4 (l7.map ai.row),sF 3 (l8.map aa.row)])) 6 (vA 3 (ae.row r20.1)))⟩)
  ·intro hJ7;refine iDs h (fun hc8 hc8d h=>?_) fun hc8 hc8d h=>?_
   ·refine z1 (k5 hr1 hc2d hr3 hc4d (k3 hc5d hr6 hc8d)) ?_;refine hJ7 _ true ?_ h;exact wR
   refine z1 (k5 hr1 hc2d hr3 hc4d (k3 hc5d hr6 hc8d)) ?_;refine hJ7 _ (!decide (r20.2.1=1)) ?_ h;exact wR
  intro c23 h;unfold s3 at h;refine cB h (fun hc9 h=>?_) fun hc9 h=>?_
  ·refine z1 (k5 hr1 hc2d hr3 hc4d (k3 hc5d hr6 hc9)) ?_;exact e1 (k5 hr1 hc2d hr3 hc4d (k3 hc5d hr6 hc9)) h
  refine bf (pp ?_);unfold s5 at h;obtain ⟨r24,hr10,h⟩:=bI h;obtain ⟨r25,hr11,h⟩:=bI h;obtain rfl:=aco (hr10.symm.trans hr11);obtain ⟨r26,hr12,h⟩:=bI h;refine d1 (k5 hr1 hc2d hr3 hc4d (k5 hc5d hr6 hc9 hr10 hr12)) ?_;refine z1 (k5 hr1 hc2d hr3 hc4d (k5 hc5d hr6 hc9 hr10 hr12)) ?_;refine cN h (fun hc13 hc13d h=>?_) fun hc13 hc13d h=>?_
  ·refine z1 (k5 hr1 hc2d hr3 hc4d (k5 hc5d hr6 hc9 hr10 (k2 hr12 hc13d))) ?_;exact e1 (k5 hr1 hc2d hr3 hc4d (k5 hc5d hr6 hc9 hr10 (k2 hr12 hc13d))) h
  refine z1 (k5 hr1 hc2d hr3 hc4d (k5 hc5d hr6 hc9 hr10 (k2 hr12 hc13d))) ?_;refine ⟨_,acn _,(r26.1.Txns,r26.1.Locks,r26.1.Stacks,IntKind.i64.wrap (v9+1)),?_,h⟩;exact wR
 refine iR (pp ?_);unfold qP at h;obtain ⟨r27,hr14,h⟩:=bI h;refine z1 (k5 hr1 hc2d hr3 hc4d (k2 hc5d hr14)) ?_;refine z1 (k5 hr1 hc2d hr3 hc4d (k2 hc5d hr14)) ?_;refine cN h (fun hc15 hc15d h=>?_) fun hc15 hc15d h=>?_
 ·refine z1 (k5 hr1 hc2d hr3 hc4d (k3 hc5d hr14 hc15d)) ?_;exact e1 (k5 hr1 hc2d hr3 hc4d (k3 hc5d hr14 hc15d)) h
 obtain ⟨r28,hr16,h⟩:=bI h;refine z1 (k5 hr1 hc2d hr3 hc4d (k4 hc5d hr14 hc15d hr16)) ?_;refine aM ?_;apply aW (fun (c31:Bool)=>⟨tab 176 (af (af (af (af av 1 (pF 1)) 2 (pF 2)) 3 (pF 3)) 90 (vB c31)),(upd (upd (upd RZ 1 (vA 2 [vS (⟨#[65]⟩),vS (⟨#[97]⟩)])) 2 (vA 2 [vS (⟨#[65]⟩),vS (⟨#[98]⟩)])) 3 (vA 3 (ae.row r28.1)))⟩)
 ·intro hJ17;refine iDs h (fun hc18 hc18d h=>?_) fun hc18 hc18d h=>?_
  ·refine z1 (k5 hr1 hc2d hr3 hc4d (k5 hc5d hr14 hc15d hr16 hc18d)) ?_;refine hJ17 _ true ?_ h;exact wR
  refine z1 (k5 hr1 hc2d hr3 hc4d (k5 hc5d hr14 hc15d hr16 hc18d)) ?_;refine hJ17 _ (!decide (r28.2.1=1)) ?_ h;exact wR
 intro c31 h;unfold vY at h;refine cB h (fun hc19 h=>?_) fun hc19 h=>?_
 ·refine z1 (k5 hr1 hc2d hr3 hc4d (k5 hc5d hr14 hc15d hr16 hc19)) ?_;exact e1 (k5 hr1 hc2d hr3 hc4d (k5 hc5d hr14 hc15d hr16 hc19)) h
 refine bf (pp ?_);unfold u6 at h;obtain ⟨r32,hr20,h⟩:=bI h;obtain ⟨r33,hr21,h⟩:=bI h;obtain rfl:=aco (hr20.symm.trans hr21);obtain ⟨r34,hr22,h⟩:=bI h;refine d1 (k5 hr1 hc2d hr3 hc4d (k5 hc5d hr14 hc15d hr16 (k3 hc19 hr20 hr22))) ?_;refine aM ?_;apply aW (fun (c41:Bool)=>⟨tab 176 (af (af (af (af av 1 (pF 1)) 2 (pF 2)) 3 (pF 3)) 112 (vB c41)),(upd (upd (upd RZ 1 (vA 2 [vS (⟨#[65]⟩),vS (⟨#[97]⟩)])) 2 (vA 2 [vS (⟨#[65]⟩),vS (⟨#[98]⟩)])) 3 (vA 3 (ae.row r34.1)))⟩)
 ·intro hJ23;refine iDs h (fun hc24 hc24d h=>?_) fun hc24 hc24d h=>?_
  ·refine z1 (k5 hr1 hc2d hr3 hc4d (k5 hc5d hr14 hc15d hr16 (k4 hc19 hr20 hr22 hc24d))) ?_;refine hJ23 _ true ?_ h;exact wR
  obtain ⟨r42,hr25,h⟩:=bI h;refine iDs h (fun hc26 hc26d h=>?_) fun hc26 hc26d h=>?_
  ·refine z1 (k5 hr1 hc2d hr3 hc4d (k5 hc5d hr14 hc15d hr16 (k5 hc19 hr20 hr22 hc24d (k2 hr25 hc26d)))) ?_;refine hJ23 _ true ?_ h;exact wR
  obtain ⟨r43,hr27,h⟩:=bI h;refine z1 (k5 hr1 hc2d hr3 hc4d (k5 hc5d hr14 hc15d hr16 (k5 hc19 hr20 hr22 hc24d (k3 hr25 hc26d hr27)))) ?_;refine hJ23 _ (!r43) ?_ h;exact wR
 intro c41 h;unfold tc at h;refine cB h (fun hc28 h=>?_) fun hc28 h=>?_
 ·refine z1 (k5 hr1 hc2d hr3 hc4d (k5 hc5d hr14 hc15d hr16 (k4 hc19 hr20 hr22 hc28))) ?_;exact e1 (k5 hr1 hc2d hr3 hc4d (k5 hc5d hr14 hc15d hr16 (k4 hc19 hr20 hr22 hc28))) h
 refine bf (pp ?_);unfold sS at h;obtain ⟨r44,hr29,h⟩:=bI h;refine z1 (k5 hr1 hc2d hr3 hc4d (k5 hc5d hr14 hc15d hr16 (k5 hc19 hr20 hr22 hc28 hr29))) ?_;refine aM ?_;apply aW (fun (c47:Bool)=>⟨tab 176 (af (af (af (af av 1 (pF 1)) 2 (pF 2)) 3 (pF 3)) 125 (vB c47)),(upd (upd (upd RZ 1 (vA 2 [vS (⟨#[65]⟩),vS (⟨#[97]⟩)])) 2 (vA 2 [vS (⟨#[65]⟩),vS (⟨#[98]⟩)])) 3 (vA 3 (ae.row r34.1)))⟩)
 ·intro hJ30;refine iDs h (fun hc31 hc31d h=>?_) fun hc31 hc31d h=>?_
  ·refine z1 (k5 hr1 hc2d hr3 hc4d (k5 hc5d hr14 hc15d hr16 (k5 hc19 hr20 hr22 hc28 (k2 hr29 hc31d)))) ?_;refine hJ30 _ true ?_ h;exact wR
  refine z1 (k5 hr1 hc2d hr3 hc4d (k5 hc5d hr14 hc15d hr16 (k5 hc19 hr20 hr22 hc28 (k2 hr29 hc31d)))) ?_;refine hJ30 _ (!decide ((r44.2.1.length:Int)=2)) ?_ h;exact wR
 intro c47 h;unfold wE at h;refine cB h (fun hc32 h=>?_) fun hc32 h=>?_
 ·refine z1 (k5 hr1 hc2d hr3 hc4d (k5 hc5d hr14 hc15d hr16 (k5 hc19 hr20 hr22 hc28 (k2 hr29 hc32)))) ?_;exact e1 (k5 hr1 hc2d hr3 hc4d (k5 hc5d hr14 hc15d hr16 (k5 hc19 hr20 hr22 hc28 (k2 hr29 hc32)))) h
 refine bf (pp ?_);unfold we at h;obtain ⟨r48,hr33,h⟩:=bI h;refine z1 (k5 hr1 hc2d hr3 hc4d (k5 hc5d hr14 hc15d hr16 (k5 hc19 hr20 hr22 hc28 (k3 hr29 hc32 hr33)))) ?_;refine z1 (k5 hr1 hc2d hr3 hc4d (k5 hc5d hr14 hc15d hr16 (k5 hc19 hr20 hr22 hc28 (k3 hr29 hc32 hr33)))) ?_;refine cN h (fun hc34 hc34d h=>?_) fun hc34 hc34d h=>?_
 ·refine z1 (k5 hr1 hc2d hr3 hc4d (k5 hc5d hr14 hc15d hr16 (k5 hc19 hr20 hr22 hc28 (k4 hr29 hc32 hr33 hc34d)))) ?_;exact e1 (k5 hr1 hc2d hr3 hc4d (k5 hc5d hr14 hc15d hr16 (k5 hc19 hr20 hr22 hc28 (k4 hr29 hc32 hr33 hc34d)))) h
 obtain ⟨r49,hr35,h⟩:=bI h;refine z1 (k5 hr1 hc2d hr3 hc4d (k5 hc5d hr14 hc15d hr16 (k5 hc19 hr20 hr22 hc28 (k5 hr29 hc32 hr33 hc34d hr35)))) ?_;refine aM ?_;apply aW (fun (c54:Bool)=>⟨tab 176 (af (af (af av 1 (pF 1)) 3 (pF 3)) 156 (vB c54)),(upd (upd RZ 1 (vA 2 [vS (⟨#[65]⟩),vS (⟨#[97]⟩)])) 3 (vA 3 (ae.row r49.1)))⟩)
 ·intro hJ36;refine iDs h (fun hc37 hc37d h=>?_) fun hc37 hc37d h=>?_
  ·refine z1 (k5 hr1 hc2d hr3 hc4d (k5 hc5d hr14 hc15d hr16 (k5 hc19 hr20 hr22 hc28 (k5 hr29 hc32 hr33 hc34d (k2 hr35 hc37d))))) ?_;refine hJ36 _ true ?_ h;exact wR
  obtain ⟨x55,hb38,hx39,h⟩:=aH h;try simp only [abX,Int.reduceToNat,adp] at hx39
  try simp only [adD,ac3,true_and] at hb38
  refine iDs h (fun hc40 hc40d h=>?_) fun hc40 hc40d h=>?_
  ·refine z1 (k5 hr1 hc2d hr3 hc4d (k5 hc5d hr14 hc15d hr16 (k5 hc19 hr20 hr22 hc28 (k5 hr29 hc32 hr33 hc34d (k5 hr35 hc37d hb38 hx39 hc40d))))) ?_;refine hJ36 _ true ?_ h;exact wR
  refine z1 (k5 hr1 hc2d hr3 hc4d (k5 hc5d hr14 hc15d hr16 (k5 hc19 hr20 hr22 hc28 (k5 hr29 hc32 hr33 hc34d (k5 hr35 hc37d hb38 hx39 hc40d))))) ?_;refine hJ36 _ (!decide ((x55.Writes.length:Int)=2)) ?_ h;exact wR
 intro c54 h;unfold sp at h;refine cB h (fun hc41 h=>?_) fun hc41 h=>?_
 ·refine z1 (k5 hr1 hc2d hr3 hc4d (k5 hc5d hr14 hc15d hr16 (k5 hc19 hr20 hr22 hc28 (k5 hr29 hc32 hr33 hc34d (k2 hr35 hc41))))) ?_;exact e1 (k5 hr1 hc2d hr3 hc4d (k5 hc5d hr14 hc15d hr16 (k5 hc19 hr20 hr22 hc28 (k5 hr29 hc32 hr33 hc34d (k2 hr35 hc41))))) h
 refine bf (pp ?_);unfold sN at h;obtain ⟨r56,hr42,h⟩:=bI h;refine z1 (k5 hr1 hc2d hr3 hc4d (k5 hc5d hr14 hc15d hr16 (k5 hc19 hr20 hr22 hc28 (k5 hr29 hc32 hr33 hc34d (k3 hr35 hc41 hr42))))) ?_;refine iBs h (fun hc43 h=>?_) fun hc43 h=>?_
 ·refine z1 (k5 hr1 hc2d hr3 hc4d (k5 hc5d hr14 hc15d hr16 (k5 hc19 hr20 hr22 hc28 (k5 hr29 hc32 hr33 hc34d (k4 hr35 hc41 hr42 hc43))))) ?_;exact e1 (k5 hr1 hc2d hr3 hc4d (k5 hc5d hr14 hc15d hr16 (k5 hc19 hr20 hr22 hc28 (k5 hr29 hc32 hr33 hc34d (k4 hr35 hc41 hr42 hc43))))) h
 obtain ⟨r57,hr44,h⟩:=bI h;refine iD h (fun hc45 hc45d h=>?_) fun hc45 hc45d h=>?_
 ·obtain ⟨r58,hr46,h⟩:=bI h;refine z1 (k5 hr1 hc2d hr3 hc4d (k5 hc5d hr14 hc15d hr16 (k5 hc19 hr20 hr22 hc28 (k5 hr29 hc32 hr33 hc34d (k5 hr35 hc41 hr42 hc43 (k3 hr44 hc45d hr46)))))) ?_;exact e1 (k5 hr1 hc2d hr3 hc4d (k5 hc5d hr14 hc15d hr16 (k5 hc19 hr20 hr22 hc28 (k5 hr29 hc32 hr33 hc34d (k5 hr35 hc41 hr42 hc43 (k3 hr44 hc45d hr46)))))) h
 refine z1 (k5 hr1 hc2d hr3 hc4d (k5 hc5d hr14 hc15d hr16 (k5 hc19 hr20 hr22 hc28 (k5 hr29 hc32 hr33 hc34d (k5 hr35 hc41 hr42 hc43 (k2 hr44 hc45d)))))) ?_;exact e1 (k5 hr1 hc2d hr3 hc4d (k5 hc5d hr14 hc15d hr16 (k5 hc19 hr20 hr22 hc28 (k5 hr29 hc32 hr33 hc34d (k5 hr35 hc41 hr42 hc43 (k2 hr44 hc45d)))))) h
@[go_sem] noncomputable def AO (N:Nat):FnS:={ own:=[],pure:=true,fn:=fun cs=>match cs with
 | [] =>  (uK N ).map fun r=>vB r
 | _=>none }
theorem Jy (N:Nat):aC Tryz.prog 10 (AO N):=by
 refine ⟨fun cs r h=>?_,fun h=>by cases h⟩;simp only [AO] at h;split at h
 ·simp only [abC,abB] at h;obtain ⟨r',hr,rfl⟩:=h;exact (ag (Oe N  r' hr))
 ·cases h


theorem Qi (N:Nat) (a0:ae) (a1:Int) (r:Int) (h:wg N a0 a1=some r):Con Tryz.prog 19 [] true [.agg (ae.row a0),.val (.int .u8 a1)] (vI r):=by
 refine fk (G:=(ay [])) Tryz.func19 gn ?_;simp only [Tryz.f19];unfold wg at h;refine z0 ?_;refine z0 ?_;refine cD h (fun hc1 hc1d h=>?_) fun hc1 hc1d h=>?_
 ·refine z1 hc1d ?_;exact e0 h
 obtain ⟨hd2,h⟩:=Px h;obtain ⟨x1,hb3,hx4,h⟩:=aH h;refine d1 (k3 hd2 hb3 hx4) ?_;exact e0 h
@[go_sem] def G6 (N:Nat):FnS:=⟨[],true,fn2 ae.decA (aG .u8) fun q0 q1=>(wg N q0 q1).map fun r=>vI r,false⟩
theorem KK (N:Nat):aC Tryz.prog 19 (G6 N):=om2 (Qi N)


theorem Ri (N:Nat) (a0:Int) (r:Ref) (h:vq N a0=some r):Con Tryz.prog 95 [] true [.val (.int .u8 a0)] (.agg (Ref.row r)):=by
 refine fk (G:=(ay [])) Tryz.func95 gn ?_;simp only [Tryz.f95];unfold vq at h;refine z0 ?_;refine z0 ?_;obtain ⟨hs1,h⟩:=Wm h;simp only [ByteArray.size,acY,abW,acm,Nat.reduceAdd] at hs1;refine z1 hs1 ?_;exact e0 h
@[go_sem] def CP (N:Nat):FnS:=⟨[],true,fn1 (aG .u8) fun q0=>(vq N q0).map fun r=>.agg (Ref.row r),false⟩
theorem DY (N:Nat):aC Tryz.prog 95 (CP N):=om1 (Ri N)


@[go_sem] noncomputable def Ov (N d f:Nat):Option FnS:=ay [(21,95,CP N)] d f
theorem Ow (N:Nat) (a0:aj) (r:(List ah)) (h:yq N a0=some r):Con Tryz.prog 33 [] false [.agg (aj.row a0)] (sO 4 (r.map ah.row)):=by
 refine fk (G:=(Ov N)) Tryz.func33 (gc 21 (DY N) gn) ?_;simp only [Tryz.f33];unfold yq at h;refine z0 ?_;refine z0 ?_;refine z0 ?_;refine aX (iT (fun (b:List ah × Int)=>⟨tab 26 (af (af (af av 1 (pF 1)) 3 (.pal 24 [] 0 b.1.length none)) 4 (vI b.2)),(upd (upd RZ 1 (vA 4 (aj.row a0))) 24 (sO 4 (b.1.map ah.row)))⟩) ([],0) h ?_ ?_)
 ·refine bm.trans (qS 3 24 4 (by simp only [go_sem,seval]) (by simp only [go_sem,seval])) ?_;refine wr ?_ ?_<;>repeat' first|rfl|constructor|simp only [go_sem,seval,acN,acf,acC,acw]
 rintro n ⟨l2,v3⟩ h -;cases n with
 | zero=>simp [oS] at h
 | succ n=>
 simp only [oS] at h;refine z0 ?_;refine cDs h (fun hc1 hc1d h=>?_) fun hc1 hc1d h=>?_
 ·refine z1 hc1d ?_;exact f0 h
 obtain ⟨hd2,h⟩:=VK h;obtain ⟨r1,hr3,h⟩:=bI h;obtain ⟨ha4,h⟩:=eN h;simp only [abW,acm,acv,Nat.reduceAdd] at ha4;refine z1 (k4 hc1d hd2 hr3 ha4) ?_;refine z0 ?_;refine ⟨_,acn _,((l2++[(ah.mk r1 (⟨#[109]⟩) [])]),IntKind.i64.wrap (v3+1)),?_,h⟩;refine bm.trans (wi (n:=23) ([[vS r1.Type_,vS r1.Key,vS (⟨#[109]⟩),sF 5 []]]) (by (try simp only [go_sem]); rfl) (by simp only [go_sem,seval]; rfl) (by simp only [jF,iI,go_sem]; rfl)) (bm.trans (wi (n:=24) (l2.map ah.row++[[vS r1.Type_,vS r1.Key,vS (⟨#[109]⟩),sF 5 []]]) (by (try simp only [go_sem]); rfl) (by simp only [go_sem,seval]; rfl) (by simp only [jF,iI,go_sem]; rfl)) ?_);refine wr ?_ ?_<;>repeat' first|rfl|constructor|simp only [go_sem,seval]
@[go_sem] def EU (N:Nat):FnS:=⟨[],false,fn1 aj.decA fun q0=>(yq N q0).map fun r=>sF 4 (r.map ah.row),false⟩
theorem Jj (N:Nat):aC Tryz.prog 33 (EU N):=om1 fun q0 r h=>rs (Ow N q0 r h)

theorem Cb (N:Nat) (a0:Value) (r:Value) (h:jC N a0=some r):Con Tryz.prog 158 [] true [.agg (Value.row a0)] (.agg [vI r.Kind,vI r.N,vS r.S,sO 1 (r.I.map (aA .i64)),sO 1 (r.L.map ey)]):=by
 refine fk (G:=(ay [])) Tryz.func158 gn ?_;simp only [Tryz.f158];unfold jC at h;refine z0 ?_;refine aM ?_;first|obtain ⟨ha1,h⟩:=px h|(obtain ⟨ha1,h⟩:=eN h; rw [abS] at h)
 simp only [Nat.reduceAdd] at ha1;refine z1 ha1 ?_;refine aM ?_;first|obtain ⟨ha2,h⟩:=px h|(obtain ⟨ha2,h⟩:=eN h; rw [abS] at h)
 simp only [Nat.reduceAdd] at ha2;refine z1 ha2 ?_;refine z0 ?_;exact e0 h
@[go_sem] def BR (N:Nat):FnS:=⟨[],true,fn1 Value.decA fun q0=>(jC N q0).map fun r=>.agg (Value.row r),false⟩
theorem E4 (N:Nat):aC Tryz.prog 158 (BR N):=om1 fun q0 r h=>rs (Cb N q0 r h)

@[go_sem] def Al (N:Nat):FnS:=⟨[],true,fn1 Value.decA fun q0=>(jC N q0).map fun r=>.agg [vI r.Kind,vI r.N,vS r.S,sO 1 (r.I.map (aA .i64)),sO 1 (r.L.map ey)],false⟩
theorem Ey (N:Nat):aC Tryz.prog 158 (Al N):=om1 (Cb N)


@[go_sem] noncomputable def HX (N d f:Nat):Option FnS:=ay [(16,158,BR N)] d f
theorem IA (N:Nat) (a0:(List Value)) (r:(List Value)) (h:lO N a0=some r):Con Tryz.prog 159 [] false [sF 5 (a0.map Value.row)] (sO 5 (r.map Value.row)):=by
 refine fk (G:=(HX N)) Tryz.func159 (gc 16 (E4 N) gn) ?_;simp only [Tryz.f159];unfold lO at h;refine z0 ?_;refine z0 ?_;refine z0 ?_;refine aX (iP fun hreal2=>?_);have hl1:=hreal2.lenT 0 (by decide) (by simp only [go_sem,seval]; rfl);first|rw [abJ] at hl1|rw [fY] at hl1|rw [<-ab4,abJ] at hl1
 refine tz (fun (v3:Nat) (b:List Value)=>⟨tab 20 (af (af (af av 0 (sF 5 (a0.map Value.row))) 3 (.pal 18 [] 0 b.length none)) 4 (vI (v3:Int))),(upd RZ 18 (sO 5 (b.map Value.row)))⟩) [] h ?_ ?_
 ·refine bm.trans (qS 3 18 5 (by simp only [go_sem,seval]) (by simp only [go_sem,seval])) ?_;refine wr ?_ ?_<;>repeat' first|rfl|constructor|simp only [go_sem,seval,acN,acf,acC,acw]
 rintro v3 l2 hi3 h -;rcases (ov a0 v3 hi3).symm with ⟨hi3',_,hd6⟩|⟨x6,hi3',hx4,hd6⟩
 ·rw [hd6] at h;simp only [jG] at h;refine z1 hi3' ?_;refine cf ?_;refine z0 ?_;exact f0 h
 rw [hd6] at h;simp only [jG] at h;have hw5:=fm hi3' hl1;refine z1 hi3' ?_;refine ct ?_;obtain ⟨r1,hr7,h⟩:=bI h;obtain ⟨ha8,h⟩:=eN h;simp only [abW,acm,acv,Nat.reduceAdd] at ha8;refine z1 (k4 hx4 hi3' hr7 ha8) ?_;refine z1 hw5 ?_;first|refine ⟨(l2++[r1]),?_,h⟩|refine ⟨hi3',(l2++[r1]),?_,h⟩
 refine wr ?_ ?_<;>repeat' first|rfl|constructor|simp only [go_sem,seval]
@[go_sem] def An (N:Nat):FnS:=⟨[],false,fn1 (aJ 5 Value.dec) fun q0=>(lO N q0).map fun r=>sF 5 (r.map Value.row),false⟩
theorem Et (N:Nat):aC Tryz.prog 159 (An N):=om1 fun q0 r h=>rs (IA N q0 r h)

@[go_sem] noncomputable def Jp (N d f:Nat):Option FnS:=ay [(27,159,An N)] d f
theorem Js (N:Nat) (a0:(List ah)) (r:(List ah)) (h:mS N a0=some r):Con Tryz.prog 205 [] false [sF 4 (a0.map ah.row)] (sO 4 (r.map ah.row)):=by
 refine fk (G:=(Jp N)) Tryz.func205 (gc 27 (Et N) gn) ?_;simp only [Tryz.f205];unfold mS at h;refine z0 ?_;refine z0 ?_;refine z0 ?_;refine aX (iP fun hreal2=>?_);have hl1:=hreal2.lenT 0 (by decide) (by simp only [go_sem,seval]; rfl);first|rw [abJ] at hl1|rw [fY] at hl1|rw [<-ab4,abJ] at hl1
 refine tz (fun (v3:Nat) (b:List ah)=>⟨tab 32 (af (af (af av 0 (sF 4 (a0.map ah.row))) 3 (.pal 30 [] 0 b.length none)) 4 (vI (v3:Int))),(upd RZ 30 (sO 4 (b.map ah.row)))⟩) [] h ?_ ?_
 ·refine bm.trans (qS 3 30 4 (by simp only [go_sem,seval]) (by simp only [go_sem,seval])) ?_;refine wr ?_ ?_<;>repeat' first|rfl|constructor|simp only [go_sem,seval,acN,acf,acC,acw]
 rintro v3 l2 hi3 h -;rcases (ov a0 v3 hi3).symm with ⟨hi3',_,hd6⟩|⟨x6,hi3',hx4,hd6⟩
 ·rw [hd6] at h;simp only [kd] at h;refine z1 hi3' ?_;refine cf ?_;refine z0 ?_;exact f0 h
 rw [hd6] at h;simp only [kd] at h;have hw5:=fm hi3' hl1;refine z1 hi3' ?_;refine ct ?_;obtain ⟨r1,hr7,h⟩:=bI h;obtain ⟨ha8,h⟩:=eN h;simp only [abW,acm,acv,Nat.reduceAdd] at ha8;refine d1 (k4 hx4 hi3' hr7 ha8) ?_;refine z1 hw5 ?_;first|refine ⟨(l2++[(ah.mk x6.Target x6.Method r1)]),?_,h⟩|refine ⟨hi3',(l2++[(ah.mk x6.Target x6.Method r1)]),?_,h⟩
 refine wr ?_ ?_<;>repeat' first|rfl|constructor|simp only [go_sem,seval]
@[go_sem] def Aj (N:Nat):FnS:=⟨[],false,fn1 (aJ 4 ah.dec) fun q0=>(mS N q0).map fun r=>sO 4 (r.map ah.row),false⟩
theorem EN (N:Nat):aC Tryz.prog 205 (Aj N):=om1 (Js N)


@[go_sem] noncomputable def Mg (N d f:Nat):Option FnS:=ay [(5,205,Aj N),(9,158,Al N)] d f
theorem Mr (N:Nat) (a0:Txn) (r:Txn) (h:ql N a0=some r):Con Tryz.prog 150 [] false [.agg (Txn.row a0)] (.agg [vI r.ID,vI r.Born,vS r.Client,vI r.Seq,sO 4 (r.Calls.map ah.row),vI r.Done,vI r.Last.Kind,vI r.Last.N,vS r.Last.S,sO 1 (r.Last.I.map (aA .i64)),sO 1 (r.Last.L.map ey)]):=by
 refine fk (G:=(Mg N)) Tryz.func150 (gc 5 (EN N) (gc 9 (Ey N) gn)) ?_;simp only [Tryz.f150];unfold ql at h;refine z0 ?_;obtain ⟨r1,hr1,h⟩:=bI h;refine z1 hr1 ?_;obtain ⟨r2,hr2,h⟩:=bI h;refine z1 hr2 ?_;refine z0 ?_;exact f0 h
@[go_sem] def Cn (N:Nat):FnS:=⟨[],false,fn1 Txn.decA fun q0=>(ql N q0).map fun r=>.agg [vI r.ID,vI r.Born,vS r.Client,vI r.Seq,sO 4 (r.Calls.map ah.row),vI r.Done,vI r.Last.Kind,vI r.Last.N,vS r.Last.S,sO 1 (r.Last.I.map (aA .i64)),sO 1 (r.Last.L.map ey)],false⟩
theorem Gl (N:Nat):aC Tryz.prog 150 (Cn N):=om1 (Mr N)


@[go_sem] noncomputable def QF (N d f:Nat):Option FnS:=ay [(27,150,Cn N)] d f
theorem QG (N:Nat) (a0:ae) (a1:Int) (r:Txn × Bool) (h:zZ N a0 a1=some r):Con Tryz.prog 80 [] false [.agg (ae.row a0),vI a1] (.tup [.agg [vI r.1.ID,vI r.1.Born,vS r.1.Client,vI r.1.Seq,sO 4 (r.1.Calls.map ah.row),vI r.1.Done,vI r.1.Last.Kind,vI r.1.Last.N,vS r.1.Last.S,sO 1 (r.1.Last.I.map (aA .i64)),sO 1 (r.1.Last.L.map ey)],vB r.2]):=by
 refine fk (G:=(QF N)) Tryz.func80 (gc 27 (Gl N) gn) ?_;simp only [Tryz.f80];unfold zZ at h;refine z0 ?_;refine z0 ?_;refine lC 2 0 (fun (v2:Nat) (b:Unit)=>⟨tab 29 (af (af (af (af av 1 (vI a1)) 2 (pF 2)) 4 (pF 4)) 6 (vI (v2:Int))),(upd (upd RZ 2 (vA 3 (ae.row a0))) 4 (vA 11 [vI 0,vI 0,vS (⟨#[]⟩),vI 0,.val (.slice none 0 0),vI 0,vI 0,vI 0,vS (⟨#[]⟩),.val (.slice none 0 0),.val (.slice none 0 0)]))⟩) () h ?_ ?_
 ·rintro v2 ⟨⟩ hi3' h;simp only [qp] at h;refine z1 hi3' ?_;refine cf ?_;refine z0 ?_;exact f0 h
 rintro v2 ⟨⟩ x5 hi3' hx4 hw5 h;simp only [qp] at h;refine z1 hi3' ?_;refine ct ?_;refine z1 (k2 hx4 hi3') ?_;refine cD h (fun hc7 hc7d h=>?_) fun hc7 hc7d h=>?_
 ·obtain ⟨r1,hr8,h⟩:=bI h;refine z1 (k4 hx4 hi3' hc7d hr8) ?_;exact f0 h
 refine z1 (k2 hw5 hc7d) ?_;first|refine ⟨(),?_,h⟩|refine ⟨hi3',(),?_,h⟩
 exact wR
@[go_sem] def GV (N:Nat):FnS:=⟨[],false,fn2 ae.decA (aG .i64) fun q0 q1=>(zZ N q0 q1).map fun r=>.tup [.agg (Txn.row r.1),vB r.2],false⟩
theorem Kr (N:Nat):aC Tryz.prog 80 (GV N):=om2 fun q0 q1 r h=>rs (QG N q0 q1 r h)

theorem Ph (N:Nat) (a0:Ref) (a1:Ref) (r:Bool) (h:vV N a0 a1=some r):Con Tryz.prog 77 [] true [.agg [vS a0.Type_,vS a0.Key],.agg [vS a1.Type_,vS a1.Key]] (vB r):=by
 refine fk (G:=(ay [])) Tryz.func77 gn ?_;simp only [Tryz.f77];unfold vV at h;refine z0 ?_;refine iB h (fun hc1 h=>?_) fun hc1 h=>?_
 ·refine z1 hc1 ?_;exact e0 h
 refine iB h (fun hc2 h=>?_) fun hc2 h=>?_
 ·refine z1 (k2 hc1 hc2) ?_;exact e0 h
 refine z1 (k2 hc1 hc2) ?_;exact e0 h
@[go_sem] def GS (N:Nat):FnS:=⟨[],true,fn2 Ref.decA Ref.decA fun q0 q1=>(vV N q0 q1).map fun r=>vB r,false⟩
theorem Kt (N:Nat):aC Tryz.prog 77 (GS N):=om2 (Ph N)


@[go_sem] noncomputable def Lm (N d f:Nat):Option FnS:=ay [(30,77,GS N)] d f
theorem LB (N:Nat) (a0:(List ah)) (r:(List Ref)) (h:uF N a0=some r):Con Tryz.prog 82 [] true [sF 4 (a0.map ah.row)] (sO 2 (r.map Ref.row)):=by
 refine fk (G:=(Lm N)) Tryz.func82 (gc 30 (Kt N) gn) ?_;simp only [Tryz.f82];unfold uF at h;refine z0 ?_;refine z0 ?_;refine z0 ?_;refine aX (iP fun hreal2=>?_);have hl1:=hreal2.lenT 0 (by decide) (by simp only [go_sem,seval]; rfl);first|rw [abJ] at hl1|rw [fY] at hl1|rw [<-ab4,abJ] at hl1
 refine tz (fun (v3:Nat) (b:List Ref)=>⟨tab 62 (af (af (af av 0 (sF 4 (a0.map ah.row))) 3 (.pal 60 [] 0 b.length none)) 4 (vI (v3:Int))),(upd RZ 60 (sO 2 (b.map Ref.row)))⟩) [] h ?_ ?_
 ·refine bm.trans (qS 3 60 2 (by simp only [go_sem,seval]) (by simp only [go_sem,seval])) ?_;refine wr ?_ ?_<;>repeat' first|rfl|constructor|simp only [go_sem,seval,acN,acf,acC,acw]
 rintro v3 l2 hi3 h -;rcases (ov a0 v3 hi3).symm with ⟨hi3',_,hd6⟩|⟨x6,hi3',hx4,hd6⟩
 ·rw [hd6] at h;simp only [fO] at h;refine z1 hi3' ?_;refine cf ?_;refine z0 ?_;exact e0 h
 rw [hd6] at h;simp only [fO] at h;have hw5:=fm hi3' hl1;refine z1 hi3' ?_;refine ct ?_;refine z1 (k2 hx4 hi3') ?_;refine z0 ?_;refine aM (aX (iT (fun (b:Int)=>⟨tab 62 (af (af (af (af (af av 0 (sF 4 (a0.map ah.row))) 3 (.pal 60 [] 0 l2.length none)) 4 (vI (v3:Int))) 5 (pF 5)) 6 (vI b)),(upd (upd RZ 5 (vA 2 [vS x6.Target.Type_,vS x6.Target.Key])) 60 (sO 2 (l2.map Ref.row)))⟩) (l2.length:Int) h ?_ ?_))
 ·exact wF (k3 hx4 hi3' hw5)
 rintro n v10 h -;cases n with
 | zero=>simp [jP] at h
 | succ n=>
 simp only [jP] at h;refine aM ?_;apply aW (fun (c10:Bool)=>⟨tab 62 (af (af (af (af (af (af av 0 (sF 4 (a0.map ah.row))) 3 (.pal 60 [] 0 l2.length none)) 4 (vI (v3:Int))) 5 (pF 5)) 6 (vI v10)) 32 (vB c10)),(upd (upd RZ 5 (vA 2 [vS x6.Target.Type_,vS x6.Target.Key])) 60 (sO 2 (l2.map Ref.row)))⟩)
 ·intro hJ7;refine iD h (fun hc8 hc8d h=>?_) fun hc8 hc8d h=>?_
  ·obtain ⟨x11,hb9,hx10,h⟩:=aH h;obtain ⟨r12,hr11,h⟩:=bI h;refine d1 (k4 hc8d hb9 hx10 hr11) ?_;refine hJ7 _ (!r12) ?_ h;exact wF (k5 hx4 hi3' hw5 hc8d (k3 hb9 hx10 hr11))
  refine d1 hc8d ?_;refine hJ7 _ false ?_ h;exact wF (k4 hx4 hi3' hw5 hc8d)
 intro c10 h;unfold pe at h;refine cB h (fun hc12 h=>?_) fun hc12 h=>?_
 ·refine z1 hc12 ?_;refine ⟨_,acn _,(IntKind.i64.wrap (v10 - 1)),?_,h⟩;exact wF (k4 hx4 hi3' hw5 hc12)
 refine iR (pp ?_);unfold tP at h;refine aM ?_;apply aW (fun (c17:Bool)=>⟨tab 62 (af (af (af (af (af (af av 0 (sF 4 (a0.map ah.row))) 3 (.pal 60 [] 0 l2.length none)) 4 (vI (v3:Int))) 5 (pF 5)) 6 (vI v10)) 46 (vB c17)),(upd (upd RZ 5 (vA 2 [vS x6.Target.Type_,vS x6.Target.Key])) 60 (sO 2 (l2.map Ref.row)))⟩)
 ·intro hJ13;refine mh fun Z hZ=>?_;simp only [go_sem,seval,hc12];repeat with_reducible refine gS (by kernel_rfl) ?_
  refine mi rfl (fun hc14=>?_) (fun hc14=>?_)
  ·have hc14d:=decide_eq_true hc14;rw [if_pos hc14] at h;obtain ⟨x18,hb15,hx16,h⟩:=aH h;simp only [go_sem,seval,hb15,hx16];refine hZ _ (by kernel_rfl) (pp (hJ13 _ (sEq x18.Type_ x6.Target.Type_ && sEq x18.Key x6.Target.Key) ?_ h));exact wF (k5 hx4 hi3' hw5 hc12 (k3 hc14d hb15 hx16))
  have hc14d:=decide_eq_false hc14;rw [if_neg hc14] at h;simp only [go_sem,seval,hc14d];refine hZ _ (by kernel_rfl) (pp (hJ13 _ false ?_ h));exact wF (k5 hx4 hi3' hw5 hc12 hc14d)
 intro c17 h;unfold o7 at h;refine cB h (fun hc17 h=>?_) fun hc17 h=>?_
 ·refine z1 (k2 hw5 hc17) ?_;first|refine ⟨l2,?_,h⟩|refine ⟨hi3',l2,?_,h⟩
  exact wF (k5 hx4 hi3' hw5 hc12 hc17)
 refine bf (pp ?_);unfold lA at h;refine aM ?_;obtain ⟨hs18,h⟩:=jw h;try simp only [abX] at hs18 h
 first|obtain ⟨ha19,h⟩:=px h|(obtain ⟨ha19,h⟩:=eN h; rw [abS] at h)
 simp only [Nat.reduceAdd] at ha19;refine z1 (k4 hc17 hs18 @ab2 ha19) ?_;refine Mc [0,1,2,4,7] [3,5] [[5,3]] [6,8,9] [] (by kernel_rfl) fun Z hZ Y hY=>?_;simp only [go_sem,seval];refine hY _ (by kernel_rfl) (Kb (by kernel_rfl) fun Y hY=>?_);obtain ⟨hs20,ht21,h⟩:=Pw h;try simp only [abX] at hs20 ht21 h
 simp only [go_sem,seval,hs18,abU,ab2,abI];refine hY _ (by kernel_rfl) (Kb (by kernel_rfl) fun Y hY=>?_);simp only [go_sem,seval,abI];refine hY _ (by kernel_rfl) (Vg (sC:=⟨tab 62 (af (af (af (af (af (af (af (af (af (af (af (af (af (af (af (af (af (af av 0 (sF 4 (a0.map ah.row))) 3 (.pal 60 [] 0 l2.length none)) 4 (vI (v3:Int))) 5 (pF 5)) 6 (vI v10)) 7 (.pal 51 [] 0 (((l2.drop ((v10).toNat)).take (l2.length - (v10).toNat)).length) none)) 46 (vB false)) 48 (.pal 60 [] 0 l2.length none)) 49 (vI v10)) 50 (.pal 60 [] ((v10).toNat) (l2.length - (v10).toNat) none)) 51 (.pal 51 [] 0 (((l2.drop ((v10).toNat)).take (l2.length - (v10).toNat)).length) none)) 52 (.pal 60 [] 0 l2.length none)) 53 (vI v10)) 54 (vI v10)) 55 (.pal 60 [] 0 ((v10).toNat) (some ((v10).toNat)))) 56 (.agg [vS x6.Target.Type_,vS x6.Target.Key])) 57 (.pal 57 [] 0 ([x6.Target].length) none)) 59 (.pal 51 [] 0 (((l2.drop ((v10).toNat)).take (l2.length - (v10).toNat)).length) none)),(upd (upd (upd (upd RZ 5 (vA 2 [vS x6.Target.Type_,vS x6.Target.Key])) 51 (sO 2 (((l2.drop ((v10).toNat)).take (l2.length - (v10).toNat)).map Ref.row))) 57 (.sl true none 2 (some 1) ([x6.Target].map Ref.row))) 60 (sO 2 (l2.map Ref.row)))⟩) ?_ ?_ ?_)
 ·try simp only [jF,iI,go_sem,seval]
  refine wr ?_ ?_<;>repeat' first|rfl|constructor|simp only [go_sem,seval,acN,acf,acC,acw,hx4,hi3',hw5,hc12,hc17,hs18,abU,ab2,ha19,hs20,ht21,Ic ht21,abI]
 ·refine ⟨?_,trivial⟩
  ·refine LN (by kernel_rfl) fun Y hY=>?_;simp only [go_sem,seval,abI];refine hY _ (by kernel_rfl) (LN (by kernel_rfl) fun Y hY=>?_);simp only [go_sem,seval,hs18,abU,ab2,abI];refine hY _ (by kernel_rfl) (UT ?_);try simp only [jF,iI,go_sem,seval]
   refine wr ?_ ?_<;>repeat' first|rfl|constructor|simp only [go_sem,seval,acN,acf,acC,acw,hx4,hi3',hw5,hc12,hc17,hs18,abU,ab2,ha19,hs20,ht21,Ic ht21,abI]
 obtain ⟨ha22,h⟩:=eN h;simp only [abW,acm,acv,Nat.reduceAdd] at ha22;obtain ⟨ha23,h⟩:=eN h;simp only [ack,abW,acm,acv,Nat.reduceAdd] at ha23;simp only [go_sem,seval,ha22,ha23];refine hZ _ (z1 hw5 ?_);first|refine ⟨(((l2.take ((v10).toNat))++[x6.Target])++((l2.drop ((v10).toNat)).take (l2.length - (v10).toNat))),?_,h⟩|refine ⟨hi3',(((l2.take ((v10).toNat))++[x6.Target])++((l2.drop ((v10).toNat)).take (l2.length - (v10).toNat))),?_,h⟩
 refine wr ?_ ?_<;>repeat' first|rfl|constructor|simp only [go_sem,seval]
@[go_sem] def Ce (N:Nat):FnS:=⟨[],true,fn1 (aJ 4 ah.dec) fun q0=>(uF N q0).map fun r=>sO 2 (r.map Ref.row),false⟩
theorem Gz (N:Nat):aC Tryz.prog 82 (Ce N):=om1 (LB N)


@[go_sem] noncomputable def GN (N d f:Nat):Option FnS:=ay [(5,82,Ce N)] d f
theorem FO (N:Nat) (a0:Txn) (r:(List Ref)) (h:mo N a0=some r):Con Tryz.prog 94 [] true [.agg (Txn.row a0)] (sO 2 (r.map Ref.row)):=by
 refine fk (G:=(GN N)) Tryz.func94 (gc 5 (Gz N) gn) ?_;simp only [Tryz.f94];unfold mo at h;refine z0 ?_;obtain ⟨r1,hr1,h⟩:=bI h;refine z1 hr1 ?_;exact e0 h
@[go_sem] def zf (N:Nat):FnS:=⟨[],true,fn1 Txn.decA fun q0=>(mo N q0).map fun r=>sF 2 (r.map Ref.row),false⟩
theorem C4 (N:Nat):aC Tryz.prog 94 (zf N):=om1 fun q0 r h=>rs (FO N q0 r h)

@[go_sem] noncomputable def Hm (N d f:Nat):Option FnS:=ay [(13,80,GV N),(17,94,zf N),(22,95,CP N)] d f
theorem Hg (N:Nat) (a0:ae) (a1:Int) (a2:Int) (r:Ref) (h:kY N a0 a1 a2=some r):Con Tryz.prog 32 [] true [.agg (ae.row a0),vI a1,.val (.int .u8 a2)] (.agg (Ref.row r)):=by
 refine fk (G:=(Hm N)) Tryz.func32 (gc 13 (Kr N) (gc 17 (C4 N) (gc 22 (DY N) gn))) ?_;simp only [Tryz.f32];unfold kY at h;refine z0 ?_;obtain ⟨r1,hr1,h⟩:=bI h;refine z1 hr1 ?_;obtain ⟨r2,hr2,h⟩:=bI h;refine z1 hr2 ?_;refine z0 ?_;refine cD h (fun hc3 hc3d h=>?_) fun hc3 hc3d h=>?_
 ·obtain ⟨r3,hr4,h⟩:=bI h;refine z1 (k2 hc3d hr4) ?_;exact e0 h
 obtain ⟨hd5,h⟩:=Px h;obtain ⟨x4,hb6,hx7,h⟩:=aH h;refine z1 (k3 hd5 hb6 hx7) ?_;exact e0 h
@[go_sem] def zV (N:Nat):FnS:=⟨[],true,fn3 ae.decA (aG .i64) (aG .u8) fun q0 q1 q2=>(kY N q0 q1 q2).map fun r=>.agg (Ref.row r),false⟩
theorem DI (N:Nat):aC Tryz.prog 32 (zV N):=om3 (Hg N)


@[go_sem] noncomputable def QA (N d f:Nat):Option FnS:=ay [(25,19,G6 N),(58,33,EU N),(59,38,z7 N),(72,25,yp N),(88,34,rC N),(92,34,rC N),(93,26,AY N),(110,32,zV N),(111,27,wo N),(34,28,AQ N),(40,20,z6 N)] d f
theorem Py (N:Nat) (a0:ae) (a1:Int) (a2:aj) (r:ae × (List aI)) (h:wv N a0 a1 a2=some r):Con Tryz.prog 11 [] false [.agg (ae.row a0),vI a1,.agg (aj.row a2)] (.tup [.agg (ae.row r.1),sF 9 (r.2.map aI.row)]):=by
 refine IV (G:=(QA N)) Tryz.func11 rfl (by decide) (by kernel_rfl) (gc 25 (KK N) (gc 58 (Jj N) (gc 59 (zq N) (gc 72 (wu N) (gc 88 (o4 N) (gc 92 (o4 N) (gc 93 (AJ N) (gc 110 (DI N) (gc 111 (wU N) (gc 34 (Ch N) (gc 40 (zC N) gn))))))))))) [(89,false)] mix (ab5 rfl) ?_;simp only [Tryz.f11];unfold wv at h;refine z0 ?_;obtain ⟨r1,hr1,h⟩:=bI h;refine z1 hr1 ?_;refine z1 hr1 ?_;refine aX ?_;apply aW (fun (c2:Bool)=>⟨tab 118 (af (af (af (af (af (af (af av 1 (vI a1)) 3 (pF 3)) 5 (pF 5)) 6 (pF 6)) 8 (vI r1)) 28 (.val (.int .u8 (Int.tmod a2.Kind 8)))) 47 (vB c2)),(upd (upd (upd RZ 3 (vA 3 (ae.row a0))) 5 (vA 4 (aj.row a2))) 6 (vA 3 [.val (.slice none 0 0),.val (.slice none 0 0),.val (.slice none 0 0)]))⟩)
 ·intro hJ2;refine z1 hr1 ?_;refine cD h (fun hc3 hc3d h=>?_) fun hc3 hc3d h=>?_
  ·refine bf (pp (hJ2 _ true ?_ h));exact wF (k2 hr1 hc3d)
  refine z1 (k2 hr1 hc3d) ?_;refine hJ2 _ (decide ((Int.tmod a2.Kind 8)=1)) ?_ h;exact wF (k2 hr1 hc3d)
 intro c2 h;unfold ug at h;refine cB h (fun hc4 h=>?_) fun hc4 h=>?_
 ·obtain ⟨r3,hr5,h⟩:=bI h;obtain ⟨r4,hr6,h⟩:=bI h;refine d1 (k4 hr1 hc4 hr5 hr6) ?_;refine z1 (k4 hr1 hc4 hr5 hr6) ?_;refine cD h (fun hc7 hc7d h=>?_) fun hc7 hc7d h=>?_
  ·refine z1 (k5 hr1 hc4 hr5 hr6 hc7d) ?_;exact f1 (k5 hr1 hc4 hr5 hr6 hc7d) h
  refine z1 (k5 hr1 hc4 hr5 hr6 hc7d) ?_;exact f1 (k5 hr1 hc4 hr5 hr6 hc7d) h
 apply aW (fun (c5:Bool)=>⟨tab 118 (af (af (af (af (af (af av 3 (pF 3)) 5 (pF 5)) 6 (pF 6)) 8 (vI r1)) 28 (.val (.int .u8 (Int.tmod a2.Kind 8)))) 65 (vB c5)),(upd (upd (upd RZ 3 (vA 3 (ae.row a0))) 5 (vA 4 (aj.row a2))) 6 (vA 3 [.val (.slice none 0 0),.val (.slice none 0 0),.val (.slice none 0 0)]))⟩)
 ·intro hJ8;refine z1 (k2 hr1 hc4) ?_;refine cD h (fun hc9 hc9d h=>?_) fun hc9 hc9d h=>?_
  ·refine bf (pp (hJ8 _ true ?_ h));exact wF (k3 hr1 hc4 hc9d)
  refine z1 (k3 hr1 hc4 hc9d) ?_;refine cD h (fun hc10 hc10d h=>?_) fun hc10 hc10d h=>?_
  ·refine bf (pp (hJ8 _ true ?_ h));exact wF (k4 hr1 hc4 hc9d hc10d)
  refine z1 (k4 hr1 hc4 hc9d hc10d) ?_;refine hJ8 _ (decide ((Int.tmod a2.Kind 8)=4)) ?_ h;exact wF (k4 hr1 hc4 hc9d hc10d)
 intro c5 h;unfold qs at h;refine cB h (fun hc11 h=>?_) fun hc11 h=>?_
 ·obtain ⟨r6,hr12,h⟩:=bI h;refine z1 (k4 hr1 hc4 hc11 hr12) ?_;refine z1 (k4 hr1 hc4 hc11 hr12) ?_;refine cN h (fun hc13 hc13d h=>?_) fun hc13 hc13d h=>?_
  ·refine z1 (k5 hr1 hc4 hc11 hr12 hc13d) ?_;exact f1 (k5 hr1 hc4 hc11 hr12 hc13d) h
  refine z1 (k5 hr1 hc4 hc11 hr12 hc13d) ?_;refine cN h (fun hc14 hc14d h=>?_) fun hc14 hc14d h=>?_
  ·refine z1 (k5 hr1 hc4 hc11 hr12 (k2 hc13d hc14d)) ?_;exact f1 (k5 hr1 hc4 hc11 hr12 (k2 hc13d hc14d)) h
  obtain ⟨r7,hr15,h⟩:=bI h;obtain ⟨r8,hr16,h⟩:=bI h;obtain rfl:=aco (hr15.symm.trans hr16);obtain ⟨r9,hr17,h⟩:=bI h;refine d1 (k5 hr1 hc4 hc11 hr12 (k4 hc13d hc14d hr15 hr17)) ?_;refine z1 (k5 hr1 hc4 hc11 hr12 (k4 hc13d hc14d hr15 hr17)) ?_;refine cD h (fun hc18 hc18d h=>?_) fun hc18 hc18d h=>?_
  ·refine z1 (k5 hr1 hc4 hc11 hr12 (k5 hc13d hc14d hr15 hr17 hc18d)) ?_;exact f1 (k5 hr1 hc4 hc11 hr12 (k5 hc13d hc14d hr15 hr17 hc18d)) h
  refine z1 (k5 hr1 hc4 hc11 hr12 (k5 hc13d hc14d hr15 hr17 hc18d)) ?_;exact f1 (k5 hr1 hc4 hc11 hr12 (k5 hc13d hc14d hr15 hr17 hc18d)) h
 apply aW (fun (c10:Bool)=>⟨tab 118 (af (af (af (af (af av 3 (pF 3)) 5 (pF 5)) 6 (pF 6)) 8 (vI r1)) 100 (vB c10)),(upd (upd (upd RZ 3 (vA 3 (ae.row a0))) 5 (vA 4 (aj.row a2))) 6 (vA 3 [.val (.slice none 0 0),.val (.slice none 0 0),.val (.slice none 0 0)]))⟩)
 ·intro hJ19;refine z1 (k3 hr1 hc4 hc11) ?_;refine cD h (fun hc20 hc20d h=>?_) fun hc20 hc20d h=>?_
  ·refine bf (pp (hJ19 _ true ?_ h));exact wF (k4 hr1 hc4 hc11 hc20d)
  refine z1 (k4 hr1 hc4 hc11 hc20d) ?_;refine hJ19 _ (decide ((Int.tmod a2.Kind 8)=6)) ?_ h;exact wF (k4 hr1 hc4 hc11 hc20d)
 intro c10 h;unfold ue at h;refine cB h (fun hc21 h=>?_) fun hc21 h=>?_
 ·obtain ⟨r11,hr22,h⟩:=bI h;obtain ⟨r12,hr23,h⟩:=bI h;refine d1 (k5 hr1 hc4 hc11 hc21 (k2 hr22 hr23)) ?_;refine z1 (k5 hr1 hc4 hc11 hc21 (k2 hr22 hr23)) ?_;refine cD h (fun hc24 hc24d h=>?_) fun hc24 hc24d h=>?_
  ·refine z1 (k5 hr1 hc4 hc11 hc21 (k3 hr22 hr23 hc24d)) ?_;exact f1 (k5 hr1 hc4 hc11 hc21 (k3 hr22 hr23 hc24d)) h
  refine z1 (k5 hr1 hc4 hc11 hc21 (k3 hr22 hr23 hc24d)) ?_;exact f1 (k5 hr1 hc4 hc11 hc21 (k3 hr22 hr23 hc24d)) h
 refine z1 (k4 hr1 hc4 hc11 hc21) ?_;refine cD h (fun hc25 hc25d h=>?_) fun hc25 hc25d h=>?_
 ·obtain ⟨r13,hr26,h⟩:=bI h;refine z1 (k5 hr1 hc4 hc11 hc21 (k2 hc25d hr26)) ?_;exact f1 (k5 hr1 hc4 hc11 hc21 (k2 hc25d hr26)) h
 obtain ⟨r14,hr27,h⟩:=bI h;refine z1 (k5 hr1 hc4 hc11 hc21 (k2 hc25d hr27)) ?_;refine z1 (k5 hr1 hc4 hc11 hc21 (k2 hc25d hr27)) ?_;refine cD h (fun hc28 hc28d h=>?_) fun hc28 hc28d h=>?_
 ·refine z1 (k5 hr1 hc4 hc11 hc21 (k3 hc25d hr27 hc28d)) ?_;exact f1 (k5 hr1 hc4 hc11 hc21 (k3 hc25d hr27 hc28d)) h
 refine z1 (k5 hr1 hc4 hc11 hc21 (k3 hc25d hr27 hc28d)) ?_;exact f1 (k5 hr1 hc4 hc11 hc21 (k3 hc25d hr27 hc28d)) h
@[go_sem] noncomputable def GR (N:Nat):FnS:=⟨[],false,fn3 ae.decA (aG .i64) aj.decA fun q0 q1 q2=>(wv N q0 q1 q2).map fun r=>.tup [.agg (ae.row r.1),sF 9 (r.2.map aI.row)],false⟩
theorem KV (N:Nat):aC Tryz.prog 11 (GR N):=om3 (Py N)


@[go_sem] noncomputable def Jt (N d f:Nat):Option FnS:=ay [(9,10,AO N),(28,11,GR N),(42,25,yp N)] d f
theorem Co (N:Nat) (a0:(List aj)) (r:Bool) (h:mL N a0=some r):Con Tryz.prog 6 [] true [sF 4 (a0.map aj.row)] (vB r):=by
 refine fk (G:=(Jt N)) Tryz.func6 (gc 9 (Jy N) (gc 28 (KV N) (gc 42 (wu N) gn))) ?_;simp only [Tryz.f6];unfold mL at h;refine z0 ?_;obtain ⟨r1,hr1,h⟩:=bI h;refine z1 hr1 ?_;refine cM h (fun hc2 h=>?_) fun hc2 h=>?_
 ·refine z1 (k2 hr1 hc2) ?_;exact e1 (k2 hr1 hc2) h
 refine z1 (k2 hr1 hc2) ?_;refine cD h (fun hc3 hc3d h=>?_) fun hc3 hc3d h=>?_
 ·refine z1 (k3 hr1 hc2 hc3d) ?_;exact e1 (k3 hr1 hc2 hc3d) h
 refine z1 (k3 hr1 hc2 hc3d) ?_;refine z1 (k3 hr1 hc2 hc3d) ?_;refine aX (iP fun hreal5=>?_);have hl4:=hreal5.lenT 0 (by decide) (by simp only [go_sem,seval,acN,acf,acC,acw,hr1,hc2,hc3d]; rfl);first|rw [abJ] at hl4|rw [fY] at hl4|rw [<-ab4,abJ] at hl4
 refine tz (fun (v8:Nat) (b:List Txn × List ai × List aa)=>⟨tab 58 (af (af (af av 0 (sF 4 (a0.map aj.row))) 3 (pF 3)) 4 (vI (v8:Int))),(upd RZ 3 (vA 3 [sF 11 (b.1.map Txn.row),sF 4 (b.2.1.map ai.row),sF 3 (b.2.2.map aa.row)]))⟩) ([],[],[]) h ?_ ?_
 ·refine bm.trans (Ef 3 [(0,0)] 11 (by simp only [go_sem,seval,acN,acf,acC,acw,hr1,hc2,hc3d]) (by simp only [go_sem,seval,acN,acf,acC,acw,hr1,hc2,hc3d]; try rfl)) (bm.trans (Ef 3 [(0,1)] 4 (by simp only [go_sem,seval,acN,acf,acC,acw,hr1,hc2,hc3d]) (by simp only [go_sem,seval,acN,acf,acC,acw,hr1,hc2,hc3d]; try rfl)) (bm.trans (Ef 3 [(0,2)] 3 (by simp only [go_sem,seval,acN,acf,acC,acw,hr1,hc2,hc3d]) (by simp only [go_sem,seval,acN,acf,acC,acw,hr1,hc2,hc3d]; try rfl)) ?_));exact wR
 rintro v8 ⟨l5,l6,l7⟩ hi6 h -;rcases (ov a0 v8 hi6).symm with ⟨hi6',_,hd9⟩|⟨x11,hi6',hx7,hd9⟩
 ·rw [hd9] at h;simp only [eY] at h;refine z1 (k4 hr1 hc2 hc3d hi6') ?_;refine cf ?_;refine z1 (k4 hr1 hc2 hc3d hi6') ?_;exact e1 (k4 hr1 hc2 hc3d hi6') h
 rw [hd9] at h;simp only [eY] at h;have hw8:=fm hi6' hl4;refine z1 (k5 hr1 hc2 hc3d hx7 (k2 hi6' hw8)) ?_;refine ct ?_;obtain ⟨r2,hr10,h⟩:=bI h;refine d1 (k5 hr1 hc2 hc3d hx7 (k3 hi6' hw8 hr10)) ?_;refine z1 (k5 hr1 hc2 hc3d hx7 (k3 hi6' hw8 hr10)) ?_;refine cD h (fun hc11 hc11d h=>?_) fun hc11 hc11d h=>?_
 ·refine z1 (k5 hr1 hc2 hc3d hx7 (k4 hi6' hw8 hr10 hc11d)) ?_;first|refine ⟨(r2.1.Txns,r2.1.Locks,r2.1.Stacks),?_,h⟩|refine ⟨hi6',(r2.1.Txns,r2.1.Locks,r2.1.Stacks),?_,h⟩
  exact wR
 obtain ⟨x3,hb12,hx13,h⟩:=aH h;try simp only [abX,Int.reduceToNat,adp] at hx13
 try simp only [adD,ac3,true_and] at hb12
 obtain ⟨r4,hr14,h⟩:=bI h;refine d1 (k5 hr1 hc2 hc3d hx7 (k5 hi6' hw8 hr10 hc11d (k3 hb12 hx13 hr14))) ?_;apply aW (fun (c5:Bool)=>⟨tab 58 (af (af (af (af av 0 (sF 4 (a0.map aj.row))) 3 (pF 3)) 4 (vI (v8:Int))) 57 (vB c5)),(upd RZ 3 (vA 3 (ae.row r2.1)))⟩)
 ·intro hJ15;refine iDs h (fun hc16 hc16d h=>?_) fun hc16 hc16d h=>?_
  ·refine z1 (k5 hr1 hc2 hc3d hx7 (k5 hi6' hw8 hr10 hc11d (k4 hb12 hx13 hr14 hc16d))) ?_;refine hJ15 _ false ?_ h;exact wR
  refine iD h (fun hc17 hc17d h=>?_) fun hc17 hc17d h=>?_
  ·refine z1 (k5 hr1 hc2 hc3d hx7 (k5 hi6' hw8 hr10 hc11d (k5 hb12 hx13 hr14 hc16d hc17d))) ?_;refine hJ15 _ true ?_ h;exact wR
  refine z1 (k5 hr1 hc2 hc3d hx7 (k5 hi6' hw8 hr10 hc11d (k5 hb12 hx13 hr14 hc16d hc17d))) ?_;refine hJ15 _ (decide (0 < (r4.2.2.1.length:Int))) ?_ h;exact wR
 intro c5 h;unfold j4 at h;refine cB h (fun hc18 h=>?_) fun hc18 h=>?_
 ·refine z1 (k5 hr1 hc2 hc3d hx7 (k5 hi6' hw8 hr10 hc11d (k4 hb12 hx13 hr14 hc18))) ?_;exact e1 (k5 hr1 hc2 hc3d hx7 (k5 hi6' hw8 hr10 hc11d (k4 hb12 hx13 hr14 hc18))) h
 refine z1 (k5 hr1 hc2 hc3d hx7 (k5 hi6' hw8 hr10 hc11d (k4 hb12 hx13 hr14 hc18))) ?_;first|refine ⟨(r2.1.Txns,r2.1.Locks,r2.1.Stacks),?_,h⟩|refine ⟨hi6',(r2.1.Txns,r2.1.Locks,r2.1.Stacks),?_,h⟩
 exact wR
@[go_sem] noncomputable def Iv (N:Nat):FnS:=⟨[],true,fn1 (aJ 4 aj.dec) fun q0=>(mL N q0).map fun r=>vB r,false⟩
theorem RN (N:Nat):aC Tryz.prog 6 (Iv N):=om1 (Co N)

end Go.Proofs.YtmacaidmhchpgaaGreat
