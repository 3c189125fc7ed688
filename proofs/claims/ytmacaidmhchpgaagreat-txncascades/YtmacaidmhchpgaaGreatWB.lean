/- Walks: each function computes its model. No condition. -/
import Derived.Test.YtmacaidmhchpgaaGreatB
import Derived.Test.YtmacaidmhchpgaaGreatWA
/- Each Go function computes its model: proofs laid by a program of ours. -/
set_option linter.defProp false
set_option maxHeartbeats 40000000
set_option synthInstance.maxHeartbeats 2000000
set_option synthInstance.maxSize 4000
set_option linter.unusedSimpArgs false
set_option linter.unusedVariables false
set_option maxRecDepth 100000
namespace Go.Proofs.YtmacaidmhchpgaaGreat
open Go Go.Proofs Go.Abs Tryz
noncomputable section
@[go_sem] def RU (N d f:Nat):Option FnS:=aw [(8,43,wc N)] d f
def Qs (N:Nat) (a0:aa) (a1:Ref) (r:Int) (h:qK N a0 a1=some r):Con prog 65 [] true [.agg (aa.row a0),.agg [vS a1.Type_,vS a1.Key]] (vI r):=by
 refine fk (G:=(RU N)) func65 (gc 8 (wU N) gn) ?_;simp only [f65];unfold qK at h;refine z0 ?_;obtain ⟨r1,hr1,h⟩:=bI h;refine z1 hr1 ?_;exact e0 h
@[go_sem] def Cs (N:Nat):FnS:=⟨[],true,fn2 aa.decA Ref.decA fun q0 q1=>(qK N q0 q1).map fun r=>vI r,false⟩
def Di (N:Nat):aA prog 65 (Cs N):=om2 (Qs N)
@[go_sem] def tK (N d f:Nat):Option FnS:=aw [(30,65,Cs N),(46,65,Cs N)] d f
def tP (N:Nat) (a0:List aa) (a1:Ref) (r:Int × Bool) (h:ba N a0 a1=some r):Con prog 64 [] true [sF 3 (a0.map aa.row),.agg [vS a1.Type_,vS a1.Key],.clo 65 []] (.tup [vI r.1,vB r.2]):=by
 refine fk (G:=(tK N)) func64 (gc 30 (Di N) (gc 46 (Di N) gn)) ?_;simp only [f64];unfold ba at h;refine z0 ?_;refine z0 ?_;refine z0 ?_;refine aL (aQ (gH (fun (b:Int × Int)=>⟨tab 49 (af (af (af (af (af (af au 0 (sF 3 (a0.map aa.row))) 2 (.clo 65 [])) 4 (pF 4)) 8 (vI (a0.length:Int))) 9 (vI b.1)) 10 (vI b.2)),(upd RZ 4 (vA 2 [vS a1.Type_,vS a1.Key]))⟩) (0,(a0.length:Int)) h ?_ ?_))
 ·exact wR
 rintro n ⟨v2,v3⟩ h -;cases n with
 | zero=>simp [bg] at h
 | succ n=>
 simp only [bg] at h;refine z0 ?_;refine cDs h (fun hc1 hc1d h=>?_) fun hc1 hc1d h=>?_
 ·refine gr (pp ?_);unfold bt at h;refine iD h (fun hc6 hc6d h=>?_) fun hc6 hc6d h=>?_
  ·obtain ⟨x11,hb7,hx8,h⟩:=aH h;obtain ⟨r12,hr9,h⟩:=bI h;refine d1 (k4 hc1d hb7 hx8 hr9) ?_;exact e0 h
  refine d1 (k2 hc1d hc6d) ?_;exact e0 h
 refine z1 hc1d ?_;obtain ⟨x9,hb2,hx3,h⟩:=aH h;obtain ⟨r10,hr4,h⟩:=bI h;refine d1 (k3 hb2 hx3 hr4) ?_;refine cD h (fun hc5 hc5d h=>?_) fun hc5 hc5d h=>?_
 ·refine z1 hc5d ?_;refine ⟨_,na _,(IntKind.i64.wrap ((IntKind.i64.wrap (j8 .u64 (IntKind.u64.wrap (IntKind.i64.wrap (v2+v3))) 1))+1),v3),?_,h⟩;exact wR
 refine z1 hc5d ?_;refine ⟨_,na _,(v2,IntKind.i64.wrap (j8 .u64 (IntKind.u64.wrap (IntKind.i64.wrap (v2+v3))) 1)),?_,h⟩;exact wR
@[go_sem] def ga (N:Nat):FnS:={ own:=[],pure:=true,fn:=fun cs=>match cs with
 | [c0,c1,.clo 65 []]=>((aJ 3 aa.dec) c0).bind fun qc0=>(Ref.decA c1).bind fun qc1=>(ba N qc0 qc1).map fun r=>.tup [vI r.1,vB r.2]
 | _=>none }
def rm (N:Nat):aA prog 64 (ga N):=by
 refine ⟨fun cs r h=>?_,fun h=>by cases h⟩;simp only [ga] at h;split at h
 ·simp only [ck,cj] at h;obtain ⟨q0,h0,q1,h1,r',hr,rfl⟩:=h;exact (ag (tP N q0 q1 r' hr))
 ·cases h
def bS:FnS:={ own:=[true,true],pure:=false,fn:=fun _=>none,peek:=true }
theorem tM:bS.own=[true,true]:=rfl
theorem tk:bS.peek=true:=rfl
theorem ym:IC prog 137:=
 Oc (fn:=f137) (tS:=26) (tR:=4) (e:=67) (size:=3) func137 rfl rfl (by kernel_rfl) (by kernel_rfl) (by kernel_rfl) (by kernel_rfl)
def uz:aA prog 137 bS:=⟨(fun cs r h=>by simp [bS] at h),fun _=>ym⟩
def dS:Env:={ T:=eB prog,G:=fun d f=>if d=67/\f=137 then some bS else none }
theorem sm:dS.T=eB prog:=rfl
theorem Ba (d:Nat):dS.F d=none:=rfl
theorem Bf (d f:Nat):dS.L d f=none:=rfl
theorem AH:dS.G 67 137=some bS:=rfl
def Ai:GOk prog { T:=eB prog,G:=dS.G }:=by
 refine ⟨?_,fun _ _ _ h=>by cases h⟩;intro d f fs hfs;simp only [dS] at hfs;split at hfs
 ·rename_i hc; obtain ⟨rfl,rfl⟩:=hc; obtain rfl:=ng hfs; exact uz
 cases hfs
theorem Ca:EJ prog 66 f66 f66.body.get! := ⟨func66,rfl,by decide,by kernel_rfl⟩
set_option maxHeartbeats 4000000 in
section
attribute [local go_sem] sm Nat.le_refl fZ Option.map_some List.isEmpty_nil C4 Nat.sub_zero dA ua
def tp {α:Type} (row:α->List C) (ok:aF row) (l:List α) (i:Nat) (x:α) (k:Nat) (r:List α) (hr:r=l.take i++[x]++l.drop i) (hi:i<=l.length) (hsz:(l.length+1) * 56<=140737488355328) (hk1:l.length<=k) (hk2:k<=maxLen) :
  Con prog 66 [true,false,true] false [.sl true none 3 (some k) (l.map row),vI i,sO 3 ([x].map row)] (sO 3 (r.map row)):=by
 refine JZ (E:=dS) (zo prog _) Ai mix Ca (nb rfl) ?_;intro _;rw [vE (by simp)];rw [show gh [true,false,true] [C.sl true none 3 (some k) (l.map row),C.val (.int .i64 i),C.sl true none 3 none ([x].map row)]=(af (af (af au 0 (.pal 0 [] 0 l.length none)) 1 (vI i)) 2 (.pal 2 [] 0 1 none)) from by funext t; match t with|0=>simp [gh,iX,kr,af]|1=>rfl|2=>rfl|t+3=>rfl];rw [show R0 [true,false,true] [C.sl true none 3 (some k) (l.map row),C.val (.int .i64 i),C.sl true none 3 none ([x].map row)]=upd (upd RZ 0 (C.sl true none 3 (some k) (l.map row))) 2 (C.sl true none 3 none ([x].map row)) from by funext t; match t with|0=>rfl|1=>rfl|2=>rfl|t+3=>rfl];apply J5;simp only [f66,Option.get!];have hi1:(i:Int)<=(l.length:Int):=by omega
 have hi2:i<=l.length:=hi;have h10:(((1:Nat):Int)=0)=False:=by simp
 have hp:(row x).all Abs.plainCell=true:=ok.plain x;have hf:(row x).map C.frz=(row x):=ok.frz x;have hpD:(row x).all qz=true:=by have:=(aF.allD ok [x]); simpa using this
 have hw1:IntKind.i64.wrap ((l.length:Int)+((1:Nat):Int))=((l.length+1:Nat):Int):=by rw [lW (by omega) (by omega)]; rfl
 have hlt0:(l.take i).length=i:=by simp; omega
 have hes:(3 != 0)=true:=rfl;have hm1:min 1 (l.length+1 - i)=1:=by omega
 have hm2:min (l.length - i) (l.length+1 - (i+1))=l.length - i:=by omega
 have hm3:(l.drop i).take (l.length - i)=l.drop i:=ni (by simp);have hm4:i+1<=l.length+1:=by omega
 have hw2:IntKind.i64.wrap (((l.length+1:Nat):Int) - (i:Int))=((l.length+1 - i:Nat):Int):=by rw [lW (by omega) (by omega)]; omega
 have hw1b:IntKind.i64.wrap ((l.length:Int)+1)=((l.length+1:Nat):Int):=hw1;have hw3:IntKind.i64.wrap ((i:Int)+((1:Nat):Int))=((i+1:Nat):Int):=by rw [lW (by omega) (by omega)]; rfl
 have hw3b:IntKind.i64.wrap ((i:Int)+1)=((i+1:Nat):Int):=hw3;simp only [go_sem,seval,hi2];refine Ll rfl ?_;simp only [go_sem,seval,sm,ade];refine tH rfl (fun hc=>?_) (fun hc=>?_)
 ·have e:i=l.length:=by omega
  subst e;simp only [go_sem,seval,Ba,hp,hf,aF.allD ok,acY,dQ,hsz];refine sM ok ?_;rw [hr];simp [ni]
 ·have hc1:decide ((i:Int)=(l.length:Int))=false:=decide_eq_false hc;have hlt:i < l.length:=by omega
  simp only [go_sem,seval,RG,tN,hw1b,hc1];refine tH rfl (fun hk=>?_) (fun hk=>?_)
  ·have hk1:decide (k < l.length+1)=true:=decide_eq_true hk;have hk2:k < i+(l.length+1 - i):=by omega
   have e1:i+(l.length+1 - i)=l.length+1:=by omega
   have hi3:(i:Int)<=((l.length+1:Nat):Int):=by omega
   have hi4:i<=l.length+1:=by omega
   obtain ⟨A,hA⟩:∃ A,List.map row (List.take i l)++List.replicate (l.length+1 - i) [C.val (Value.string ⟨#[]⟩),C.val (Value.string ⟨#[]⟩),C.val (Value.slice none 0 0)]=A:=⟨_,rfl⟩;have hAp:bJ A:=by rw [<-hA]; exact jI (fV ok _) (Ab _ [Value.string ⟨#[]⟩,Value.string ⟨#[]⟩,Value.slice none 0 0] (by simp [Value.oneCell']))
   have hAl:A.length=l.length+1:=by rw [<-hA,hU,cy,hlt0,xo]; omega
   obtain ⟨B,hB⟩:∃ B,aK A i [(row x)]=B:=⟨_,rfl⟩;have hBp:bJ B:=by rw [<-hB]; exact fY hAp ⟨by simp [frzRows,hf],by simp [hpD]⟩
   have hBl:B.length=l.length+1:=by rw [<-hB]; simp [aK,hAl]; omega
   obtain ⟨D,hD⟩:∃ D,aK B (i+1) (List.map row (List.drop i l))=D:=⟨_,rfl⟩;have hDp:bJ D:=by rw [<-hD]; exact fY hBp (fV ok _)
   have hDl:D.length=l.length+1:=by rw [<-hD]; simp [aK,hBl]; omega
   have hDe:D=(l.take i++[x]++l.drop i).map row:=by
    rw [<-hD,<-hB,<-hA,xd,nT,Og (A:=l.map row) (n:=l.length) (by simp) hi2 (by simp)];simp
   simp only [go_sem,seval,hi2,hp,hf,aF.frzRows ok,aF.allPlain ok,Db,tN,Ht,CW,gw,Ez,Ext.all,hw2,hw1b,hw3b,adx,cU,xo,hlt0,hm1,hm3,hm4,hk,e1,hi4,hA,hAl,hAp.1,hAp.2,hB,hBp.1,hBp.2,hD,hsz];repeat' ((with_reducible refine gl ?_ ?_); kernel_rfl)
   simp only [go_sem,seval,dQ];refine sM ok ?_;rw [hr,<-hDe,<-hDl,xw]
  ·have hk1:decide (k < l.length+1)=false:=decide_eq_false hk;have hk2:¬ k < i+(l.length+1 - i):=by omega
   have hk3:l.length+1<=k:=by omega
   have e2:l.length+1 - l.length=1:=by omega
   have e3:l.length<=l.length+1:=by omega
   have hi3:(i:Int)<=((l.length+1:Nat):Int):=by omega
   have hi4:i<=l.length+1:=by omega
   have hne:¬ l.length+1 - (i+1)=0:=by omega
   have hne2:¬ l.length - i=0:=by omega
   obtain ⟨A,hA⟩:∃ A,List.map row l++[[C.dead,C.dead,C.dead]]=A:=⟨_,rfl⟩;have hAp:bJ A:=by rw [<-hA]; exact jI (fV ok _) (DX 1 3)
   have hAl:A.length=l.length+1:=by rw [<-hA]; simp
   have hm5:min (l.length+1 - i) (l.length+1 - (i+1))=l.length - i:=by omega
   have hm5b:min (l.length+1 - i) (l.length - i)=l.length - i:=by omega
   obtain ⟨A2,hA2⟩:∃ A2,(A.drop i).take (l.length - i)=A2:=⟨_,rfl⟩;have hA2e:A2=List.map row (l.drop i):=by
    rw [<-hA2,<-hA,acX,cy,show i - l.length=0 by omega,nQ,xq,ni (by simp),show l.length - i - (List.drop i (List.map row l)).length=0 by simp];simp [nT]
   have hA2p:(A2.all fun r=>r.all Abs.plainCell)=true:=by rw [hA2e]; exact ok.allPlain _
   have hA2f:frzRows A2=A2:=by rw [hA2e]; exact ok.frzRows _
   have hA2d:bJ A2:=by rw [hA2e]; exact fV ok _
   obtain ⟨B,hB⟩:∃ B,aK A (i+1) A2=B:=⟨_,rfl⟩;have hBp:bJ B:=by rw [<-hB]; exact fY hAp hA2d
   have hBl:B.length=l.length+1:=by rw [<-hB]; simp [aK,hAl,hA2e]; omega
   obtain ⟨D,hD⟩:∃ D,aK B i [(row x)]=D:=⟨_,rfl⟩;have hDp:bJ D:=by rw [<-hD]; exact fY hBp ⟨by simp [frzRows,hf],by simp [hpD]⟩
   have hDl:D.length=l.length+1:=by rw [<-hD]; simp [aK,hBl]; omega
   have hDe:D=(l.take i++[x]++l.drop i).map row:=by
    rw [<-hD,<-hB,<-hA2,<-hA,K5 (A:=l.map row) (n:=l.length) (by simp) hi2];simp [xd,nT]
   simp only [go_sem,seval,Bf,AH,aF.frzRows ok,aF.allD ok,AR,JK,qR,hw1b,hw3b,cU,hm4,tM,tk,acY,hk,hk3,e2,e3,hne2,hA,hes];refine K2 rfl ?_;simp only [go_sem,seval,hp,hf,Db,Ht,CW,hw3b,hm1,hm4,hi4,hAp.1,hAp.2,hA2,hA2p,hA2f,hB,hBp.1,hBp.2,hD,hm5b];repeat' ((with_reducible refine gl ?_ ?_); kernel_rfl)
   simp only [go_sem,seval,dQ];refine sM ok ?_;rw [hr,<-hDe,<-hDl,xw]
end
def Pg (N:Nat) (a0:List aa) (a1:Int) (a2:List aa) (r:List aa) (h:bF N a0 a1 a2=some r) :
  Con prog 66 [true,false,true] false [sO 3 (a0.map aa.row),vI a1,sO 3 (a2.map aa.row)] (sO 3 (r.map aa.row)):=by
 unfold bF at h;obtain ⟨n,x,rfl,rfl,h1,h2,h3⟩:=Cb h;exact JX fun k hk1 hk2=>tp aa.row aa.row_ok a0 n x k r (ng h3).symm h1 h2 (by simpa using hk1) hk2
def yX {N:Nat} {a0:List aa} {a1:Int} {x:aa} {r:List aa} (h:bF N a0 a1 [x]=some r):r[a1.toNat]?=some x:=by
 unfold bF at h;obtain ⟨n,y,rfl,hy,h1,h2,h3⟩:=Cb h;obtain rfl:x=y:=by simpa using hy
 obtain rfl:=ng h3;rw [cL,nq,cP (by simp only [nD]; omega)];simp only [nD,ac2 h1,xi,nK,cr]
def BI (N:Nat) (a0:List aa) (a1:Int) (a2:List aa) (r:List aa) (h:bF N a0 a1 a2=some r) :
  Con prog 66 [true,false,true] false [sO 3 (a0.map aa.rowD),vI a1,sO 3 (a2.map aa.rowN)] (sO 3 ((r.map aa.rowD).set a1.toNat ((a2.map aa.rowN).headD []))):=by
 unfold bF at h;obtain ⟨n,x,rfl,rfl,h1,h2,h3⟩:=Cb h;obtain rfl:=ng h3;have e2:((a0.take n++[x]++a0.drop n).map aa.rowD).set n (aa.rowN x)=(a0.map aa.rowD).take n++[aa.rowN x]++(a0.map aa.rowD).drop n:=by
  simp only [nr,nv,xg,nq];rw [<-xd,<-nT,aex _ _ (by simp only [cy,nD]; omega)];simp only [cy,nD,ac2 h1,xi,nK,cO,aey]
 have:=WY (P:=prog) (f:=66) (es:=3) (by1:=56) (fun α row ok l i x k r a b c d e=>tp row ok l i x k r a b c d e) (A:=a0.map aa.rowD) (rx:=aa.rowN x) (i:=n) (by simpa using h1) (by simpa using h2) (fun row hr c hc=>by obtain ⟨y,_,rfl⟩:=cJ.1 hr; simp only [aa.rowD,cK,nN,or_false] at hc; rcases hc with rfl|rfl|rfl<;>rfl) (fun c hc=>by simp only [aa.rowN,cK,nN,or_false] at hc; rcases hc with rfl|rfl|rfl<;>rfl)
 rw [<-e2] at this;exact this
def dC (N:Nat):FnS:={ own:=[true,false,true],pure:=false,fn:=fun cs=>match cs with
 | [c0,c1,c2]=>(exL 3 aa.decE c0).bind fun q0=>(aG .i64 c1).bind fun q1=>(vU 3 aa.decN c2).bind fun q2=>(bF N q0 q1 q2).map fun r=>sO 3 ((r.map aa.rowD).set q1.toNat ((q2.map aa.rowN).headD []))
 | _=>none }
theorem yP (N:Nat):(dC N).own=[true,false,true]:=rfl
theorem yh (N:Nat):(dC N).pure=false:=rfl
theorem yl (N:Nat):(dC N).peek=false:=rfl
attribute [go_sem] dC yP yh yl List.headD_cons aa.rowN aa.decN
def zp (N:Nat):aA prog 66 (dC N):=by
 refine ⟨fun cs r h=>?_,fun h=>by cases h⟩;simp only [dC] at h;split at h
 ·simp only [ck,cj] at h;obtain ⟨q0,h0,q1,h1,q2,h2,r',hr,rfl⟩:=h;obtain rfl:=V4 aa.decE_eq h0;exact (BI N q0 q1 q2 r' hr).argsO rfl (jG ⟨ROk.refl _,fun _ h=>h⟩ (rJ (bz h1) (jG (qj aa.rowN_ok aa.decN_le h2) oA)))
 ·cases h
@[go_sem] def TD (N d f:Nat):Option FnS:=aw [(19,23,j7 N),(23,60,vM N),(28,61,ml N),(35,24,E2 N),(47,62,AL N),(52,59,ql N),(57,40,gE N),(67,63,sg N),(77,64,ga N),(89,66,dC N),(135,67,qO N)] d f
def UC (N:Nat) (a0:ae) (a1:Int) (a2:List Value) (a3:Value) (r:ae × Int) (h:j6 N a0 a1 a2 a3=some r):Con prog 26 [] false [.agg (ae.row a0),vI a1,sF 5 (a2.map Value.row),.agg (Value.row a3)] (.tup [.agg [sO 11 (r.1.Txns.map Txn.row),sO 4 (r.1.Locks.map ai.row),sO 3 (r.1.Stacks.map aa.rowD)],vI r.2]):=by
 refine fk (G:=(TD N)) func26 (gc 19 (jd N) (gc 23 (zc N) (gc 28 (mH N) (gc 35 (Gf N) (gc 47 (CC N) (gc 52 (ph N) (gc 57 (fc N) (gc 67 (tY N) (gc 77 (rm N) (gc 89 (zp N) (gc 135 (sS N) gn))))))))))) ?_;simp only [f26];unfold j6 at h;refine z0 ?_;refine aL ?_;apply aR (fun (c9:Bool)=>⟨tab 139 (af (af (af (af (af (af au 1 (vI a1)) 2 (sF 5 (a2.map Value.row))) 4 (pF 4)) 7 (pF 7)) 8 (pF 8)) 30 (vB c9)),(upd (upd (upd RZ 4 (vA 3 (ae.row a0))) 7 (vA 5 (Value.row a3))) 8 (vA 3 [.val (.slice none 0 0),.val (.slice none 0 0),.val (.slice none 0 0)]))⟩)
 ·intro hJ1;obtain ⟨r10,hr2,h⟩:=bI h;refine iBs h (fun hc3 h=>?_) fun hc3 h=>?_
  ·refine z1 (k2 hr2 hc3) ?_;exact hJ1 _ true wR h
  obtain ⟨r11,hr4,h⟩:=bI h;refine iBs h (fun hc5 h=>?_) fun hc5 h=>?_
  ·refine z1 (k4 hr2 hc3 hr4 hc5) ?_;exact hJ1 _ true wR h
  obtain ⟨r12,hr6,h⟩:=bI h;refine z1 (k5 hr2 hc3 hr4 hc5 hr6) ?_;exact hJ1 _ (!r12) wR h
 intro c9 h;unfold yi at h;refine cB h (fun hc7 h=>?_) fun hc7 h=>?_
 ·refine z1 hc7 ?_;exact f0 h
 refine aU (pp ?_);unfold rE at h;obtain ⟨r13,hr8,h⟩:=bI h;refine z1 (k2 hc7 hr8) ?_;refine z0 ?_;refine cM h (fun hc9 h=>?_) fun hc9 h=>?_
 ·refine z1 hc9 ?_;exact f0 h
 obtain ⟨r14,hr10,h⟩:=bI h;refine z1 (k2 hc9 hr10) ?_;refine cN h (fun hc11 hc11d h=>?_) fun hc11 hc11d h=>?_
 ·refine z1 hc11d ?_;exact f0 h
 obtain ⟨r15,hr12,h⟩:=bI h;refine z1 (k2 hc11d hr12) ?_;obtain ⟨r16,hr13,h⟩:=bI h;obtain ⟨x17,hb14,hx15,h⟩:=aH h;refine d1 (k2 hr13 hb14) ?_;obtain ⟨r18,hr16,h⟩:=bI h;have hx18:=kB (y:=(Txn.mk x17.ID x17.Born x17.Client x17.Seq x17.Calls (IntKind.i64.wrap (x17.Done+1)) x17.Last)) hx15;have hx20:=kB (y:=(Txn.mk x17.ID x17.Born x17.Client x17.Seq x17.Calls (IntKind.i64.wrap (x17.Done+1)) r18)) hx15;refine d1 (k5 hx15 hr16 (mm2 (row:=Txn.row) (y:=(Txn.mk x17.ID x17.Born x17.Client x17.Seq x17.Calls (IntKind.i64.wrap (x17.Done+1)) x17.Last)) (rx:=[vI x17.ID,vI x17.Born,vS x17.Client,vI x17.Seq,sF 4 (x17.Calls.map ah.row),vI x17.Done,vI x17.Last.Kind,vI x17.Last.N,vS x17.Last.S,sF 1 (x17.Last.I.map (ay .i64)),sF 1 (x17.Last.L.map dB)]) (ry:=[vI x17.ID,vI x17.Born,vS x17.Client,vI x17.Seq,sF 4 (x17.Calls.map ah.row),vI (IntKind.i64.wrap (x17.Done+1)),vI x17.Last.Kind,vI x17.Last.N,vS x17.Last.S,sF 1 (x17.Last.I.map (ay .i64)),sF 1 (x17.Last.L.map dB)]) hx15 rfl rfl) hx18 (mm3 (row:=Txn.row) (y0:=(Txn.mk x17.ID x17.Born x17.Client x17.Seq x17.Calls (IntKind.i64.wrap (x17.Done+1)) x17.Last)) (y:=(Txn.mk x17.ID x17.Born x17.Client x17.Seq x17.Calls (IntKind.i64.wrap (x17.Done+1)) r18)) (rx:=[vI x17.ID,vI x17.Born,vS x17.Client,vI x17.Seq,sF 4 (x17.Calls.map ah.row),vI (IntKind.i64.wrap (x17.Done+1)),vI x17.Last.Kind,vI x17.Last.N,vS x17.Last.S,sF 1 (x17.Last.I.map (ay .i64)),sF 1 (x17.Last.L.map dB)]) (ry:=[vI x17.ID,vI x17.Born,vS x17.Client,vI x17.Seq,sF 4 (x17.Calls.map ah.row),vI (IntKind.i64.wrap (x17.Done+1)),vI r18.Kind,vI r18.N,vS r18.S,sF 1 (r18.I.map (ay .i64)),sF 1 (r18.L.map dB)]) hx15 rfl rfl)) ?_;obtain ⟨r19,hr21,h⟩:=bI h;refine z1 hr21 ?_;apply aR (fun (l21:List aa)=>⟨tab 139 (af (af (af (af (af au 1 (vI a1)) 2 (sF 5 (a2.map Value.row))) 8 (pF 8)) 12 (pF 12)) 14 (vI r19.1)),(upd (upd RZ 8 (vA 3 [.val (.slice none 0 0),.val (.slice none 0 0),.val (.slice none 0 0)])) 12 (vA 3 [sO 11 ((r15.Txns.set ((r16).toNat) (Txn.mk x17.ID x17.Born x17.Client x17.Seq x17.Calls (IntKind.i64.wrap (x17.Done+1)) r18)).map Txn.row),sO 4 (r15.Locks.map ai.row),sO 3 (l21.map aa.rowD)]))⟩)
 ·intro hJ22;refine z0 ?_;refine cMs h (fun hc23 h=>?_) fun hc23 h=>?_
  ·refine aU (pp (hJ22 _ r15.Stacks ?_ h));exact wR
  obtain ⟨r22,hr24,h⟩:=bI h;have hx25:=yX hr24;refine z1 (k2 hc23 hr24) ?_;refine my (Oo 12 [(0,2),((r19.1).toNat,2)] 3 (by simp only [go_sem,seval,Hv (row:=aa.rowD) _ hx25]) (by simp only [go_sem,seval,Hw (row:=aa.rowD) hx25 rfl]; try rfl)) (my (zn (n:=12) (c':=vA 3 [sO 11 ((r15.Txns.set ((r16).toNat) (Txn.mk x17.ID x17.Born x17.Client x17.Seq x17.Calls (IntKind.i64.wrap (x17.Done+1)) r18)).map Txn.row),sO 4 (r15.Locks.map ai.row),sO 3 (r22.map aa.rowD)]) (by simp only [go_sem,seval]; rfl) (by simp only [Va (row:=aa.rowD) (rc:=[vS r13.1.Target.Type_,vS r13.1.Target.Key,sO 3 []]) hx25 rfl])) (hJ22 _ r22 ?_ h));exact wR
 intro l21 h;unfold rq at h;obtain ⟨x23,hb26,hx27,h⟩:=aH h;refine z1 hb26 ?_;refine z1 hx27 ?_;apply yL (fun (l28:List aa) (v29:Int)=>⟨tab 139 (af (af (af (af (af au 2 (sF 5 (a2.map Value.row))) 8 (pF 8)) 12 (pF 12)) 16 (.pref 12 [(0,2)] ((r19.1).toNat) 0)) 17 (vI v29)),(upd (upd RZ 8 (vA 3 [.val (.slice none 0 0),.val (.slice none 0 0),.val (.slice none 0 0)])) 12 (vA 3 [sO 11 ((r15.Txns.set ((r16).toNat) (Txn.mk x17.ID x17.Born x17.Client x17.Seq x17.Calls (IntKind.i64.wrap (x17.Done+1)) r18)).map Txn.row),sO 4 (r15.Locks.map ai.row),sO 3 (l28.map aa.rowD)]))⟩)
 ·intro hJ28;apply aR (fun (c31:Bool)=>⟨tab 139 (af (af (af (af (af (af (af au 1 (vI a1)) 2 (sF 5 (a2.map Value.row))) 8 (pF 8)) 12 (pF 12)) 16 (.pref 12 [(0,2)] ((r19.1).toNat) 0)) 17 (vI (x23.Layers.length:Int))) 114 (vB c31)),(upd (upd RZ 8 (vA 3 [.val (.slice none 0 0),.val (.slice none 0 0),.val (.slice none 0 0)])) 12 (vA 3 [sO 11 ((r15.Txns.set ((r16).toNat) (Txn.mk x17.ID x17.Born x17.Client x17.Seq x17.Calls (IntKind.i64.wrap (x17.Done+1)) r18)).map Txn.row),sO 4 (r15.Locks.map ai.row),sO 3 (l21.map aa.rowD)]))⟩)
  ·intro hJ29;refine iD h (fun hc30 hc30d h=>?_) fun hc30 hc30d h=>?_
   ·refine z1 hc30d ?_;exact hJ29 _ true wR h
   obtain ⟨x32,hb31,hx32,h⟩:=aH h;refine z1 (k4 hx27 hc30d hb31 hx32) ?_;exact hJ29 _ (!decide (x32.Txn_=a1)) wR h
  intro c31 h;unfold uM at h;refine cBs h (fun hc33 h=>?_) fun hc33 h=>?_
  ·refine aU (pp (hJ28 _ l21 (x23.Layers.length:Int) ?_ h));exact wR
  obtain ⟨ha34,h⟩:=iT h;simp only [cC,cW,cS,Nat.reduceAdd] at ha34;refine z1 (k5 hx27 hc33 ha34 (ov1 (row:=aa.rowD) (rx:=[vS x23.Actor.Type_,vS x23.Actor.Key,sO 3 (x23.Layers.map al.row)]) hx27 rfl) (k2 (ov2 (row:=aa.rowD) hx27) (ov3 (row:=aa.rowD) hx27))) ?_;refine my (En 12 [(0,2),((r19.1).toNat,2),(x23.Layers.length,1)] 5 (by simp only [go_sem,seval,Hv (row:=aa.rowD) _ hx27,WB]) (by simp only [go_sem,seval,Hw (row:=aa.rowD) hx27 rfl,V3]; try rfl)) (hJ28 _ (l21.set ((r19.1).toNat) (aa.mk x23.Actor (x23.Layers++[(al.mk a1 [] false)]))) (IntKind.i64.wrap ((x23.Layers.length:Int)+1)) ?_ h);refine aV.trans (zn (n:=12) (c':=vA 3 [sO 11 ((r15.Txns.set ((r16).toNat) (Txn.mk x17.ID x17.Born x17.Client x17.Seq x17.Calls (IntKind.i64.wrap (x17.Done+1)) r18)).map Txn.row),sO 4 (r15.Locks.map ai.row),sO 3 ((l21.set ((r19.1).toNat) (aa.mk x23.Actor (x23.Layers++[(al.mk a1 [] false)]))).map aa.rowD)]) (by simp only [go_sem,seval]; rfl) (by first|(simp only [oJ (row:=aa.rowD) (l:=l21) (i:=((r19.1).toNat)) (y:=(aa.mk x23.Actor (x23.Layers++[(al.mk a1 [] false)]))) (rc:=[vS x23.Actor.Type_,vS x23.Actor.Key,sO 3 ((x23.Layers++[(al.mk a1 [] false)]).map al.row)]) rfl]; done)|(simp only [oJ (row:=aa.rowD) (l:=l21) (i:=((r19.1).toNat)) (y:=(aa.mk x23.Actor (x23.Layers++[(al.mk a1 [] false)]))) (rc:=[vS x23.Actor.Type_,vS x23.Actor.Key,sO 3 ((x23.Layers++[(al.mk a1 [] false)]).map al.row)]) rfl,nr,nv,xg]<;>rfl)|(rw [<-oJ (row:=aa.rowD) (l:=l21) (i:=((r19.1).toNat)) (y:=(aa.mk x23.Actor (x23.Layers++[(al.mk a1 [] false)]))) (rc:=[vS x23.Actor.Type_,vS x23.Actor.Key,sO 3 ((x23.Layers++[(al.mk a1 [] false)]).map al.row)]) rfl]; simp only [nr,nv,xg]<;>rfl))) (aV.trans (wJ (n:=122) ([[vI a1,sF 5 [],vB false]]) (by (try simp only [go_sem]); rfl) (by simp only [go_sem,seval]; rfl) (by simp only [jh,gY,go_sem]; rfl)) ?_)
  exact wR
 intro l28 v29 h;unfold yn at h;obtain ⟨x33,hb35,hx36,h⟩:=aH h;obtain ⟨r34,hr37,h⟩:=bI h;obtain ⟨x35,hb38,hx39,h⟩:=aH h;have hx41:=kB (y:=(al.mk x35.Txn_ r34 x35.Prepared)) hx39;refine d1 (k5 hx36 hr37 hb38 hx39 (k2 (mm2 (row:=al.row) (y:=(al.mk x35.Txn_ r34 x35.Prepared)) (rx:=[vI x35.Txn_,sF 5 (x35.Fields.map Value.row),vB x35.Prepared]) (ry:=[vI x35.Txn_,sF 5 (r34.map Value.row),vB x35.Prepared]) hx39 rfl rfl) (ov1 (row:=aa.rowD) (rx:=[vS x33.Actor.Type_,vS x33.Actor.Key,sO 3 (x33.Layers.map al.row)]) hx36 rfl))) ?_;refine aL ?_;refine my (zn (n:=12) (c':=vA 3 [sO 11 ((r15.Txns.set ((r16).toNat) (Txn.mk x17.ID x17.Born x17.Client x17.Seq x17.Calls (IntKind.i64.wrap (x17.Done+1)) r18)).map Txn.row),sO 4 (r15.Locks.map ai.row),sO 3 ((l28.set ((r19.1).toNat) (aa.mk x33.Actor (x33.Layers.set ((IntKind.i64.wrap (v29 - 1)).toNat) (al.mk x35.Txn_ r34 x35.Prepared)))).map aa.rowD)]) (by simp only [go_sem,seval]; rfl) (by first|(simp only [oJ (row:=aa.rowD) (l:=l28) (i:=((r19.1).toNat)) (y:=(aa.mk x33.Actor (x33.Layers.set ((IntKind.i64.wrap (v29 - 1)).toNat) (al.mk x35.Txn_ r34 x35.Prepared)))) (rc:=[vS x33.Actor.Type_,vS x33.Actor.Key,sO 3 ((x33.Layers.set ((IntKind.i64.wrap (v29 - 1)).toNat) (al.mk x35.Txn_ r34 x35.Prepared)).map al.row)]) rfl]; done)|(simp only [oJ (row:=aa.rowD) (l:=l28) (i:=((r19.1).toNat)) (y:=(aa.mk x33.Actor (x33.Layers.set ((IntKind.i64.wrap (v29 - 1)).toNat) (al.mk x35.Txn_ r34 x35.Prepared)))) (rc:=[vS x33.Actor.Type_,vS x33.Actor.Key,sO 3 ((x33.Layers.set ((IntKind.i64.wrap (v29 - 1)).toNat) (al.mk x35.Txn_ r34 x35.Prepared)).map al.row)]) rfl,nr,nv,xg]<;>rfl)|(rw [<-oJ (row:=aa.rowD) (l:=l28) (i:=((r19.1).toNat)) (y:=(aa.mk x33.Actor (x33.Layers.set ((IntKind.i64.wrap (v29 - 1)).toNat) (al.mk x35.Txn_ r34 x35.Prepared)))) (rc:=[vS x33.Actor.Type_,vS x33.Actor.Key,sO 3 ((x33.Layers.set ((IntKind.i64.wrap (v29 - 1)).toNat) (al.mk x35.Txn_ r34 x35.Prepared)).map al.row)]) rfl]; simp only [nr,nv,xg]<;>rfl))) (z0 ?_)
 exact f0 h
@[go_sem] def Bt (N:Nat):FnS:=⟨[],false,fn4 ae.decA (aG .i64) (aJ 5 Value.dec) Value.decA fun q0 q1 q2 q3=>(j6 N q0 q1 q2 q3).map fun r=>.tup [.agg (ae.row r.1),vI r.2],false⟩
def AZ (N:Nat):aA prog 26 (Bt N):=om4 fun q0 q1 q2 q3 r h=>rs (UC N q0 q1 q2 q3 r h)
@[go_sem] def MR (N d f:Nat):Option FnS:=aw [(12,116,lE N),(16,124,pO N),(21,125,sd N),(27,126,yH N),(43,117,ke N),(45,120,jV N)] d f
def Mo (N:Nat) (a0:List ai) (a1:Ref) (a2:Int) (r:(List ai) × Int × Int) (h:mQ N a0 a1 a2=some r):Con prog 70 [] false [sF 4 (a0.map ai.row),.agg [vS a1.Type_,vS a1.Key],vI a2] (.tup [sO 4 (r.1.map ai.row),vI r.2.1,vI r.2.2]):=by
 refine fk (G:=(MR N)) func70 (gc 12 (kJ N) (gc 16 (rC N) (gc 21 (tZ N) (gc 27 (y7 N) (gc 43 (jW N) (gc 45 (Cv N) gn)))))) ?_;simp only [f70];unfold mQ at h;refine z0 ?_;refine aL ?_;apply aR (fun (c9:Bool)=>⟨tab 50 (af (af (af (af au 0 (sF 4 (a0.map ai.row))) 2 (vI a2)) 4 (pF 4)) 23 (vB c9)),(upd RZ 4 (vA 2 [vS a1.Type_,vS a1.Key]))⟩)
 ·intro hJ1;obtain ⟨r10,hr2,h⟩:=bI h;refine iBs h (fun hc3 h=>?_) fun hc3 h=>?_
  ·refine z1 (k2 hr2 hc3) ?_;exact hJ1 _ true wR h
  obtain ⟨r11,hr4,h⟩:=bI h;refine iBs h (fun hc5 h=>?_) fun hc5 h=>?_
  ·refine z1 (k4 hr2 hc3 hr4 hc5) ?_;exact hJ1 _ true wR h
  obtain ⟨r12,hr6,h⟩:=bI h;refine z1 (k5 hr2 hc3 hr4 hc5 hr6) ?_;exact hJ1 _ (!r12) wR h
 intro c9 h;unfold pA at h;refine cB h (fun hc7 h=>?_) fun hc7 h=>?_
 ·refine z1 hc7 ?_;exact f0 h
 refine aU (pp ?_);unfold oY at h;obtain ⟨r13,hr8,h⟩:=bI h;refine z1 (k2 hc7 hr8) ?_;refine aL ?_;apply aR (fun (c18:Bool)=>⟨tab 50 (af (af (af au 0 (sF 4 (a0.map ai.row))) 9 (vI r13.1)) 40 (vB c18)),RZ⟩)
 ·intro hJ9;refine iBs h (fun hc10 h=>?_) fun hc10 h=>?_
  ·refine z1 hc10 ?_;exact hJ9 _ true wR h
  obtain ⟨x19,hb11,hx12,h⟩:=aH h;refine z1 (k3 hc10 hb11 hx12) ?_;exact hJ9 _ (!decide (x19.Owner=a2)) wR h
 intro c18 h;unfold lB at h;refine cB h (fun hc13 h=>?_) fun hc13 h=>?_
 ·refine z1 hc13 ?_;exact f0 h
 refine aU (pp ?_);unfold tu at h;obtain ⟨r20,hr14,h⟩:=bI h;obtain ⟨r21,hr15,h⟩:=bI h;refine z1 (k3 hc13 hr14 hr15) ?_;refine z0 ?_;exact f0 h
@[go_sem] def CG (N:Nat):FnS:=⟨[],false,fn3 (aJ 4 ai.dec) Ref.decA (aG .i64) fun q0 q1 q2=>(mQ N q0 q1 q2).map fun r=>.tup [sO 4 (r.1.map ai.row),vI r.2.1,vI r.2.2],false⟩
def GJ (N:Nat):aA prog 70 (CG N):=om3 (Mo N)
@[go_sem] def PB (N d f:Nat):Option FnS:=aw [(14,23,j7 N),(19,40,gE N),(30,68,Bd N),(53,69,sQ N),(60,59,ql N),(65,46,vJ N),(80,70,CG N)] d f
def Pu (N:Nat) (a0:ae) (a1:Int) (a2:Ref) (r:ae × Int) (h:fU N a0 a1 a2=some r):Con prog 27 [] false [.agg (ae.row a0),vI a1,.agg [vS a2.Type_,vS a2.Key]] (.tup [.agg [sF 11 (r.1.Txns.map Txn.row),sO 4 (r.1.Locks.map ai.row),sF 3 (r.1.Stacks.map aa.row)],vI r.2]):=by
 refine fk (G:=(PB N)) func27 (gc 14 (jd N) (gc 19 (fc N) (gc 30 (Cy N) (gc 53 (qL N) (gc 60 (ph N) (gc 65 (vd N) (gc 80 (GJ N) gn))))))) ?_;simp only [f27];unfold fU at h;refine z0 ?_;obtain ⟨r1,hr1,h⟩:=bI h;refine z1 hr1 ?_;refine cM h (fun hc2 h=>?_) fun hc2 h=>?_
 ·refine z1 hc2 ?_;exact f0 h
 obtain ⟨r2,hr3,h⟩:=bI h;refine z1 (k2 hc2 hr3) ?_;refine aL ?_;apply aR (fun (c9:Bool)=>⟨tab 86 (af (af (af (af (af (af au 1 (vI a1)) 3 (pF 3)) 5 (pF 5)) 6 (pF 6)) 8 (vI r2)) 32 (vB c9)),(upd (upd (upd RZ 3 (vA 3 (ae.row a0))) 5 (vA 2 [vS a2.Type_,vS a2.Key])) 6 (vA 3 [.val (.slice none 0 0),.val (.slice none 0 0),.val (.slice none 0 0)]))⟩)
 ·intro hJ4;refine iD h (fun hc5 hc5d h=>?_) fun hc5 hc5d h=>?_
  ·refine d1 hc5d ?_;exact hJ4 _ true wR h
  obtain ⟨x10,hb6,hx7,h⟩:=aH h;obtain ⟨r11,hr8,h⟩:=bI h;refine d1 (k4 hc5d hb6 hx7 hr8) ?_;exact hJ4 _ (!r11) wR h
 intro c9 h;unfold iM at h;refine cB h (fun hc9 h=>?_) fun hc9 h=>?_
 ·refine z1 hc9 ?_;exact f0 h
 refine aU (pp ?_);unfold lH at h;obtain ⟨x12,hb10,hx11,h⟩:=aH h;refine d1 (k3 hc9 hb10 hx11) ?_;refine cD h (fun hc12 hc12d h=>?_) fun hc12 hc12d h=>?_
 ·refine z1 hc12d ?_;exact f0 h
 obtain ⟨r13,hr13,h⟩:=bI h;refine z1 (k2 hc12d hr13) ?_;refine z0 ?_;refine cB h (fun hc14 h=>?_) fun hc14 h=>?_
 ·refine z1 hc14 ?_;exact f0 h
 obtain ⟨r14,hr15,h⟩:=bI h;refine z1 (k2 hc14 hr15) ?_;obtain ⟨r15,hr16,h⟩:=bI h;obtain ⟨x16,hb17,hx18,h⟩:=aH h;refine d1 (k3 hr16 hb17 hx18) ?_;obtain ⟨x17,hb19,hx20,h⟩:=aH h;have hx22:=kB (y:=(al.mk x17.Txn_ x17.Fields true)) hx20;refine z1 (k5 hx18 hb19 hx20 (mm2 (row:=al.row) (y:=(al.mk x17.Txn_ x17.Fields true)) (rx:=[vI x17.Txn_,sF 5 (x17.Fields.map Value.row),vB x17.Prepared]) (ry:=[vI x17.Txn_,sF 5 (x17.Fields.map Value.row),vB true]) hx20 rfl rfl) (ov1 (row:=aa.rowD) (rx:=[vS x16.Actor.Type_,vS x16.Actor.Key,sO 3 (x16.Layers.map al.row)]) hx18 rfl)) ?_;refine aL ?_;refine my (zn (n:=11) (c':=vA 3 [sO 11 (r14.Txns.map Txn.row),sO 4 (r14.Locks.map ai.row),sO 3 ((r14.Stacks.set ((r15).toNat) (aa.mk x16.Actor (x16.Layers.set ((IntKind.i64.wrap ((x16.Layers.length:Int) - 1)).toNat) (al.mk x17.Txn_ x17.Fields true)))).map aa.rowD)]) (by simp only [go_sem,seval]; rfl) (by first|(simp only [oJ (row:=aa.rowD) (l:=r14.Stacks) (i:=((r15).toNat)) (y:=(aa.mk x16.Actor (x16.Layers.set ((IntKind.i64.wrap ((x16.Layers.length:Int) - 1)).toNat) (al.mk x17.Txn_ x17.Fields true)))) (rc:=[vS x16.Actor.Type_,vS x16.Actor.Key,sO 3 ((x16.Layers.set ((IntKind.i64.wrap ((x16.Layers.length:Int) - 1)).toNat) (al.mk x17.Txn_ x17.Fields true)).map al.row)]) rfl]; done)|(simp only [oJ (row:=aa.rowD) (l:=r14.Stacks) (i:=((r15).toNat)) (y:=(aa.mk x16.Actor (x16.Layers.set ((IntKind.i64.wrap ((x16.Layers.length:Int) - 1)).toNat) (al.mk x17.Txn_ x17.Fields true)))) (rc:=[vS x16.Actor.Type_,vS x16.Actor.Key,sO 3 ((x16.Layers.set ((IntKind.i64.wrap ((x16.Layers.length:Int) - 1)).toNat) (al.mk x17.Txn_ x17.Fields true)).map al.row)]) rfl,nr,nv,xg]<;>rfl)|(rw [<-oJ (row:=aa.rowD) (l:=r14.Stacks) (i:=((r15).toNat)) (y:=(aa.mk x16.Actor (x16.Layers.set ((IntKind.i64.wrap ((x16.Layers.length:Int) - 1)).toNat) (al.mk x17.Txn_ x17.Fields true)))) (rc:=[vS x16.Actor.Type_,vS x16.Actor.Key,sO 3 ((x16.Layers.set ((IntKind.i64.wrap ((x16.Layers.length:Int) - 1)).toNat) (al.mk x17.Txn_ x17.Fields true)).map al.row)]) rfl]; simp only [nr,nv,xg]<;>rfl))) (my (Re (n:=11) (by simp only [go_sem,seval]; rfl) (by simp only [jh,gY,go_sem]; rfl)) ?_)
 obtain ⟨r18,hr23,h⟩:=bI h;refine z1 hr23 ?_;refine z0 ?_;exact f0 h
@[go_sem] def wh (N:Nat):FnS:=⟨[],false,fn3 ae.decA (aG .i64) Ref.decA fun q0 q1 q2=>(fU N q0 q1 q2).map fun r=>.tup [.agg (ae.row r.1),vI r.2],false⟩
def wZ (N:Nat):aA prog 27 (wh N):=om3 fun q0 q1 q2 r h=>rs (Pu N q0 q1 q2 r h)
@[go_sem] def P3 (N d f:Nat):Option FnS:=aw [(8,46,vJ N),(17,47,uV N)] d f
def QG (N:Nat) (a0:ae) (a1:Ref) (r:List al) (h:lS N a0 a1=some r):Con prog 15 [] false [.agg (ae.row a0),.agg [vS a1.Type_,vS a1.Key]] (sO 3 (r.map al.row)):=by
 refine fk (G:=(P3 N)) func15 (gc 8 (vd N) (gc 17 (ya N) gn)) ?_;simp only [f15];unfold lS at h;refine z0 ?_;obtain ⟨r1,hr1,h⟩:=bI h;refine z1 hr1 ?_;refine z0 ?_;refine cD h (fun hc2 hc2d h=>?_) fun hc2 hc2d h=>?_
 ·obtain ⟨x2,hb3,hx4,h⟩:=aH h;obtain ⟨r3,hr5,h⟩:=bI h;refine z1 (k3 hb3 hx4 hr5) ?_;exact f0 h
 refine z1 hc2d ?_;exact f0 h
@[go_sem] def Ch (N:Nat):FnS:=⟨[],false,fn2 ae.decA Ref.decA fun q0 q1=>(lS N q0 q1).map fun r=>sF 3 (r.map al.row),false⟩
def DK (N:Nat):aA prog 15 (Ch N):=om2 fun q0 q1 r h=>rs (QG N q0 q1 r h)
@[go_sem] def Lo (N d f:Nat):Option FnS:=aw [(13,69,sQ N)] d f
def Lc (N:Nat) (a0:ah) (c0_0:List Txn) (c0_1:List ai) (c0_2:List aa) (c1_0:Int) (c1_1:Int) (c1_2:ByteArray) (c1_3:Int) (c1_4:List ah) (c1_5:Int) (c1_6:Int) (c1_7:Int) (c1_8:ByteArray) (c1_9:List Int) (c1_10:List ByteArray) (r:Bool) (h:lI N a0 c0_0 c0_1 c0_2 c1_0 c1_1 c1_2 c1_3 c1_4 c1_5 c1_6 c1_7 c1_8 c1_9 c1_10=some r):Con prog 142 [] true [.agg (ah.row a0),.iref 3 [[sF 11 (c0_0.map Txn.row),sF 4 (c0_1.map ai.row),sF 3 (c0_2.map aa.row)]] 0 0,.iref 11 [[vI c1_0,vI c1_1,vS c1_2,vI c1_3,sF 4 (c1_4.map ah.row),vI c1_5,vI c1_6,vI c1_7,vS c1_8,sF 1 (c1_9.map (ay .i64)),sF 1 (c1_10.map dB)]] 0 0] (vB r):=by
 refine fk (G:=(Lo N)) func142 (gc 13 (qL N) gn) ?_;simp only [f142];unfold lI at h;refine z0 ?_;obtain ⟨r1,hr1,h⟩:=bI h;refine z1 hr1 ?_;refine iBs h (fun hc2 h=>?_) fun hc2 h=>?_
 ·refine z1 hc2 ?_;exact e0 h
 refine z1 hc2 ?_;exact e0 h
@[go_sem] def w6 (N:Nat):FnS:={ own:=[],pure:=true,fn:=fun cs=>match cs with
 | [c0,.iref 3 [[c1_0,c1_1,c1_2]] 0 0,.iref 11 [[c2_0,c2_1,c2_2,c2_3,c2_4,c2_5,c2_6,c2_7,c2_8,c2_9,c2_10]] 0 0]=>(ah.decA c0).bind fun qc0=>((aJ 11 Txn.dec) c1_0).bind fun qc1_0=>((aJ 4 ai.dec) c1_1).bind fun qc1_1=>((aJ 3 aa.dec) c1_2).bind fun qc1_2=>((aG .i64) c2_0).bind fun qc2_0=>((aG .i64) c2_1).bind fun qc2_1=>(bR c2_2).bind fun qc2_2=>((aG .i64) c2_3).bind fun qc2_3=>((aJ 4 ah.dec) c2_4).bind fun qc2_4=>((aG .i64) c2_5).bind fun qc2_5=>((aG .i64) c2_6).bind fun qc2_6=>((aG .i64) c2_7).bind fun qc2_7=>(bR c2_8).bind fun qc2_8=>((aJ 1 (dp (aG .i64))) c2_9).bind fun qc2_9=>((aJ 1 (dp bR)) c2_10).bind fun qc2_10=>(lI N qc0 qc1_0 qc1_1 qc1_2 qc2_0 qc2_1 qc2_2 qc2_3 qc2_4 qc2_5 qc2_6 qc2_7 qc2_8 qc2_9 qc2_10).map fun r=>vB r
 | _=>none }
def GG (N:Nat):aA prog 142 (w6 N):=by
 refine ⟨fun cs r h=>?_,fun h=>by cases h⟩;simp only [w6] at h;split at h
 ·simp only [ck,cj] at h;obtain ⟨q0,h0,q1,h1,q2,h2,q3,h3,q4,h4,q5,h5,q6,h6,q7,h7,q8,h8,q9,h9,q10,h10,q11,h11,q12,h12,q13,h13,q14,h14,r',hr,rfl⟩:=h;exact (ag (Lc N q0 q1 q2 q3 q4 q5 q6 q7 q8 q9 q10 q11 q12 q13 q14 r' hr))
 ·cases h
@[go_sem] def rZ (N d f:Nat):Option FnS:=aw [(16,142,w6 N)] d f
def sa (N:Nat) (a0:List ah) (k1_0_0:List Txn) (k1_0_1:List ai) (k1_0_2:List aa) (k1_1_0:Int) (k1_1_1:Int) (k1_1_2:ByteArray) (k1_1_3:Int) (k1_1_4:List ah) (k1_1_5:Int) (k1_1_6:Int) (k1_1_7:Int) (k1_1_8:ByteArray) (k1_1_9:List Int) (k1_1_10:List ByteArray) (r:Int) (h:b9 N a0 k1_0_0 k1_0_1 k1_0_2 k1_1_0 k1_1_1 k1_1_2 k1_1_3 k1_1_4 k1_1_5 k1_1_6 k1_1_7 k1_1_8 k1_1_9 k1_1_10=some r):Con prog 203 [] true [sF 4 (a0.map ah.row),.clo 142 [.iref 3 [[sF 11 (k1_0_0.map Txn.row),sF 4 (k1_0_1.map ai.row),sF 3 (k1_0_2.map aa.row)]] 0 0,.iref 11 [[vI k1_1_0,vI k1_1_1,vS k1_1_2,vI k1_1_3,sF 4 (k1_1_4.map ah.row),vI k1_1_5,vI k1_1_6,vI k1_1_7,vS k1_1_8,sF 1 (k1_1_9.map (ay .i64)),sF 1 (k1_1_10.map dB)]] 0 0]] (vI r):=by
 refine fk (G:=(rZ N)) func203 (gc 16 (GG N) gn) ?_;simp only [f203];unfold b9 at h;refine z0 ?_;refine z0 ?_;refine lT 0 (fun (v2:Nat) (b:Unit)=>⟨tab 19 (af (af (af (af au 0 (sF 4 (a0.map ah.row))) 1 (.clo 142 [.iref 3 [[sF 11 (k1_0_0.map Txn.row),sF 4 (k1_0_1.map ai.row),sF 3 (k1_0_2.map aa.row)]] 0 0,.iref 11 [[vI k1_1_0,vI k1_1_1,vS k1_1_2,vI k1_1_3,sF 4 (k1_1_4.map ah.row),vI k1_1_5,vI k1_1_6,vI k1_1_7,vS k1_1_8,sF 1 (k1_1_9.map (ay .i64)),sF 1 (k1_1_10.map dB)]] 0 0])) 7 (vI (a0.length:Int))) 8 (vI (v2:Int))),RZ⟩) () h ?_ ?_
 ·rintro v2 ⟨⟩ hi3' h;simp only [bE] at h;refine z1 hi3' ?_;refine cf ?_;refine z0 ?_;exact e0 h
 rintro v2 ⟨⟩ x5 hi3' hx4 hw5 h;simp only [bE] at h;refine z1 hi3' ?_;refine ct ?_;refine z0 ?_;obtain ⟨r1,hr7,h⟩:=bI h;refine z1 (k3 hx4 hi3' hr7) ?_;refine cB h (fun hc8 h=>?_) fun hc8 h=>?_
 ·refine z1 hc8 ?_;exact e0 h
 refine z1 (k2 hw5 hc8) ?_;refine ⟨hi3',(),?_,h⟩;exact wR
@[go_sem] def fp (N:Nat):FnS:={ own:=[],pure:=true,fn:=fun cs=>match cs with
 | [c0,.clo 142 [.iref 3 [[k1_0_0,k1_0_1,k1_0_2]] 0 0,.iref 11 [[k1_1_0,k1_1_1,k1_1_2,k1_1_3,k1_1_4,k1_1_5,k1_1_6,k1_1_7,k1_1_8,k1_1_9,k1_1_10]] 0 0]]=>((aJ 4 ah.dec) c0).bind fun qc0=>((aJ 11 Txn.dec) k1_0_0).bind fun qk1_0_0=>((aJ 4 ai.dec) k1_0_1).bind fun qk1_0_1=>((aJ 3 aa.dec) k1_0_2).bind fun qk1_0_2=>((aG .i64) k1_1_0).bind fun qk1_1_0=>((aG .i64) k1_1_1).bind fun qk1_1_1=>(bR k1_1_2).bind fun qk1_1_2=>((aG .i64) k1_1_3).bind fun qk1_1_3=>((aJ 4 ah.dec) k1_1_4).bind fun qk1_1_4=>((aG .i64) k1_1_5).bind fun qk1_1_5=>((aG .i64) k1_1_6).bind fun qk1_1_6=>((aG .i64) k1_1_7).bind fun qk1_1_7=>(bR k1_1_8).bind fun qk1_1_8=>((aJ 1 (dp (aG .i64))) k1_1_9).bind fun qk1_1_9=>((aJ 1 (dp bR)) k1_1_10).bind fun qk1_1_10=>(b9 N qc0 qk1_0_0 qk1_0_1 qk1_0_2 qk1_1_0 qk1_1_1 qk1_1_2 qk1_1_3 qk1_1_4 qk1_1_5 qk1_1_6 qk1_1_7 qk1_1_8 qk1_1_9 qk1_1_10).map fun r=>vI r
 | _=>none }
def pV (N:Nat):aA prog 203 (fp N):=by
 refine ⟨fun cs r h=>?_,fun h=>by cases h⟩;simp only [fp] at h;split at h
 ·simp only [ck,cj] at h;obtain ⟨q0,h0,q1,h1,q2,h2,q3,h3,q4,h4,q5,h5,q6,h6,q7,h7,q8,h8,q9,h9,q10,h10,q11,h11,q12,h12,q13,h13,q14,h14,r',hr,rfl⟩:=h;exact (ag (sa N q0 q1 q2 q3 q4 q5 q6 q7 q8 q9 q10 q11 q12 q13 q14 r' hr))
 ·cases h
@[go_sem] def p7 (N d f:Nat):Option FnS:=aw [(7,203,fp N)] d f
def pY (N:Nat) (a0:List ah) (k1_0_0:List Txn) (k1_0_1:List ai) (k1_0_2:List aa) (k1_1_0:Int) (k1_1_1:Int) (k1_1_2:ByteArray) (k1_1_3:Int) (k1_1_4:List ah) (k1_1_5:Int) (k1_1_6:Int) (k1_1_7:Int) (k1_1_8:ByteArray) (k1_1_9:List Int) (k1_1_10:List ByteArray) (r:Bool) (h:bD N a0 k1_0_0 k1_0_1 k1_0_2 k1_1_0 k1_1_1 k1_1_2 k1_1_3 k1_1_4 k1_1_5 k1_1_6 k1_1_7 k1_1_8 k1_1_9 k1_1_10=some r):Con prog 140 [] true [sF 4 (a0.map ah.row),.clo 142 [.iref 3 [[sF 11 (k1_0_0.map Txn.row),sF 4 (k1_0_1.map ai.row),sF 3 (k1_0_2.map aa.row)]] 0 0,.iref 11 [[vI k1_1_0,vI k1_1_1,vS k1_1_2,vI k1_1_3,sF 4 (k1_1_4.map ah.row),vI k1_1_5,vI k1_1_6,vI k1_1_7,vS k1_1_8,sF 1 (k1_1_9.map (ay .i64)),sF 1 (k1_1_10.map dB)]] 0 0]] (vB r):=by
 refine fk (G:=(p7 N)) func140 (gc 7 (pV N) gn) ?_;simp only [f140];unfold bD at h;refine z0 ?_;obtain ⟨r1,hr1,h⟩:=bI h;refine z1 hr1 ?_;exact e0 h
@[go_sem] def eK (N:Nat):FnS:={ own:=[],pure:=true,fn:=fun cs=>match cs with
 | [c0,.clo 142 [.iref 3 [[k1_0_0,k1_0_1,k1_0_2]] 0 0,.iref 11 [[k1_1_0,k1_1_1,k1_1_2,k1_1_3,k1_1_4,k1_1_5,k1_1_6,k1_1_7,k1_1_8,k1_1_9,k1_1_10]] 0 0]]=>((aJ 4 ah.dec) c0).bind fun qc0=>((aJ 11 Txn.dec) k1_0_0).bind fun qk1_0_0=>((aJ 4 ai.dec) k1_0_1).bind fun qk1_0_1=>((aJ 3 aa.dec) k1_0_2).bind fun qk1_0_2=>((aG .i64) k1_1_0).bind fun qk1_1_0=>((aG .i64) k1_1_1).bind fun qk1_1_1=>(bR k1_1_2).bind fun qk1_1_2=>((aG .i64) k1_1_3).bind fun qk1_1_3=>((aJ 4 ah.dec) k1_1_4).bind fun qk1_1_4=>((aG .i64) k1_1_5).bind fun qk1_1_5=>((aG .i64) k1_1_6).bind fun qk1_1_6=>((aG .i64) k1_1_7).bind fun qk1_1_7=>(bR k1_1_8).bind fun qk1_1_8=>((aJ 1 (dp (aG .i64))) k1_1_9).bind fun qk1_1_9=>((aJ 1 (dp bR)) k1_1_10).bind fun qk1_1_10=>(bD N qc0 qk1_0_0 qk1_0_1 qk1_0_2 qk1_1_0 qk1_1_1 qk1_1_2 qk1_1_3 qk1_1_4 qk1_1_5 qk1_1_6 qk1_1_7 qk1_1_8 qk1_1_9 qk1_1_10).map fun r=>vB r
 | _=>none }
def m9 (N:Nat):aA prog 140 (eK N):=by
 refine ⟨fun cs r h=>?_,fun h=>by cases h⟩;simp only [eK] at h;split at h
 ·simp only [ck,cj] at h;obtain ⟨q0,h0,q1,h1,q2,h2,q3,h3,q4,h4,q5,h5,q6,h6,q7,h7,q8,h8,q9,h9,q10,h10,q11,h11,q12,h12,q13,h13,q14,h14,r',hr,rfl⟩:=h;exact (ag (pY N q0 q1 q2 q3 q4 q5 q6 q7 q8 q9 q10 q11 q12 q13 q14 r' hr))
 ·cases h
@[go_sem] def NT (N d f:Nat):Option FnS:=aw [(8,140,eK N)] d f
def NH (N:Nat) (a0:ae) (a1:Txn) (r:Bool) (h:sY N a0 a1=some r):Con prog 73 [] true [.agg (ae.row a0),.agg (Txn.row a1)] (vB r):=by
 refine fk (G:=(NT N)) func73 (gc 8 (m9 N) gn) ?_;simp only [f73];unfold sY at h;refine z0 ?_;obtain ⟨r1,hr1,h⟩:=bI h;refine z1 hr1 ?_;exact e0 h
@[go_sem] def EA (N:Nat):FnS:=⟨[],true,fn2 ae.decA Txn.decA fun q0 q1=>(sY N q0 q1).map fun r=>vB r,false⟩
def Jl (N:Nat):aA prog 73 (EA N):=om2 (NH N)
@[go_sem] def Mf (N d f:Nat):Option FnS:=aw [(13,73,EA N),(19,74,Dj N)] d f
def MM (N:Nat) (a0:Txn) (c0_0:List Txn) (c0_1:List ai) (c0_2:List aa) (r:Bool) (h:mJ N a0 c0_0 c0_1 c0_2=some r):Con prog 72 [] true [.agg (Txn.row a0),.iref 3 [[sF 11 (c0_0.map Txn.row),sF 4 (c0_1.map ai.row),sF 3 (c0_2.map aa.row)]] 0 0] (vB r):=by
 refine fk (G:=(Mf N)) func72 (gc 13 (Jl N) (gc 19 (Er N) gn)) ?_;simp only [f72];unfold mJ at h;refine z0 ?_;refine iDs h (fun hc1 hc1d h=>?_) fun hc1 hc1d h=>?_
 ·refine z1 hc1d ?_;exact e0 h
 obtain ⟨r1,hr2,h⟩:=bI h;refine iB h (fun hc3 h=>?_) fun hc3 h=>?_
 ·obtain ⟨r2,hr4,h⟩:=bI h;refine z1 (k4 hc1d hr2 hc3 hr4) ?_;exact e0 h
 refine z1 (k3 hc1d hr2 hc3) ?_;exact e0 h
@[go_sem] def yO (N:Nat):FnS:={ own:=[],pure:=true,fn:=fun cs=>match cs with
 | [c0,.iref 3 [[c1_0,c1_1,c1_2]] 0 0]=>(Txn.decA c0).bind fun qc0=>((aJ 11 Txn.dec) c1_0).bind fun qc1_0=>((aJ 4 ai.dec) c1_1).bind fun qc1_1=>((aJ 3 aa.dec) c1_2).bind fun qc1_2=>(mJ N qc0 qc1_0 qc1_1 qc1_2).map fun r=>vB r
 | _=>none }
def Ie (N:Nat):aA prog 72 (yO N):=by
 refine ⟨fun cs r h=>?_,fun h=>by cases h⟩;simp only [yO] at h;split at h
 ·simp only [ck,cj] at h;obtain ⟨q0,h0,q1,h1,q2,h2,q3,h3,r',hr,rfl⟩:=h;exact (ag (MM N q0 q1 q2 q3 r' hr))
 ·cases h
@[go_sem] def vL (N d f:Nat):Option FnS:=aw [(16,72,yO N)] d f
def vV (N:Nat) (a0:List Txn) (k1_0_0:List Txn) (k1_0_1:List ai) (k1_0_2:List aa) (r:Int) (h:dY N a0 k1_0_0 k1_0_1 k1_0_2=some r):Con prog 71 [] true [sF 11 (a0.map Txn.row),.clo 72 [.iref 3 [[sF 11 (k1_0_0.map Txn.row),sF 4 (k1_0_1.map ai.row),sF 3 (k1_0_2.map aa.row)]] 0 0]] (vI r):=by
 refine fk (G:=(vL N)) func71 (gc 16 (Ie N) gn) ?_;simp only [f71];unfold dY at h;refine z0 ?_;refine z0 ?_;refine lT 0 (fun (v2:Nat) (b:Unit)=>⟨tab 19 (af (af (af (af au 0 (sF 11 (a0.map Txn.row))) 1 (.clo 72 [.iref 3 [[sF 11 (k1_0_0.map Txn.row),sF 4 (k1_0_1.map ai.row),sF 3 (k1_0_2.map aa.row)]] 0 0])) 7 (vI (a0.length:Int))) 8 (vI (v2:Int))),RZ⟩) () h ?_ ?_
 ·rintro v2 ⟨⟩ hi3' h;simp only [dI] at h;refine z1 hi3' ?_;refine cf ?_;refine z0 ?_;exact e0 h
 rintro v2 ⟨⟩ x5 hi3' hx4 hw5 h;simp only [dI] at h;refine z1 hi3' ?_;refine ct ?_;refine z0 ?_;obtain ⟨r1,hr7,h⟩:=bI h;refine z1 (k3 hx4 hi3' hr7) ?_;refine cB h (fun hc8 h=>?_) fun hc8 h=>?_
 ·refine z1 hc8 ?_;exact e0 h
 refine z1 (k2 hw5 hc8) ?_;refine ⟨hi3',(),?_,h⟩;exact wR
@[go_sem] def gZ (N:Nat):FnS:={ own:=[],pure:=true,fn:=fun cs=>match cs with
 | [c0,.clo 72 [.iref 3 [[k1_0_0,k1_0_1,k1_0_2]] 0 0]]=>((aJ 11 Txn.dec) c0).bind fun qc0=>((aJ 11 Txn.dec) k1_0_0).bind fun qk1_0_0=>((aJ 4 ai.dec) k1_0_1).bind fun qk1_0_1=>((aJ 3 aa.dec) k1_0_2).bind fun qk1_0_2=>(dY N qc0 qk1_0_0 qk1_0_1 qk1_0_2).map fun r=>vI r
 | _=>none }
def ue (N:Nat):aA prog 71 (gZ N):=by
 refine ⟨fun cs r h=>?_,fun h=>by cases h⟩;simp only [gZ] at h;split at h
 ·simp only [ck,cj] at h;obtain ⟨q0,h0,q1,h1,q2,h2,q3,h3,r',hr,rfl⟩:=h;exact (ag (vV N q0 q1 q2 q3 r' hr))
 ·cases h
def Gx (N:Nat) (a0:List Ref) (r:List Ref) (h:jM N a0=some r):Con prog 44 [true] true [sO 2 (a0.map Ref.row)] (sO 2 (r.map Ref.row)):=by
 refine AF (G:=(aw [])) (L:=noL) func44 rfl (by decide) (by kernel_rfl) gn (fun _ _ _ h=>by cases h) [] mix (nb rfl) ?_;rw [show gh [true] [sO 2 (a0.map Ref.row)]=(af au 0 (.pal 0 [] 0 a0.length none)) from by funext t; match t with|0=>simp [gh,iX,kr,af]|t+1=>rfl];rw [show R0 [true] [sO 2 (a0.map Ref.row)]=upd RZ 0 (sO 2 (a0.map Ref.row)) from by funext t; match t with|0=>rfl|t+1=>rfl];simp only [f44];unfold jM at h;refine z0 ?_;refine z0 ?_;refine cD h (fun hc1 hc1d h=>?_) fun hc1 hc1d h=>?_
 ·refine z1 hc1d ?_;refine fa (pp ?_);cases h;simp only [go_sem,seval,dQ];exact ⟨_,rfl,gO.h,qx.h,qJ.h⟩
 refine z1 hc1d ?_;refine aQ (gG fun hreal3=>?_);have hl2:=hreal3.lenX 0 (by simp only [go_sem,seval]; rfl);rw [cy] at hl2;refine pw (fun (v3:Nat) (b:Unit)=>⟨tab 61 (af (af au 0 (.pal 0 [] 0 a0.length none)) 3 (vI (v3:Int))),(upd RZ 0 (sO 2 (a0.map Ref.row)))⟩) () h ?_ ?_
 ·exact wF hc1d
 rintro v3 ⟨⟩ _ h -;rcases (jr a0.length v3).symm with ⟨hi4',hd7⟩|⟨hi4',hd7⟩
 ·rw [hd7] at h;simp only [ic] at h;refine z1 hi4' ?_;refine cf ?_;refine z0 ?_;refine fa (pp ?_);cases h;simp only [go_sem,seval,dQ];exact ⟨_,rfl,gO.h,qx.h,qJ.h⟩
 rw [hd7] at h;simp only [ic] at h;have hw6:=eA hi4' hl2;refine z1 hi4' ?_;refine ct ?_;obtain ⟨x1,hb8,hx9,h⟩:=aH h;try simp only [cL] at hx9
 try simp only [nL,nM,true_and] at hb8
 obtain ⟨x2,hb10,hx11,h⟩:=aH h;refine d1 (k4 hi4' hx9 hb10 hx11) ?_;refine cBs h (fun hc12 h=>?_) fun hc12 h=>?_
 ·refine z1 (k2 hw6 hc12) ?_;refine ⟨hi4',(),?_,h⟩;exact wF (k5 hc1d hi4' hw6 hb8 (k4 hx9 hb10 hx11 hc12))
 obtain ⟨hs13,h⟩:=iU h;try simp only [cL] at hs13 h
 refine z1 (k3 hc12 hs13 @cU) ?_;refine z0 ?_;refine aQ (gH (fun (b:List Ref × Int × Int)=>⟨tab 61 (af (af (af (af au 0 (.pal 0 [] 0 b.1.length none)) 3 (vI b.2.1)) 4 (.pal 0 [] v3 (a0.length - v3) none)) 5 (vI b.2.2)),(upd RZ 0 (sO 2 (b.1.map Ref.row)))⟩) (a0,(v3:Int),1) h ?_ ?_)
 ·exact wF (k5 hc1d hi4' hw6 hb8 (k5 hx9 hb10 hx11 hc12 (k3 hs13 @cV @cU)))
 rintro n ⟨l12,v13,v14⟩ h -;cases n with
 | zero=>simp [fQ] at h
 | succ n=>
 simp only [fQ] at h;refine z0 ?_;refine cDs h (fun hc14 hc14d h=>?_) fun hc14 hc14d h=>?_
 ·refine gr (pp ?_);unfold jX at h;refine aL ?_;obtain ⟨hs24,h⟩:=iU h;try simp only [cL] at hs24 h
  refine iP fun Z hZ=>?_;simp only [go_sem,seval,cU,hc14d,hs24,Q7 (row:=Ref.row) (z:=(Ref.mk (⟨#[]⟩) (⟨#[]⟩))) (rz:=[vS (⟨#[]⟩),vS (⟨#[]⟩)]) (k:=(v13).toNat) (l:=l12) (by have:=hs24; omega) rfl,fZ,yc,dA,aF.allD Ref.row_ok];refine hZ _ (pp (aL ?_));obtain ⟨hs25,h⟩:=iU h;try simp only [xr] at hs25 h
  refine iP fun Z hZ=>?_;simp only [go_sem,seval,cV,hs24,ua,hs25];refine hZ _ (pp (fa (pp ?_)));cases h;simp only [go_sem,seval,dQ];exact ⟨_,rfl,gO.h,qx.h,qJ.h⟩
 obtain ⟨x16,hb15,hx16,h⟩:=aH h;obtain ⟨x17,hb17,hx18,h⟩:=aH h;refine d1 (k5 hb15 (FC hx16) (Im hb15) hb17 (k2 (FC hx18) (Im hb17))) ?_;refine cMs h (fun hc19 h=>?_) fun hc19 h=>?_
 ·refine z1 hc19 ?_;refine ⟨_,na _,(l12,v13,IntKind.i64.wrap (v14+1)),?_,h⟩;exact wF (k5 hc1d hi4' hw6 hb8 (k5 hx9 hb10 hx11 hc12 (k5 hs13 @cV @cU hc14d (k5 hb15 hx16 (FC hx16) (Im hb15) (k5 hb17 hx18 (FC hx18) (Im hb17) hc19)))))
 obtain ⟨x18,hb20,hx21,h⟩:=aH h;have hx23:=kB (y:=x16) hx21;refine z1 (k5 hb15 (Im hb15) hc19 (FC hx16) (k3 hb20 hx21 (mm2 (row:=Ref.row) (y:=x16) (rx:=[vS x18.Type_,vS x18.Key]) (ry:=[vS x16.Type_,vS x16.Key]) hx21 rfl rfl))) ?_;refine z0 ?_;refine z0 ?_;refine ⟨_,na _,((l12.set ((v13).toNat) x16),IntKind.i64.wrap (v13+1),IntKind.i64.wrap (v14+1)),?_,h⟩;refine wr ?_ ?_<;>repeat' first|rfl|constructor|simp only [go_sem,seval,cX]
def fo (N:Nat):FnS:={ own:=[true],pure:=true,fn:=fun cs=>match cs with
 | [c0]=>((vU 2 Ref.dec) c0).bind fun q0=>(jM N q0).map fun r=>sO 2 (r.map Ref.row)
 | _=>none }
theorem Cf (N:Nat):(fo N).own=[true]:=rfl
theorem B4 (N:Nat):(fo N).pure=true:=rfl
theorem B7 (N:Nat):(fo N).peek=false:=rfl
attribute [go_sem] fo Cf B4 B7
def C6 (N:Nat):aA prog 44 (fo N):=by
 refine ⟨fun cs r h=>?_,fun h=>by cases h⟩;simp only [fo] at h;split at h
 ·simp only [ck,cj] at h;obtain ⟨q0,h0,r',hr,rfl⟩:=h;exact (Gx N q0 r' hr).argsO rfl (jG (qj Ref.row_ok Ref.dec_le h0) (oA))
 ·cases h
@[go_sem] def oG (N d f:Nat):Option FnS:=aw [(32,43,wc N)] d f
def gJ (N:Nat) (a0:List Ref) (a1:Int) (a2:Int) (r:List Ref) (h:be N a0 a1 a2=some r):(r).length=a0.length:=by
 unfold be at h; exact (kP h).2
def oI (N:Nat) (a0:List Ref) (a1:Int) (a2:Int) (r:List Ref) (h:be N a0 a1 a2=some r):mP prog 173 1 [sO 2 (a0.map Ref.row),vI a1,vI a2,.clo 43 []] (.tup []) [sO 2 (r.map Ref.row)]:=by
 unfold be at h;obtain ⟨h,hlen⟩:=kP h;refine zd (G:=(oG N)) (L:=noL) func173 rfl (by decide) (by kernel_rfl) 1 (by kernel_rfl) (gc 32 (wU N) gn) (fun _ _ _ h=>by cases h) [] mix (nb rfl) (nb rfl) rfl (by simp [dH,hlen]) ?_;simp only [f173];refine z0 ?_;refine aQ (gH (fun (b:Int)=>⟨tab 53 (af (af (af (af (af au 0 (.pal 0 [] 0 a0.length none)) 1 (vI a1)) 2 (vI a2)) 3 (.clo 43 [])) 8 (vI b)),(upd RZ 0 (sO 2 (a0.map Ref.row)))⟩) (IntKind.i64.wrap (a1+1)) h ?_ ?_)
 ·exact wR
 rintro n v1 h -;cases n with
 | zero=>simp [bV] at h
 | succ n=>
 simp only [bV] at h;refine z0 ?_;refine cDs h (fun hc1 hc1d h=>?_) fun hc1 hc1d h=>?_
 ·refine gr (pp ?_);obtain rfl:=ng h;refine Df (.inr rfl) (aV.refl _) (by simp only [go_sem,seval,hc1d]; rfl) (by simp only [go_sem,seval]; rfl) (by (try simp only [go_sem,seval]); first|exact Le.refl _|exact LeI.h) ?_;exact Dg (by simp only [go_sem,seval,hc1d]<;>rfl) (by simp only [go_sem,seval]<;>rfl) (Gb)
 refine z1 hc1d ?_;refine aQ (gH (fun (b:Unit)=>⟨tab 53 (af (af (af (af (af (af au 0 (.pal 0 [] 0 a0.length none)) 1 (vI a1)) 2 (vI a2)) 3 (.clo 43 [])) 8 (vI v1)) 9 (vI v1)),(upd RZ 0 (sO 2 (a0.map Ref.row)))⟩) () h ?_ ?_)
 ·exact wR
 rintro n ⟨⟩ h -;cases n with
 | zero=>simp [eh] at h
 | succ n=>
 simp only [eh] at h;refine aL ?_;apply aR (fun (c9:Bool)=>⟨tab 53 (af (af (af (af (af (af (af au 0 (.pal 0 [] 0 a0.length none)) 1 (vI a1)) 2 (vI a2)) 3 (.clo 43 [])) 8 (vI v1)) 9 (vI v1)) 34 (vB c9)),(upd RZ 0 (sO 2 (a0.map Ref.row)))⟩)
 ·intro hJ2;refine iDs h (fun hc3 hc3d h=>?_) fun hc3 hc3d h=>?_
  ·refine d1 hc3d ?_;exact hJ2 _ false wR h
  obtain ⟨x10,hb4,hx5,h⟩:=aH h;obtain ⟨x11,hb6,hx7,h⟩:=aH h;obtain ⟨r12,hr8,h⟩:=bI h;refine d1 (k5 hc3d hb4 hx5 hb6 (k2 hx7 hr8)) ?_;exact hJ2 _ (decide (r12 < 0)) wR h
 intro c9 h;unfold et at h;refine cB h (fun hc9 h=>?_) fun hc9 h=>?_
 ·refine aU (pp ?_);unfold ek at h;refine aL (aQ ?_);obtain ⟨x13,hb10,hx11,h⟩:=aH h;obtain ⟨x14,hb12,hx13,h⟩:=aH h;cases h
 refine z1 hc9 ?_;refine ⟨_,na _,(IntKind.i64.wrap (v1+1)),?_,h⟩;exact wR
@[go_sem] def eo (N:Nat):FnL:=⟨1,fun cs rest=>match cs,rest with
 | [v0],[c1,c2,.clo 43 []]=>(DA 2 Ref.dec v0).bind fun q0=>((aG .i64) c1).bind fun q1=>((aG .i64) c2).bind fun q2=>(be N q0 q1 q2).map fun r=>(.tup [],[sO 2 (r.map Ref.row)])
 | _,_=>none,false⟩
def mq (N:Nat):w4 prog 173 (eo N):=by
 refine II (xI _) rfl ?_;intro cs rest r ls hlen h;simp only [eo] at h;split at h
 ·simp only [ck,cj] at h;obtain ⟨q0,h0,q1,h1,q2,h2,r',hr,he⟩:=h;cases he;exact mP.told rfl rfl (zi (zk Ref.row_ok Ref.dec_le h0) (Ce)) (LeL.cons (bz h1) (LeL.cons (bz h2) (LeL.cons (Le.clo (LeL.nil)) (LeL.nil)))) (oI N q0 q1 q2 r' hr)
 ·cases h
@[go_sem] def rV (N d f:Nat):Option FnL:=Bl [(30,173,eo N)] d f
def je (N:Nat) (a0:List Ref) (a1:Int) (a2:Int) (a3:Int) (r:List Ref) (h:bw N a0 a1 a2 a3=some r):(r).length=a0.length:=by
 unfold bw at h; exact (kP h).2
def rW (N:Nat) (a0:List Ref) (a1:Int) (a2:Int) (a3:Int) (r:List Ref) (h:bw N a0 a1 a2 a3=some r):mP prog 101 1 [sO 2 (a0.map Ref.row),vI a1,vI a2,vI a3,.clo 43 []] (.tup []) [sO 2 (r.map Ref.row)]:=by
 unfold bw at h;obtain ⟨h,hlen⟩:=kP h;refine zd (G:=(aw [])) (L:=(rV N)) func101 rfl (by decide) (by kernel_rfl) 1 (by kernel_rfl) gn (lc 30 (mq N) ln) [] mix (nb rfl) (nb rfl) rfl (by simp [dH,hlen]) ?_;simp only [f101];refine z0 ?_;refine z0 ?_;refine aQ (gH (fun (b:Unit)=>⟨tab 148 (af (af (af (af (af (af (af au 0 (.pal 0 [] 0 a0.length none)) 1 (vI a1)) 2 (vI a2)) 3 (vI a3)) 4 (.clo 43 [])) 10 (vB true)) 11 (vB true)),(upd RZ 0 (sO 2 (a0.map Ref.row)))⟩) () h ?_ ?_)
 ·exact wR
 rintro n ⟨⟩ h -;cases n with
 | zero=>simp [fj] at h
 | succ n=>
 simp only [fj] at h;refine z0 ?_;refine z0 ?_;refine cDs h (fun hc1 hc1d h=>?_) fun hc1 hc1d h=>?_
 ·refine z1 hc1d ?_;refine cD h (fun hc3 hc3d h=>?_) fun hc3 hc3d h=>?_
  ·refine aL ?_;cases h
  refine z1 hc3d ?_;refine cf ?_;refine aU (pp (aL ?_));cases h
 obtain ⟨r1,hr2,h⟩:=bI h;refine z1 (k3 hc1d hr2 (gJ N a0 a1 a2 r1 hr2)) ?_;refine fa (pp ?_);obtain rfl:=ng h;refine Df (.inl rfl) (aV.refl _) (by simp only [go_sem,seval]; rfl) (by simp only [go_sem,seval]; rfl) (by (try simp only [go_sem,seval]); first|exact Le.refl _|exact LeI.h) ?_;exact Dg (by simp only [go_sem,seval,gJ N a0 a1 a2 r1 hr2]<;>rfl) (by simp only [go_sem,seval]<;>rfl) (Gb)
@[go_sem] def fw (N:Nat):FnL:=⟨1,fun cs rest=>match cs,rest with
 | [v0],[c1,c2,c3,.clo 43 []]=>(DA 2 Ref.dec v0).bind fun q0=>((aG .i64) c1).bind fun q1=>((aG .i64) c2).bind fun q2=>((aG .i64) c3).bind fun q3=>(bw N q0 q1 q2 q3).map fun r=>(.tup [],[sO 2 (r.map Ref.row)])
 | _,_=>none,false⟩
def pU (N:Nat):w4 prog 101 (fw N):=by
 refine II (xI _) rfl ?_;intro cs rest r ls hlen h;simp only [fw] at h;split at h
 ·simp only [ck,cj] at h;obtain ⟨q0,h0,q1,h1,q2,h2,q3,h3,r',hr,he⟩:=h;cases he;exact mP.told rfl rfl (zi (zk Ref.row_ok Ref.dec_le h0) (Ce)) (LeL.cons (bz h1) (LeL.cons (bz h2) (LeL.cons (bz h3) (LeL.cons (Le.clo (LeL.nil)) (LeL.nil))))) (rW N q0 q1 q2 q3 r' hr)
 ·cases h
@[go_sem] def uy (N d f:Nat):Option FnS:=aw [(11,102,yV N)] d f
@[go_sem] def uL (N d f:Nat):Option FnL:=Bl [(13,101,fw N)] d f
def tf (N:Nat) (a0:List Ref) (r:List Ref) (h:bK N a0=some r):(r).length=a0.length:=by
 unfold bK at h; exact (kP h).2
def kQ (N:Nat) (a0:List Ref) (r:List Ref) (h:bK N a0=some r):mP prog 42 1 [sO 2 (a0.map Ref.row),.clo 43 []] (.tup []) [sO 2 (r.map Ref.row)]:=by
 unfold bK at h;obtain ⟨h,hlen⟩:=kP h;refine zd (G:=(uy N)) (L:=(uL N)) func42 rfl (by decide) (by kernel_rfl) 1 (by kernel_rfl) (gc 11 (Ax N) gn) (lc 13 (pU N) ln) [] mix (nb rfl) (nb rfl) rfl (by simp [dH,hlen]) ?_;simp only [f42];refine z0 ?_;obtain ⟨r1,hr1,h⟩:=bI h;obtain ⟨r2,hr2,h⟩:=bI h;refine z1 (k3 hr1 hr2 (je N a0 0 (a0.length:Int) r1 r2 hr2)) ?_;obtain rfl:=ng h;refine Df (.inr rfl) (aV.refl _) (by simp only [go_sem,seval]; rfl) (by simp only [go_sem,seval]; rfl) (by (try simp only [go_sem,seval]); first|exact Le.refl _|exact LeI.h) ?_;exact Dg (by simp only [go_sem,seval,je N a0 0 (a0.length:Int) r1 r2 hr2]<;>rfl) (by simp only [go_sem,seval]<;>rfl) (Gb)
@[go_sem] def kt (N:Nat):FnL:=⟨1,fun cs rest=>match cs,rest with
 | [v0],[.clo 43 []]=>(DA 2 Ref.dec v0).bind fun q0 =>  (bK N q0).map fun r=>(.tup [],[sO 2 (r.map Ref.row)])
 | _,_=>none,false⟩
def Fs (N:Nat):w4 prog 42 (kt N):=by
 refine II (xI _) rfl ?_;intro cs rest r ls hlen h;simp only [kt] at h;split at h
 ·simp only [ck,cj] at h;obtain ⟨q0,h0,r',hr,he⟩:=h;cases he;exact mP.told rfl rfl (zi (zk Ref.row_ok Ref.dec_le h0) (Ce)) (LeL.cons (Le.clo (LeL.nil)) (LeL.nil)) (kQ N q0 r' hr)
 ·cases h
def wH:Go.Shelf.Ren:=⟨fun|6=>42|14=>101|15=>102|20=>173|21=>174|22=>175|23=>176|24=>177|25=>178|26=>179|27=>180|28=>181|29=>182|46=>214|47=>215|48=>216|49=>217|50=>218|57=>231|n=>n,fun|0=>0|3=>3|4=>4|5=>5|9=>9|22=>46|24=>52|25=>94|39=>136|45=>179|46=>180|50=>115|53=>186|55=>188|66=>207|70=>211|76=>219|77=>220|n=>n,fun n=>n⟩
def wu:Go.Proofs.SlLaysF0.n6 prog wH where
 mixed:=by kernel_rfl
 f6:=⟨f42.name, by decide, func42.trans (congrArg some (by kernel_rfl))⟩
 f14:=⟨f101.name, by decide, func101.trans (congrArg some (by kernel_rfl))⟩
 f15:=func102.trans (congrArg some (by kernel_rfl))
 f20:=⟨f173.name, by decide, func173.trans (congrArg some (by kernel_rfl))⟩
 f21:=⟨f174.name, by decide, func174.trans (congrArg some (by kernel_rfl))⟩
 f22:=⟨f175.name, by decide, func175.trans (congrArg some (by kernel_rfl))⟩
 f23:=⟨f176.name, by decide, func176.trans (congrArg some (by kernel_rfl))⟩
 f24:=⟨f177.name, by decide, func177.trans (congrArg some (by kernel_rfl))⟩
 f25:=⟨f178.name, by decide, func178.trans (congrArg some (by kernel_rfl))⟩
 f26:=⟨f179.name, by decide, func179.trans (congrArg some (by kernel_rfl))⟩
 f27:=⟨f180.name, by decide, func180.trans (congrArg some (by kernel_rfl))⟩
 f28:=func181.trans (congrArg some (by kernel_rfl))
 f29:=func182.trans (congrArg some (by kernel_rfl))
 f46:=⟨f214.name, by decide, func214.trans (congrArg some (by kernel_rfl))⟩
 f47:=func215.trans (congrArg some (by kernel_rfl))
 f48:=func216.trans (congrArg some (by kernel_rfl))
 f49:=⟨f217.name, by decide, func217.trans (congrArg some (by kernel_rfl))⟩
 f50:=⟨f218.name, by decide, func218.trans (congrArg some (by kernel_rfl))⟩
 f57:=⟨f231.name, by decide, func231.trans (congrArg some (by kernel_rfl))⟩
 t0:=underlying0
 a0:=Tryz.isAgg0
 z0:=Tryz.sizeOf0
 v0:=Tryz.zeroValue0
 t3:=underlying3
 a3:=Tryz.isAgg3
 z3:=Tryz.sizeOf3
 v3:=Tryz.zeroValue3
 t4:=underlying4
 a4:=Tryz.isAgg4
 z4:=Tryz.sizeOf4
 v4:=Tryz.zeroValue4
 t5:=underlying5
 a5:=Tryz.isAgg5
 z5:=Tryz.sizeOf5
 v5:=Tryz.zeroValue5
 t9:=underlying9
 a9:=Tryz.isAgg9
 z9:=Tryz.sizeOf9
 v9:=Tryz.zeroValue9
 t22:=underlying46
 a22:=Tryz.isAgg46
 z22:=Tryz.sizeOf46
 v22:=Tryz.zeroValue46
 t25:=underlying94
 a25:=Tryz.isAgg94
 z25:=Tryz.sizeOf94
 v25:=Tryz.zeroValue94
 t39:=underlying136
 a39:=Tryz.isAgg136
 z39:=Tryz.sizeOf136
 v39:=Tryz.zeroValue136
 t45:=underlying179
 a45:=Tryz.isAgg179
 z45:=Tryz.sizeOf179
 v45:=Tryz.zeroValue179
 t46:=underlying180
 a46:=Tryz.isAgg180
 z46:=Tryz.sizeOf180
 v46:=Tryz.zeroValue180
 t50:=underlying115
 a50:=Tryz.isAgg115
 z50:=Tryz.sizeOf115
 v50:=Tryz.zeroValue115
 t53:=underlying186
 a53:=Tryz.isAgg186
 z53:=Tryz.sizeOf186
 v53:=Tryz.zeroValue186
 t55:=underlying188
 a55:=Tryz.isAgg188
 z55:=Tryz.sizeOf188
 v55:=Tryz.zeroValue188
 t66:=underlying207
 a66:=Tryz.isAgg207
 z66:=Tryz.sizeOf207
 v66:=Tryz.zeroValue207
 t70:=underlying211
 a70:=Tryz.isAgg211
 z70:=Tryz.sizeOf211
 v70:=Tryz.zeroValue211
 t76:=underlying219
 a76:=Tryz.isAgg219
 z76:=Tryz.sizeOf219
 v76:=Tryz.zeroValue219
 t77:=underlying220
 a77:=Tryz.isAgg220
 z77:=Tryz.sizeOf220
 v77:=Tryz.zeroValue220
def mw (x:Ref):List Go.Value:=[.string x.Type_,.string x.Key]
def mB (N:Nat) (a0:List Ref) (r:List Ref) (h:bX N a0=some r):(r).length=a0.length:=by
 unfold bX at h;split at h
 ·exact tf N a0 r h
 ·exact Vd h
def yw (N:Nat) (a0:List Ref) (r:List Ref) (h:bX N a0=some r):mP prog 42 1 [sO 2 (a0.map Ref.row),.clo 43 []] (.tup []) [sO 2 (r.map Ref.row)]:=by
 unfold bX at h;split at h
 ·exact kQ N a0 r h
 ·rename_i hne;obtain ⟨h1,h2,h3,rfl⟩:=MY h;refine V9 wu 2 (by decide) Tryz.isAgg52 Tryz.sizeOf52 mw (fun _=>rfl) (fun x v hv=>by simp only [mw,cK,nN,or_false] at hv; rcases hv with rfl|rfl<;>rfl) Ref.row (fun _=>rfl) rfl (enters_of func42 (by kernel_rfl) rfl) (enters_of func43 (by kernel_rfl) rfl) h2 (fun x y=>⟨true,?_⟩) (fun e=>hne (by rw [e]; rfl)) h3
  obtain ⟨z,hz⟩:=h1 x y;have hw:=HU N x y  z hz;show Con prog 43 [] true _ (vI ((gF N x y ).getD 0));rw [hz];exact hw
@[go_sem] def iW (N:Nat):FnL:=⟨1,fun cs rest=>match cs,rest with
 | [v0],[.clo 43 []]=>(DA 2 Ref.dec v0).bind fun q0 =>  (bX N q0).map fun r=>(.tup [],[sO 2 (r.map Ref.row)])
 | _,_=>none,false⟩
def vm (N:Nat):w4 prog 42 (iW N):=by
 refine II (xI _) rfl ?_;intro cs rest r ls hlen h;simp only [iW] at h;split at h
 ·simp only [ck,cj] at h;obtain ⟨q0,h0,r',hr,he⟩:=h;cases he;exact mP.told rfl rfl (zi (zk Ref.row_ok Ref.dec_le h0) (Ce)) (LeL.cons (Le.clo (LeL.nil)) (LeL.nil)) (yw N q0 r' hr)
 ·cases h
@[go_sem] def I9 (N d f:Nat):Option FnS:=aw [(22,44,fo N)] d f
@[go_sem] def Jh (N d f:Nat):Option FnL:=Bl [(20,42,iW N)] d f
def Jg (N:Nat) (a0:Txn) (r:List Ref) (h:im N a0=some r):Con prog 13 [] true [.agg (Txn.row a0)] (sO 2 (r.map Ref.row)):=by
 refine Tk (G:=(I9 N)) (L:=(Jh N)) func13 rfl (by decide) (by kernel_rfl) (gc 22 (C6 N) gn) (lc 20 (vm N) ln) [] mix (nb rfl) ?_;simp only [f13];unfold im at h;refine z0 ?_;refine z0 ?_;refine z0 ?_;refine aQ (gG fun hreal2=>?_);have hl1:=hreal2.lenT 7 (by decide) (by simp only [go_sem,seval]; rfl);rw [cy] at hl1;refine rL (fun (v3:Nat) (b:List Ref)=>⟨tab 23 (af (af (af (af au 3 (.pal 17 [] 0 b.length none)) 7 (sF 4 (a0.Calls.map ah.row))) 8 (vI (a0.Calls.length:Int))) 9 (vI (v3:Int))),(upd RZ 17 (sO 2 (b.map Ref.row)))⟩) [] h ?_ ?_
 ·refine aV.trans (lQ 3 17 2 (by simp only [go_sem,seval]) (by simp only [go_sem,seval])) ?_;refine wr ?_ ?_<;>repeat' first|rfl|constructor|simp only [go_sem,seval,nz,cX,nF,nG]
 rintro v3 l2 hi3 h -;rcases (lO a0.Calls v3 hi3) with ⟨x6,hi3',hx4,hd6⟩|⟨hi3',_,hd6⟩
 ·rw [hd6] at h;simp only [gP] at h;have hw5:=eA hi3' hl1;refine z1 hi3' ?_;refine ct ?_;refine z1 (k2 hx4 hi3') ?_;obtain ⟨ha7,h⟩:=iT h;simp only [cC,cW,cS,Nat.reduceAdd] at ha7;refine z1 ha7 ?_;refine z1 hw5 ?_;refine ⟨hi3',(l2++[x6.Target]),?_,h⟩;refine wr ?_ ?_<;>repeat' first|rfl|constructor|simp only [go_sem,seval]
 rw [hd6] at h;simp only [gP] at h;refine z1 hi3' ?_;refine cf ?_;refine gr (pp ?_);unfold kY at h;obtain ⟨r9,hr8,h⟩:=bI h;refine z1 (k2 hr8 (mB N l2 r9 hr8)) ?_;obtain ⟨r10,hr9,h⟩:=bI h;refine z1 (k2 (ni (adk (mB N l2 r9 hr8))) hr9) ?_;refine fa (pp ?_);obtain rfl:=ng h;simp only [go_sem,seval];exact ⟨_,rfl,gO.h,qJ.h⟩
@[go_sem] def u6 (N:Nat):FnS:=⟨[],true,fn1 Txn.decA fun q0=>(im N q0).map fun r=>sF 2 (r.map Ref.row),false⟩
def yd (N:Nat):aA prog 13 (u6 N):=om1 fun q0 r h=>rs (Jg N q0 r h)
@[go_sem] def Pb (N d f:Nat):Option FnS:=aw [(14,23,j7 N),(18,59,Jy N),(22,71,gZ N),(40,63,sg N),(43,13,u6 N),(54,69,sQ N),(62,67,qO N),(72,49,Cg N)] d f
def O5 (N:Nat) (a0:ae) (r:ae × (List aD)) (h:oq N a0=some r):Con prog 28 [] false [.agg (ae.row a0)] (.tup [.agg (ae.row r.1),sO 9 (r.2.map aD.row)]):=by
 refine JO (G:=(Pb N)) func28 rfl (by decide) (by kernel_rfl) (gc 14 (jd N) (gc 18 (Mj N) (gc 22 (ue N) (gc 40 (tY N) (gc 43 (yd N) (gc 54 (qL N) (gc 62 (sS N) (gc 72 (Dt N) gn)))))))) [(71,false)] mix (nb rfl) ?_;simp only [f28];unfold oq at h;refine z0 ?_;obtain ⟨r1,hr1,h⟩:=bI h;refine z1 hr1 ?_;refine cM h (fun hc2 h=>?_) fun hc2 h=>?_
 ·refine z1 hc2 ?_;exact f0 h
 obtain ⟨r2,hr3,h⟩:=bI h;refine z1 (k2 hc2 hr3) ?_;refine z0 ?_;refine aQ (gH (fun (b:List Txn × List ai × List aa × List aD)=>⟨tab 77 (af (af (af au 2 (pF 2)) 4 (pF 4)) 5 (.pal 76 [] 0 b.2.2.2.length none)),(upd (upd (upd RZ 2 (vA 3 [.val (.slice none 0 0),.val (.slice none 0 0),.val (.slice none 0 0)])) 4 (vA 3 [sF 11 (b.1.map Txn.row),sF 4 (b.2.1.map ai.row),sF 3 (b.2.2.1.map aa.row)])) 76 (sO 9 (b.2.2.2.map aD.row)))⟩) (r2.Txns,r2.Locks,r2.Stacks,[]) h ?_ ?_)
 ·refine aV.trans (lQ 5 76 9 (by simp only [go_sem,seval]) (by simp only [go_sem,seval])) ?_;exact wF (k3 hr1 hc2 hr3)
 rintro n ⟨l4,l5,l6,l7⟩ h -;cases n with
 | zero=>simp [lF] at h
 | succ n=>
 simp only [lF] at h;obtain ⟨r3,hr4,h⟩:=bI h;refine z1 hr4 ?_;refine z0 ?_;refine cD h (fun hc5 hc5d h=>?_) fun hc5 hc5d h=>?_
 ·refine z1 hc5d ?_;exact f0 h
 obtain ⟨x4,hb6,hx7,h⟩:=aH h;refine z1 (k3 hc5d hb6 hx7) ?_;obtain ⟨r5,hr8,h⟩:=bI h;refine d1 hr8 ?_;obtain ⟨r18,hr9,h⟩:=bI h;refine z1 hr9 ?_;refine aQ (gG fun hreal11=>?_);have hl10:=hreal11.lenT 43 (by decide) (by simp only [go_sem,seval]; rfl);rw [cy] at hl10;refine rL (fun (v16:Nat) (b:List aS)=>⟨tab 77 (af (af (af (af (af (af (af (af au 2 (pF 2)) 4 (pF 4)) 5 (.pal 76 [] 0 l7.length none)) 7 (pF 7)) 8 (pF 8)) 43 (sF 2 (r18.map Ref.row))) 44 (vI (r18.length:Int))) 45 (vI (v16:Int))),(upd (upd (upd (upd (upd RZ 2 (vA 3 [.val (.slice none 0 0),.val (.slice none 0 0),.val (.slice none 0 0)])) 4 (vA 3 [sF 11 (l4.map Txn.row),sF 4 (l5.map ai.row),sF 3 (l6.map aa.row)])) 7 (vA 11 (Txn.row x4))) 8 (vA 9 [vI x4.ID,vS x4.Client,vI x4.Seq,vI r5.Kind,vI r5.N,vS r5.S,sF 1 (r5.I.map (ay .i64)),sF 1 (r5.L.map dB),sO 3 (b.map aS.row)])) 76 (sO 9 (l7.map aD.row)))⟩) [] h ?_ ?_
 ·refine aV.trans (Oo 8 [(0,8)] 3 (by simp only [go_sem,seval]) (by simp only [go_sem,seval]; try rfl)) ?_;exact wF (k5 hr1 hc2 hr3 hr4 (k5 hc5d hb6 hx7 hr8 hr9))
 rintro v16 l15 hi12 h -;rcases (lO r18 v16 hi12).symm with ⟨hi12',_,hd15⟩|⟨x19,hi12',hx13,hd15⟩
 ·rw [hd15] at h;simp only [lq] at h;refine z1 hi12' ?_;refine cf ?_;refine gr (pp ?_);unfold wy at h;refine my (Re (n:=8) (by simp only [go_sem,seval]; rfl) (by simp only [jh,gY,go_sem]; rfl)) ?_;obtain ⟨r21,hr19,h⟩:=bI h;obtain ⟨ha20,h⟩:=iT h;simp only [cC,cW,cS,Nat.reduceAdd] at ha20;refine d1 (k2 hr19 ha20) ?_;refine ⟨_,na _,(r21.Txns,r21.Locks,r21.Stacks,(l7++[(aD.mk x4.ID x4.Client x4.Seq r5 l15)])),?_,h⟩;refine wr ?_ ?_<;>repeat' first|rfl|constructor|simp only [go_sem,seval]
 rw [hd15] at h;simp only [lq] at h;have hw14:=eA hi12' hl10;refine z1 hi12' ?_;refine ct ?_;refine z1 (k2 hx13 hi12') ?_;obtain ⟨r19,hr16,h⟩:=bI h;refine z1 hr16 ?_;obtain ⟨r20,hr17,h⟩:=bI h;obtain ⟨ha18,h⟩:=iT h;simp only [cC,cW,cS,Nat.reduceAdd] at ha18;refine d1 (k2 hr17 ha18) ?_;refine z1 hw14 ?_;refine ⟨hi12',(l15++[(aS.mk x19 r20)]),?_,h⟩;refine wr ?_ ?_<;>repeat' first|rfl|constructor|simp only [go_sem,seval]
@[go_sem] def AK (N:Nat):FnS:=⟨[],false,fn1 ae.decA fun q0=>(oq N q0).map fun r=>.tup [.agg (ae.row r.1),sF 9 (r.2.map aD.row)],false⟩
def Cu (N:Nat):aA prog 28 (AK N):=om1 fun q0 r h=>rs (O5 N q0 r h)
@[go_sem] def Uy (N d f:Nat):Option FnS:=aw [(9,40,gE N),(17,41,DJ N)] d f
def Ua (N:Nat) (a0:ae) (a1:Int) (r:Txn × Bool) (h:Be N a0 a1=some r):Con prog 12 [] false [.agg (ae.row a0),vI a1] (.tup [.agg [vI r.1.ID,vI r.1.Born,vS r.1.Client,vI r.1.Seq,sO 4 (r.1.Calls.map ah.row),vI r.1.Done,vI r.1.Last.Kind,vI r.1.Last.N,vS r.1.Last.S,sO 1 (r.1.Last.I.map (ay .i64)),sO 1 (r.1.Last.L.map dB)],vB r.2]):=by
 refine fk (G:=(Uy N)) func12 (gc 9 (fc N) (gc 17 (Ia N) gn)) ?_;simp only [f12];unfold Be at h;refine z0 ?_;obtain ⟨r1,hr1,h⟩:=bI h;refine z1 hr1 ?_;refine z0 ?_;refine cD h (fun hc2 hc2d h=>?_) fun hc2 hc2d h=>?_
 ·obtain ⟨x2,hb3,hx4,h⟩:=aH h;obtain ⟨r3,hr5,h⟩:=bI h;refine z1 (k3 hb3 hx4 hr5) ?_;exact f0 h
 refine z1 hc2d ?_;exact f0 h
@[go_sem] def KW (N:Nat):FnS:=⟨[],false,fn2 ae.decA (aG .i64) fun q0 q1=>(Be N q0 q1).map fun r=>.tup [.agg (Txn.row r.1),vB r.2],false⟩
def NF (N:Nat):aA prog 12 (KW N):=om2 fun q0 q1 r h=>rs (Ua N q0 q1 r h)
@[go_sem] def QH (N d f:Nat):Option FnS:=aw [(10,46,vJ N),(40,67,pQ N),(42,67,pQ N)] d f
def Qp (N:Nat) (a0:ae) (a1:Ref) (a2:List Value) (r:List Value) (h:tv N a0 a1 a2=some r):Con prog 39 [] false [.agg (ae.row a0),.agg [vS a1.Type_,vS a1.Key],sF 5 (a2.map Value.row)] (sO 5 (r.map Value.row)):=by
 refine fk (G:=(QH N)) func39 (gc 10 (vd N) (gc 40 (rv N) (gc 42 (rv N) gn))) ?_;simp only [f39];unfold tv at h;refine z0 ?_;obtain ⟨r8,hr1,h⟩:=bI h;refine z1 hr1 ?_;apply aR (fun (c10:Bool)=>⟨tab 43 (af (af (af (af au 2 (sF 5 (a2.map Value.row))) 3 (pF 3)) 7 (vI r8)) 22 (vB c10)),(upd RZ 3 (vA 3 (ae.row a0)))⟩)
 ·intro hJ2;refine iD h (fun hc3 hc3d h=>?_) fun hc3 hc3d h=>?_
  ·obtain ⟨x11,hb4,hx5,h⟩:=aH h;refine z1 (k2 hb4 hx5) ?_;exact hJ2 _ (decide (0 < (x11.Layers.length:Int))) wR h
  refine z1 hc3d ?_;exact hJ2 _ false wR h
 intro c10 h;unfold yI at h;refine cB h (fun hc6 h=>?_) fun hc6 h=>?_
 ·obtain ⟨x12,hb7,hx8,h⟩:=aH h;obtain ⟨x13,hb9,hx10,h⟩:=aH h;obtain ⟨r14,hr11,h⟩:=bI h;refine d1 (k5 hc6 hb7 hx8 hb9 (k2 hx10 hr11)) ?_;exact f0 h
 refine aU (pp ?_);unfold yF at h;obtain ⟨r15,hr12,h⟩:=bI h;refine z1 (k2 hc6 hr12) ?_;exact f0 h
@[go_sem] def HN (N:Nat):FnS:=⟨[],false,fn3 ae.decA Ref.decA (aJ 5 Value.dec) fun q0 q1 q2=>(tv N q0 q1 q2).map fun r=>sF 5 (r.map Value.row),false⟩
def LM (N:Nat):aA prog 39 (HN N):=om3 fun q0 q1 q2 r h=>rs (Qp N q0 q1 q2 r h)
@[go_sem] def O6 (N d f:Nat):Option FnS:=aw [(26,38,zR N),(36,38,zR N),(47,25,Bw N),(61,34,rI N),(64,34,rI N),(65,26,Bt N),(73,27,wh N),(80,25,Bw N),(93,34,rI N),(95,34,rI N),(96,26,Bt N),(104,15,Ch N),(110,23,j7 N),(115,20,vx N),(129,27,wh N),(136,28,AK N),(159,12,KW N),(165,13,u6 N),(172,39,HN N)] d f
def Ph (N:Nat)  (r:Bool) (h:uP N  = some r):Con prog 10 [] true [] (vB r):=by
 refine JO (G:=(O6 N)) func10 rfl (by decide) (by kernel_rfl) (gc 26 (zA N) (gc 36 (zA N) (gc 47 (AB N) (gc 61 (oL N) (gc 64 (oL N) (gc 65 (AZ N) (gc 73 (wZ N) (gc 80 (AB N) (gc 93 (oL N) (gc 95 (oL N) (gc 96 (AZ N) (gc 104 (DK N) (gc 110 (jd N) (gc 115 (vj N) (gc 129 (wZ N) (gc 136 (Cu N) (gc 159 (NF N) (gc 165 (yd N) (gc 172 (LM N) gn))))))))))))))))))) [(62,false),(94,false)] mix (nb rfl) ?_;simp only [f10];unfold uP at h;refine z0 ?_;refine z0 ?_;obtain ⟨r1,hr1,h⟩:=bI h;refine z1 hr1 ?_;refine z0 ?_;refine cN h (fun hc2 hc2d h=>?_) fun hc2 hc2d h=>?_
 ·refine z1 hc2d ?_;exact e0 h
 obtain ⟨r2,hr3,h⟩:=bI h;refine z1 (k2 hc2d hr3) ?_;refine z0 ?_;refine cN h (fun hc4 hc4d h=>?_) fun hc4 hc4d h=>?_
 ·refine z1 hc4d ?_;exact e0 h
 refine z1 hc4d ?_;refine aQ (gH (fun (b:List Txn × List ai × List aa × Int)=>⟨tab 176 (af (af (af (af au 1 (pF 1)) 2 (pF 2)) 3 (pF 3)) 5 (vI b.2.2.2)),(upd (upd (upd RZ 1 (vA 2 [vS (⟨#[65]⟩),vS (⟨#[97]⟩)])) 2 (vA 2 [vS (⟨#[65]⟩),vS (⟨#[98]⟩)])) 3 (vA 3 [sF 11 (b.1.map Txn.row),sF 4 (b.2.1.map ai.row),sF 3 (b.2.2.1.map aa.row)]))⟩) (r2.1.Txns,r2.1.Locks,r2.1.Stacks,0) h ?_ ?_)
 ·exact wR
 rintro n ⟨l6,l7,l8,v9⟩ h -;cases n with
 | zero=>simp [fM] at h
 | succ n=>
 simp only [fM] at h;refine z0 ?_;refine cD h (fun hc5 hc5d h=>?_) fun hc5 hc5d h=>?_
 ·obtain ⟨r20,hr6,h⟩:=bI h;refine z1 (k2 hc5d hr6) ?_;refine aL ?_;apply aR (fun (c23:Bool)=>⟨tab 176 (af (af (af (af (af (af au 1 (pF 1)) 2 (pF 2)) 3 (pF 3)) 5 (vI v9)) 6 (pF 6)) 57 (vB c23)),(upd (upd (upd (upd RZ 1 (vA 2 [vS (⟨#[65]⟩),vS (⟨#[97]⟩)])) 2 (vA 2 [vS (⟨#[65]⟩),vS (⟨#[98]⟩)])) 3 (vA 3 [sF 11 (l6.map Txn.row),sF 4 (l7.map ai.row),sF 3 (l8.map aa.row)])) 6 (vA 3 (ae.row r20.1)))⟩)
  ·intro hJ7;refine iDs h (fun hc8 hc8d h=>?_) fun hc8 hc8d h=>?_
   ·refine z1 hc8d ?_;exact hJ7 _ true wR h
   refine z1 hc8d ?_;exact hJ7 _ (!decide (r20.2.1=1)) wR h
  intro c23 h;unfold s4 at h;refine cB h (fun hc9 h=>?_) fun hc9 h=>?_
  ·refine z1 hc9 ?_;exact e0 h
  refine aU (pp ?_);unfold sy at h;obtain ⟨r24,hr10,h⟩:=bI h;obtain ⟨r25,hr11,h⟩:=bI h;obtain rfl:=ng (hr10.symm.trans hr11);obtain ⟨r26,hr12,h⟩:=bI h;refine d1 (k3 hc9 hr10 hr12) ?_;refine z0 ?_;refine cN h (fun hc13 hc13d h=>?_) fun hc13 hc13d h=>?_
  ·refine z1 hc13d ?_;exact e0 h
  refine z1 hc13d ?_;refine ⟨_,na _,(r26.1.Txns,r26.1.Locks,r26.1.Stacks,IntKind.i64.wrap (v9+1)),?_,h⟩;exact wR
 refine gr (pp ?_);unfold qP at h;obtain ⟨r27,hr14,h⟩:=bI h;refine z1 (k2 hc5d hr14) ?_;refine z0 ?_;refine cN h (fun hc15 hc15d h=>?_) fun hc15 hc15d h=>?_
 ·refine z1 hc15d ?_;exact e0 h
 obtain ⟨r28,hr16,h⟩:=bI h;refine z1 (k2 hc15d hr16) ?_;refine aL ?_;apply aR (fun (c31:Bool)=>⟨tab 176 (af (af (af (af au 1 (pF 1)) 2 (pF 2)) 3 (pF 3)) 90 (vB c31)),(upd (upd (upd RZ 1 (vA 2 [vS (⟨#[65]⟩),vS (⟨#[97]⟩)])) 2 (vA 2 [vS (⟨#[65]⟩),vS (⟨#[98]⟩)])) 3 (vA 3 (ae.row r28.1)))⟩)
 ·intro hJ17;refine iDs h (fun hc18 hc18d h=>?_) fun hc18 hc18d h=>?_
  ·refine z1 hc18d ?_;exact hJ17 _ true wR h
  refine z1 hc18d ?_;exact hJ17 _ (!decide (r28.2.1=1)) wR h
 intro c31 h;unfold we at h;refine cB h (fun hc19 h=>?_) fun hc19 h=>?_
 ·refine z1 hc19 ?_;exact e0 h
 refine aU (pp ?_);unfold vh at h;obtain ⟨r32,hr20,h⟩:=bI h;obtain ⟨r33,hr21,h⟩:=bI h;obtain rfl:=ng (hr20.symm.trans hr21);obtain ⟨r34,hr22,h⟩:=bI h;refine d1 (k3 hc19 hr20 hr22) ?_;refine aL ?_;apply aR (fun (c41:Bool)=>⟨tab 176 (af (af (af (af au 1 (pF 1)) 2 (pF 2)) 3 (pF 3)) 112 (vB c41)),(upd (upd (upd RZ 1 (vA 2 [vS (⟨#[65]⟩),vS (⟨#[97]⟩)])) 2 (vA 2 [vS (⟨#[65]⟩),vS (⟨#[98]⟩)])) 3 (vA 3 (ae.row r34.1)))⟩)
 ·intro hJ23;refine iDs h (fun hc24 hc24d h=>?_) fun hc24 hc24d h=>?_
  ·refine z1 hc24d ?_;exact hJ23 _ true wR h
  obtain ⟨r42,hr25,h⟩:=bI h;refine iDs h (fun hc26 hc26d h=>?_) fun hc26 hc26d h=>?_
  ·refine z1 (k3 hc24d hr25 hc26d) ?_;exact hJ23 _ true wR h
  obtain ⟨r43,hr27,h⟩:=bI h;refine z1 (k4 hc24d hr25 hc26d hr27) ?_;exact hJ23 _ (!r43) wR h
 intro c41 h;unfold sj at h;refine cB h (fun hc28 h=>?_) fun hc28 h=>?_
 ·refine z1 hc28 ?_;exact e0 h
 refine aU (pp ?_);unfold s9 at h;obtain ⟨r44,hr29,h⟩:=bI h;refine z1 (k2 hc28 hr29) ?_;refine aL ?_;apply aR (fun (c47:Bool)=>⟨tab 176 (af (af (af (af au 1 (pF 1)) 2 (pF 2)) 3 (pF 3)) 125 (vB c47)),(upd (upd (upd RZ 1 (vA 2 [vS (⟨#[65]⟩),vS (⟨#[97]⟩)])) 2 (vA 2 [vS (⟨#[65]⟩),vS (⟨#[98]⟩)])) 3 (vA 3 (ae.row r34.1)))⟩)
 ·intro hJ30;refine iDs h (fun hc31 hc31d h=>?_) fun hc31 hc31d h=>?_
  ·refine z1 hc31d ?_;exact hJ30 _ true wR h
  refine z1 hc31d ?_;exact hJ30 _ (!decide ((r44.2.1.length:Int)=2)) wR h
 intro c47 h;unfold wK at h;refine cB h (fun hc32 h=>?_) fun hc32 h=>?_
 ·refine z1 hc32 ?_;exact e0 h
 refine aU (pp ?_);unfold wB at h;obtain ⟨r48,hr33,h⟩:=bI h;refine z1 (k2 hc32 hr33) ?_;refine z0 ?_;refine cN h (fun hc34 hc34d h=>?_) fun hc34 hc34d h=>?_
 ·refine z1 hc34d ?_;exact e0 h
 obtain ⟨r49,hr35,h⟩:=bI h;refine z1 (k2 hc34d hr35) ?_;refine aL ?_;apply aR (fun (c54:Bool)=>⟨tab 176 (af (af (af au 1 (pF 1)) 3 (pF 3)) 156 (vB c54)),(upd (upd RZ 1 (vA 2 [vS (⟨#[65]⟩),vS (⟨#[97]⟩)])) 3 (vA 3 (ae.row r49.1)))⟩)
 ·intro hJ36;refine iDs h (fun hc37 hc37d h=>?_) fun hc37 hc37d h=>?_
  ·refine z1 hc37d ?_;exact hJ36 _ true wR h
  obtain ⟨x55,hb38,hx39,h⟩:=aH h;try simp only [xr] at hx39
  try simp only [nL,nM,true_and] at hb38
  refine iDs h (fun hc40 hc40d h=>?_) fun hc40 hc40d h=>?_
  ·refine z1 (k4 hc37d hb38 hx39 hc40d) ?_;exact hJ36 _ true wR h
  refine z1 (k4 hc37d hb38 hx39 hc40d) ?_;exact hJ36 _ (!decide ((x55.Writes.length:Int)=2)) wR h
 intro c54 h;unfold sD at h;refine cB h (fun hc41 h=>?_) fun hc41 h=>?_
 ·refine z1 hc41 ?_;exact e0 h
 refine aU (pp ?_);unfold sP at h;obtain ⟨r56,hr42,h⟩:=bI h;refine z1 (k2 hc41 hr42) ?_;refine iBs h (fun hc43 h=>?_) fun hc43 h=>?_
 ·refine z1 hc43 ?_;exact e0 h
 obtain ⟨r57,hr44,h⟩:=bI h;refine iD h (fun hc45 hc45d h=>?_) fun hc45 hc45d h=>?_
 ·obtain ⟨r58,hr46,h⟩:=bI h;refine z1 (k4 hc43 hr44 hc45d hr46) ?_;exact e0 h
 refine z1 (k3 hc43 hr44 hc45d) ?_;exact e0 h
@[go_sem] def AV (N:Nat):FnS:={ own:=[],pure:=true,fn:=fun cs=>match cs with
 | [] =>  (uP N ).map fun r=>vB r
 | _=>none }
def Kk (N:Nat):aA prog 10 (AV N):=by
 refine ⟨fun cs r h=>?_,fun h=>by cases h⟩;simp only [AV] at h;split at h
 ·simp only [cj] at h;obtain ⟨r',hr,rfl⟩:=h;exact (ag (Ph N  r' hr))
 ·cases h
def Qh (N:Nat) (a0:ae) (a1:Int) (r:Int) (h:ub N a0 a1=some r):Con prog 19 [] true [.agg (ae.row a0),.val (.int .u8 a1)] (vI r):=by
 refine fk (G:=(aw [])) func19 gn ?_;simp only [f19];unfold ub at h;refine z0 ?_;refine z0 ?_;refine cD h (fun hc1 hc1d h=>?_) fun hc1 hc1d h=>?_
 ·refine z1 hc1d ?_;exact e0 h
 obtain ⟨hd2,h⟩:=QX h;obtain ⟨x1,hb3,hx4,h⟩:=aH h;refine d1 (k3 hd2 hb3 hx4) ?_;exact e0 h
@[go_sem] def Ci (N:Nat):FnS:=⟨[],true,fn2 ae.decA (aG .u8) fun q0 q1=>(ub N q0 q1).map fun r=>vI r,false⟩
def DE (N:Nat):aA prog 19 (Ci N):=om2 (Qh N)
def Sp (N:Nat) (a0:Int) (r:Ref) (h:vY N a0=some r):Con prog 95 [] true [.val (.int .u8 a0)] (.agg (Ref.row r)):=by
 refine fk (G:=(aw [])) func95 gn ?_;simp only [f95];unfold vY at h;refine z0 ?_;refine z0 ?_;obtain ⟨hs1,h⟩:=XN h;simp only [ByteArray.size,nP,cC,cW,Nat.reduceAdd] at hs1;refine z1 hs1 ?_;exact e0 h
@[go_sem] def DQ (N:Nat):FnS:=⟨[],true,fn1 (aG .u8) fun q0=>(vY N q0).map fun r=>.agg (Ref.row r),false⟩
def EI (N:Nat):aA prog 95 (DQ N):=om1 (Sp N)
@[go_sem] def O4 (N d f:Nat):Option FnS:=aw [(21,95,DQ N)] d f
def PA (N:Nat) (a0:aj) (r:List ah) (h:yj N a0=some r):Con prog 33 [] false [.agg (aj.row a0)] (sO 4 (r.map ah.row)):=by
 refine fk (G:=(O4 N)) func33 (gc 21 (EI N) gn) ?_;simp only [f33];unfold yj at h;refine z0 ?_;refine z0 ?_;refine z0 ?_;refine aQ (gH (fun (b:List ah × Int)=>⟨tab 26 (af (af (af au 1 (pF 1)) 3 (.pal 24 [] 0 b.1.length none)) 4 (vI b.2)),(upd (upd RZ 1 (vA 4 (aj.row a0))) 24 (sO 4 (b.1.map ah.row)))⟩) ([],0) h ?_ ?_)
 ·refine aV.trans (lQ 3 24 4 (by simp only [go_sem,seval]) (by simp only [go_sem,seval])) ?_;refine wr ?_ ?_<;>repeat' first|rfl|constructor|simp only [go_sem,seval,nz,cX,nF,nG]
 rintro n ⟨l2,v3⟩ h -;cases n with
 | zero=>simp [oM] at h
 | succ n=>
 simp only [oM] at h;refine z0 ?_;refine cDs h (fun hc1 hc1d h=>?_) fun hc1 hc1d h=>?_
 ·refine z1 hc1d ?_;exact f0 h
 obtain ⟨hd2,h⟩:=XX h;obtain ⟨r1,hr3,h⟩:=bI h;obtain ⟨ha4,h⟩:=iT h;simp only [cC,cW,cS,Nat.reduceAdd] at ha4;refine z1 (k4 hc1d hd2 hr3 ha4) ?_;refine z0 ?_;refine ⟨_,na _,((l2++[(ah.mk r1 (⟨#[109]⟩) [])]),IntKind.i64.wrap (v3+1)),?_,h⟩;refine aV.trans (wJ (n:=23) ([[vS r1.Type_,vS r1.Key,vS (⟨#[109]⟩),sF 5 []]]) (by (try simp only [go_sem]); rfl) (by simp only [go_sem,seval]; rfl) (by simp only [jh,gY,go_sem]; rfl)) (aV.trans (wJ (n:=24) (l2.map ah.row++[[vS r1.Type_,vS r1.Key,vS (⟨#[109]⟩),sF 5 []]]) (by (try simp only [go_sem]); rfl) (by simp only [go_sem,seval]; rfl) (by simp only [jh,gY,go_sem]; rfl)) ?_);refine wr ?_ ?_<;>repeat' first|rfl|constructor|simp only [go_sem,seval]
@[go_sem] def FB (N:Nat):FnS:=⟨[],false,fn1 aj.decA fun q0=>(yj N q0).map fun r=>sF 4 (r.map ah.row),false⟩
def Kn (N:Nat):aA prog 33 (FB N):=om1 fun q0 r h=>rs (PA N q0 r h)
def Cw (N:Nat) (a0:Value) (r:Value) (h:jc N a0=some r):Con prog 158 [] true [.agg (Value.row a0)] (.agg [vI r.Kind,vI r.N,vS r.S,sO 1 (r.I.map (ay .i64)),sO 1 (r.L.map dB)]):=by
 refine fk (G:=(aw [])) func158 gn ?_;simp only [f158];unfold jc at h;refine z0 ?_;refine aL ?_;obtain ⟨ha1,h⟩:=pt h;simp only [Nat.reduceAdd] at ha1;refine z1 ha1 ?_;refine aL ?_;obtain ⟨ha2,h⟩:=pt h;simp only [Nat.reduceAdd] at ha2;refine z1 ha2 ?_;refine z0 ?_;exact e0 h
@[go_sem] def Bz (N:Nat):FnS:=⟨[],true,fn1 Value.decA fun q0=>(jc N q0).map fun r=>.agg (Value.row r),false⟩
def F6 (N:Nat):aA prog 158 (Bz N):=om1 fun q0 r h=>rs (Cw N q0 r h)
@[go_sem] def Ay (N:Nat):FnS:=⟨[],true,fn1 Value.decA fun q0=>(jc N q0).map fun r=>.agg [vI r.Kind,vI r.N,vS r.S,sO 1 (r.I.map (ay .i64)),sO 1 (r.L.map dB)],false⟩
def ET (N:Nat):aA prog 158 (Ay N):=om1 (Cw N)
@[go_sem] def I7 (N d f:Nat):Option FnS:=aw [(16,158,Bz N)] d f
def JA (N:Nat) (a0:List Value) (r:List Value) (h:lK N a0=some r):Con prog 159 [] false [sF 5 (a0.map Value.row)] (sO 5 (r.map Value.row)):=by
 refine fk (G:=(I7 N)) func159 (gc 16 (F6 N) gn) ?_;simp only [f159];unfold lK at h;refine z0 ?_;refine z0 ?_;refine z0 ?_;refine aQ (gG fun hreal2=>?_);have hl1:=hreal2.lenT 0 (by decide) (by simp only [go_sem,seval]; rfl);rw [cy] at hl1;refine rL (fun (v3:Nat) (b:List Value)=>⟨tab 20 (af (af (af au 0 (sF 5 (a0.map Value.row))) 3 (.pal 18 [] 0 b.length none)) 4 (vI (v3:Int))),(upd RZ 18 (sO 5 (b.map Value.row)))⟩) [] h ?_ ?_
 ·refine aV.trans (lQ 3 18 5 (by simp only [go_sem,seval]) (by simp only [go_sem,seval])) ?_;refine wr ?_ ?_<;>repeat' first|rfl|constructor|simp only [go_sem,seval,nz,cX,nF,nG]
 rintro v3 l2 hi3 h -;rcases (lO a0 v3 hi3).symm with ⟨hi3',_,hd6⟩|⟨x6,hi3',hx4,hd6⟩
 ·rw [hd6] at h;simp only [jn] at h;refine z1 hi3' ?_;refine cf ?_;refine z0 ?_;exact f0 h
 rw [hd6] at h;simp only [jn] at h;have hw5:=eA hi3' hl1;refine z1 hi3' ?_;refine ct ?_;obtain ⟨r1,hr7,h⟩:=bI h;obtain ⟨ha8,h⟩:=iT h;simp only [cC,cW,cS,Nat.reduceAdd] at ha8;refine z1 (k4 hx4 hi3' hr7 ha8) ?_;refine z1 hw5 ?_;refine ⟨hi3',(l2++[r1]),?_,h⟩;refine wr ?_ ?_<;>repeat' first|rfl|constructor|simp only [go_sem,seval]
@[go_sem] def AA (N:Nat):FnS:=⟨[],false,fn1 (aJ 5 Value.dec) fun q0=>(lK N q0).map fun r=>sF 5 (r.map Value.row),false⟩
def Fa (N:Nat):aA prog 159 (AA N):=om1 fun q0 r h=>rs (JA N q0 r h)
@[go_sem] def Kl (N d f:Nat):Option FnS:=aw [(27,159,AA N)] d f
def Ko (N:Nat) (a0:List ah) (r:List ah) (h:mC N a0=some r):Con prog 205 [] false [sF 4 (a0.map ah.row)] (sO 4 (r.map ah.row)):=by
 refine fk (G:=(Kl N)) func205 (gc 27 (Fa N) gn) ?_;simp only [f205];unfold mC at h;refine z0 ?_;refine z0 ?_;refine z0 ?_;refine aQ (gG fun hreal2=>?_);have hl1:=hreal2.lenT 0 (by decide) (by simp only [go_sem,seval]; rfl);rw [cy] at hl1;refine rL (fun (v3:Nat) (b:List ah)=>⟨tab 32 (af (af (af au 0 (sF 4 (a0.map ah.row))) 3 (.pal 30 [] 0 b.length none)) 4 (vI (v3:Int))),(upd RZ 30 (sO 4 (b.map ah.row)))⟩) [] h ?_ ?_
 ·refine aV.trans (lQ 3 30 4 (by simp only [go_sem,seval]) (by simp only [go_sem,seval])) ?_;refine wr ?_ ?_<;>repeat' first|rfl|constructor|simp only [go_sem,seval,nz,cX,nF,nG]
 rintro v3 l2 hi3 h -;rcases (lO a0 v3 hi3).symm with ⟨hi3',_,hd6⟩|⟨x6,hi3',hx4,hd6⟩
 ·rw [hd6] at h;simp only [jF] at h;refine z1 hi3' ?_;refine cf ?_;refine z0 ?_;exact f0 h
 rw [hd6] at h;simp only [jF] at h;have hw5:=eA hi3' hl1;refine z1 hi3' ?_;refine ct ?_;obtain ⟨r1,hr7,h⟩:=bI h;obtain ⟨ha8,h⟩:=iT h;simp only [cC,cW,cS,Nat.reduceAdd] at ha8;refine d1 (k4 hx4 hi3' hr7 ha8) ?_;refine z1 hw5 ?_;refine ⟨hi3',(l2++[(ah.mk x6.Target x6.Method r1)]),?_,h⟩;refine wr ?_ ?_<;>repeat' first|rfl|constructor|simp only [go_sem,seval]
@[go_sem] def Az (N:Nat):FnS:=⟨[],false,fn1 (aJ 4 ah.dec) fun q0=>(mC N q0).map fun r=>sO 4 (r.map ah.row),false⟩
def EZ (N:Nat):aA prog 205 (Az N):=om1 (Ko N)
@[go_sem] def MC (N d f:Nat):Option FnS:=aw [(5,205,Az N),(9,158,Ay N)] d f
def Ms (N:Nat) (a0:Txn) (r:Txn) (h:qm N a0=some r):Con prog 150 [] false [.agg (Txn.row a0)] (.agg [vI r.ID,vI r.Born,vS r.Client,vI r.Seq,sO 4 (r.Calls.map ah.row),vI r.Done,vI r.Last.Kind,vI r.Last.N,vS r.Last.S,sO 1 (r.Last.I.map (ay .i64)),sO 1 (r.Last.L.map dB)]):=by
 refine fk (G:=(MC N)) func150 (gc 5 (EZ N) (gc 9 (ET N) gn)) ?_;simp only [f150];unfold qm at h;refine z0 ?_;obtain ⟨r1,hr1,h⟩:=bI h;refine z1 hr1 ?_;obtain ⟨r2,hr2,h⟩:=bI h;refine z1 hr2 ?_;refine z0 ?_;exact f0 h
@[go_sem] def CH (N:Nat):FnS:=⟨[],false,fn1 Txn.decA fun q0=>(qm N q0).map fun r=>.agg [vI r.ID,vI r.Born,vS r.Client,vI r.Seq,sO 4 (r.Calls.map ah.row),vI r.Done,vI r.Last.Kind,vI r.Last.N,vS r.Last.S,sO 1 (r.Last.I.map (ay .i64)),sO 1 (r.Last.L.map dB)],false⟩
def He (N:Nat):aA prog 150 (CH N):=om1 (Ms N)
@[go_sem] def Q6 (N d f:Nat):Option FnS:=aw [(27,150,CH N)] d f
def QD (N:Nat) (a0:ae) (a1:Int) (r:Txn × Bool) (h:zW N a0 a1=some r):Con prog 80 [] false [.agg (ae.row a0),vI a1] (.tup [.agg [vI r.1.ID,vI r.1.Born,vS r.1.Client,vI r.1.Seq,sO 4 (r.1.Calls.map ah.row),vI r.1.Done,vI r.1.Last.Kind,vI r.1.Last.N,vS r.1.Last.S,sO 1 (r.1.Last.I.map (ay .i64)),sO 1 (r.1.Last.L.map dB)],vB r.2]):=by
 refine fk (G:=(Q6 N)) func80 (gc 27 (He N) gn) ?_;simp only [f80];unfold zW at h;refine z0 ?_;refine z0 ?_;refine lC 2 0 (fun (v2:Nat) (b:Unit)=>⟨tab 29 (af (af (af (af au 1 (vI a1)) 2 (pF 2)) 4 (pF 4)) 6 (vI (v2:Int))),(upd (upd RZ 2 (vA 3 (ae.row a0))) 4 (vA 11 [vI 0,vI 0,vS (⟨#[]⟩),vI 0,.val (.slice none 0 0),vI 0,vI 0,vI 0,vS (⟨#[]⟩),.val (.slice none 0 0),.val (.slice none 0 0)]))⟩) () h ?_ ?_
 ·rintro v2 ⟨⟩ hi3' h;simp only [qp] at h;refine z1 hi3' ?_;refine cf ?_;refine z0 ?_;exact f0 h
 rintro v2 ⟨⟩ x5 hi3' hx4 hw5 h;simp only [qp] at h;refine z1 hi3' ?_;refine ct ?_;refine z1 (k2 hx4 hi3') ?_;refine cD h (fun hc7 hc7d h=>?_) fun hc7 hc7d h=>?_
 ·obtain ⟨r1,hr8,h⟩:=bI h;refine z1 (k4 hx4 hi3' hc7d hr8) ?_;exact f0 h
 refine z1 (k2 hw5 hc7d) ?_;refine ⟨hi3',(),?_,h⟩;exact wR
@[go_sem] def HP (N:Nat):FnS:=⟨[],false,fn2 ae.decA (aG .i64) fun q0 q1=>(zW N q0 q1).map fun r=>.tup [.agg (Txn.row r.1),vB r.2],false⟩
def Lu (N:Nat):aA prog 80 (HP N):=om2 fun q0 q1 r h=>rs (QD N q0 q1 r h)
def Q9 (N:Nat) (a0:Ref) (a1:Ref) (r:Bool) (h:wG N a0 a1=some r):Con prog 77 [] true [.agg [vS a0.Type_,vS a0.Key],.agg [vS a1.Type_,vS a1.Key]] (vB r):=by
 refine fk (G:=(aw [])) func77 gn ?_;simp only [f77];unfold wG at h;refine z0 ?_;refine iB h (fun hc1 h=>?_) fun hc1 h=>?_
 ·refine z1 hc1 ?_;exact e0 h
 refine iB h (fun hc2 h=>?_) fun hc2 h=>?_
 ·refine z1 (k2 hc1 hc2) ?_;exact e0 h
 refine z1 (k2 hc1 hc2) ?_;exact e0 h
@[go_sem] def HJ (N:Nat):FnS:=⟨[],true,fn2 Ref.decA Ref.decA fun q0 q1=>(wG N q0 q1).map fun r=>vB r,false⟩
def K9 (N:Nat):aA prog 77 (HJ N):=om2 (Q9 N)
@[go_sem] def Nh (N d f:Nat):Option FnS:=aw [(30,77,HJ N)] d f
def Nm (N:Nat) (a0:List ah) (r:List Ref) (h:uE N a0=some r):Con prog 82 [] true [sF 4 (a0.map ah.row)] (sO 2 (r.map Ref.row)):=by
 refine fk (G:=(Nh N)) func82 (gc 30 (K9 N) gn) ?_;simp only [f82];unfold uE at h;refine z0 ?_;refine z0 ?_;refine z0 ?_;refine aQ (gG fun hreal2=>?_);have hl1:=hreal2.lenT 0 (by decide) (by simp only [go_sem,seval]; rfl);rw [cy] at hl1;refine rL (fun (v3:Nat) (b:List Ref)=>⟨tab 62 (af (af (af au 0 (sF 4 (a0.map ah.row))) 3 (.pal 60 [] 0 b.length none)) 4 (vI (v3:Int))),(upd RZ 60 (sO 2 (b.map Ref.row)))⟩) [] h ?_ ?_
 ·refine aV.trans (lQ 3 60 2 (by simp only [go_sem,seval]) (by simp only [go_sem,seval])) ?_;refine wr ?_ ?_<;>repeat' first|rfl|constructor|simp only [go_sem,seval,nz,cX,nF,nG]
 rintro v3 l2 hi3 h -;rcases (lO a0 v3 hi3).symm with ⟨hi3',_,hd6⟩|⟨x6,hi3',hx4,hd6⟩
 ·rw [hd6] at h;simp only [fy] at h;refine z1 hi3' ?_;refine cf ?_;refine z0 ?_;exact e0 h
 rw [hd6] at h;simp only [fy] at h;have hw5:=eA hi3' hl1;refine z1 hi3' ?_;refine ct ?_;refine z1 (k2 hx4 hi3') ?_;refine z0 ?_;refine aL (aQ (gH (fun (b:Int)=>⟨tab 62 (af (af (af (af (af au 0 (sF 4 (a0.map ah.row))) 3 (.pal 60 [] 0 l2.length none)) 4 (vI (v3:Int))) 5 (pF 5)) 6 (vI b)),(upd (upd RZ 5 (vA 2 [vS x6.Target.Type_,vS x6.Target.Key])) 60 (sO 2 (l2.map Ref.row)))⟩) (l2.length:Int) h ?_ ?_))
 ·exact wF (k3 hx4 hi3' hw5)
 rintro n v10 h -;cases n with
 | zero=>simp [jy] at h
 | succ n=>
 simp only [jy] at h;refine aL ?_;apply aR (fun (c10:Bool)=>⟨tab 62 (af (af (af (af (af (af au 0 (sF 4 (a0.map ah.row))) 3 (.pal 60 [] 0 l2.length none)) 4 (vI (v3:Int))) 5 (pF 5)) 6 (vI v10)) 32 (vB c10)),(upd (upd RZ 5 (vA 2 [vS x6.Target.Type_,vS x6.Target.Key])) 60 (sO 2 (l2.map Ref.row)))⟩)
 ·intro hJ7;refine iD h (fun hc8 hc8d h=>?_) fun hc8 hc8d h=>?_
  ·obtain ⟨x11,hb9,hx10,h⟩:=aH h;obtain ⟨r12,hr11,h⟩:=bI h;refine d1 (k4 hc8d hb9 hx10 hr11) ?_;refine hJ7 _ (!r12) ?_ h;exact wF (k5 hx4 hi3' hw5 hc8d (k3 hb9 hx10 hr11))
  refine d1 hc8d ?_;exact hJ7 _ false (wF (k4 hx4 hi3' hw5 hc8d)) h
 intro c10 h;unfold pH at h;refine cB h (fun hc12 h=>?_) fun hc12 h=>?_
 ·refine z1 hc12 ?_;refine ⟨_,na _,(IntKind.i64.wrap (v10 - 1)),?_,h⟩;exact wF (k4 hx4 hi3' hw5 hc12)
 refine gr (pp ?_);unfold tE at h;refine aL ?_;apply aR (fun (c17:Bool)=>⟨tab 62 (af (af (af (af (af (af au 0 (sF 4 (a0.map ah.row))) 3 (.pal 60 [] 0 l2.length none)) 4 (vI (v3:Int))) 5 (pF 5)) 6 (vI v10)) 46 (vB c17)),(upd (upd RZ 5 (vA 2 [vS x6.Target.Type_,vS x6.Target.Key])) 60 (sO 2 (l2.map Ref.row)))⟩)
 ·intro hJ13;refine lR fun Z hZ=>?_;simp only [go_sem,seval,hc12];repeat with_reducible refine gl (by kernel_rfl) ?_
  refine ki rfl (fun hc14=>?_) (fun hc14=>?_)
  ·have hc14d:=decide_eq_true hc14;rw [if_pos hc14] at h;obtain ⟨x18,hb15,hx16,h⟩:=aH h;simp only [go_sem,seval,hb15,hx16];refine hZ _ (by kernel_rfl) (pp (hJ13 _ (sEq x18.Type_ x6.Target.Type_ && sEq x18.Key x6.Target.Key) ?_ h));exact wF (k5 hx4 hi3' hw5 hc12 (k3 hc14d hb15 hx16))
  have hc14d:=decide_eq_false hc14;rw [if_neg hc14] at h;simp only [go_sem,seval,hc14d];exact hZ _ (by kernel_rfl) (pp (hJ13 _ false (wF (k5 hx4 hi3' hw5 hc12 hc14d)) h))
 intro c17 h;unfold pg at h;refine cB h (fun hc17 h=>?_) fun hc17 h=>?_
 ·refine z1 (k2 hw5 hc17) ?_;refine ⟨hi3',l2,?_,h⟩;exact wF (k5 hx4 hi3' hw5 hc12 hc17)
 refine aU (pp ?_);unfold kZ at h;refine aL ?_;obtain ⟨hs18,h⟩:=iU h;try simp only [cL] at hs18 h
 obtain ⟨ha19,h⟩:=pt h;simp only [Nat.reduceAdd] at ha19;refine z1 (k4 hc17 hs18 @cU ha19) ?_;refine Mh [0,1,2,4,7] [3,5] [[5,3]] [6,8,9] [] (by kernel_rfl) fun Z hZ Y hY=>?_;simp only [go_sem,seval];refine hY _ (by kernel_rfl) (Lh (by kernel_rfl) fun Y hY=>?_);obtain ⟨hs20,ht21,h⟩:=R3 h;try simp only [cL] at hs20 ht21 h
 simp only [go_sem,seval,hs18,cV,cU,cw];refine hY _ (by kernel_rfl) (Lh (by kernel_rfl) fun Y hY=>?_);simp only [go_sem,seval,cw];refine hY _ (by kernel_rfl) (XD (sC:=⟨tab 62 (af (af (af (af (af (af (af (af (af (af (af (af (af (af (af (af (af (af au 0 (sF 4 (a0.map ah.row))) 3 (.pal 60 [] 0 l2.length none)) 4 (vI (v3:Int))) 5 (pF 5)) 6 (vI v10)) 7 (.pal 51 [] 0 (((l2.drop ((v10).toNat)).take (l2.length - (v10).toNat)).length) none)) 46 (vB false)) 48 (.pal 60 [] 0 l2.length none)) 49 (vI v10)) 50 (.pal 60 [] ((v10).toNat) (l2.length - (v10).toNat) none)) 51 (.pal 51 [] 0 (((l2.drop ((v10).toNat)).take (l2.length - (v10).toNat)).length) none)) 52 (.pal 60 [] 0 l2.length none)) 53 (vI v10)) 54 (vI v10)) 55 (.pal 60 [] 0 ((v10).toNat) (some ((v10).toNat)))) 56 (.agg [vS x6.Target.Type_,vS x6.Target.Key])) 57 (.pal 57 [] 0 ([x6.Target].length) none)) 59 (.pal 51 [] 0 (((l2.drop ((v10).toNat)).take (l2.length - (v10).toNat)).length) none)),(upd (upd (upd (upd RZ 5 (vA 2 [vS x6.Target.Type_,vS x6.Target.Key])) 51 (sO 2 (((l2.drop ((v10).toNat)).take (l2.length - (v10).toNat)).map Ref.row))) 57 (.sl true none 2 (some 1) ([x6.Target].map Ref.row))) 60 (sO 2 (l2.map Ref.row)))⟩) ?_ ?_ ?_)
 ·try simp only [jh,gY,go_sem,seval]
  refine wr ?_ ?_<;>repeat' first|rfl|constructor|simp only [go_sem,seval,nz,cX,nF,nG,hx4,hi3',hw5,hc12,hc17,hs18,cV,cU,ha19,hs20,ht21,Vw ht21,cw]
 ·refine ⟨?_,trivial⟩
  ·refine MO (by kernel_rfl) fun Y hY=>?_;simp only [go_sem,seval,cw];refine hY _ (by kernel_rfl) (MO (by kernel_rfl) fun Y hY=>?_);simp only [go_sem,seval,hs18,cV,cU,cw];refine hY _ (by kernel_rfl) (U8 ?_);try simp only [jh,gY,go_sem,seval]
   refine wr ?_ ?_<;>repeat' first|rfl|constructor|simp only [go_sem,seval,nz,cX,nF,nG,hx4,hi3',hw5,hc12,hc17,hs18,cV,cU,ha19,hs20,ht21,Vw ht21,cw]
 obtain ⟨ha22,h⟩:=iT h;simp only [cC,cW,cS,Nat.reduceAdd] at ha22;obtain ⟨ha23,h⟩:=iT h;simp only [hU,cC,cW,cS,Nat.reduceAdd] at ha23;simp only [go_sem,seval,ha22,ha23];refine hZ _ (z1 hw5 ?_);refine ⟨hi3',(((l2.take ((v10).toNat))++[x6.Target])++((l2.drop ((v10).toNat)).take (l2.length - (v10).toNat))),?_,h⟩;refine wr ?_ ?_<;>repeat' first|rfl|constructor|simp only [go_sem,seval]
@[go_sem] def Cz (N:Nat):FnS:=⟨[],true,fn1 (aJ 4 ah.dec) fun q0=>(uE N q0).map fun r=>sO 2 (r.map Ref.row),false⟩
def G2 (N:Nat):aA prog 82 (Cz N):=om1 (Nm N)
@[go_sem] def GB (N d f:Nat):Option FnS:=aw [(5,82,Cz N)] d f
def Gq (N:Nat) (a0:Txn) (r:List Ref) (h:mj N a0=some r):Con prog 94 [] true [.agg (Txn.row a0)] (sO 2 (r.map Ref.row)):=by
 refine fk (G:=(GB N)) func94 (gc 5 (G2 N) gn) ?_;simp only [f94];unfold mj at h;refine z0 ?_;obtain ⟨r1,hr1,h⟩:=bI h;refine z1 hr1 ?_;exact e0 h
@[go_sem] def zb (N:Nat):FnS:=⟨[],true,fn1 Txn.decA fun q0=>(mj N q0).map fun r=>sF 2 (r.map Ref.row),false⟩
def Du (N:Nat):aA prog 94 (zb N):=om1 fun q0 r h=>rs (Gq N q0 r h)
@[go_sem] def Ib (N d f:Nat):Option FnS:=aw [(13,80,HP N),(17,94,zb N),(22,95,DQ N)] d f
def H6 (N:Nat) (a0:ae) (a1:Int) (a2:Int) (r:Ref) (h:kK N a0 a1 a2=some r):Con prog 32 [] true [.agg (ae.row a0),vI a1,.val (.int .u8 a2)] (.agg (Ref.row r)):=by
 refine fk (G:=(Ib N)) func32 (gc 13 (Lu N) (gc 17 (Du N) (gc 22 (EI N) gn))) ?_;simp only [f32];unfold kK at h;refine z0 ?_;obtain ⟨r1,hr1,h⟩:=bI h;refine z1 hr1 ?_;obtain ⟨r2,hr2,h⟩:=bI h;refine z1 hr2 ?_;refine z0 ?_;refine cD h (fun hc3 hc3d h=>?_) fun hc3 hc3d h=>?_
 ·obtain ⟨r3,hr4,h⟩:=bI h;refine z1 (k2 hc3d hr4) ?_;exact e0 h
 obtain ⟨hd5,h⟩:=QX h;obtain ⟨x4,hb6,hx7,h⟩:=aH h;refine z1 (k3 hd5 hb6 hx7) ?_;exact e0 h
@[go_sem] def zY (N:Nat):FnS:=⟨[],true,fn3 ae.decA (aG .i64) (aG .u8) fun q0 q1 q2=>(kK N q0 q1 q2).map fun r=>.agg (Ref.row r),false⟩
def D9 (N:Nat):aA prog 32 (zY N):=om3 (H6 N)
@[go_sem] def QR (N d f:Nat):Option FnS:=aw [(25,19,Ci N),(58,33,FB N),(59,38,zR N),(72,25,Bw N),(88,34,rI N),(92,34,rI N),(93,26,Bt N),(110,32,zY N),(111,27,wh N),(34,28,AK N),(40,20,vx N)] d f
def R4 (N:Nat) (a0:ae) (a1:Int) (a2:aj) (r:ae × (List aD)) (h:wg N a0 a1 a2=some r):Con prog 11 [] false [.agg (ae.row a0),vI a1,.agg (aj.row a2)] (.tup [.agg (ae.row r.1),sF 9 (r.2.map aD.row)]):=by
 refine JO (G:=(QR N)) func11 rfl (by decide) (by kernel_rfl) (gc 25 (DE N) (gc 58 (Kn N) (gc 59 (zA N) (gc 72 (AB N) (gc 88 (oL N) (gc 92 (oL N) (gc 93 (AZ N) (gc 110 (D9 N) (gc 111 (wZ N) (gc 34 (Cu N) (gc 40 (vj N) gn))))))))))) [(89,false)] mix (nb rfl) ?_;simp only [f11];unfold wg at h;refine z0 ?_;obtain ⟨r1,hr1,h⟩:=bI h;refine z1 hr1 ?_;refine z0 ?_;refine aQ ?_;apply aR (fun (c2:Bool)=>⟨tab 118 (af (af (af (af (af (af (af au 1 (vI a1)) 3 (pF 3)) 5 (pF 5)) 6 (pF 6)) 8 (vI r1)) 28 (.val (.int .u8 (Int.tmod a2.Kind 8)))) 47 (vB c2)),(upd (upd (upd RZ 3 (vA 3 (ae.row a0))) 5 (vA 4 (aj.row a2))) 6 (vA 3 [.val (.slice none 0 0),.val (.slice none 0 0),.val (.slice none 0 0)]))⟩)
 ·intro hJ2;refine z0 ?_;refine cD h (fun hc3 hc3d h=>?_) fun hc3 hc3d h=>?_
  ·refine aU (pp (hJ2 _ true ?_ h));exact wF hc3d
  refine z1 hc3d ?_;exact hJ2 _ (decide ((Int.tmod a2.Kind 8)=1)) (wF (k2 hr1 hc3d)) h
 intro c2 h;unfold uH at h;refine cB h (fun hc4 h=>?_) fun hc4 h=>?_
 ·obtain ⟨r3,hr5,h⟩:=bI h;obtain ⟨r4,hr6,h⟩:=bI h;refine d1 (k3 hc4 hr5 hr6) ?_;refine z0 ?_;refine cD h (fun hc7 hc7d h=>?_) fun hc7 hc7d h=>?_
  ·refine z1 hc7d ?_;exact f0 h
  refine z1 hc7d ?_;exact f0 h
 apply aR (fun (c5:Bool)=>⟨tab 118 (af (af (af (af (af (af au 3 (pF 3)) 5 (pF 5)) 6 (pF 6)) 8 (vI r1)) 28 (.val (.int .u8 (Int.tmod a2.Kind 8)))) 65 (vB c5)),(upd (upd (upd RZ 3 (vA 3 (ae.row a0))) 5 (vA 4 (aj.row a2))) 6 (vA 3 [.val (.slice none 0 0),.val (.slice none 0 0),.val (.slice none 0 0)]))⟩)
 ·intro hJ8;refine z1 hc4 ?_;refine cD h (fun hc9 hc9d h=>?_) fun hc9 hc9d h=>?_
  ·refine aU (pp (hJ8 _ true ?_ h));exact wF hc9d
  refine z1 hc9d ?_;refine cD h (fun hc10 hc10d h=>?_) fun hc10 hc10d h=>?_
  ·refine aU (pp (hJ8 _ true ?_ h));exact wF hc10d
  refine z1 hc10d ?_;exact hJ8 _ (decide ((Int.tmod a2.Kind 8)=4)) (wF (k4 hr1 hc4 hc9d hc10d)) h
 intro c5 h;unfold qq at h;refine cB h (fun hc11 h=>?_) fun hc11 h=>?_
 ·obtain ⟨r6,hr12,h⟩:=bI h;refine z1 (k2 hc11 hr12) ?_;refine z0 ?_;refine cN h (fun hc13 hc13d h=>?_) fun hc13 hc13d h=>?_
  ·refine z1 hc13d ?_;exact f0 h
  refine z1 hc13d ?_;refine cN h (fun hc14 hc14d h=>?_) fun hc14 hc14d h=>?_
  ·refine z1 hc14d ?_;exact f0 h
  obtain ⟨r7,hr15,h⟩:=bI h;obtain ⟨r8,hr16,h⟩:=bI h;obtain rfl:=ng (hr15.symm.trans hr16);obtain ⟨r9,hr17,h⟩:=bI h;refine d1 (k3 hc14d hr15 hr17) ?_;refine z0 ?_;refine cD h (fun hc18 hc18d h=>?_) fun hc18 hc18d h=>?_
  ·refine z1 hc18d ?_;exact f0 h
  refine z1 hc18d ?_;exact f0 h
 apply aR (fun (c10:Bool)=>⟨tab 118 (af (af (af (af (af au 3 (pF 3)) 5 (pF 5)) 6 (pF 6)) 8 (vI r1)) 100 (vB c10)),(upd (upd (upd RZ 3 (vA 3 (ae.row a0))) 5 (vA 4 (aj.row a2))) 6 (vA 3 [.val (.slice none 0 0),.val (.slice none 0 0),.val (.slice none 0 0)]))⟩)
 ·intro hJ19;refine z1 hc11 ?_;refine cD h (fun hc20 hc20d h=>?_) fun hc20 hc20d h=>?_
  ·refine aU (pp (hJ19 _ true ?_ h));exact wF hc20d
  refine z1 hc20d ?_;exact hJ19 _ (decide ((Int.tmod a2.Kind 8)=6)) (wF (k4 hr1 hc4 hc11 hc20d)) h
 intro c10 h;unfold uq at h;refine cB h (fun hc21 h=>?_) fun hc21 h=>?_
 ·obtain ⟨r11,hr22,h⟩:=bI h;obtain ⟨r12,hr23,h⟩:=bI h;refine d1 (k3 hc21 hr22 hr23) ?_;refine z0 ?_;refine cD h (fun hc24 hc24d h=>?_) fun hc24 hc24d h=>?_
  ·refine z1 hc24d ?_;exact f0 h
  refine z1 hc24d ?_;exact f0 h
 refine z1 hc21 ?_;refine cD h (fun hc25 hc25d h=>?_) fun hc25 hc25d h=>?_
 ·obtain ⟨r13,hr26,h⟩:=bI h;refine z1 (k2 hc25d hr26) ?_;exact f0 h
 obtain ⟨r14,hr27,h⟩:=bI h;refine z1 (k2 hc25d hr27) ?_;refine z0 ?_;refine cD h (fun hc28 hc28d h=>?_) fun hc28 hc28d h=>?_
 ·refine z1 hc28d ?_;exact f0 h
 refine z1 hc28d ?_;exact f0 h
@[go_sem] def HO (N:Nat):FnS:=⟨[],false,fn3 ae.decA (aG .i64) aj.decA fun q0 q1 q2=>(wg N q0 q1 q2).map fun r=>.tup [.agg (ae.row r.1),sF 9 (r.2.map aD.row)],false⟩
def Ly (N:Nat):aA prog 11 (HO N):=om3 (R4 N)
@[go_sem] def Pz (N d f:Nat):Option FnS:=aw [(23,11,HO N)] d f
def Pn (N:Nat) (a0:List aj) (r:ae × (List aD)) (h:uR N a0=some r):Con prog 18 [] false [sF 4 (a0.map aj.row)] (.tup [.agg (ae.row r.1),sO 9 (r.2.map aD.row)]):=by
 refine fk (G:=(Pz N)) func18 (gc 23 (Ly N) gn) ?_;simp only [f18];unfold uR at h;refine z0 ?_;refine z0 ?_;refine z0 ?_;refine z0 ?_;refine aQ (gG fun hreal2=>?_);have hl1:=hreal2.lenT 0 (by decide) (by simp only [go_sem,seval]; rfl);rw [cy] at hl1;refine rL (fun (v6:Nat) (b:List Txn × List ai × List aa × List aD)=>⟨tab 32 (af (af (af (af (af au 0 (sF 4 (a0.map aj.row))) 2 (pF 2)) 4 (pF 4)) 5 (.pal 29 [] 0 b.2.2.2.length none)) 6 (vI (v6:Int))),(upd (upd (upd RZ 2 (vA 3 [.val (.slice none 0 0),.val (.slice none 0 0),.val (.slice none 0 0)])) 4 (vA 3 [sF 11 (b.1.map Txn.row),sF 4 (b.2.1.map ai.row),sF 3 (b.2.2.1.map aa.row)])) 29 (sO 9 (b.2.2.2.map aD.row)))⟩) ([],[],[],[]) h ?_ ?_
 ·refine aV.trans (En 4 [(0,0)] 11 (by simp only [go_sem,seval]) (by simp only [go_sem,seval]; try rfl)) (aV.trans (En 4 [(0,1)] 4 (by simp only [go_sem,seval]) (by simp only [go_sem,seval]; try rfl)) (aV.trans (En 4 [(0,2)] 3 (by simp only [go_sem,seval]) (by simp only [go_sem,seval]; try rfl)) (aV.trans (lQ 5 29 9 (by simp only [go_sem,seval]) (by simp only [go_sem,seval])) ?_)));refine wr ?_ ?_<;>repeat' first|rfl|constructor|simp only [go_sem,seval,nz,cX,nF,nG]
 rintro v6 ⟨l2,l3,l4,l5⟩ hi3 h -;rcases (lO a0 v6 hi3).symm with ⟨hi3',_,hd6⟩|⟨x9,hi3',hx4,hd6⟩
 ·rw [hd6] at h;simp only [ld] at h;refine z1 hi3' ?_;refine cf ?_;refine z0 ?_;exact f0 h
 rw [hd6] at h;simp only [ld] at h;have hw5:=eA hi3' hl1;refine z1 hi3' ?_;refine ct ?_;obtain ⟨r1,hr7,h⟩:=bI h;refine d1 (k3 hx4 hi3' hr7) ?_;refine z0 ?_;obtain ⟨ha8,h⟩:=iT h;simp only [Nat.reduceAdd] at ha8;refine z1 ha8 ?_;refine z1 hw5 ?_;refine ⟨hi3',(r1.1.Txns,r1.1.Locks,r1.1.Stacks,(l5++r1.2)),?_,h⟩;refine wr ?_ ?_<;>repeat' first|rfl|constructor|simp only [go_sem,seval]
@[go_sem] def F1 (N:Nat):FnS:=⟨[],false,fn1 (aJ 4 aj.dec) fun q0=>(uR N q0).map fun r=>.tup [.agg (ae.row r.1),sF 9 (r.2.map aD.row)],false⟩
def Km (N:Nat):aA prog 18 (F1 N):=om1 fun q0 r h=>rs (Pn N q0 r h)
def LN (N:Nat) (a0:List Int) (a1:Int) (r:Bool) (h:lD N a0 a1=some r):Con prog 21 [] true [sF 1 (a0.map (ay .i64)),vI a1] (vB r):=by
 refine fk (G:=(aw [])) func21 gn ?_;simp only [f21];unfold lD at h;refine z0 ?_;refine z0 ?_;refine lT 0 (fun (v2:Nat) (b:Unit)=>⟨tab 18 (af (af (af au 0 (sF 1 (a0.map (ay .i64)))) 1 (vI a1)) 5 (vI (v2:Int))),RZ⟩) () h ?_ ?_
 ·rintro v2 ⟨⟩ hi3' h;simp only [kG] at h;refine z1 hi3' ?_;refine cf ?_;refine z0 ?_;exact e0 h
 rintro v2 ⟨⟩ x5 hi3' hx4 hw5 h;simp only [kG] at h;refine z1 hi3' ?_;refine ct ?_;refine z1 (k2 hx4 hi3') ?_;refine cD h (fun hc7 hc7d h=>?_) fun hc7 hc7d h=>?_
 ·refine z1 hc7d ?_;exact e0 h
 refine z1 (k2 hw5 hc7d) ?_;refine ⟨hi3',(),?_,h⟩;exact wR
@[go_sem] def se (N:Nat):FnS:=⟨[],true,fn2 (aJ 1 (dp (aG .i64))) (aG .i64) fun q0 q1=>(lD N q0 q1).map fun r=>vB r,false⟩
def tz (N:Nat):aA prog 21 (se N):=om2 (LN N)
def MQ (N:Nat) (a0:List Int) (a1:List Int) (r:Bool) (h:uB N a0 a1=some r):Con prog 36 [] true [sF 1 (a0.map (ay .i64)),sF 1 (a1.map (ay .i64))] (vB r):=by
 refine fk (G:=(aw [])) func36 gn ?_;simp only [f36];unfold uB at h;refine z0 ?_;refine z0 ?_;refine cN h (fun hc1 hc1d h=>?_) fun hc1 hc1d h=>?_
 ·refine z1 hc1d ?_;exact e0 h
 refine z1 hc1d ?_;refine lT 0 (fun (v3:Nat) (b:Unit)=>⟨tab 26 (af (af (af au 0 (sF 1 (a0.map (ay .i64)))) 1 (sF 1 (a1.map (ay .i64)))) 5 (vI (v3:Int))),RZ⟩) () h ?_ ?_
 ·rintro v3 ⟨⟩ hi4' h;simp only [lx] at h;refine z1 hi4' ?_;refine cf ?_;refine z0 ?_;exact e0 h
 rintro v3 ⟨⟩ x6 hi4' hx5 hw6 h;simp only [lx] at h;refine z1 hi4' ?_;refine ct ?_;obtain ⟨x1,hb8,hx9,h⟩:=aH h;try simp only [cL] at hx9
 try simp only [nL,nM,true_and] at hb8
 refine d1 (k4 hx5 hi4' hb8 hx9) ?_;refine cN h (fun hc10 hc10d h=>?_) fun hc10 hc10d h=>?_
 ·refine z1 hc10d ?_;exact e0 h
 refine z1 (k2 hw6 hc10d) ?_;refine ⟨hi4',(),?_,h⟩;exact wR
@[go_sem] def DI (N:Nat):FnS:=⟨[],true,fn2 (aJ 1 (dp (aG .i64))) (aJ 1 (dp (aG .i64))) fun q0 q1=>(uB N q0 q1).map fun r=>vB r,false⟩
def HW (N:Nat):aA prog 36 (DI N):=om2 (MQ N)
def Ir (N:Nat) (a0:List ByteArray) (a1:List ByteArray) (r:Bool) (h:po N a0 a1=some r):Con prog 45 [] true [sF 1 (a0.map dB),sF 1 (a1.map dB)] (vB r):=by
 refine fk (G:=(aw [])) func45 gn ?_;simp only [f45];unfold po at h;refine z0 ?_;refine z0 ?_;refine cN h (fun hc1 hc1d h=>?_) fun hc1 hc1d h=>?_
 ·refine z1 hc1d ?_;exact e0 h
 refine z1 hc1d ?_;refine lT 0 (fun (v3:Nat) (b:Unit)=>⟨tab 26 (af (af (af au 0 (sF 1 (a0.map dB))) 1 (sF 1 (a1.map dB))) 5 (vI (v3:Int))),RZ⟩) () h ?_ ?_
 ·rintro v3 ⟨⟩ hi4' h;simp only [jo] at h;refine z1 hi4' ?_;refine cf ?_;refine z0 ?_;exact e0 h
 rintro v3 ⟨⟩ x6 hi4' hx5 hw6 h;simp only [jo] at h;refine z1 hi4' ?_;refine ct ?_;obtain ⟨x1,hb8,hx9,h⟩:=aH h;try simp only [cL] at hx9
 try simp only [nL,nM,true_and] at hb8
 refine d1 (k4 hx5 hi4' hb8 hx9) ?_;refine cM h (fun hc10 h=>?_) fun hc10 h=>?_
 ·refine z1 hc10 ?_;exact e0 h
 refine z1 (k2 hw6 hc10) ?_;refine ⟨hi4',(),?_,h⟩;exact wR
@[go_sem] def Au (N:Nat):FnS:=⟨[],true,fn2 (aJ 1 (dp bR)) (aJ 1 (dp bR)) fun q0 q1=>(po N q0 q1).map fun r=>vB r,false⟩
def E1 (N:Nat):aA prog 45 (Au N):=om2 (Ir N)
@[go_sem] def LB (N d f:Nat):Option FnS:=aw [(29,36,DI N),(36,45,Au N)] d f
def LG (N:Nat) (a0:Value) (a1:Value) (r:Bool) (h:oR N a0 a1=some r):Con prog 14 [] true [.agg (Value.row a0),.agg (Value.row a1)] (vB r):=by
 refine fk (G:=(LB N)) func14 (gc 29 (HW N) (gc 36 (E1 N) gn)) ?_;simp only [f14];unfold oR at h;refine z0 ?_;refine iDs h (fun hc1 hc1d h=>?_) fun hc1 hc1d h=>?_
 ·refine z1 hc1d ?_;exact e0 h
 refine iDs h (fun hc2 hc2d h=>?_) fun hc2 hc2d h=>?_
 ·refine z1 (k2 hc1d hc2d) ?_;exact e0 h
 refine iBs h (fun hc3 h=>?_) fun hc3 h=>?_
 ·refine z1 (k3 hc1d hc2d hc3) ?_;exact e0 h
 obtain ⟨r1,hr4,h⟩:=bI h;refine iB h (fun hc5 h=>?_) fun hc5 h=>?_
 ·obtain ⟨r2,hr6,h⟩:=bI h;refine z1 (k5 hc1d hc2d hc3 hr4 (k2 hc5 hr6)) ?_;exact e0 h
 refine z1 (k5 hc1d hc2d hc3 hr4 hc5) ?_;exact e0 h
@[go_sem] def Cx (N:Nat):FnS:=⟨[],true,fn2 Value.decA Value.decA fun q0 q1=>(oR N q0 q1).map fun r=>vB r,false⟩
def Gt (N:Nat):aA prog 14 (Cx N):=om2 (LG N)
@[go_sem] def Js (N d f:Nat):Option FnS:=aw [(25,14,Cx N)] d f
def IB (N:Nat) (a0:List Value) (a1:List Value) (r:Bool) (h:pB N a0 a1=some r):Con prog 16 [] true [sF 5 (a0.map Value.row),sF 5 (a1.map Value.row)] (vB r):=by
 refine fk (G:=(Js N)) func16 (gc 25 (Gt N) gn) ?_;simp only [f16];unfold pB at h;refine z0 ?_;refine z0 ?_;refine cN h (fun hc1 hc1d h=>?_) fun hc1 hc1d h=>?_
 ·refine z1 hc1d ?_;exact e0 h
 refine z1 hc1d ?_;refine lT 0 (fun (v3:Nat) (b:Unit)=>⟨tab 27 (af (af (af au 0 (sF 5 (a0.map Value.row))) 1 (sF 5 (a1.map Value.row))) 5 (vI (v3:Int))),RZ⟩) () h ?_ ?_
 ·rintro v3 ⟨⟩ hi4' h;simp only [jq] at h;refine z1 hi4' ?_;refine cf ?_;refine z0 ?_;exact e0 h
 rintro v3 ⟨⟩ x6 hi4' hx5 hw6 h;simp only [jq] at h;refine z1 hi4' ?_;refine ct ?_;obtain ⟨x1,hb8,hx9,h⟩:=aH h;try simp only [cL] at hx9
 try simp only [nL,nM,true_and] at hb8
 obtain ⟨r2,hr10,h⟩:=bI h;refine d1 (k5 hx5 hi4' hb8 hx9 hr10) ?_;refine cM h (fun hc11 h=>?_) fun hc11 h=>?_
 ·refine z1 hc11 ?_;exact e0 h
 refine z1 (k2 hw6 hc11) ?_;refine ⟨hi4',(),?_,h⟩;exact wR
@[go_sem] def An (N:Nat):FnS:=⟨[],true,fn2 (aJ 5 Value.dec) (aJ 5 Value.dec) fun q0 q1=>(pB N q0 q1).map fun r=>vB r,false⟩
def Fq (N:Nat):aA prog 16 (An N):=om2 (IB N)
@[go_sem] def IV (N d f:Nat):Option FnS:=aw [(52,16,An N)] d f
def I6 (N:Nat) (a0:List al) (a1:List al) (r:Bool) (h:lu N a0 a1=some r):Con prog 22 [] true [sF 3 (a0.map al.row),sF 3 (a1.map al.row)] (vB r):=by
 refine fk (G:=(IV N)) func22 (gc 52 (Fq N) gn) ?_;simp only [f22];unfold lu at h;refine z0 ?_;refine z0 ?_;refine cN h (fun hc1 hc1d h=>?_) fun hc1 hc1d h=>?_
 ·refine z1 hc1d ?_;exact e0 h
 refine z1 hc1d ?_;refine lT 0 (fun (v3:Nat) (b:Unit)=>⟨tab 55 (af (af (af au 0 (sF 3 (a0.map al.row))) 1 (sF 3 (a1.map al.row))) 5 (vI (v3:Int))),RZ⟩) () h ?_ ?_
 ·rintro v3 ⟨⟩ hi4' h;simp only [eH] at h;refine z1 hi4' ?_;refine cf ?_;refine z0 ?_;exact e0 h
 rintro v3 ⟨⟩ x6 hi4' hx5 hw6 h;simp only [eH] at h;refine z1 hi4' ?_;refine ct ?_;refine aU (pp (aL (aQ ?_)));apply aR (fun (c3:Bool)=>⟨tab 55 (af (af (af (af au 0 (sF 3 (a0.map al.row))) 1 (sF 3 (a1.map al.row))) 5 (vI (v3:Int))) 54 (vB c3)),RZ⟩)
 ·intro hJ8;obtain ⟨x4,hb9,hx10,h⟩:=aH h;try simp only [cL] at hx10
  try simp only [nL,nM,true_and] at hb9
  refine iDs h (fun hc11 hc11d h=>?_) fun hc11 hc11d h=>?_
  ·refine d1 (k5 hx5 hi4' hb9 hx10 hc11d) ?_;exact hJ8 _ true wR h
  refine iDs h (fun hc12 hc12d h=>?_) fun hc12 hc12d h=>?_
  ·refine d1 (k5 hx5 hi4' hb9 hx10 (k2 hc11d hc12d)) ?_;exact hJ8 _ true wR h
  obtain ⟨r5,hr13,h⟩:=bI h;refine d1 (k5 hx5 hi4' hb9 hx10 (k3 hc11d hc12d hr13)) ?_;exact hJ8 _ (!r5) wR h
 intro c3 h;unfold kX at h;refine cB h (fun hc14 h=>?_) fun hc14 h=>?_
 ·refine z1 hc14 ?_;exact e0 h
 refine z1 (k2 hw6 hc14) ?_;refine ⟨hi4',(),?_,h⟩;exact wR
@[go_sem] def Ap (N:Nat):FnS:=⟨[],true,fn2 (aJ 3 al.dec) (aJ 3 al.dec) fun q0 q1=>(lu N q0 q1).map fun r=>vB r,false⟩
def Ff (N:Nat):aA prog 22 (Ap N):=om2 (I6 N)
@[go_sem] def H5 (N d f:Nat):Option FnS:=aw [(22,10,AV N),(29,18,F1 N),(34,19,Ci N),(38,20,vx N),(91,21,se N),(126,21,se N),(165,21,se N),(179,15,Ch N),(181,22,Ap N),(184,23,j7 N)] d f
def Av (N:Nat) (a0:List aj) (a1:Int) (r:Bool) (h:kF N a0 a1=some r):Con prog 4 [] true [sF 4 (a0.map aj.row),.val (.int .u8 a1)] (vB r):=by
 refine fk (G:=(H5 N)) func4 (gc 22 (Kk N) (gc 29 (Km N) (gc 34 (DE N) (gc 38 (vj N) (gc 91 (tz N) (gc 126 (tz N) (gc 165 (tz N) (gc 179 (DK N) (gc 181 (Ff N) (gc 184 (jd N) gn)))))))))) ?_;simp only [f4];unfold kF at h;refine z0 ?_;obtain ⟨r1,hr1,h⟩:=bI h;refine z1 hr1 ?_;refine cM h (fun hc2 h=>?_) fun hc2 h=>?_
 ·refine z1 hc2 ?_;exact e0 h
 refine z1 hc2 ?_;refine cD h (fun hc3 hc3d h=>?_) fun hc3 hc3d h=>?_
 ·refine z1 hc3d ?_;exact e0 h
 obtain ⟨r2,hr4,h⟩:=bI h;refine z1 (k2 hc3d hr4) ?_;obtain ⟨r3,hr5,h⟩:=bI h;refine z1 hr5 ?_;obtain ⟨r4,hr6,h⟩:=bI h;refine z1 hr6 ?_;refine z0 ?_;refine cD h (fun hc7 hc7d h=>?_) fun hc7 hc7d h=>?_
 ·refine z1 hc7d ?_;exact e0 h
 refine aU (pp (aL ?_));apply aR (fun (c7:Bool)=>⟨tab 185 (af (af (af (af (af au 5 (pF 5)) 7 (vI r3)) 8 (pF 8)) 9 (sF 1 (r4.2.1.map (ay .i64)))) 59 (vB c7)),(upd (upd RZ 5 (vA 3 (ae.row r2.1))) 8 (vA 3 (ae.row r4.1)))⟩)
 ·intro hJ8;refine iDs h (fun hc9 hc9d h=>?_) fun hc9 hc9d h=>?_
  ·refine z1 (k2 hc7d hc9d) ?_;refine hJ8 _ true ?_ h;exact wF (k5 hr1 hc2 hc3d hr4 (k4 hr5 hr6 hc7d hc9d))
  refine z1 (k2 hc7d hc9d) ?_;refine hJ8 _ (!decide ((IntKind.i64.wrap ((r4.2.1.length:Int)+(r4.1.Txns.length:Int)))=(r2.1.Txns.length:Int))) ?_ h;exact wF (k5 hr1 hc2 hc3d hr4 (k4 hr5 hr6 hc7d hc9d))
 intro c7 h;unfold mW at h;refine cB h (fun hc10 h=>?_) fun hc10 h=>?_
 ·refine z1 hc10 ?_;exact e0 h
 unfold m7 at h;refine z1 hc10 ?_;refine z0 ?_;refine aQ (gH (fun (b:List Int × Int)=>⟨tab 185 (af (af (af (af (af au 5 (pF 5)) 8 (pF 8)) 9 (sF 1 (r4.2.1.map (ay .i64)))) 11 (.pal 61 [] 0 b.1.length none)) 12 (vI b.2)),(upd (upd (upd RZ 5 (vA 3 (ae.row r2.1))) 8 (vA 3 (ae.row r4.1))) 61 (sO 1 (b.1.map (ay .i64))))⟩) ([r3],0) h ?_ ?_)
 ·refine aV.trans (WZ 61 (by simp only [go_sem,seval]; rfl)) ?_;exact wF (k5 hr1 hc2 hc3d hr4 (k4 hr5 hr6 hc7d hc10))
 rintro n ⟨l12,v13⟩ h -;cases n with
 | zero=>simp [gu] at h
 | succ n=>
 simp only [gu] at h;refine z0 ?_;refine cD h (fun hc11 hc11d h=>?_) fun hc11 hc11d h=>?_
 ·refine z1 hc11d ?_;refine lC 5 2 (fun (v18:Nat) (b:List Int)=>⟨tab 185 (af (af (af (af (af (af au 5 (pF 5)) 8 (pF 8)) 9 (sF 1 (r4.2.1.map (ay .i64)))) 11 (.pal 61 [] 0 b.length none)) 12 (vI v13)) 13 (vI (v18:Int))),(upd (upd (upd RZ 5 (vA 3 (ae.row r2.1))) 8 (vA 3 (ae.row r4.1))) 61 (sO 1 (b.map (ay .i64))))⟩) l12 h ?_ ?_ (h0:=wF (k5 hr1 hc2 hc3d hr4 (k5 hr5 hr6 hc7d hc10 hc11d)))
  ·rintro v18 l17 hi14' h;simp only [eW] at h;refine z1 hi14' ?_;refine cf ?_;refine z0 ?_;refine ⟨_,na _,(l17,IntKind.i64.wrap (v13+1)),?_,h⟩;exact wF (k5 hr1 hc2 hc3d hr4 (k5 hr5 hr6 hc7d hc10 (k2 hc11d hi14')))
  rintro v18 l17 x21 hi14' hx15 hw16 h;simp only [eW] at h;refine z1 hi14' ?_;refine ct ?_;refine z0 ?_;refine z1 (k2 hx15 hi14') ?_;refine lT 80 (fun (v26:Nat) (b:List Int × Bool)=>⟨tab 185 (af (af (af (af (af (af (af (af (af (af au 5 (pF 5)) 8 (pF 8)) 9 (sF 1 (r4.2.1.map (ay .i64)))) 11 (.pal 61 [] 0 b.1.length none)) 12 (vI v13)) 13 (vI (v18:Int))) 14 (vB b.2)) 80 (sF 3 (x21.Layers.map al.row))) 81 (vI (x21.Layers.length:Int))) 82 (vI (v26:Int))),(upd (upd (upd RZ 5 (vA 3 (ae.row r2.1))) 8 (vA 3 (ae.row r4.1))) 61 (sO 1 (b.1.map (ay .i64))))⟩) (l17,false) h ?_ ?_ (h0:=wF (k5 hr1 hc2 hc3d hr4 (k5 hr5 hr6 hc7d hc10 (k4 hc11d hx15 hi14' hw16))))
  ·rintro v26 ⟨l24,c25⟩ hi20' h;simp only [ej] at h;refine z1 hi20' ?_;refine cf ?_;refine z1 hw16 ?_;refine ⟨hi14',l24,?_,h⟩;exact wF (k5 hr1 hc2 hc3d hr4 (k5 hr5 hr6 hc7d hc10 (k5 hc11d hx15 hi14' hw16 hi20')))
  rintro v26 ⟨l24,c25⟩ x29 hi20' hx21 hw22 h;simp only [ej] at h;refine z1 hi20' ?_;refine ct ?_;refine z1 (k2 hx21 hi20') ?_;apply yL (fun (l46:List Int) (c47:Bool)=>⟨tab 185 (af (af (af (af (af (af (af (af (af (af (af au 5 (pF 5)) 8 (pF 8)) 9 (sF 1 (r4.2.1.map (ay .i64)))) 11 (.pal 98 [] 0 l46.length none)) 12 (vI v13)) 13 (vI (v18:Int))) 14 (vB c47)) 16 (pF 16)) 80 (sF 3 (x21.Layers.map al.row))) 81 (vI (x21.Layers.length:Int))) 82 (vI (v26:Int))),(upd (upd (upd (upd RZ 5 (vA 3 (ae.row r2.1))) 8 (vA 3 (ae.row r4.1))) 16 (vA 3 (al.row x29))) 98 (sO 1 (l46.map (ay .i64))))⟩)
  ·intro hJ24;apply yL (fun (c49:Bool) (c50:Bool)=>⟨tab 185 (af (af (af (af (af (af (af (af (af (af (af (af au 5 (pF 5)) 8 (pF 8)) 9 (sF 1 (r4.2.1.map (ay .i64)))) 11 (.pal 61 [] 0 l24.length none)) 12 (vI v13)) 13 (vI (v18:Int))) 14 (vB c49)) 16 (pF 16)) 80 (sF 3 (x21.Layers.map al.row))) 81 (vI (x21.Layers.length:Int))) 82 (vI (v26:Int))) 93 (vB c50)),(upd (upd (upd (upd RZ 5 (vA 3 (ae.row r2.1))) 8 (vA 3 (ae.row r4.1))) 16 (vA 3 (al.row x29))) 61 (sO 1 (l24.map (ay .i64))))⟩)
   ·intro hJ25;refine iB h (fun hc26 h=>?_) fun hc26 h=>?_
    ·obtain ⟨r51,hr27,h⟩:=bI h;refine z1 (k2 hc26 hr27) ?_;refine hJ25 _ true (!r51) ?_ h;exact wF (k5 hr1 hc2 hc3d hr4 (k5 hr5 hr6 hc7d hc10 (k5 hc11d hx15 hi14' hw16 (k5 hx21 hi20' hw22 hc26 hr27))))
    refine z1 hc26 ?_;refine hJ25 _ false false ?_ h;exact wF (k5 hr1 hc2 hc3d hr4 (k5 hr5 hr6 hc7d hc10 (k5 hc11d hx15 hi14' hw16 (k4 hx21 hi20' hw22 hc26))))
   intro c49 c50 h;unfold kh at h;refine cB h (fun hc28 h=>?_) fun hc28 h=>?_
   ·obtain ⟨ha29,h⟩:=iT h;simp only [cC,cW,cS,Nat.reduceAdd] at ha29;refine z1 (k2 hc28 ha29) ?_;refine hJ24 _ (l24++[x29.Txn_]) c49 ?_ h;refine wr ?_ ?_<;>repeat' first|rfl|constructor|simp only [go_sem,seval]
   refine aU (pp (hJ24 _ l24 c49 ?_ h));refine aV.trans (Bj 11 61 98 (by decide) (by decide) (by simp only [go_sem,seval]) (by simp only [go_sem,seval]; rfl) (by simp only [go_sem,seval,hc28]; rfl) (by first|(simp; done)|simp only [go_sem,seval,nz,cX,nF,nG,hr1,hc2,hc3d,hr4,hr5,hr6,hc7d,hc10,hc11d,hx15,hi14',hw16,hx21,hi20',hw22,hc28])) ?_;exact wF (k5 hr1 hc2 hc3d hr4 (k5 hr5 hr6 hc7d hc10 (k5 hc11d hx15 hi14' hw16 (k4 hx21 hi20' hw22 hc28))))
  intro l46 c47 h;unfold iL at h;refine iB h (fun hc30 h=>?_) fun hc30 h=>?_
  ·refine d1 hc30 ?_;refine z1 hw22 ?_;refine ⟨hi20',(l46,true),?_,h⟩;refine aV.trans (Bj 11 98 61 (by decide) (by decide) (by simp only [go_sem,seval]) (by simp only [go_sem,seval]; rfl) (by simp only [go_sem,seval]; rfl) (by first|(simp; done)|simp only [go_sem,seval,nz,cX,nF,nG,hr1,hc2,hc3d,hr4,hr5,hr6,hc7d,hc10,hc11d,hx15,hi14',hw16,hx21,hi20',hw22,hc30])) ?_;exact wF (k5 hr1 hc2 hc3d hr4 (k5 hr5 hr6 hc7d hc10 (k5 hc11d hx15 hi14' hw16 (k4 hx21 hi20' hw22 hc30))))
  obtain ⟨x53,hb31,hx32,h⟩:=aH h;refine d1 (k3 hc30 hb31 hx32) ?_;refine z1 hw22 ?_;refine ⟨hi20',(l46,(decide (x29.Txn_=x53))),?_,h⟩;refine aV.trans (Bj 11 98 61 (by decide) (by decide) (by simp only [go_sem,seval]) (by simp only [go_sem,seval]; rfl) (by simp only [go_sem,seval]; rfl) (by first|(simp; done)|simp only [go_sem,seval,nz,cX,nF,nG,hr1,hc2,hc3d,hr4,hr5,hr6,hc7d,hc10,hc11d,hx15,hi14',hw16,hx21,hi20',hw22,hc30,hb31,hx32])) ?_;exact wF (k5 hr1 hc2 hc3d hr4 (k5 hr5 hr6 hc7d hc10 (k5 hc11d hx15 hi14' hw16 (k5 hx21 hi20' hw22 hc30 (k2 hb31 hx32)))))
 unfold mX at h;refine z1 hc11d ?_;refine cN h (fun hc33 hc33d h=>?_) fun hc33 hc33d h=>?_
 ·refine z1 hc33d ?_;exact e0 h
 refine z1 hc33d ?_;refine lTs 9 (fun (v49:Nat) (b:List Int)=>⟨tab 185 (af (af (af (af (af au 5 (pF 5)) 8 (pF 8)) 9 (sF 1 (r4.2.1.map (ay .i64)))) 11 (.pal 61 [] 0 b.length none)) 17 (vI (v49:Int))),(upd (upd (upd RZ 5 (vA 3 (ae.row r2.1))) 8 (vA 3 (ae.row r4.1))) 61 (sO 1 (b.map (ay .i64))))⟩) l12 h ?_ ?_ (h0:=wF (k5 hr1 hc2 hc3d hr4 (k5 hr5 hr6 hc7d hc10 (k2 hc11d hc33d))))
 ·rintro v49 l48 x52 hi36' hx37 hw38 h;simp only [ee] at h;refine z1 hi36' ?_;refine ct ?_;refine aU (pp (aL (aQ ?_)));apply aR (fun (c67:Bool)=>⟨tab 185 (af (af (af (af (af (af au 5 (pF 5)) 8 (pF 8)) 9 (sF 1 (r4.2.1.map (ay .i64)))) 11 (.pal 61 [] 0 l48.length none)) 17 (vI (v49:Int))) 143 (vB c67)),(upd (upd (upd RZ 5 (vA 3 (ae.row r2.1))) 8 (vA 3 (ae.row r4.1))) 61 (sO 1 (l48.map (ay .i64))))⟩)
  ·intro hJ40;obtain ⟨r68,hr41,h⟩:=bI h;refine lR fun Z hZ=>?_;simp only [go_sem,seval,hx37,hi36',hr41];repeat with_reducible refine gl (by kernel_rfl) ?_
   refine oH rfl (fun hc42=>?_) (fun hc42=>?_)
   ·rw [if_neg (ne_true_of_eq_false hc42)] at h;simp only [go_sem,seval,hc42];refine hZ _ (by kernel_rfl) (pp (hJ40 _ true ?_ h));exact wF (k5 hr1 hc2 hc3d hr4 (k5 hr5 hr6 hc7d hc10 (k5 hc11d hc33d hx37 hi36' (k3 hw38 hr41 hc42))))
   rw [if_pos hc42] at h;simp only [go_sem,seval,hc42];refine ki rfl (fun hc43=>?_) (fun hc43=>?_)
   ·have hc43d:=decide_eq_true hc43;rw [if_pos hc43] at h;obtain ⟨x69,hb44,hx45,h⟩:=aH h;simp only [go_sem,seval,hx37,hi36',hc43d,hb44,hx45];refine hZ _ (by kernel_rfl) (pp (hJ40 _ (decide (x52<=x69)) ?_ h));exact wF (k5 hr1 hc2 hc3d hr4 (k5 hr5 hr6 hc7d hc10 (k5 hc11d hc33d hx37 hi36' (k5 hw38 hr41 hc42 hc43d (k2 hb44 hx45)))))
   have hc43d:=decide_eq_false hc43;rw [if_neg hc43] at h;simp only [go_sem,seval,hc43d];refine hZ _ (by kernel_rfl) (pp (hJ40 _ false ?_ h));exact wF (k5 hr1 hc2 hc3d hr4 (k5 hr5 hr6 hc7d hc10 (k5 hc11d hc33d hx37 hi36' (k4 hw38 hr41 hc42 hc43d))))
  intro c67 h;unfold iO at h;refine cB h (fun hc46 h=>?_) fun hc46 h=>?_
  ·refine z1 hc46 ?_;exact e0 h
  refine z1 (k2 hw38 hc46) ?_;refine ⟨hi36',l48,?_,h⟩;exact wF (k5 hr1 hc2 hc3d hr4 (k5 hr5 hr6 hc7d hc10 (k5 hc11d hc33d hx37 hi36' (k2 hw38 hc46))))
 rintro v49 l48 hi36' h;simp only [ee] at h;refine z1 hi36' ?_;refine cf ?_;unfold tC at h;refine z0 ?_;refine lC 5 2 (fun (v62:Nat) (b:List Int)=>⟨tab 185 (af (af (af (af au 5 (pF 5)) 8 (pF 8)) 11 (.pal 61 [] 0 b.length none)) 18 (vI (v62:Int))),(upd (upd (upd RZ 5 (vA 3 (ae.row r2.1))) 8 (vA 3 (ae.row r4.1))) 61 (sO 1 (b.map (ay .i64))))⟩) l48 h ?_ ?_ (h0:=wF (k5 hr1 hc2 hc3d hr4 (k5 hr5 hr6 hc7d hc10 (k3 hc11d hc33d hi36'))))
 ·rintro v62 l61 hi49' h;simp only [gB] at h;refine z1 hi49' ?_;refine cf ?_;refine gr (pp ?_);unfold tW at h;obtain ⟨r109,hr65,h⟩:=bI h;refine z1 hr65 ?_;exact e0 h
 rintro v62 l61 x65 hi49' hx50 hw51 h;simp only [gB] at h;refine z1 hi49' ?_;refine ct ?_;refine z0 ?_;refine z1 (k2 hx50 hi49') ?_;refine aQ (gG fun hreal54=>?_);have hl53:=hreal54.lenT 156 (by decide) (by simp only [go_sem,seval]; rfl);rw [cy] at hl53;refine rL (fun (v71:Nat) (b:List Int × List al)=>⟨tab 185 (af (af (af (af (af (af (af (af au 5 (pF 5)) 8 (pF 8)) 11 (.pal 61 [] 0 b.1.length none)) 18 (vI (v62:Int))) 19 (.pal 170 [] 0 b.2.length none)) 156 (sF 3 (x65.Layers.map al.row))) 157 (vI (x65.Layers.length:Int))) 158 (vI (v71:Int))),(upd (upd (upd (upd RZ 5 (vA 3 (ae.row r2.1))) 8 (vA 3 (ae.row r4.1))) 61 (sO 1 (b.1.map (ay .i64)))) 170 (sO 3 (b.2.map al.row)))⟩) (l61,[]) h ?_ ?_
 ·refine aV.trans (lQ 19 170 3 (by simp only [go_sem,seval]) (by simp only [go_sem,seval])) ?_;exact wF (k5 hr1 hc2 hc3d hr4 (k5 hr5 hr6 hc7d hc10 (k5 hc11d hc33d hi36' hx50 (k2 hi49' hw51))))
 rintro v71 ⟨l69,l70⟩ hi55 h -;rcases (lO x65.Layers v71 hi55).symm with ⟨hi55',_,hd58⟩|⟨x74,hi55',hx56,hd58⟩
 ·rw [hd58] at h;simp only [fb] at h;refine z1 hi55' ?_;refine cf ?_;refine gr (pp ?_);unfold tT at h;obtain ⟨r107,hr62,h⟩:=bI h;obtain ⟨r108,hr63,h⟩:=bI h;refine d1 (k4 hx50 hi49' hr62 hr63) ?_;refine cM h (fun hc64 h=>?_) fun hc64 h=>?_
  ·refine z1 hc64 ?_;exact e0 h
  refine z1 (k2 hw51 hc64) ?_;refine ⟨hi49',l69,?_,h⟩;exact wF (k5 hr1 hc2 hc3d hr4 (k5 hr5 hr6 hc7d hc10 (k5 hc11d hc33d hi36' hx50 (k5 hi49' hw51 hi55' hr62 (k2 hr63 hc64)))))
 rw [hd58] at h;simp only [fb] at h;have hw57:=eA hi55' hl53;refine z1 hi55' ?_;refine ct ?_;refine z1 (k2 hx56 hi55') ?_;obtain ⟨r106,hr59,h⟩:=bI h;refine z1 hr59 ?_;refine cMs h (fun hc60 h=>?_) fun hc60 h=>?_
 ·refine z1 (k2 hw57 hc60) ?_;refine ⟨hi55',(l69,l70),?_,h⟩;exact wF (k5 hr1 hc2 hc3d hr4 (k5 hr5 hr6 hc7d hc10 (k5 hc11d hc33d hi36' hx50 (k5 hi49' hw51 hx56 hi55' (k3 hw57 hr59 hc60)))))
 obtain ⟨ha61,h⟩:=iT h;simp only [cC,cW,cS,Nat.reduceAdd] at ha61;refine z1 (k2 hc60 ha61) ?_;refine z1 hw57 ?_;refine ⟨hi55',(l69,(l70++[x74])),?_,h⟩;refine wr ?_ ?_<;>repeat' first|rfl|constructor|simp only [go_sem,seval]
@[go_sem] def G4 (N:Nat):FnS:=⟨[],true,fn2 (aJ 4 aj.dec) (aG .u8) fun q0 q1=>(kF N q0 q1).map fun r=>vB r,false⟩
def R6 (N:Nat):aA prog 4 (G4 N):=om2 (Av N)
end
end Go.Proofs.YtmacaidmhchpgaaGreat
