/- Walks: each function computes its model. No condition. -/
import Derived.Test.YtmacaidmhchpgaaGreatB
import Derived.Test.YtmacaidmhchpgaaGreatWA
/- Each Go function computes its model: proofs laid by a program of ours. -/
set_option linter.defProp false
set_option maxHeartbeats 40000000
set_option synthInstance.maxHeartbeats 2000000
set_option synthInstance.maxSize 4000
set_option linter.unusedSimpArgs false
set_option linter.unusedVariables false
set_option maxRecDepth 100000
namespace Go.Proofs.YtmacaidmhchpgaaGreat
open Go Go.Proofs Go.Abs Tryz
noncomputable section
@[go_sem] def RA (N d f:Nat):Option FnS:=aw [(8,43,vX N)] d f
def Rr (N:Nat) (a0:aa) (a1:Ref) (r:Int) (h:qv N a0 a1=some r):Con prog 65 [] true [.agg (aa.row a0),.agg [vS a1.Type_,vS a1.Key]] (vI r):=by
 refine fk (G:=(RA N)) func65 (gc 8 (wI N) gn) ?_;simp only [f65];unfold qv at h;refine z0 ?_;obtain ⟨r1,hr1,h⟩:=bI h;refine z1 hr1 ?_;exact e0 h
@[go_sem] def Cb (N:Nat):FnS:=⟨[],true,fn2 aa.decA Ref.decA fun q0 q1=>(qv N q0 q1).map fun r=>vI r,false⟩
def De (N:Nat):az prog 65 (Cb N):=om2 (Rr N)
@[go_sem] def tC (N d f:Nat):Option FnS:=aw [(30,65,Cb N),(46,65,Cb N)] d f
def tB (N:Nat) (a0:List aa) (a1:Ref) (r:Int × Bool) (h:ba N a0 a1=some r):Con prog 64 [] true [sF 3 (a0.map aa.row),.agg [vS a1.Type_,vS a1.Key],.clo 65 []] (.tup [vI r.1,vB r.2]):=by
 refine fk (G:=(tC N)) func64 (gc 30 (De N) (gc 46 (De N) gn)) ?_;simp only [f64];unfold ba at h;refine z0 ?_;refine z0 ?_;refine z0 ?_;refine aM (aT (gl (fun (b:Int × Int)=>⟨tab 49 (af (af (af (af (af (af au 0 (sF 3 (a0.map aa.row))) 2 (.clo 65 [])) 4 (pF 4)) 8 (vI (a0.length:Int))) 9 (vI b.1)) 10 (vI b.2)),(upd RZ 4 (vA 2 [vS a1.Type_,vS a1.Key]))⟩) (0,(a0.length:Int)) h ?_ ?_))
 ·exact wR
 rintro n ⟨v2,v3⟩ h -;cases n with
 | zero=>simp [bg] at h
 | succ n=>
 simp only [bg] at h;refine z0 ?_;refine cDs h (fun hc1 hc1d h=>?_) fun hc1 hc1d h=>?_
 ·refine gi (pp ?_);unfold bt at h;refine iD h (fun hc6 hc6d h=>?_) fun hc6 hc6d h=>?_
  ·obtain ⟨x11,hb7,hx8,h⟩:=aG h;obtain ⟨r12,hr9,h⟩:=bI h;refine d1 (k4 hc1d hb7 hx8 hr9) ?_;exact e0 h
  refine d1 (k2 hc1d hc6d) ?_;exact e0 h
 refine z1 hc1d ?_;obtain ⟨x9,hb2,hx3,h⟩:=aG h;obtain ⟨r10,hr4,h⟩:=bI h;refine d1 (k3 hb2 hx3 hr4) ?_;refine cD h (fun hc5 hc5d h=>?_) fun hc5 hc5d h=>?_
 ·refine z1 hc5d ?_;refine ⟨_,cZ _,(IntKind.i64.wrap ((IntKind.i64.wrap (jW .u64 (IntKind.u64.wrap (IntKind.i64.wrap (v2+v3))) 1))+1),v3),?_,h⟩;exact wR
 refine z1 hc5d ?_;refine ⟨_,cZ _,(v2,IntKind.i64.wrap (jW .u64 (IntKind.u64.wrap (IntKind.i64.wrap (v2+v3))) 1)),?_,h⟩;exact wR
@[go_sem] def fZ (N:Nat):FnS:={ own:=[],pure:=true,fn:=fun cs=>match cs with
 | [c0,c1,.clo 65 []]=>((aJ 3 aa.dec) c0).bind fun qc0=>(Ref.decA c1).bind fun qc1=>(ba N qc0 qc1).map fun r=>.tup [vI r.1,vB r.2]
 | _=>none }
def rD (N:Nat):az prog 64 (fZ N):=by
 refine ⟨fun cs r h=>?_,fun h=>by cases h⟩;simp only [fZ] at h;split at h
 ·simp only [ck,cj] at h;obtain ⟨q0,h0,q1,h1,r',hr,rfl⟩:=h;exact (ag (tB N q0 q1 r' hr))
 ·cases h
def bU:FnS:={ own:=[true,true],pure:=false,fn:=fun _=>none,peek:=true }
theorem tw:bU.own=[true,true]:=rfl
theorem ta:bU.peek=true:=rfl
theorem ya:I6 prog 137:=
 Ny (fn:=f137) (tS:=26) (tR:=4) (e:=67) (size:=3) func137 rfl rfl (by kernel_rfl) (by kernel_rfl) (by kernel_rfl) (by kernel_rfl)
def uA:az prog 137 bU:=⟨(fun cs r h=>by simp [bU] at h),fun _=>ya⟩
def dS:Env:={ T:=eA prog,G:=fun d f=>if d=67/\f=137 then some bU else none }
theorem sA:dS.T=eA prog:=rfl
theorem AG (d:Nat):dS.F d=none:=rfl
theorem AU (d f:Nat):dS.L d f=none:=rfl
theorem Ay:dS.G 67 137=some bU:=rfl
def Ab:GOk prog { T:=eA prog,G:=dS.G }:=by
 refine ⟨?_,fun _ _ _ h=>by cases h⟩;intro d f fs hfs;simp only [dS] at hfs;split at hfs
 ·rename_i hc; obtain ⟨rfl,rfl⟩:=hc; obtain rfl:=nf hfs; exact uA
 cases hfs
theorem BS:Ee prog 66 f66 f66.body.get! := ⟨func66,rfl,by decide,by kernel_rfl⟩
set_option maxHeartbeats 4000000 in
section
attribute [local go_sem] sA Nat.le_refl fX Option.map_some List.isEmpty_nil CH Nat.sub_zero dB tD
def tj {α:Type} (row:α->List C) (ok:aF row) (l:List α) (i:Nat) (x:α) (k:Nat) (r:List α) (hr:r=l.take i++[x]++l.drop i) (hi:i<=l.length) (hsz:(l.length+1) * 56<=140737488355328) (hk1:l.length<=k) (hk2:k<=maxLen) :
  Con prog 66 [true,false,true] false [.sl true none 3 (some k) (l.map row),vI i,sO 3 ([x].map row)] (sO 3 (r.map row)):=by
 refine JJ (E:=dS) (ze prog _) Ab mix BS (na rfl) ?_;intro _;rw [vk (by simp)];rw [show gh [true,false,true] [C.sl true none 3 (some k) (l.map row),C.val (.int .i64 i),C.sl true none 3 none ([x].map row)]=(af (af (af au 0 (.pal 0 [] 0 l.length none)) 1 (vI i)) 2 (.pal 2 [] 0 1 none)) from by funext t; match t with|0=>simp [gh,iT,jU,af]|1=>rfl|2=>rfl|t+3=>rfl];rw [show R0 [true,false,true] [C.sl true none 3 (some k) (l.map row),C.val (.int .i64 i),C.sl true none 3 none ([x].map row)]=upd (upd RZ 0 (C.sl true none 3 (some k) (l.map row))) 2 (C.sl true none 3 none ([x].map row)) from by funext t; match t with|0=>rfl|1=>rfl|2=>rfl|t+3=>rfl];apply JI;simp only [f66,Option.get!];have hi1:(i:Int)<=(l.length:Int):=by omega
 have hi2:i<=l.length:=hi;have h10:(((1:Nat):Int)=0)=False:=by simp
 have hp:(row x).all Abs.plainCell=true:=ok.plain x;have hf:(row x).map C.frz=(row x):=ok.frz x;have hpD:(row x).all qt=true:=by have:=(aF.allD ok [x]); simpa using this
 have hw1:IntKind.i64.wrap ((l.length:Int)+((1:Nat):Int))=((l.length+1:Nat):Int):=by rw [lQ (by omega) (by omega)]; rfl
 have hlt0:(l.take i).length=i:=by simp; omega
 have hes:(3 != 0)=true:=rfl;have hm1:min 1 (l.length+1 - i)=1:=by omega
 have hm2:min (l.length - i) (l.length+1 - (i+1))=l.length - i:=by omega
 have hm3:(l.drop i).take (l.length - i)=l.drop i:=ni (by simp);have hm4:i+1<=l.length+1:=by omega
 have hw2:IntKind.i64.wrap (((l.length+1:Nat):Int) - (i:Int))=((l.length+1 - i:Nat):Int):=by rw [lQ (by omega) (by omega)]; omega
 have hw1b:IntKind.i64.wrap ((l.length:Int)+1)=((l.length+1:Nat):Int):=hw1;have hw3:IntKind.i64.wrap ((i:Int)+((1:Nat):Int))=((i+1:Nat):Int):=by rw [lQ (by omega) (by omega)]; rfl
 have hw3b:IntKind.i64.wrap ((i:Int)+1)=((i+1:Nat):Int):=hw3;simp only [go_sem,seval,hi2];refine K8 rfl ?_;simp only [go_sem,seval,sA,acV];refine tu rfl (fun hc=>?_) (fun hc=>?_)
 ·have e:i=l.length:=by omega
  subst e;simp only [go_sem,seval,AG,hp,hf,aF.allD ok,acH,dU,hsz];refine sS ok ?_;rw [hr];simp [ni]
 ·have hc1:decide ((i:Int)=(l.length:Int))=false:=decide_eq_false hc;have hlt:i < l.length:=by omega
  simp only [go_sem,seval,PG,tJ,hw1b,hc1];refine tu rfl (fun hk=>?_) (fun hk=>?_)
  ·have hk1:decide (k < l.length+1)=true:=decide_eq_true hk;have hk2:k < i+(l.length+1 - i):=by omega
   have e1:i+(l.length+1 - i)=l.length+1:=by omega
   have hi3:(i:Int)<=((l.length+1:Nat):Int):=by omega
   have hi4:i<=l.length+1:=by omega
   obtain ⟨A,hA⟩:∃ A,List.map row (List.take i l)++List.replicate (l.length+1 - i) [C.val (Value.string ⟨#[]⟩),C.val (Value.string ⟨#[]⟩),C.val (Value.slice none 0 0)]=A:=⟨_,rfl⟩;have hAp:bK A:=by rw [<-hA]; exact jO (fP ok _) (zS _ [Value.string ⟨#[]⟩,Value.string ⟨#[]⟩,Value.slice none 0 0] (by simp [Value.oneCell']))
   have hAl:A.length=l.length+1:=by rw [<-hA,ng,cx,hlt0,xm]; omega
   obtain ⟨B,hB⟩:∃ B,aK A i [(row x)]=B:=⟨_,rfl⟩;have hBp:bK B:=by rw [<-hB]; exact fQ hAp ⟨by simp [frzRows,hf],by simp [hpD]⟩
   have hBl:B.length=l.length+1:=by rw [<-hB]; simp [aK,hAl]; omega
   obtain ⟨D,hD⟩:∃ D,aK B (i+1) (List.map row (List.drop i l))=D:=⟨_,rfl⟩;have hDp:bK D:=by rw [<-hD]; exact fQ hBp (fP ok _)
   have hDl:D.length=l.length+1:=by rw [<-hD]; simp [aK,hBl]; omega
   have hDe:D=(l.take i++[x]++l.drop i).map row:=by
    rw [<-hD,<-hB,<-hA,xd,nR,NU (A:=l.map row) (n:=l.length) (by simp) hi2 (by simp)];simp
   simp only [go_sem,seval,hi2,hp,hf,aF.frzRows ok,aF.allPlain ok,CX,tJ,Gk,CA,gy,Ed,Ext.all,hw2,hw1b,hw3b,adg,cT,xm,hlt0,hm1,hm3,hm4,hk,e1,hi4,hA,hAl,hAp.1,hAp.2,hB,hBp.1,hBp.2,hD,hsz];repeat' ((with_reducible refine fL ?_ ?_); kernel_rfl)
   simp only [go_sem,seval,dU];refine sS ok ?_;rw [hr,<-hDe,<-hDl,xw]
  ·have hk1:decide (k < l.length+1)=false:=decide_eq_false hk;have hk2:¬ k < i+(l.length+1 - i):=by omega
   have hk3:l.length+1<=k:=by omega
   have e2:l.length+1 - l.length=1:=by omega
   have e3:l.length<=l.length+1:=by omega
   have hi3:(i:Int)<=((l.length+1:Nat):Int):=by omega
   have hi4:i<=l.length+1:=by omega
   have hne:¬ l.length+1 - (i+1)=0:=by omega
   have hne2:¬ l.length - i=0:=by omega
   obtain ⟨A,hA⟩:∃ A,List.map row l++[[C.dead,C.dead,C.dead]]=A:=⟨_,rfl⟩;have hAp:bK A:=by rw [<-hA]; exact jO (fP ok _) (Da 1 3)
   have hAl:A.length=l.length+1:=by rw [<-hA]; simp
   have hm5:min (l.length+1 - i) (l.length+1 - (i+1))=l.length - i:=by omega
   have hm5b:min (l.length+1 - i) (l.length - i)=l.length - i:=by omega
   obtain ⟨A2,hA2⟩:∃ A2,(A.drop i).take (l.length - i)=A2:=⟨_,rfl⟩;have hA2e:A2=List.map row (l.drop i):=by
    rw [<-hA2,<-hA,acG,cx,show i - l.length=0 by omega,nO,xq,ni (by simp),show l.length - i - (List.drop i (List.map row l)).length=0 by simp];simp [nR]
   have hA2p:(A2.all fun r=>r.all Abs.plainCell)=true:=by rw [hA2e]; exact ok.allPlain _
   have hA2f:frzRows A2=A2:=by rw [hA2e]; exact ok.frzRows _
   have hA2d:bK A2:=by rw [hA2e]; exact fP ok _
   obtain ⟨B,hB⟩:∃ B,aK A (i+1) A2=B:=⟨_,rfl⟩;have hBp:bK B:=by rw [<-hB]; exact fQ hAp hA2d
   have hBl:B.length=l.length+1:=by rw [<-hB]; simp [aK,hAl,hA2e]; omega
   obtain ⟨D,hD⟩:∃ D,aK B i [(row x)]=D:=⟨_,rfl⟩;have hDp:bK D:=by rw [<-hD]; exact fQ hBp ⟨by simp [frzRows,hf],by simp [hpD]⟩
   have hDl:D.length=l.length+1:=by rw [<-hD]; simp [aK,hBl]; omega
   have hDe:D=(l.take i++[x]++l.drop i).map row:=by
    rw [<-hD,<-hB,<-hA2,<-hA,La (A:=l.map row) (n:=l.length) (by simp) hi2];simp [xd,nR]
   simp only [go_sem,seval,AU,Ay,aF.frzRows ok,aF.allD ok,AM,Jq,qI,hw1b,hw3b,cT,hm4,tw,ta,acH,hk,hk3,e2,e3,hne2,hA,hes];refine K1 rfl ?_;simp only [go_sem,seval,hp,hf,CX,Gk,CA,hw3b,hm1,hm4,hi4,hAp.1,hAp.2,hA2,hA2p,hA2f,hB,hBp.1,hBp.2,hD,hm5b];repeat' ((with_reducible refine fL ?_ ?_); kernel_rfl)
   simp only [go_sem,seval,dU];refine sS ok ?_;rw [hr,<-hDe,<-hDl,xw]
end
def Pa (N:Nat) (a0:List aa) (a1:Int) (a2:List aa) (r:List aa) (h:bD N a0 a1 a2=some r) :
  Con prog 66 [true,false,true] false [sO 3 (a0.map aa.row),vI a1,sO 3 (a2.map aa.row)] (sO 3 (r.map aa.row)):=by
 unfold bD at h;obtain ⟨n,x,rfl,rfl,h1,h2,h3⟩:=BM h;exact JF fun k hk1 hk2=>tj aa.row aa.row_ok a0 n x k r (nf h3).symm h1 h2 (by simpa using hk1) hk2
def yI {N:Nat} {a0:List aa} {a1:Int} {x:aa} {r:List aa} (h:bD N a0 a1 [x]=some r):r[a1.toNat]?=some x:=by
 unfold bD at h;obtain ⟨n,y,rfl,hy,h1,h2,h3⟩:=BM h;obtain rfl:x=y:=by simpa using hy
 obtain rfl:=nf h3;rw [cH,nt,cO (by simp only [nC]; omega)];simp only [nC,acL h1,xj,nK,cr]
def BC (N:Nat) (a0:List aa) (a1:Int) (a2:List aa) (r:List aa) (h:bD N a0 a1 a2=some r) :
  Con prog 66 [true,false,true] false [sO 3 (a0.map aa.rowD),vI a1,sO 3 (a2.map aa.rowN)] (sO 3 ((r.map aa.rowD).set a1.toNat ((a2.map aa.rowN).headD []))):=by
 unfold bD at h;obtain ⟨n,x,rfl,rfl,h1,h2,h3⟩:=BM h;obtain rfl:=nf h3;have e2:((a0.take n++[x]++a0.drop n).map aa.rowD).set n (aa.rowN x)=(a0.map aa.rowD).take n++[aa.rowN x]++(a0.map aa.rowD).drop n:=by
  simp only [nq,nw,xh,nt];rw [<-xd,<-nR,aee _ _ (by simp only [cx,nC]; omega)];simp only [cx,nC,acL h1,xj,nK,cL,aef]
 have:=Wz (P:=prog) (f:=66) (es:=3) (by1:=56) (fun α row ok l i x k r a b c d e=>tj row ok l i x k r a b c d e) (A:=a0.map aa.rowD) (rx:=aa.rowN x) (i:=n) (by simpa using h1) (by simpa using h2) (fun row hr c hc=>by obtain ⟨y,_,rfl⟩:=cF.1 hr; simp only [aa.rowD,cJ,nL,or_false] at hc; rcases hc with rfl|rfl|rfl<;>rfl) (fun c hc=>by simp only [aa.rowN,cJ,nL,or_false] at hc; rcases hc with rfl|rfl|rfl<;>rfl)
 rw [<-e2] at this;exact this
def dF (N:Nat):FnS:={ own:=[true,false,true],pure:=false,fn:=fun cs=>match cs with
 | [c0,c1,c2]=>(exL 3 aa.decE c0).bind fun q0=>(aH .i64 c1).bind fun q1=>(vK 3 aa.decN c2).bind fun q2=>(bD N q0 q1 q2).map fun r=>sO 3 ((r.map aa.rowD).set q1.toNat ((q2.map aa.rowN).headD []))
 | _=>none }
theorem yP (N:Nat):(dF N).own=[true,false,true]:=rfl
theorem w4 (N:Nat):(dF N).pure=false:=rfl
theorem yd (N:Nat):(dF N).peek=false:=rfl
attribute [go_sem] dF yP w4 yd List.headD_cons aa.rowN aa.decN
def zg (N:Nat):az prog 66 (dF N):=by
 refine ⟨fun cs r h=>?_,fun h=>by cases h⟩;simp only [dF] at h;split at h
 ·simp only [ck,cj] at h;obtain ⟨q0,h0,q1,h1,q2,h2,r',hr,rfl⟩:=h;obtain rfl:=Vo aa.decE_eq h0;exact (BC N q0 q1 q2 r' hr).argsO rfl (jE ⟨ROk.refl _,fun _ h=>h⟩ (rm (bz h1) (jE (qc aa.rowN_ok aa.decN_le h2) oa)))
 ·cases h
@[go_sem] def T9 (N d f:Nat):Option FnS:=aw [(19,23,lS N),(23,60,ve N),(28,61,lH N),(35,24,EZ N),(47,62,AW N),(52,59,pZ N),(57,40,gC N),(67,63,rW N),(77,64,fZ N),(89,66,dF N),(135,67,qL N)] d f
def UN (N:Nat) (a0:ae) (a1:Int) (a2:List Value) (a3:Value) (r:ae × Int) (h:kh N a0 a1 a2 a3=some r):Con prog 26 [] false [.agg (ae.row a0),vI a1,sF 5 (a2.map Value.row),.agg (Value.row a3)] (.tup [.agg [sO 11 (r.1.Txns.map Txn.row),sO 4 (r.1.Locks.map ai.row),sO 3 (r.1.Stacks.map aa.rowD)],vI r.2]):=by
 refine fk (G:=(T9 N)) func26 (gc 19 (j4 N) (gc 23 (y9 N) (gc 28 (lY N) (gc 35 (F0 N) (gc 47 (Cj N) (gc 52 (oF N) (gc 57 (eV N) (gc 67 (tP N) (gc 77 (rD N) (gc 89 (zg N) (gc 135 (sI N) gn))))))))))) ?_;simp only [f26];unfold kh at h;refine z0 ?_;refine aM ?_;apply aS (fun (c9:Bool)=>⟨tab 139 (af (af (af (af (af (af au 1 (vI a1)) 2 (sF 5 (a2.map Value.row))) 4 (pF 4)) 7 (pF 7)) 8 (pF 8)) 30 (vB c9)),(upd (upd (upd RZ 4 (vA 3 (ae.row a0))) 7 (vA 5 (Value.row a3))) 8 (vA 3 [.val (.slice none 0 0),.val (.slice none 0 0),.val (.slice none 0 0)]))⟩)
 ·intro hJ1;obtain ⟨r10,hr2,h⟩:=bI h;refine iBs h (fun hc3 h=>?_) fun hc3 h=>?_
  ·refine z1 (k2 hr2 hc3) ?_;exact hJ1 _ true wR h
  obtain ⟨r11,hr4,h⟩:=bI h;refine iBs h (fun hc5 h=>?_) fun hc5 h=>?_
  ·refine z1 (k4 hr2 hc3 hr4 hc5) ?_;exact hJ1 _ true wR h
  obtain ⟨r12,hr6,h⟩:=bI h;refine z1 (k5 hr2 hc3 hr4 hc5 hr6) ?_;exact hJ1 _ (!r12) wR h
 intro c9 h;unfold wX at h;refine cB h (fun hc7 h=>?_) fun hc7 h=>?_
 ·refine z1 hc7 ?_;exact f0 h
 refine aZ (pp ?_);unfold rf at h;obtain ⟨r13,hr8,h⟩:=bI h;refine z1 (k2 hc7 hr8) ?_;refine z0 ?_;refine cM h (fun hc9 h=>?_) fun hc9 h=>?_
 ·refine z1 hc9 ?_;exact f0 h
 obtain ⟨r14,hr10,h⟩:=bI h;refine z1 (k2 hc9 hr10) ?_;refine cN h (fun hc11 hc11d h=>?_) fun hc11 hc11d h=>?_
 ·refine z1 hc11d ?_;exact f0 h
 obtain ⟨r15,hr12,h⟩:=bI h;refine z1 (k2 hc11d hr12) ?_;obtain ⟨r16,hr13,h⟩:=bI h;obtain ⟨x17,hb14,hx15,h⟩:=aG h;refine d1 (k2 hr13 hb14) ?_;obtain ⟨r18,hr16,h⟩:=bI h;have hx18:=kr (y:=(Txn.mk x17.ID x17.Born x17.Client x17.Seq x17.Calls (IntKind.i64.wrap (x17.Done+1)) x17.Last)) hx15;have hx20:=kr (y:=(Txn.mk x17.ID x17.Born x17.Client x17.Seq x17.Calls (IntKind.i64.wrap (x17.Done+1)) r18)) hx15;refine d1 (k5 hx15 hr16 (mm2 (row:=Txn.row) (y:=(Txn.mk x17.ID x17.Born x17.Client x17.Seq x17.Calls (IntKind.i64.wrap (x17.Done+1)) x17.Last)) (rx:=[vI x17.ID,vI x17.Born,vS x17.Client,vI x17.Seq,sF 4 (x17.Calls.map ah.row),vI x17.Done,vI x17.Last.Kind,vI x17.Last.N,vS x17.Last.S,sF 1 (x17.Last.I.map (aB .i64)),sF 1 (x17.Last.L.map dE)]) (ry:=[vI x17.ID,vI x17.Born,vS x17.Client,vI x17.Seq,sF 4 (x17.Calls.map ah.row),vI (IntKind.i64.wrap (x17.Done+1)),vI x17.Last.Kind,vI x17.Last.N,vS x17.Last.S,sF 1 (x17.Last.I.map (aB .i64)),sF 1 (x17.Last.L.map dE)]) hx15 rfl rfl) hx18 (mm3 (row:=Txn.row) (y0:=(Txn.mk x17.ID x17.Born x17.Client x17.Seq x17.Calls (IntKind.i64.wrap (x17.Done+1)) x17.Last)) (y:=(Txn.mk x17.ID x17.Born x17.Client x17.Seq x17.Calls (IntKind.i64.wrap (x17.Done+1)) r18)) (rx:=[vI x17.ID,vI x17.Born,vS x17.Client,vI x17.Seq,sF 4 (x17.Calls.map ah.row),vI (IntKind.i64.wrap (x17.Done+1)),vI x17.Last.Kind,vI x17.Last.N,vS x17.Last.S,sF 1 (x17.Last.I.map (aB .i64)),sF 1 (x17.Last.L.map dE)]) (ry:=[vI x17.ID,vI x17.Born,vS x17.Client,vI x17.Seq,sF 4 (x17.Calls.map ah.row),vI (IntKind.i64.wrap (x17.Done+1)),vI r18.Kind,vI r18.N,vS r18.S,sF 1 (r18.I.map (aB .i64)),sF 1 (r18.L.map dE)]) hx15 rfl rfl)) ?_;obtain ⟨r19,hr21,h⟩:=bI h;refine z1 hr21 ?_;apply aS (fun (l21:List aa)=>⟨tab 139 (af (af (af (af (af au 1 (vI a1)) 2 (sF 5 (a2.map Value.row))) 8 (pF 8)) 12 (pF 12)) 14 (vI r19.1)),(upd (upd RZ 8 (vA 3 [.val (.slice none 0 0),.val (.slice none 0 0),.val (.slice none 0 0)])) 12 (vA 3 [sO 11 ((r15.Txns.set ((r16).toNat) (Txn.mk x17.ID x17.Born x17.Client x17.Seq x17.Calls (IntKind.i64.wrap (x17.Done+1)) r18)).map Txn.row),sO 4 (r15.Locks.map ai.row),sO 3 (l21.map aa.rowD)]))⟩)
 ·intro hJ22;refine z0 ?_;refine cMs h (fun hc23 h=>?_) fun hc23 h=>?_
  ·refine aZ (pp (hJ22 _ r15.Stacks ?_ h));exact wR
  obtain ⟨r22,hr24,h⟩:=bI h;have hx25:=yI hr24;refine z1 (k2 hc23 hr24) ?_;refine mi (Ov 12 [(0,2),((r19.1).toNat,2)] 3 (by simp only [go_sem,seval,G0 (row:=aa.rowD) _ hx25]) (by simp only [go_sem,seval,Gc (row:=aa.rowD) hx25 rfl]; try rfl)) (mi (y7 (n:=12) (c':=vA 3 [sO 11 ((r15.Txns.set ((r16).toNat) (Txn.mk x17.ID x17.Born x17.Client x17.Seq x17.Calls (IntKind.i64.wrap (x17.Done+1)) r18)).map Txn.row),sO 4 (r15.Locks.map ai.row),sO 3 (r22.map aa.rowD)]) (by simp only [go_sem,seval]; rfl) (by simp only [V5 (row:=aa.rowD) (rc:=[vS r13.1.Target.Type_,vS r13.1.Target.Key,sO 3 []]) hx25 rfl])) (hJ22 _ r22 ?_ h));exact wR
 intro l21 h;unfold rE at h;obtain ⟨x23,hb26,hx27,h⟩:=aG h;refine z1 hb26 ?_;refine z1 hx27 ?_;apply C5 (fun (l28:List aa) (v29:Int)=>⟨tab 139 (af (af (af (af (af au 2 (sF 5 (a2.map Value.row))) 8 (pF 8)) 12 (pF 12)) 16 (.pref 12 [(0,2)] ((r19.1).toNat) 0)) 17 (vI v29)),(upd (upd RZ 8 (vA 3 [.val (.slice none 0 0),.val (.slice none 0 0),.val (.slice none 0 0)])) 12 (vA 3 [sO 11 ((r15.Txns.set ((r16).toNat) (Txn.mk x17.ID x17.Born x17.Client x17.Seq x17.Calls (IntKind.i64.wrap (x17.Done+1)) r18)).map Txn.row),sO 4 (r15.Locks.map ai.row),sO 3 (l28.map aa.rowD)]))⟩)
 ·intro hJ28;apply aS (fun (c31:Bool)=>⟨tab 139 (af (af (af (af (af (af (af au 1 (vI a1)) 2 (sF 5 (a2.map Value.row))) 8 (pF 8)) 12 (pF 12)) 16 (.pref 12 [(0,2)] ((r19.1).toNat) 0)) 17 (vI (x23.Layers.length:Int))) 114 (vB c31)),(upd (upd RZ 8 (vA 3 [.val (.slice none 0 0),.val (.slice none 0 0),.val (.slice none 0 0)])) 12 (vA 3 [sO 11 ((r15.Txns.set ((r16).toNat) (Txn.mk x17.ID x17.Born x17.Client x17.Seq x17.Calls (IntKind.i64.wrap (x17.Done+1)) r18)).map Txn.row),sO 4 (r15.Locks.map ai.row),sO 3 (l21.map aa.rowD)]))⟩)
  ·intro hJ29;refine iD h (fun hc30 hc30d h=>?_) fun hc30 hc30d h=>?_
   ·refine z1 hc30d ?_;exact hJ29 _ true wR h
   obtain ⟨x32,hb31,hx32,h⟩:=aG h;refine z1 (k4 hx27 hc30d hb31 hx32) ?_;exact hJ29 _ (!decide (x32.Txn_=a1)) wR h
  intro c31 h;unfold uH at h;refine cBs h (fun hc33 h=>?_) fun hc33 h=>?_
  ·refine aZ (pp (hJ28 _ l21 (x23.Layers.length:Int) ?_ h));exact wR
  obtain ⟨ha34,h⟩:=kQ h;simp only [cC,cY,cV,Nat.reduceAdd] at ha34;refine z1 (k5 hx27 hc33 ha34 (ov1 (row:=aa.rowD) (rx:=[vS x23.Actor.Type_,vS x23.Actor.Key,sO 3 (x23.Layers.map al.row)]) hx27 rfl) (k2 (ov2 (row:=aa.rowD) hx27) (ov3 (row:=aa.rowD) hx27))) ?_;refine mi (Ez 12 [(0,2),((r19.1).toNat,2),(x23.Layers.length,1)] 5 (by simp only [go_sem,seval,G0 (row:=aa.rowD) _ hx27,UT]) (by simp only [go_sem,seval,Gc (row:=aa.rowD) hx27 rfl,VS]; try rfl)) (hJ28 _ (l21.set ((r19.1).toNat) (aa.mk x23.Actor (x23.Layers++[(al.mk a1 [] false)]))) (IntKind.i64.wrap ((x23.Layers.length:Int)+1)) ?_ h);refine aW.trans (y7 (n:=12) (c':=vA 3 [sO 11 ((r15.Txns.set ((r16).toNat) (Txn.mk x17.ID x17.Born x17.Client x17.Seq x17.Calls (IntKind.i64.wrap (x17.Done+1)) r18)).map Txn.row),sO 4 (r15.Locks.map ai.row),sO 3 ((l21.set ((r19.1).toNat) (aa.mk x23.Actor (x23.Layers++[(al.mk a1 [] false)]))).map aa.rowD)]) (by simp only [go_sem,seval]; rfl) (by first|(simp only [oA (row:=aa.rowD) (l:=l21) (i:=((r19.1).toNat)) (y:=(aa.mk x23.Actor (x23.Layers++[(al.mk a1 [] false)]))) (rc:=[vS x23.Actor.Type_,vS x23.Actor.Key,sO 3 ((x23.Layers++[(al.mk a1 [] false)]).map al.row)]) rfl]; done)|(simp only [oA (row:=aa.rowD) (l:=l21) (i:=((r19.1).toNat)) (y:=(aa.mk x23.Actor (x23.Layers++[(al.mk a1 [] false)]))) (rc:=[vS x23.Actor.Type_,vS x23.Actor.Key,sO 3 ((x23.Layers++[(al.mk a1 [] false)]).map al.row)]) rfl,nq,nw,xh]<;>rfl)|(rw [<-oA (row:=aa.rowD) (l:=l21) (i:=((r19.1).toNat)) (y:=(aa.mk x23.Actor (x23.Layers++[(al.mk a1 [] false)]))) (rc:=[vS x23.Actor.Type_,vS x23.Actor.Key,sO 3 ((x23.Layers++[(al.mk a1 [] false)]).map al.row)]) rfl]; simp only [nq,nw,xh]<;>rfl))) (aW.trans (vZ (n:=122) ([[vI a1,sF 5 [],vB false]]) (by (try simp only [go_sem]); rfl) (by simp only [go_sem,seval]; rfl) (by simp only [iZ,gR,go_sem]; rfl)) ?_)
  exact wR
 intro l28 v29 h;unfold wZ at h;obtain ⟨x33,hb35,hx36,h⟩:=aG h;obtain ⟨r34,hr37,h⟩:=bI h;obtain ⟨x35,hb38,hx39,h⟩:=aG h;have hx41:=kr (y:=(al.mk x35.Txn_ r34 x35.Prepared)) hx39;refine d1 (k5 hx36 hr37 hb38 hx39 (k2 (mm2 (row:=al.row) (y:=(al.mk x35.Txn_ r34 x35.Prepared)) (rx:=[vI x35.Txn_,sF 5 (x35.Fields.map Value.row),vB x35.Prepared]) (ry:=[vI x35.Txn_,sF 5 (r34.map Value.row),vB x35.Prepared]) hx39 rfl rfl) (ov1 (row:=aa.rowD) (rx:=[vS x33.Actor.Type_,vS x33.Actor.Key,sO 3 (x33.Layers.map al.row)]) hx36 rfl))) ?_;refine aM ?_;refine mi (y7 (n:=12) (c':=vA 3 [sO 11 ((r15.Txns.set ((r16).toNat) (Txn.mk x17.ID x17.Born x17.Client x17.Seq x17.Calls (IntKind.i64.wrap (x17.Done+1)) r18)).map Txn.row),sO 4 (r15.Locks.map ai.row),sO 3 ((l28.set ((r19.1).toNat) (aa.mk x33.Actor (x33.Layers.set ((IntKind.i64.wrap (v29 - 1)).toNat) (al.mk x35.Txn_ r34 x35.Prepared)))).map aa.rowD)]) (by simp only [go_sem,seval]; rfl) (by first|(simp only [oA (row:=aa.rowD) (l:=l28) (i:=((r19.1).toNat)) (y:=(aa.mk x33.Actor (x33.Layers.set ((IntKind.i64.wrap (v29 - 1)).toNat) (al.mk x35.Txn_ r34 x35.Prepared)))) (rc:=[vS x33.Actor.Type_,vS x33.Actor.Key,sO 3 ((x33.Layers.set ((IntKind.i64.wrap (v29 - 1)).toNat) (al.mk x35.Txn_ r34 x35.Prepared)).map al.row)]) rfl]; done)|(simp only [oA (row:=aa.rowD) (l:=l28) (i:=((r19.1).toNat)) (y:=(aa.mk x33.Actor (x33.Layers.set ((IntKind.i64.wrap (v29 - 1)).toNat) (al.mk x35.Txn_ r34 x35.Prepared)))) (rc:=[vS x33.Actor.Type_,vS x33.Actor.Key,sO 3 ((x33.Layers.set ((IntKind.i64.wrap (v29 - 1)).toNat) (al.mk x35.Txn_ r34 x35.Prepared)).map al.row)]) rfl,nq,nw,xh]<;>rfl)|(rw [<-oA (row:=aa.rowD) (l:=l28) (i:=((r19.1).toNat)) (y:=(aa.mk x33.Actor (x33.Layers.set ((IntKind.i64.wrap (v29 - 1)).toNat) (al.mk x35.Txn_ r34 x35.Prepared)))) (rc:=[vS x33.Actor.Type_,vS x33.Actor.Key,sO 3 ((x33.Layers.set ((IntKind.i64.wrap (v29 - 1)).toNat) (al.mk x35.Txn_ r34 x35.Prepared)).map al.row)]) rfl]; simp only [nq,nw,xh]<;>rfl))) (z0 ?_)
 exact f0 h
@[go_sem] def Bh (N:Nat):FnS:=⟨[],false,fn4 ae.decA (aH .i64) (aJ 5 Value.dec) Value.decA fun q0 q1 q2 q3=>(kh N q0 q1 q2 q3).map fun r=>.tup [.agg (ae.row r.1),vI r.2],false⟩
def Aw (N:Nat):az prog 26 (Bh N):=om4 fun q0 q1 q2 q3 r h=>rs (UN N q0 q1 q2 q3 r h)
@[go_sem] def Mm (N d f:Nat):Option FnS:=aw [(12,116,k8 N),(16,124,pt N),(21,125,rX N),(27,126,yr N),(43,117,jY N),(45,120,jR N)] d f
def Mz (N:Nat) (a0:List ai) (a1:Ref) (a2:Int) (r:(List ai) × Int × Int) (h:mG N a0 a1 a2=some r):Con prog 70 [] false [sF 4 (a0.map ai.row),.agg [vS a1.Type_,vS a1.Key],vI a2] (.tup [sO 4 (r.1.map ai.row),vI r.2.1,vI r.2.2]):=by
 refine fk (G:=(Mm N)) func70 (gc 12 (kv N) (gc 16 (rq N) (gc 21 (tI N) (gc 27 (yC N) (gc 43 (jI N) (gc 45 (Co N) gn)))))) ?_;simp only [f70];unfold mG at h;refine z0 ?_;refine aM ?_;apply aS (fun (c9:Bool)=>⟨tab 50 (af (af (af (af au 0 (sF 4 (a0.map ai.row))) 2 (vI a2)) 4 (pF 4)) 23 (vB c9)),(upd RZ 4 (vA 2 [vS a1.Type_,vS a1.Key]))⟩)
 ·intro hJ1;obtain ⟨r10,hr2,h⟩:=bI h;refine iBs h (fun hc3 h=>?_) fun hc3 h=>?_
  ·refine z1 (k2 hr2 hc3) ?_;exact hJ1 _ true wR h
  obtain ⟨r11,hr4,h⟩:=bI h;refine iBs h (fun hc5 h=>?_) fun hc5 h=>?_
  ·refine z1 (k4 hr2 hc3 hr4 hc5) ?_;exact hJ1 _ true wR h
  obtain ⟨r12,hr6,h⟩:=bI h;refine z1 (k5 hr2 hc3 hr4 hc5 hr6) ?_;exact hJ1 _ (!r12) wR h
 intro c9 h;unfold oQ at h;refine cB h (fun hc7 h=>?_) fun hc7 h=>?_
 ·refine z1 hc7 ?_;exact f0 h
 refine aZ (pp ?_);unfold pk at h;obtain ⟨r13,hr8,h⟩:=bI h;refine z1 (k2 hc7 hr8) ?_;refine aM ?_;apply aS (fun (c18:Bool)=>⟨tab 50 (af (af (af au 0 (sF 4 (a0.map ai.row))) 9 (vI r13.1)) 40 (vB c18)),RZ⟩)
 ·intro hJ9;refine iBs h (fun hc10 h=>?_) fun hc10 h=>?_
  ·refine z1 hc10 ?_;exact hJ9 _ true wR h
  obtain ⟨x19,hb11,hx12,h⟩:=aG h;refine z1 (k3 hc10 hb11 hx12) ?_;exact hJ9 _ (!decide (x19.Owner=a2)) wR h
 intro c18 h;unfold kN at h;refine cB h (fun hc13 h=>?_) fun hc13 h=>?_
 ·refine z1 hc13 ?_;exact f0 h
 refine aZ (pp ?_);unfold tH at h;obtain ⟨r20,hr14,h⟩:=bI h;obtain ⟨r21,hr15,h⟩:=bI h;refine z1 (k3 hc13 hr14 hr15) ?_;refine z0 ?_;exact f0 h
@[go_sem] def Cs (N:Nat):FnS:=⟨[],false,fn3 (aJ 4 ai.dec) Ref.decA (aH .i64) fun q0 q1 q2=>(mG N q0 q1 q2).map fun r=>.tup [sO 4 (r.1.map ai.row),vI r.2.1,vI r.2.2],false⟩
def Gp (N:Nat):az prog 70 (Cs N):=om3 (Mz N)
@[go_sem] def OS (N d f:Nat):Option FnS:=aw [(14,23,lS N),(19,40,gC N),(30,68,AS N),(53,69,sY N),(60,59,pZ N),(65,46,vi N),(80,70,Cs N)] d f
def O8 (N:Nat) (a0:ae) (a1:Int) (a2:Ref) (r:ae × Int) (h:fS N a0 a1 a2=some r):Con prog 27 [] false [.agg (ae.row a0),vI a1,.agg [vS a2.Type_,vS a2.Key]] (.tup [.agg [sF 11 (r.1.Txns.map Txn.row),sO 4 (r.1.Locks.map ai.row),sF 3 (r.1.Stacks.map aa.row)],vI r.2]):=by
 refine fk (G:=(OS N)) func27 (gc 14 (j4 N) (gc 19 (eV N) (gc 30 (Cv N) (gc 53 (qW N) (gc 60 (oF N) (gc 65 (uT N) (gc 80 (Gp N) gn))))))) ?_;simp only [f27];unfold fS at h;refine z0 ?_;obtain ⟨r1,hr1,h⟩:=bI h;refine z1 hr1 ?_;refine cM h (fun hc2 h=>?_) fun hc2 h=>?_
 ·refine z1 hc2 ?_;exact f0 h
 obtain ⟨r2,hr3,h⟩:=bI h;refine z1 (k2 hc2 hr3) ?_;refine aM ?_;apply aS (fun (c9:Bool)=>⟨tab 86 (af (af (af (af (af (af au 1 (vI a1)) 3 (pF 3)) 5 (pF 5)) 6 (pF 6)) 8 (vI r2)) 32 (vB c9)),(upd (upd (upd RZ 3 (vA 3 (ae.row a0))) 5 (vA 2 [vS a2.Type_,vS a2.Key])) 6 (vA 3 [.val (.slice none 0 0),.val (.slice none 0 0),.val (.slice none 0 0)]))⟩)
 ·intro hJ4;refine iD h (fun hc5 hc5d h=>?_) fun hc5 hc5d h=>?_
  ·refine d1 hc5d ?_;exact hJ4 _ true wR h
  obtain ⟨x10,hb6,hx7,h⟩:=aG h;obtain ⟨r11,hr8,h⟩:=bI h;refine d1 (k4 hc5d hb6 hx7 hr8) ?_;exact hJ4 _ (!r11) wR h
 intro c9 h;unfold iN at h;refine cB h (fun hc9 h=>?_) fun hc9 h=>?_
 ·refine z1 hc9 ?_;exact f0 h
 refine aZ (pp ?_);unfold kT at h;obtain ⟨x12,hb10,hx11,h⟩:=aG h;refine d1 (k3 hc9 hb10 hx11) ?_;refine cD h (fun hc12 hc12d h=>?_) fun hc12 hc12d h=>?_
 ·refine z1 hc12d ?_;exact f0 h
 obtain ⟨r13,hr13,h⟩:=bI h;refine z1 (k2 hc12d hr13) ?_;refine z0 ?_;refine cB h (fun hc14 h=>?_) fun hc14 h=>?_
 ·refine z1 hc14 ?_;exact f0 h
 obtain ⟨r14,hr15,h⟩:=bI h;refine z1 (k2 hc14 hr15) ?_;obtain ⟨r15,hr16,h⟩:=bI h;obtain ⟨x16,hb17,hx18,h⟩:=aG h;refine d1 (k3 hr16 hb17 hx18) ?_;obtain ⟨x17,hb19,hx20,h⟩:=aG h;have hx22:=kr (y:=(al.mk x17.Txn_ x17.Fields true)) hx20;refine z1 (k5 hx18 hb19 hx20 (mm2 (row:=al.row) (y:=(al.mk x17.Txn_ x17.Fields true)) (rx:=[vI x17.Txn_,sF 5 (x17.Fields.map Value.row),vB x17.Prepared]) (ry:=[vI x17.Txn_,sF 5 (x17.Fields.map Value.row),vB true]) hx20 rfl rfl) (ov1 (row:=aa.rowD) (rx:=[vS x16.Actor.Type_,vS x16.Actor.Key,sO 3 (x16.Layers.map al.row)]) hx18 rfl)) ?_;refine aM ?_;refine mi (y7 (n:=11) (c':=vA 3 [sO 11 (r14.Txns.map Txn.row),sO 4 (r14.Locks.map ai.row),sO 3 ((r14.Stacks.set ((r15).toNat) (aa.mk x16.Actor (x16.Layers.set ((IntKind.i64.wrap ((x16.Layers.length:Int) - 1)).toNat) (al.mk x17.Txn_ x17.Fields true)))).map aa.rowD)]) (by simp only [go_sem,seval]; rfl) (by first|(simp only [oA (row:=aa.rowD) (l:=r14.Stacks) (i:=((r15).toNat)) (y:=(aa.mk x16.Actor (x16.Layers.set ((IntKind.i64.wrap ((x16.Layers.length:Int) - 1)).toNat) (al.mk x17.Txn_ x17.Fields true)))) (rc:=[vS x16.Actor.Type_,vS x16.Actor.Key,sO 3 ((x16.Layers.set ((IntKind.i64.wrap ((x16.Layers.length:Int) - 1)).toNat) (al.mk x17.Txn_ x17.Fields true)).map al.row)]) rfl]; done)|(simp only [oA (row:=aa.rowD) (l:=r14.Stacks) (i:=((r15).toNat)) (y:=(aa.mk x16.Actor (x16.Layers.set ((IntKind.i64.wrap ((x16.Layers.length:Int) - 1)).toNat) (al.mk x17.Txn_ x17.Fields true)))) (rc:=[vS x16.Actor.Type_,vS x16.Actor.Key,sO 3 ((x16.Layers.set ((IntKind.i64.wrap ((x16.Layers.length:Int) - 1)).toNat) (al.mk x17.Txn_ x17.Fields true)).map al.row)]) rfl,nq,nw,xh]<;>rfl)|(rw [<-oA (row:=aa.rowD) (l:=r14.Stacks) (i:=((r15).toNat)) (y:=(aa.mk x16.Actor (x16.Layers.set ((IntKind.i64.wrap ((x16.Layers.length:Int) - 1)).toNat) (al.mk x17.Txn_ x17.Fields true)))) (rc:=[vS x16.Actor.Type_,vS x16.Actor.Key,sO 3 ((x16.Layers.set ((IntKind.i64.wrap ((x16.Layers.length:Int) - 1)).toNat) (al.mk x17.Txn_ x17.Fields true)).map al.row)]) rfl]; simp only [nq,nw,xh]<;>rfl))) (mi (Qc (n:=11) (by simp only [go_sem,seval]; rfl) (by simp only [iZ,gR,go_sem]; rfl)) ?_)
 obtain ⟨r18,hr23,h⟩:=bI h;refine z1 hr23 ?_;refine z0 ?_;exact f0 h
@[go_sem] def wy (N:Nat):FnS:=⟨[],false,fn3 ae.decA (aH .i64) Ref.decA fun q0 q1 q2=>(fS N q0 q1 q2).map fun r=>.tup [.agg (ae.row r.1),vI r.2],false⟩
def wM (N:Nat):az prog 27 (wy N):=om3 fun q0 q1 q2 r h=>rs (O8 N q0 q1 q2 r h)
@[go_sem] def Q3 (N d f:Nat):Option FnS:=aw [(8,46,vi N),(17,47,uR N)] d f
def PM (N:Nat) (a0:ae) (a1:Ref) (r:List al) (h:lE N a0 a1=some r):Con prog 15 [] false [.agg (ae.row a0),.agg [vS a1.Type_,vS a1.Key]] (sO 3 (r.map al.row)):=by
 refine fk (G:=(Q3 N)) func15 (gc 8 (uT N) (gc 17 (yc N) gn)) ?_;simp only [f15];unfold lE at h;refine z0 ?_;obtain ⟨r1,hr1,h⟩:=bI h;refine z1 hr1 ?_;refine z0 ?_;refine cD h (fun hc2 hc2d h=>?_) fun hc2 hc2d h=>?_
 ·obtain ⟨x2,hb3,hx4,h⟩:=aG h;obtain ⟨r3,hr5,h⟩:=bI h;refine z1 (k3 hb3 hx4 hr5) ?_;exact f0 h
 refine z1 hc2d ?_;exact f0 h
@[go_sem] def Ca (N:Nat):FnS:=⟨[],false,fn2 ae.decA Ref.decA fun q0 q1=>(lE N q0 q1).map fun r=>sF 3 (r.map al.row),false⟩
def Dt (N:Nat):az prog 15 (Ca N):=om2 fun q0 q1 r h=>rs (PM N q0 q1 r h)
@[go_sem] def K0 (N d f:Nat):Option FnS:=aw [(13,69,sY N)] d f
def LF (N:Nat) (a0:ah) (c0_0:List Txn) (c0_1:List ai) (c0_2:List aa) (c1_0:Int) (c1_1:Int) (c1_2:ByteArray) (c1_3:Int) (c1_4:List ah) (c1_5:Int) (c1_6:Int) (c1_7:Int) (c1_8:ByteArray) (c1_9:List Int) (c1_10:List ByteArray) (r:Bool) (h:lv N a0 c0_0 c0_1 c0_2 c1_0 c1_1 c1_2 c1_3 c1_4 c1_5 c1_6 c1_7 c1_8 c1_9 c1_10=some r):Con prog 142 [] true [.agg (ah.row a0),.iref 3 [[sF 11 (c0_0.map Txn.row),sF 4 (c0_1.map ai.row),sF 3 (c0_2.map aa.row)]] 0 0,.iref 11 [[vI c1_0,vI c1_1,vS c1_2,vI c1_3,sF 4 (c1_4.map ah.row),vI c1_5,vI c1_6,vI c1_7,vS c1_8,sF 1 (c1_9.map (aB .i64)),sF 1 (c1_10.map dE)]] 0 0] (vB r):=by
 refine fk (G:=(K0 N)) func142 (gc 13 (qW N) gn) ?_;simp only [f142];unfold lv at h;refine z0 ?_;obtain ⟨r1,hr1,h⟩:=bI h;refine z1 hr1 ?_;refine iBs h (fun hc2 h=>?_) fun hc2 h=>?_
 ·refine z1 hc2 ?_;exact e0 h
 refine z1 hc2 ?_;exact e0 h
@[go_sem] def wP (N:Nat):FnS:={ own:=[],pure:=true,fn:=fun cs=>match cs with
 | [c0,.iref 3 [[c1_0,c1_1,c1_2]] 0 0,.iref 11 [[c2_0,c2_1,c2_2,c2_3,c2_4,c2_5,c2_6,c2_7,c2_8,c2_9,c2_10]] 0 0]=>(ah.decA c0).bind fun qc0=>((aJ 11 Txn.dec) c1_0).bind fun qc1_0=>((aJ 4 ai.dec) c1_1).bind fun qc1_1=>((aJ 3 aa.dec) c1_2).bind fun qc1_2=>((aH .i64) c2_0).bind fun qc2_0=>((aH .i64) c2_1).bind fun qc2_1=>(bR c2_2).bind fun qc2_2=>((aH .i64) c2_3).bind fun qc2_3=>((aJ 4 ah.dec) c2_4).bind fun qc2_4=>((aH .i64) c2_5).bind fun qc2_5=>((aH .i64) c2_6).bind fun qc2_6=>((aH .i64) c2_7).bind fun qc2_7=>(bR c2_8).bind fun qc2_8=>((aJ 1 (dq (aH .i64))) c2_9).bind fun qc2_9=>((aJ 1 (dq bR)) c2_10).bind fun qc2_10=>(lv N qc0 qc1_0 qc1_1 qc1_2 qc2_0 qc2_1 qc2_2 qc2_3 qc2_4 qc2_5 qc2_6 qc2_7 qc2_8 qc2_9 qc2_10).map fun r=>vB r
 | _=>none }
def GB (N:Nat):az prog 142 (wP N):=by
 refine ⟨fun cs r h=>?_,fun h=>by cases h⟩;simp only [wP] at h;split at h
 ·simp only [ck,cj] at h;obtain ⟨q0,h0,q1,h1,q2,h2,q3,h3,q4,h4,q5,h5,q6,h6,q7,h7,q8,h8,q9,h9,q10,h10,q11,h11,q12,h12,q13,h13,q14,h14,r',hr,rfl⟩:=h;exact (ag (LF N q0 q1 q2 q3 q4 q5 q6 q7 q8 q9 q10 q11 q12 q13 q14 r' hr))
 ·cases h
@[go_sem] def rJ (N d f:Nat):Option FnS:=aw [(16,142,wP N)] d f
def rR (N:Nat) (a0:List ah) (k1_0_0:List Txn) (k1_0_1:List ai) (k1_0_2:List aa) (k1_1_0:Int) (k1_1_1:Int) (k1_1_2:ByteArray) (k1_1_3:Int) (k1_1_4:List ah) (k1_1_5:Int) (k1_1_6:Int) (k1_1_7:Int) (k1_1_8:ByteArray) (k1_1_9:List Int) (k1_1_10:List ByteArray) (r:Int) (h:bY N a0 k1_0_0 k1_0_1 k1_0_2 k1_1_0 k1_1_1 k1_1_2 k1_1_3 k1_1_4 k1_1_5 k1_1_6 k1_1_7 k1_1_8 k1_1_9 k1_1_10=some r):Con prog 203 [] true [sF 4 (a0.map ah.row),.clo 142 [.iref 3 [[sF 11 (k1_0_0.map Txn.row),sF 4 (k1_0_1.map ai.row),sF 3 (k1_0_2.map aa.row)]] 0 0,.iref 11 [[vI k1_1_0,vI k1_1_1,vS k1_1_2,vI k1_1_3,sF 4 (k1_1_4.map ah.row),vI k1_1_5,vI k1_1_6,vI k1_1_7,vS k1_1_8,sF 1 (k1_1_9.map (aB .i64)),sF 1 (k1_1_10.map dE)]] 0 0]] (vI r):=by
 refine fk (G:=(rJ N)) func203 (gc 16 (GB N) gn) ?_;simp only [f203];unfold bY at h;refine z0 ?_;refine z0 ?_;refine lT 0 (fun (v2:Nat) (b:Unit)=>⟨tab 19 (af (af (af (af au 0 (sF 4 (a0.map ah.row))) 1 (.clo 142 [.iref 3 [[sF 11 (k1_0_0.map Txn.row),sF 4 (k1_0_1.map ai.row),sF 3 (k1_0_2.map aa.row)]] 0 0,.iref 11 [[vI k1_1_0,vI k1_1_1,vS k1_1_2,vI k1_1_3,sF 4 (k1_1_4.map ah.row),vI k1_1_5,vI k1_1_6,vI k1_1_7,vS k1_1_8,sF 1 (k1_1_9.map (aB .i64)),sF 1 (k1_1_10.map dE)]] 0 0])) 7 (vI (a0.length:Int))) 8 (vI (v2:Int))),RZ⟩) () h ?_ ?_
 ·rintro v2 ⟨⟩ hi3' h;simp only [bE] at h;refine z1 hi3' ?_;refine cf ?_;refine z0 ?_;exact e0 h
 rintro v2 ⟨⟩ x5 hi3' hx4 hw5 h;simp only [bE] at h;refine z1 hi3' ?_;refine ct ?_;refine z0 ?_;obtain ⟨r1,hr7,h⟩:=bI h;refine z1 (k3 hx4 hi3' hr7) ?_;refine cB h (fun hc8 h=>?_) fun hc8 h=>?_
 ·refine z1 hc8 ?_;exact e0 h
 refine z1 (k2 hw5 hc8) ?_;refine ⟨hi3',(),?_,h⟩;exact wR
@[go_sem] def fj (N:Nat):FnS:={ own:=[],pure:=true,fn:=fun cs=>match cs with
 | [c0,.clo 142 [.iref 3 [[k1_0_0,k1_0_1,k1_0_2]] 0 0,.iref 11 [[k1_1_0,k1_1_1,k1_1_2,k1_1_3,k1_1_4,k1_1_5,k1_1_6,k1_1_7,k1_1_8,k1_1_9,k1_1_10]] 0 0]]=>((aJ 4 ah.dec) c0).bind fun qc0=>((aJ 11 Txn.dec) k1_0_0).bind fun qk1_0_0=>((aJ 4 ai.dec) k1_0_1).bind fun qk1_0_1=>((aJ 3 aa.dec) k1_0_2).bind fun qk1_0_2=>((aH .i64) k1_1_0).bind fun qk1_1_0=>((aH .i64) k1_1_1).bind fun qk1_1_1=>(bR k1_1_2).bind fun qk1_1_2=>((aH .i64) k1_1_3).bind fun qk1_1_3=>((aJ 4 ah.dec) k1_1_4).bind fun qk1_1_4=>((aH .i64) k1_1_5).bind fun qk1_1_5=>((aH .i64) k1_1_6).bind fun qk1_1_6=>((aH .i64) k1_1_7).bind fun qk1_1_7=>(bR k1_1_8).bind fun qk1_1_8=>((aJ 1 (dq (aH .i64))) k1_1_9).bind fun qk1_1_9=>((aJ 1 (dq bR)) k1_1_10).bind fun qk1_1_10=>(bY N qc0 qk1_0_0 qk1_0_1 qk1_0_2 qk1_1_0 qk1_1_1 qk1_1_2 qk1_1_3 qk1_1_4 qk1_1_5 qk1_1_6 qk1_1_7 qk1_1_8 qk1_1_9 qk1_1_10).map fun r=>vI r
 | _=>none }
def pD (N:Nat):az prog 203 (fj N):=by
 refine ⟨fun cs r h=>?_,fun h=>by cases h⟩;simp only [fj] at h;split at h
 ·simp only [ck,cj] at h;obtain ⟨q0,h0,q1,h1,q2,h2,q3,h3,q4,h4,q5,h5,q6,h6,q7,h7,q8,h8,q9,h9,q10,h10,q11,h11,q12,h12,q13,h13,q14,h14,r',hr,rfl⟩:=h;exact (ag (rR N q0 q1 q2 q3 q4 q5 q6 q7 q8 q9 q10 q11 q12 q13 q14 r' hr))
 ·cases h
@[go_sem] def pL (N d f:Nat):Option FnS:=aw [(7,203,fj N)] d f
def pQ (N:Nat) (a0:List ah) (k1_0_0:List Txn) (k1_0_1:List ai) (k1_0_2:List aa) (k1_1_0:Int) (k1_1_1:Int) (k1_1_2:ByteArray) (k1_1_3:Int) (k1_1_4:List ah) (k1_1_5:Int) (k1_1_6:Int) (k1_1_7:Int) (k1_1_8:ByteArray) (k1_1_9:List Int) (k1_1_10:List ByteArray) (r:Bool) (h:bC N a0 k1_0_0 k1_0_1 k1_0_2 k1_1_0 k1_1_1 k1_1_2 k1_1_3 k1_1_4 k1_1_5 k1_1_6 k1_1_7 k1_1_8 k1_1_9 k1_1_10=some r):Con prog 140 [] true [sF 4 (a0.map ah.row),.clo 142 [.iref 3 [[sF 11 (k1_0_0.map Txn.row),sF 4 (k1_0_1.map ai.row),sF 3 (k1_0_2.map aa.row)]] 0 0,.iref 11 [[vI k1_1_0,vI k1_1_1,vS k1_1_2,vI k1_1_3,sF 4 (k1_1_4.map ah.row),vI k1_1_5,vI k1_1_6,vI k1_1_7,vS k1_1_8,sF 1 (k1_1_9.map (aB .i64)),sF 1 (k1_1_10.map dE)]] 0 0]] (vB r):=by
 refine fk (G:=(pL N)) func140 (gc 7 (pD N) gn) ?_;simp only [f140];unfold bC at h;refine z0 ?_;obtain ⟨r1,hr1,h⟩:=bI h;refine z1 hr1 ?_;exact e0 h
@[go_sem] def eJ (N:Nat):FnS:={ own:=[],pure:=true,fn:=fun cs=>match cs with
 | [c0,.clo 142 [.iref 3 [[k1_0_0,k1_0_1,k1_0_2]] 0 0,.iref 11 [[k1_1_0,k1_1_1,k1_1_2,k1_1_3,k1_1_4,k1_1_5,k1_1_6,k1_1_7,k1_1_8,k1_1_9,k1_1_10]] 0 0]]=>((aJ 4 ah.dec) c0).bind fun qc0=>((aJ 11 Txn.dec) k1_0_0).bind fun qk1_0_0=>((aJ 4 ai.dec) k1_0_1).bind fun qk1_0_1=>((aJ 3 aa.dec) k1_0_2).bind fun qk1_0_2=>((aH .i64) k1_1_0).bind fun qk1_1_0=>((aH .i64) k1_1_1).bind fun qk1_1_1=>(bR k1_1_2).bind fun qk1_1_2=>((aH .i64) k1_1_3).bind fun qk1_1_3=>((aJ 4 ah.dec) k1_1_4).bind fun qk1_1_4=>((aH .i64) k1_1_5).bind fun qk1_1_5=>((aH .i64) k1_1_6).bind fun qk1_1_6=>((aH .i64) k1_1_7).bind fun qk1_1_7=>(bR k1_1_8).bind fun qk1_1_8=>((aJ 1 (dq (aH .i64))) k1_1_9).bind fun qk1_1_9=>((aJ 1 (dq bR)) k1_1_10).bind fun qk1_1_10=>(bC N qc0 qk1_0_0 qk1_0_1 qk1_0_2 qk1_1_0 qk1_1_1 qk1_1_2 qk1_1_3 qk1_1_4 qk1_1_5 qk1_1_6 qk1_1_7 qk1_1_8 qk1_1_9 qk1_1_10).map fun r=>vB r
 | _=>none }
def mL (N:Nat):az prog 140 (eJ N):=by
 refine ⟨fun cs r h=>?_,fun h=>by cases h⟩;simp only [eJ] at h;split at h
 ·simp only [ck,cj] at h;obtain ⟨q0,h0,q1,h1,q2,h2,q3,h3,q4,h4,q5,h5,q6,h6,q7,h7,q8,h8,q9,h9,q10,h10,q11,h11,q12,h12,q13,h13,q14,h14,r',hr,rfl⟩:=h;exact (ag (pQ N q0 q1 q2 q3 q4 q5 q6 q7 q8 q9 q10 q11 q12 q13 q14 r' hr))
 ·cases h
@[go_sem] def Nv (N d f:Nat):Option FnS:=aw [(8,140,eJ N)] d f
def N1 (N:Nat) (a0:ae) (a1:Txn) (r:Bool) (h:sG N a0 a1=some r):Con prog 73 [] true [.agg (ae.row a0),.agg (Txn.row a1)] (vB r):=by
 refine fk (G:=(Nv N)) func73 (gc 8 (mL N) gn) ?_;simp only [f73];unfold sG at h;refine z0 ?_;obtain ⟨r1,hr1,h⟩:=bI h;refine z1 hr1 ?_;exact e0 h
@[go_sem] def Ex (N:Nat):FnS:=⟨[],true,fn2 ae.decA Txn.decA fun q0 q1=>(sG N q0 q1).map fun r=>vB r,false⟩
def Iy (N:Nat):az prog 73 (Ex N):=om2 (N1 N)
@[go_sem] def Mf (N d f:Nat):Option FnS:=aw [(13,73,Ex N),(19,74,DP N)] d f
def MG (N:Nat) (a0:Txn) (c0_0:List Txn) (c0_1:List ai) (c0_2:List aa) (r:Bool) (h:mF N a0 c0_0 c0_1 c0_2=some r):Con prog 72 [] true [.agg (Txn.row a0),.iref 3 [[sF 11 (c0_0.map Txn.row),sF 4 (c0_1.map ai.row),sF 3 (c0_2.map aa.row)]] 0 0] (vB r):=by
 refine fk (G:=(Mf N)) func72 (gc 13 (Iy N) (gc 19 (Er N) gn)) ?_;simp only [f72];unfold mF at h;refine z0 ?_;refine iDs h (fun hc1 hc1d h=>?_) fun hc1 hc1d h=>?_
 ·refine z1 hc1d ?_;exact e0 h
 obtain ⟨r1,hr2,h⟩:=bI h;refine iB h (fun hc3 h=>?_) fun hc3 h=>?_
 ·obtain ⟨r2,hr4,h⟩:=bI h;refine z1 (k4 hc1d hr2 hc3 hr4) ?_;exact e0 h
 refine z1 (k3 hc1d hr2 hc3) ?_;exact e0 h
@[go_sem] def yJ (N:Nat):FnS:={ own:=[],pure:=true,fn:=fun cs=>match cs with
 | [c0,.iref 3 [[c1_0,c1_1,c1_2]] 0 0]=>(Txn.decA c0).bind fun qc0=>((aJ 11 Txn.dec) c1_0).bind fun qc1_0=>((aJ 4 ai.dec) c1_1).bind fun qc1_1=>((aJ 3 aa.dec) c1_2).bind fun qc1_2=>(mF N qc0 qc1_0 qc1_1 qc1_2).map fun r=>vB r
 | _=>none }
def HQ (N:Nat):az prog 72 (yJ N):=by
 refine ⟨fun cs r h=>?_,fun h=>by cases h⟩;simp only [yJ] at h;split at h
 ·simp only [ck,cj] at h;obtain ⟨q0,h0,q1,h1,q2,h2,q3,h3,r',hr,rfl⟩:=h;exact (ag (MG N q0 q1 q2 q3 r' hr))
 ·cases h
@[go_sem] def vg (N d f:Nat):Option FnS:=aw [(16,72,yJ N)] d f
def vy (N:Nat) (a0:List Txn) (k1_0_0:List Txn) (k1_0_1:List ai) (k1_0_2:List aa) (r:Int) (h:dY N a0 k1_0_0 k1_0_1 k1_0_2=some r):Con prog 71 [] true [sF 11 (a0.map Txn.row),.clo 72 [.iref 3 [[sF 11 (k1_0_0.map Txn.row),sF 4 (k1_0_1.map ai.row),sF 3 (k1_0_2.map aa.row)]] 0 0]] (vI r):=by
 refine fk (G:=(vg N)) func71 (gc 16 (HQ N) gn) ?_;simp only [f71];unfold dY at h;refine z0 ?_;refine z0 ?_;refine lT 0 (fun (v2:Nat) (b:Unit)=>⟨tab 19 (af (af (af (af au 0 (sF 11 (a0.map Txn.row))) 1 (.clo 72 [.iref 3 [[sF 11 (k1_0_0.map Txn.row),sF 4 (k1_0_1.map ai.row),sF 3 (k1_0_2.map aa.row)]] 0 0])) 7 (vI (a0.length:Int))) 8 (vI (v2:Int))),RZ⟩) () h ?_ ?_
 ·rintro v2 ⟨⟩ hi3' h;simp only [dH] at h;refine z1 hi3' ?_;refine cf ?_;refine z0 ?_;exact e0 h
 rintro v2 ⟨⟩ x5 hi3' hx4 hw5 h;simp only [dH] at h;refine z1 hi3' ?_;refine ct ?_;refine z0 ?_;obtain ⟨r1,hr7,h⟩:=bI h;refine z1 (k3 hx4 hi3' hr7) ?_;refine cB h (fun hc8 h=>?_) fun hc8 h=>?_
 ·refine z1 hc8 ?_;exact e0 h
 refine z1 (k2 hw5 hc8) ?_;refine ⟨hi3',(),?_,h⟩;exact wR
@[go_sem] def gV (N:Nat):FnS:={ own:=[],pure:=true,fn:=fun cs=>match cs with
 | [c0,.clo 72 [.iref 3 [[k1_0_0,k1_0_1,k1_0_2]] 0 0]]=>((aJ 11 Txn.dec) c0).bind fun qc0=>((aJ 11 Txn.dec) k1_0_0).bind fun qk1_0_0=>((aJ 4 ai.dec) k1_0_1).bind fun qk1_0_1=>((aJ 3 aa.dec) k1_0_2).bind fun qk1_0_2=>(dY N qc0 qk1_0_0 qk1_0_1 qk1_0_2).map fun r=>vI r
 | _=>none }
def tF (N:Nat):az prog 71 (gV N):=by
 refine ⟨fun cs r h=>?_,fun h=>by cases h⟩;simp only [gV] at h;split at h
 ·simp only [ck,cj] at h;obtain ⟨q0,h0,q1,h1,q2,h2,q3,h3,r',hr,rfl⟩:=h;exact (ag (vy N q0 q1 q2 q3 r' hr))
 ·cases h
def G5 (N:Nat) (a0:List Ref) (r:List Ref) (h:jw N a0=some r):Con prog 44 [true] true [sO 2 (a0.map Ref.row)] (sO 2 (r.map Ref.row)):=by
 refine As (G:=(aw [])) (L:=noL) func44 rfl (by decide) (by kernel_rfl) gn (fun _ _ _ h=>by cases h) [] mix (na rfl) ?_;rw [show gh [true] [sO 2 (a0.map Ref.row)]=(af au 0 (.pal 0 [] 0 a0.length none)) from by funext t; match t with|0=>simp [gh,iT,jU,af]|t+1=>rfl];rw [show R0 [true] [sO 2 (a0.map Ref.row)]=upd RZ 0 (sO 2 (a0.map Ref.row)) from by funext t; match t with|0=>rfl|t+1=>rfl];simp only [f44];unfold jw at h;refine z0 ?_;refine z0 ?_;refine cD h (fun hc1 hc1d h=>?_) fun hc1 hc1d h=>?_
 ·refine z1 hc1d ?_;refine fe (pp ?_);cases h;simp only [go_sem,seval,dU];exact ⟨_,rfl,gI.h,qz.h,qy.h⟩
 refine z1 hc1d ?_;refine aT (gZ fun hreal3=>?_);have hl2:=hreal3.lenX 0 (by simp only [go_sem,seval]; rfl);rw [cx] at hl2;refine oO (fun (v3:Nat) (b:Unit)=>⟨tab 61 (af (af au 0 (.pal 0 [] 0 a0.length none)) 3 (vI (v3:Int))),(upd RZ 0 (sO 2 (a0.map Ref.row)))⟩) () h ?_ ?_
 ·exact wF hc1d
 rintro v3 ⟨⟩ _ h -;rcases (jh a0.length v3).symm with ⟨hi4',hd7⟩|⟨hi4',hd7⟩
 ·rw [hd7] at h;simp only [gW] at h;refine z1 hi4' ?_;refine cf ?_;refine z0 ?_;refine fe (pp ?_);cases h;simp only [go_sem,seval,dU];exact ⟨_,rfl,gI.h,qz.h,qy.h⟩
 rw [hd7] at h;simp only [gW] at h;have hw6:=eH hi4' hl2;refine z1 hi4' ?_;refine ct ?_;obtain ⟨x1,hb8,hx9,h⟩:=aG h;try simp only [cH] at hx9
 try simp only [nI,nJ,true_and] at hb8
 obtain ⟨x2,hb10,hx11,h⟩:=aG h;refine d1 (k4 hi4' hx9 hb10 hx11) ?_;refine cBs h (fun hc12 h=>?_) fun hc12 h=>?_
 ·refine z1 (k2 hw6 hc12) ?_;refine ⟨hi4',(),?_,h⟩;exact wF (k5 hc1d hi4' hw6 hb8 (k4 hx9 hb10 hx11 hc12))
 obtain ⟨hs13,h⟩:=iV h;try simp only [cH] at hs13 h
 refine z1 (k3 hc12 hs13 @cT) ?_;refine z0 ?_;refine aT (gl (fun (b:List Ref × Int × Int)=>⟨tab 61 (af (af (af (af au 0 (.pal 0 [] 0 b.1.length none)) 3 (vI b.2.1)) 4 (.pal 0 [] v3 (a0.length - v3) none)) 5 (vI b.2.2)),(upd RZ 0 (sO 2 (b.1.map Ref.row)))⟩) (a0,(v3:Int),1) h ?_ ?_)
 ·exact wF (k5 hc1d hi4' hw6 hb8 (k5 hx9 hb10 hx11 hc12 (k3 hs13 @cU @cT)))
 rintro n ⟨l12,v13,v14⟩ h -;cases n with
 | zero=>simp [fK] at h
 | succ n=>
 simp only [fK] at h;refine z0 ?_;refine cDs h (fun hc14 hc14d h=>?_) fun hc14 hc14d h=>?_
 ·refine gi (pp ?_);unfold jL at h;refine aM ?_;obtain ⟨hs24,h⟩:=iV h;try simp only [cH] at hs24 h
  refine iL fun Z hZ=>?_;simp only [go_sem,seval,cT,hc14d,hs24,Qf (row:=Ref.row) (z:=(Ref.mk (⟨#[]⟩) (⟨#[]⟩))) (rz:=[vS (⟨#[]⟩),vS (⟨#[]⟩)]) (k:=(v13).toNat) (l:=l12) (by have:=hs24; omega) rfl,fX,yh,dB,aF.allD Ref.row_ok];refine hZ _ (pp (aM ?_));obtain ⟨hs25,h⟩:=iV h;try simp only [xr] at hs25 h
  refine iL fun Z hZ=>?_;simp only [go_sem,seval,cU,hs24,tD,hs25];refine hZ _ (pp (fe (pp ?_)));cases h;simp only [go_sem,seval,dU];exact ⟨_,rfl,gI.h,qz.h,qy.h⟩
 obtain ⟨x16,hb15,hx16,h⟩:=aG h;obtain ⟨x17,hb17,hx18,h⟩:=aG h;refine d1 (k5 hb15 (F3 hx16) (Ib hb15) hb17 (k2 (F3 hx18) (Ib hb17))) ?_;refine cMs h (fun hc19 h=>?_) fun hc19 h=>?_
 ·refine z1 hc19 ?_;refine ⟨_,cZ _,(l12,v13,IntKind.i64.wrap (v14+1)),?_,h⟩;exact wF (k5 hc1d hi4' hw6 hb8 (k5 hx9 hb10 hx11 hc12 (k5 hs13 @cU @cT hc14d (k5 hb15 hx16 (F3 hx16) (Ib hb15) (k5 hb17 hx18 (F3 hx18) (Ib hb17) hc19)))))
 obtain ⟨x18,hb20,hx21,h⟩:=aG h;have hx23:=kr (y:=x16) hx21;refine z1 (k5 hb15 (Ib hb15) hc19 (F3 hx16) (k3 hb20 hx21 (mm2 (row:=Ref.row) (y:=x16) (rx:=[vS x18.Type_,vS x18.Key]) (ry:=[vS x16.Type_,vS x16.Key]) hx21 rfl rfl))) ?_;refine z0 ?_;refine z0 ?_;refine ⟨_,cZ _,((l12.set ((v13).toNat) x16),IntKind.i64.wrap (v13+1),IntKind.i64.wrap (v14+1)),?_,h⟩;refine wr ?_ ?_<;>repeat' first|rfl|constructor|simp only [go_sem,seval,hU]
def fg (N:Nat):FnS:={ own:=[true],pure:=true,fn:=fun cs=>match cs with
 | [c0]=>((vK 2 Ref.dec) c0).bind fun q0=>(jw N q0).map fun r=>sO 2 (r.map Ref.row)
 | _=>none }
theorem Cd (N:Nat):(fg N).own=[true]:=rfl
theorem BH (N:Nat):(fg N).pure=true:=rfl
theorem Bu (N:Nat):(fg N).peek=false:=rfl
attribute [go_sem] fg Cd BH Bu
def CF (N:Nat):az prog 44 (fg N):=by
 refine ⟨fun cs r h=>?_,fun h=>by cases h⟩;simp only [fg] at h;split at h
 ·simp only [ck,cj] at h;obtain ⟨q0,h0,r',hr,rfl⟩:=h;exact (G5 N q0 r' hr).argsO rfl (jE (qc Ref.row_ok Ref.dec_le h0) (oa))
 ·cases h
@[go_sem] def om (N d f:Nat):Option FnS:=aw [(32,43,vX N)] d f
def gF (N:Nat) (a0:List Ref) (a1:Int) (a2:Int) (r:List Ref) (h:be N a0 a1 a2=some r):(r).length=a0.length:=by
 unfold be at h; exact (kA h).2
def ou (N:Nat) (a0:List Ref) (a1:Int) (a2:Int) (r:List Ref) (h:be N a0 a1 a2=some r):my prog 173 1 [sO 2 (a0.map Ref.row),vI a1,vI a2,.clo 43 []] (.tup []) [sO 2 (r.map Ref.row)]:=by
 unfold be at h;obtain ⟨h,hlen⟩:=kA h;refine yW (G:=(om N)) (L:=noL) func173 rfl (by decide) (by kernel_rfl) 1 (by kernel_rfl) (gc 32 (wI N) gn) (fun _ _ _ h=>by cases h) [] mix (na rfl) (na rfl) rfl (by simp [dG,hlen]) ?_;simp only [f173];refine z0 ?_;refine aT (gl (fun (b:Int)=>⟨tab 53 (af (af (af (af (af au 0 (.pal 0 [] 0 a0.length none)) 1 (vI a1)) 2 (vI a2)) 3 (.clo 43 [])) 8 (vI b)),(upd RZ 0 (sO 2 (a0.map Ref.row)))⟩) (IntKind.i64.wrap (a1+1)) h ?_ ?_)
 ·exact wR
 rintro n v1 h -;cases n with
 | zero=>simp [bW] at h
 | succ n=>
 simp only [bW] at h;refine z0 ?_;refine cDs h (fun hc1 hc1d h=>?_) fun hc1 hc1d h=>?_
 ·refine gi (pp ?_);obtain rfl:=nf h;refine CW (.inr rfl) (aW.refl _) (by simp only [go_sem,seval,hc1d]; rfl) (by simp only [go_sem,seval]; rfl) (by (try simp only [go_sem,seval]); first|exact Le.refl _|exact LeI.h) ?_;exact CY (by simp only [go_sem,seval,hc1d]<;>rfl) (by simp only [go_sem,seval]<;>rfl) (FU)
 refine z1 hc1d ?_;refine aT (gl (fun (b:Unit)=>⟨tab 53 (af (af (af (af (af (af au 0 (.pal 0 [] 0 a0.length none)) 1 (vI a1)) 2 (vI a2)) 3 (.clo 43 [])) 8 (vI v1)) 9 (vI v1)),(upd RZ 0 (sO 2 (a0.map Ref.row)))⟩) () h ?_ ?_)
 ·exact wR
 rintro n ⟨⟩ h -;cases n with
 | zero=>simp [ei] at h
 | succ n=>
 simp only [ei] at h;refine aM ?_;apply aS (fun (c9:Bool)=>⟨tab 53 (af (af (af (af (af (af (af au 0 (.pal 0 [] 0 a0.length none)) 1 (vI a1)) 2 (vI a2)) 3 (.clo 43 [])) 8 (vI v1)) 9 (vI v1)) 34 (vB c9)),(upd RZ 0 (sO 2 (a0.map Ref.row)))⟩)
 ·intro hJ2;refine iDs h (fun hc3 hc3d h=>?_) fun hc3 hc3d h=>?_
  ·refine d1 hc3d ?_;exact hJ2 _ false wR h
  obtain ⟨x10,hb4,hx5,h⟩:=aG h;obtain ⟨x11,hb6,hx7,h⟩:=aG h;obtain ⟨r12,hr8,h⟩:=bI h;refine d1 (k5 hc3d hb4 hx5 hb6 (k2 hx7 hr8)) ?_;exact hJ2 _ (decide (r12 < 0)) wR h
 intro c9 h;unfold en at h;refine cB h (fun hc9 h=>?_) fun hc9 h=>?_
 ·refine aZ (pp ?_);unfold ek at h;refine aM (aT ?_);obtain ⟨x13,hb10,hx11,h⟩:=aG h;obtain ⟨x14,hb12,hx13,h⟩:=aG h;cases h
 refine z1 hc9 ?_;refine ⟨_,cZ _,(IntKind.i64.wrap (v1+1)),?_,h⟩;exact wR
@[go_sem] def ej (N:Nat):FnL:=⟨1,fun cs rest=>match cs,rest with
 | [v0],[c1,c2,.clo 43 []]=>(Dm 2 Ref.dec v0).bind fun q0=>((aH .i64) c1).bind fun q1=>((aH .i64) c2).bind fun q2=>(be N q0 q1 q2).map fun r=>(.tup [],[sO 2 (r.map Ref.row)])
 | _,_=>none,false⟩
def lX (N:Nat):wL prog 173 (ej N):=by
 refine Ii (xI _) rfl ?_;intro cs rest r ls hlen h;simp only [ej] at h;split at h
 ·simp only [ck,cj] at h;obtain ⟨q0,h0,q1,h1,q2,h2,r',hr,he⟩:=h;cases he;exact my.told rfl rfl (y6 (zd Ref.row_ok Ref.dec_le h0) (BT)) (LeL.cons (bz h1) (LeL.cons (bz h2) (LeL.cons (Le.clo (LeL.nil)) (LeL.nil)))) (ou N q0 q1 q2 r' hr)
 ·cases h
@[go_sem] def rM (N d f:Nat):Option FnL:=Bi [(30,173,ej N)] d f
def ja (N:Nat) (a0:List Ref) (a1:Int) (a2:Int) (a3:Int) (r:List Ref) (h:bw N a0 a1 a2 a3=some r):(r).length=a0.length:=by
 unfold bw at h; exact (kA h).2
def rH (N:Nat) (a0:List Ref) (a1:Int) (a2:Int) (a3:Int) (r:List Ref) (h:bw N a0 a1 a2 a3=some r):my prog 101 1 [sO 2 (a0.map Ref.row),vI a1,vI a2,vI a3,.clo 43 []] (.tup []) [sO 2 (r.map Ref.row)]:=by
 unfold bw at h;obtain ⟨h,hlen⟩:=kA h;refine yW (G:=(aw [])) (L:=(rM N)) func101 rfl (by decide) (by kernel_rfl) 1 (by kernel_rfl) gn (lc 30 (lX N) ln) [] mix (na rfl) (na rfl) rfl (by simp [dG,hlen]) ?_;simp only [f101];refine z0 ?_;refine z0 ?_;refine aT (gl (fun (b:Unit)=>⟨tab 148 (af (af (af (af (af (af (af au 0 (.pal 0 [] 0 a0.length none)) 1 (vI a1)) 2 (vI a2)) 3 (vI a3)) 4 (.clo 43 [])) 10 (vB true)) 11 (vB true)),(upd RZ 0 (sO 2 (a0.map Ref.row)))⟩) () h ?_ ?_)
 ·exact wR
 rintro n ⟨⟩ h -;cases n with
 | zero=>simp [fh] at h
 | succ n=>
 simp only [fh] at h;refine z0 ?_;refine z0 ?_;refine cDs h (fun hc1 hc1d h=>?_) fun hc1 hc1d h=>?_
 ·refine z1 hc1d ?_;refine cD h (fun hc3 hc3d h=>?_) fun hc3 hc3d h=>?_
  ·refine aM ?_;cases h
  refine z1 hc3d ?_;refine cf ?_;refine aZ (pp (aM ?_));cases h
 obtain ⟨r1,hr2,h⟩:=bI h;refine z1 (k3 hc1d hr2 (gF N a0 a1 a2 r1 hr2)) ?_;refine fe (pp ?_);obtain rfl:=nf h;refine CW (.inl rfl) (aW.refl _) (by simp only [go_sem,seval]; rfl) (by simp only [go_sem,seval]; rfl) (by (try simp only [go_sem,seval]); first|exact Le.refl _|exact LeI.h) ?_;exact CY (by simp only [go_sem,seval,gF N a0 a1 a2 r1 hr2]<;>rfl) (by simp only [go_sem,seval]<;>rfl) (FU)
@[go_sem] def fo (N:Nat):FnL:=⟨1,fun cs rest=>match cs,rest with
 | [v0],[c1,c2,c3,.clo 43 []]=>(Dm 2 Ref.dec v0).bind fun q0=>((aH .i64) c1).bind fun q1=>((aH .i64) c2).bind fun q2=>((aH .i64) c3).bind fun q3=>(bw N q0 q1 q2 q3).map fun r=>(.tup [],[sO 2 (r.map Ref.row)])
 | _,_=>none,false⟩
def pH (N:Nat):wL prog 101 (fo N):=by
 refine Ii (xI _) rfl ?_;intro cs rest r ls hlen h;simp only [fo] at h;split at h
 ·simp only [ck,cj] at h;obtain ⟨q0,h0,q1,h1,q2,h2,q3,h3,r',hr,he⟩:=h;cases he;exact my.told rfl rfl (y6 (zd Ref.row_ok Ref.dec_le h0) (BT)) (LeL.cons (bz h1) (LeL.cons (bz h2) (LeL.cons (bz h3) (LeL.cons (Le.clo (LeL.nil)) (LeL.nil))))) (rH N q0 q1 q2 q3 r' hr)
 ·cases h
@[go_sem] def uB (N d f:Nat):Option FnS:=aw [(11,102,yS N)] d f
@[go_sem] def uz (N d f:Nat):Option FnL:=Bi [(13,101,fo N)] d f
def s6 (N:Nat) (a0:List Ref) (r:List Ref) (h:bJ N a0=some r):(r).length=a0.length:=by
 unfold bJ at h; exact (kA h).2
def kC (N:Nat) (a0:List Ref) (r:List Ref) (h:bJ N a0=some r):my prog 42 1 [sO 2 (a0.map Ref.row),.clo 43 []] (.tup []) [sO 2 (r.map Ref.row)]:=by
 unfold bJ at h;obtain ⟨h,hlen⟩:=kA h;refine yW (G:=(uB N)) (L:=(uz N)) func42 rfl (by decide) (by kernel_rfl) 1 (by kernel_rfl) (gc 11 (Ag N) gn) (lc 13 (pH N) ln) [] mix (na rfl) (na rfl) rfl (by simp [dG,hlen]) ?_;simp only [f42];refine z0 ?_;obtain ⟨r1,hr1,h⟩:=bI h;obtain ⟨r2,hr2,h⟩:=bI h;refine z1 (k3 hr1 hr2 (ja N a0 0 (a0.length:Int) r1 r2 hr2)) ?_;obtain rfl:=nf h;refine CW (.inr rfl) (aW.refl _) (by simp only [go_sem,seval]; rfl) (by simp only [go_sem,seval]; rfl) (by (try simp only [go_sem,seval]); first|exact Le.refl _|exact LeI.h) ?_;exact CY (by simp only [go_sem,seval,ja N a0 0 (a0.length:Int) r1 r2 hr2]<;>rfl) (by simp only [go_sem,seval]<;>rfl) (FU)
@[go_sem] def jX (N:Nat):FnL:=⟨1,fun cs rest=>match cs,rest with
 | [v0],[.clo 43 []]=>(Dm 2 Ref.dec v0).bind fun q0 =>  (bJ N q0).map fun r=>(.tup [],[sO 2 (r.map Ref.row)])
 | _,_=>none,false⟩
def Ff (N:Nat):wL prog 42 (jX N):=by
 refine Ii (xI _) rfl ?_;intro cs rest r ls hlen h;simp only [jX] at h;split at h
 ·simp only [ck,cj] at h;obtain ⟨q0,h0,r',hr,he⟩:=h;cases he;exact my.told rfl rfl (y6 (zd Ref.row_ok Ref.dec_le h0) (BT)) (LeL.cons (Le.clo (LeL.nil)) (LeL.nil)) (kC N q0 r' hr)
 ·cases h
def wq:Go.Shelf.Ren:=⟨fun|6=>42|14=>101|15=>102|20=>173|21=>174|22=>175|23=>176|24=>177|25=>178|26=>179|27=>180|28=>181|29=>182|46=>214|47=>215|48=>216|49=>217|50=>218|57=>231|n=>n,fun|0=>0|3=>3|4=>4|5=>5|9=>9|22=>46|24=>52|25=>94|39=>136|45=>179|46=>180|50=>115|53=>186|55=>188|66=>207|70=>211|76=>219|77=>220|n=>n,fun n=>n⟩
def we:Go.Proofs.SlLaysF0.n6 prog wq where
 mixed:=by kernel_rfl
 f6:=⟨f42.name, by decide, func42.trans (congrArg some (by kernel_rfl))⟩
 f14:=⟨f101.name, by decide, func101.trans (congrArg some (by kernel_rfl))⟩
 f15:=func102.trans (congrArg some (by kernel_rfl))
 f20:=⟨f173.name, by decide, func173.trans (congrArg some (by kernel_rfl))⟩
 f21:=⟨f174.name, by decide, func174.trans (congrArg some (by kernel_rfl))⟩
 f22:=⟨f175.name, by decide, func175.trans (congrArg some (by kernel_rfl))⟩
 f23:=⟨f176.name, by decide, func176.trans (congrArg some (by kernel_rfl))⟩
 f24:=⟨f177.name, by decide, func177.trans (congrArg some (by kernel_rfl))⟩
 f25:=⟨f178.name, by decide, func178.trans (congrArg some (by kernel_rfl))⟩
 f26:=⟨f179.name, by decide, func179.trans (congrArg some (by kernel_rfl))⟩
 f27:=⟨f180.name, by decide, func180.trans (congrArg some (by kernel_rfl))⟩
 f28:=func181.trans (congrArg some (by kernel_rfl))
 f29:=func182.trans (congrArg some (by kernel_rfl))
 f46:=⟨f214.name, by decide, func214.trans (congrArg some (by kernel_rfl))⟩
 f47:=func215.trans (congrArg some (by kernel_rfl))
 f48:=func216.trans (congrArg some (by kernel_rfl))
 f49:=⟨f217.name, by decide, func217.trans (congrArg some (by kernel_rfl))⟩
 f50:=⟨f218.name, by decide, func218.trans (congrArg some (by kernel_rfl))⟩
 f57:=⟨f231.name, by decide, func231.trans (congrArg some (by kernel_rfl))⟩
 t0:=underlying0
 a0:=Tryz.isAgg0
 z0:=Tryz.sizeOf0
 v0:=Tryz.zeroValue0
 t3:=underlying3
 a3:=Tryz.isAgg3
 z3:=Tryz.sizeOf3
 v3:=Tryz.zeroValue3
 t4:=underlying4
 a4:=Tryz.isAgg4
 z4:=Tryz.sizeOf4
 v4:=Tryz.zeroValue4
 t5:=underlying5
 a5:=Tryz.isAgg5
 z5:=Tryz.sizeOf5
 v5:=Tryz.zeroValue5
 t9:=underlying9
 a9:=Tryz.isAgg9
 z9:=Tryz.sizeOf9
 v9:=Tryz.zeroValue9
 t22:=underlying46
 a22:=Tryz.isAgg46
 z22:=Tryz.sizeOf46
 v22:=Tryz.zeroValue46
 t25:=underlying94
 a25:=Tryz.isAgg94
 z25:=Tryz.sizeOf94
 v25:=Tryz.zeroValue94
 t39:=underlying136
 a39:=Tryz.isAgg136
 z39:=Tryz.sizeOf136
 v39:=Tryz.zeroValue136
 t45:=underlying179
 a45:=Tryz.isAgg179
 z45:=Tryz.sizeOf179
 v45:=Tryz.zeroValue179
 t46:=underlying180
 a46:=Tryz.isAgg180
 z46:=Tryz.sizeOf180
 v46:=Tryz.zeroValue180
 t50:=underlying115
 a50:=Tryz.isAgg115
 z50:=Tryz.sizeOf115
 v50:=Tryz.zeroValue115
 t53:=underlying186
 a53:=Tryz.isAgg186
 z53:=Tryz.sizeOf186
 v53:=Tryz.zeroValue186
 t55:=underlying188
 a55:=Tryz.isAgg188
 z55:=Tryz.sizeOf188
 v55:=Tryz.zeroValue188
 t66:=underlying207
 a66:=Tryz.isAgg207
 z66:=Tryz.sizeOf207
 v66:=Tryz.zeroValue207
 t70:=underlying211
 a70:=Tryz.isAgg211
 z70:=Tryz.sizeOf211
 v70:=Tryz.zeroValue211
 t76:=underlying219
 a76:=Tryz.isAgg219
 z76:=Tryz.sizeOf219
 v76:=Tryz.zeroValue219
 t77:=underlying220
 a77:=Tryz.isAgg220
 z77:=Tryz.sizeOf220
 v77:=Tryz.zeroValue220
def mq (x:Ref):List Go.Value:=[.string x.Type_,.string x.Key]
def lZ (N:Nat) (a0:List Ref) (r:List Ref) (h:bX N a0=some r):(r).length=a0.length:=by
 unfold bX at h;split at h
 ·exact s6 N a0 r h
 ·exact U2 h
def w6 (N:Nat) (a0:List Ref) (r:List Ref) (h:bX N a0=some r):my prog 42 1 [sO 2 (a0.map Ref.row),.clo 43 []] (.tup []) [sO 2 (r.map Ref.row)]:=by
 unfold bX at h;split at h
 ·exact kC N a0 r h
 ·rename_i hne;obtain ⟨h1,h2,h3,rfl⟩:=MA h;refine Vm we 2 (by decide) Tryz.isAgg52 Tryz.sizeOf52 mq (fun _=>rfl) (fun x v hv=>by simp only [mq,cJ,nL,or_false] at hv; rcases hv with rfl|rfl<;>rfl) Ref.row (fun _=>rfl) rfl (enters_of func42 (by kernel_rfl) rfl) (enters_of func43 (by kernel_rfl) rfl) h2 (fun x y=>⟨true,?_⟩) (fun e=>hne (by rw [e]; rfl)) h3
  obtain ⟨z,hz⟩:=h1 x y;have hw:=HE N x y  z hz;show Con prog 43 [] true _ (vI ((gE N x y ).getD 0));rw [hz];exact hw
@[go_sem] def iR (N:Nat):FnL:=⟨1,fun cs rest=>match cs,rest with
 | [v0],[.clo 43 []]=>(Dm 2 Ref.dec v0).bind fun q0 =>  (bX N q0).map fun r=>(.tup [],[sO 2 (r.map Ref.row)])
 | _,_=>none,false⟩
def u7 (N:Nat):wL prog 42 (iR N):=by
 refine Ii (xI _) rfl ?_;intro cs rest r ls hlen h;simp only [iR] at h;split at h
 ·simp only [ck,cj] at h;obtain ⟨q0,h0,r',hr,he⟩:=h;cases he;exact my.told rfl rfl (y6 (zd Ref.row_ok Ref.dec_le h0) (BT)) (LeL.cons (Le.clo (LeL.nil)) (LeL.nil)) (w6 N q0 r' hr)
 ·cases h
@[go_sem] def Ja (N d f:Nat):Option FnS:=aw [(22,44,fg N)] d f
@[go_sem] def IM (N d f:Nat):Option FnL:=Bi [(20,42,iR N)] d f
def IJ (N:Nat) (a0:Txn) (r:List Ref) (h:gr N a0=some r):Con prog 13 [] true [.agg (Txn.row a0)] (sO 2 (r.map Ref.row)):=by
 refine SY (G:=(Ja N)) (L:=(IM N)) func13 rfl (by decide) (by kernel_rfl) (gc 22 (CF N) gn) (lc 20 (u7 N) ln) [] mix (na rfl) ?_;simp only [f13];unfold gr at h;refine z0 ?_;refine z0 ?_;refine z0 ?_;refine aT (gZ fun hreal2=>?_);have hl1:=hreal2.lenT 7 (by decide) (by simp only [go_sem,seval]; rfl);rw [cx] at hl1;refine tA (fun (v3:Nat) (b:List Ref)=>⟨tab 23 (af (af (af (af au 3 (.pal 17 [] 0 b.length none)) 7 (sF 4 (a0.Calls.map ah.row))) 8 (vI (a0.Calls.length:Int))) 9 (vI (v3:Int))),(upd RZ 17 (sO 2 (b.map Ref.row)))⟩) [] h ?_ ?_
 ·refine aW.trans (qD 3 17 2 (by simp only [go_sem,seval]) (by simp only [go_sem,seval])) ?_;refine wr ?_ ?_<;>repeat' first|rfl|constructor|simp only [go_sem,seval,nH,hU,nS,nT]
 rintro v3 l2 hi3 h -;rcases (mR a0.Calls v3 hi3) with ⟨x6,hi3',hx4,hd6⟩|⟨hi3',_,hd6⟩
 ·rw [hd6] at h;simp only [gK] at h;have hw5:=eH hi3' hl1;refine z1 hi3' ?_;refine ct ?_;refine z1 (k2 hx4 hi3') ?_;obtain ⟨ha7,h⟩:=kQ h;simp only [cC,cY,cV,Nat.reduceAdd] at ha7;refine z1 ha7 ?_;refine z1 hw5 ?_;refine ⟨hi3',(l2++[x6.Target]),?_,h⟩;refine wr ?_ ?_<;>repeat' first|rfl|constructor|simp only [go_sem,seval]
 rw [hd6] at h;simp only [gK] at h;refine z1 hi3' ?_;refine cf ?_;refine gi (pp ?_);unfold kL at h;obtain ⟨r9,hr8,h⟩:=bI h;refine z1 (k2 hr8 (lZ N l2 r9 hr8)) ?_;obtain ⟨r10,hr9,h⟩:=bI h;refine z1 (k2 (ni (ac1 (lZ N l2 r9 hr8))) hr9) ?_;refine fe (pp ?_);obtain rfl:=nf h;simp only [go_sem,seval];exact ⟨_,rfl,gI.h,qy.h⟩
@[go_sem] def py (N:Nat):FnS:=⟨[],true,fn1 Txn.decA fun q0=>(gr N q0).map fun r=>sF 2 (r.map Ref.row),false⟩
def rh (N:Nat):az prog 13 (py N):=om1 fun q0 r h=>rs (IJ N q0 r h)
@[go_sem] def Pe (N d f:Nat):Option FnS:=aw [(14,23,lS N),(18,59,Ij N),(22,71,gV N),(40,63,rW N),(43,13,py N),(54,69,sY N),(62,67,qL N),(72,49,B7 N)] d f
def O4 (N:Nat) (a0:ae) (r:ae × (List aD)) (h:mX N a0=some r):Con prog 28 [] false [.agg (ae.row a0)] (.tup [.agg (ae.row r.1),sO 9 (r.2.map aD.row)]):=by
 refine JH (G:=(Pe N)) func28 rfl (by decide) (by kernel_rfl) (gc 14 (j4 N) (gc 18 (MY N) (gc 22 (tF N) (gc 40 (tP N) (gc 43 (rh N) (gc 54 (qW N) (gc 62 (sI N) (gc 72 (C8 N) gn)))))))) [(71,false)] mix (na rfl) ?_;simp only [f28];unfold mX at h;refine z0 ?_;obtain ⟨r1,hr1,h⟩:=bI h;refine z1 hr1 ?_;refine cM h (fun hc2 h=>?_) fun hc2 h=>?_
 ·refine z1 hc2 ?_;exact f0 h
 obtain ⟨r2,hr3,h⟩:=bI h;refine z1 (k2 hc2 hr3) ?_;refine z0 ?_;refine aT (gl (fun (b:List Txn × List ai × List aa × List aD)=>⟨tab 77 (af (af (af au 2 (pF 2)) 4 (pF 4)) 5 (.pal 76 [] 0 b.2.2.2.length none)),(upd (upd (upd RZ 2 (vA 3 [.val (.slice none 0 0),.val (.slice none 0 0),.val (.slice none 0 0)])) 4 (vA 3 [sF 11 (b.1.map Txn.row),sF 4 (b.2.1.map ai.row),sF 3 (b.2.2.1.map aa.row)])) 76 (sO 9 (b.2.2.2.map aD.row)))⟩) (r2.Txns,r2.Locks,r2.Stacks,[]) h ?_ ?_)
 ·refine aW.trans (qD 5 76 9 (by simp only [go_sem,seval]) (by simp only [go_sem,seval])) ?_;exact wF (k3 hr1 hc2 hr3)
 rintro n ⟨l4,l5,l6,l7⟩ h -;cases n with
 | zero=>simp [kO] at h
 | succ n=>
 simp only [kO] at h;obtain ⟨r3,hr4,h⟩:=bI h;refine z1 hr4 ?_;refine z0 ?_;refine cD h (fun hc5 hc5d h=>?_) fun hc5 hc5d h=>?_
 ·refine z1 hc5d ?_;exact f0 h
 obtain ⟨x4,hb6,hx7,h⟩:=aG h;refine z1 (k3 hc5d hb6 hx7) ?_;obtain ⟨r5,hr8,h⟩:=bI h;refine d1 hr8 ?_;obtain ⟨r18,hr9,h⟩:=bI h;refine z1 hr9 ?_;refine aT (gZ fun hreal11=>?_);have hl10:=hreal11.lenT 43 (by decide) (by simp only [go_sem,seval]; rfl);rw [cx] at hl10;refine tA (fun (v16:Nat) (b:List aQ)=>⟨tab 77 (af (af (af (af (af (af (af (af au 2 (pF 2)) 4 (pF 4)) 5 (.pal 76 [] 0 l7.length none)) 7 (pF 7)) 8 (pF 8)) 43 (sF 2 (r18.map Ref.row))) 44 (vI (r18.length:Int))) 45 (vI (v16:Int))),(upd (upd (upd (upd (upd RZ 2 (vA 3 [.val (.slice none 0 0),.val (.slice none 0 0),.val (.slice none 0 0)])) 4 (vA 3 [sF 11 (l4.map Txn.row),sF 4 (l5.map ai.row),sF 3 (l6.map aa.row)])) 7 (vA 11 (Txn.row x4))) 8 (vA 9 [vI x4.ID,vS x4.Client,vI x4.Seq,vI r5.Kind,vI r5.N,vS r5.S,sF 1 (r5.I.map (aB .i64)),sF 1 (r5.L.map dE),sO 3 (b.map aQ.row)])) 76 (sO 9 (l7.map aD.row)))⟩) [] h ?_ ?_
 ·refine aW.trans (Ov 8 [(0,8)] 3 (by simp only [go_sem,seval]) (by simp only [go_sem,seval]; try rfl)) ?_;exact wF (k5 hr1 hc2 hr3 hr4 (k5 hc5d hb6 hx7 hr8 hr9))
 rintro v16 l15 hi12 h -;rcases (mR r18 v16 hi12).symm with ⟨hi12',_,hd15⟩|⟨x19,hi12',hx13,hd15⟩
 ·rw [hd15] at h;simp only [kM] at h;refine z1 hi12' ?_;refine cf ?_;refine gi (pp ?_);unfold wu at h;refine mi (Qc (n:=8) (by simp only [go_sem,seval]; rfl) (by simp only [iZ,gR,go_sem]; rfl)) ?_;obtain ⟨r21,hr19,h⟩:=bI h;obtain ⟨ha20,h⟩:=kQ h;simp only [cC,cY,cV,Nat.reduceAdd] at ha20;refine d1 (k2 hr19 ha20) ?_;refine ⟨_,cZ _,(r21.Txns,r21.Locks,r21.Stacks,(l7++[(aD.mk x4.ID x4.Client x4.Seq r5 l15)])),?_,h⟩;refine wr ?_ ?_<;>repeat' first|rfl|constructor|simp only [go_sem,seval]
 rw [hd15] at h;simp only [kM] at h;have hw14:=eH hi12' hl10;refine z1 hi12' ?_;refine ct ?_;refine z1 (k2 hx13 hi12') ?_;obtain ⟨r19,hr16,h⟩:=bI h;refine z1 hr16 ?_;obtain ⟨r20,hr17,h⟩:=bI h;obtain ⟨ha18,h⟩:=kQ h;simp only [cC,cY,cV,Nat.reduceAdd] at ha18;refine d1 (k2 hr17 ha18) ?_;refine z1 hw14 ?_;refine ⟨hi12',(l15++[(aQ.mk x19 r20)]),?_,h⟩;refine wr ?_ ?_<;>repeat' first|rfl|constructor|simp only [go_sem,seval]
@[go_sem] def Au (N:Nat):FnS:=⟨[],false,fn1 ae.decA fun q0=>(mX N q0).map fun r=>.tup [.agg (ae.row r.1),sF 9 (r.2.map aD.row)],false⟩
def Cn (N:Nat):az prog 28 (Au N):=om1 fun q0 r h=>rs (O4 N q0 r h)
@[go_sem] def Up (N d f:Nat):Option FnS:=aw [(9,40,gC N),(17,41,Dz N)] d f
def UO (N:Nat) (a0:ae) (a1:Int) (r:Txn × Bool) (h:lf N a0 a1=some r):Con prog 12 [] false [.agg (ae.row a0),vI a1] (.tup [.agg [vI r.1.ID,vI r.1.Born,vS r.1.Client,vI r.1.Seq,sO 4 (r.1.Calls.map ah.row),vI r.1.Done,vI r.1.Last.Kind,vI r.1.Last.N,vS r.1.Last.S,sO 1 (r.1.Last.I.map (aB .i64)),sO 1 (r.1.Last.L.map dE)],vB r.2]):=by
 refine fk (G:=(Up N)) func12 (gc 9 (eV N) (gc 17 (HG N) gn)) ?_;simp only [f12];unfold lf at h;refine z0 ?_;obtain ⟨r1,hr1,h⟩:=bI h;refine z1 hr1 ?_;refine z0 ?_;refine cD h (fun hc2 hc2d h=>?_) fun hc2 hc2d h=>?_
 ·obtain ⟨x2,hb3,hx4,h⟩:=aG h;obtain ⟨r3,hr5,h⟩:=bI h;refine z1 (k3 hb3 hx4 hr5) ?_;exact f0 h
 refine z1 hc2d ?_;exact f0 h
@[go_sem] def uG (N:Nat):FnS:=⟨[],false,fn2 ae.decA (aH .i64) fun q0 q1=>(lf N q0 q1).map fun r=>.tup [.agg (Txn.row r.1),vB r.2],false⟩
def sQ (N:Nat):az prog 12 (uG N):=om2 fun q0 q1 r h=>rs (UO N q0 q1 r h)
@[go_sem] def PL (N d f:Nat):Option FnS:=aw [(10,46,vi N),(40,67,pw N),(42,67,pw N)] d f
def PQ (N:Nat) (a0:ae) (a1:Ref) (a2:List Value) (r:List Value) (h:tE N a0 a1 a2=some r):Con prog 39 [] false [.agg (ae.row a0),.agg [vS a1.Type_,vS a1.Key],sF 5 (a2.map Value.row)] (sO 5 (r.map Value.row)):=by
 refine fk (G:=(PL N)) func39 (gc 10 (uT N) (gc 40 (rr N) (gc 42 (rr N) gn))) ?_;simp only [f39];unfold tE at h;refine z0 ?_;obtain ⟨r8,hr1,h⟩:=bI h;refine z1 hr1 ?_;apply aS (fun (c10:Bool)=>⟨tab 43 (af (af (af (af au 2 (sF 5 (a2.map Value.row))) 3 (pF 3)) 7 (vI r8)) 22 (vB c10)),(upd RZ 3 (vA 3 (ae.row a0)))⟩)
 ·intro hJ2;refine iD h (fun hc3 hc3d h=>?_) fun hc3 hc3d h=>?_
  ·obtain ⟨x11,hb4,hx5,h⟩:=aG h;refine z1 (k2 hb4 hx5) ?_;exact hJ2 _ (decide (0 < (x11.Layers.length:Int))) wR h
  refine z1 hc3d ?_;exact hJ2 _ false wR h
 intro c10 h;unfold yq at h;refine cB h (fun hc6 h=>?_) fun hc6 h=>?_
 ·obtain ⟨x12,hb7,hx8,h⟩:=aG h;obtain ⟨x13,hb9,hx10,h⟩:=aG h;obtain ⟨r14,hr11,h⟩:=bI h;refine d1 (k5 hc6 hb7 hx8 hb9 (k2 hx10 hr11)) ?_;exact f0 h
 refine aZ (pp ?_);unfold yA at h;obtain ⟨r15,hr12,h⟩:=bI h;refine z1 (k2 hc6 hr12) ?_;exact f0 h
@[go_sem] def Hq (N:Nat):FnS:=⟨[],false,fn3 ae.decA Ref.decA (aJ 5 Value.dec) fun q0 q1 q2=>(tE N q0 q1 q2).map fun r=>sF 5 (r.map Value.row),false⟩
def K4 (N:Nat):az prog 39 (Hq N):=om3 fun q0 q1 q2 r h=>rs (PQ N q0 q1 q2 r h)
@[go_sem] def OR (N d f:Nat):Option FnS:=aw [(26,38,zH N),(36,38,zH N),(47,25,AZ N),(61,34,rG N),(64,34,rG N),(65,26,Bh N),(73,27,wy N),(80,25,AZ N),(93,34,rG N),(95,34,rG N),(96,26,Bh N),(104,15,Ca N),(110,23,lS N),(115,20,zp N),(129,27,wy N),(136,28,Au N),(159,12,uG N),(165,13,py N),(172,39,Hq N)] d f
def OW (N:Nat)  (r:Bool) (h:uF N  = some r):Con prog 10 [] true [] (vB r):=by
 refine JH (G:=(OR N)) func10 rfl (by decide) (by kernel_rfl) (gc 26 (zm N) (gc 36 (zm N) (gc 47 (AN N) (gc 61 (oC N) (gc 64 (oC N) (gc 65 (Aw N) (gc 73 (wM N) (gc 80 (AN N) (gc 93 (oC N) (gc 95 (oC N) (gc 96 (Aw N) (gc 104 (Dt N) (gc 110 (j4 N) (gc 115 (z7 N) (gc 129 (wM N) (gc 136 (Cn N) (gc 159 (sQ N) (gc 165 (rh N) (gc 172 (K4 N) gn))))))))))))))))))) [(62,false),(94,false)] mix (na rfl) ?_;simp only [f10];unfold uF at h;refine z0 ?_;refine z0 ?_;obtain ⟨r1,hr1,h⟩:=bI h;refine z1 hr1 ?_;refine z0 ?_;refine cN h (fun hc2 hc2d h=>?_) fun hc2 hc2d h=>?_
 ·refine z1 hc2d ?_;exact e0 h
 obtain ⟨r2,hr3,h⟩:=bI h;refine z1 (k2 hc2d hr3) ?_;refine z0 ?_;refine cN h (fun hc4 hc4d h=>?_) fun hc4 hc4d h=>?_
 ·refine z1 hc4d ?_;exact e0 h
 refine z1 hc4d ?_;refine aT (gl (fun (b:List Txn × List ai × List aa × Int)=>⟨tab 176 (af (af (af (af au 1 (pF 1)) 2 (pF 2)) 3 (pF 3)) 5 (vI b.2.2.2)),(upd (upd (upd RZ 1 (vA 2 [vS (⟨#[65]⟩),vS (⟨#[97]⟩)])) 2 (vA 2 [vS (⟨#[65]⟩),vS (⟨#[98]⟩)])) 3 (vA 3 [sF 11 (b.1.map Txn.row),sF 4 (b.2.1.map ai.row),sF 3 (b.2.2.1.map aa.row)]))⟩) (r2.1.Txns,r2.1.Locks,r2.1.Stacks,0) h ?_ ?_)
 ·exact wR
 rintro n ⟨l6,l7,l8,v9⟩ h -;cases n with
 | zero=>simp [fM] at h
 | succ n=>
 simp only [fM] at h;refine z0 ?_;refine cD h (fun hc5 hc5d h=>?_) fun hc5 hc5d h=>?_
 ·obtain ⟨r20,hr6,h⟩:=bI h;refine z1 (k2 hc5d hr6) ?_;refine aM ?_;apply aS (fun (c23:Bool)=>⟨tab 176 (af (af (af (af (af (af au 1 (pF 1)) 2 (pF 2)) 3 (pF 3)) 5 (vI v9)) 6 (pF 6)) 57 (vB c23)),(upd (upd (upd (upd RZ 1 (vA 2 [vS (⟨#[65]⟩),vS (⟨#[97]⟩)])) 2 (vA 2 [vS (⟨#[65]⟩),vS (⟨#[98]⟩)])) 3 (vA 3 [sF 11 (l6.map Txn.row),sF 4 (l7.map ai.row),sF 3 (l8.map aa.row)])) 6 (vA 3 (ae.row r20.1)))⟩)
  ·intro hJ7;refine iDs h (fun hc8 hc8d h=>?_) fun hc8 hc8d h=>?_
   ·refine z1 hc8d ?_;exact hJ7 _ true wR h
   refine z1 hc8d ?_;exact hJ7 _ (!decide (r20.2.1=1)) wR h
  intro c23 h;unfold sm at h;refine cB h (fun hc9 h=>?_) fun hc9 h=>?_
  ·refine z1 hc9 ?_;exact e0 h
  refine aZ (pp ?_);unfold sU at h;obtain ⟨r24,hr10,h⟩:=bI h;obtain ⟨r25,hr11,h⟩:=bI h;obtain rfl:=nf (hr10.symm.trans hr11);obtain ⟨r26,hr12,h⟩:=bI h;refine d1 (k3 hc9 hr10 hr12) ?_;refine z0 ?_;refine cN h (fun hc13 hc13d h=>?_) fun hc13 hc13d h=>?_
  ·refine z1 hc13d ?_;exact e0 h
  refine z1 hc13d ?_;refine ⟨_,cZ _,(r26.1.Txns,r26.1.Locks,r26.1.Stacks,IntKind.i64.wrap (v9+1)),?_,h⟩;exact wR
 refine gi (pp ?_);unfold qV at h;obtain ⟨r27,hr14,h⟩:=bI h;refine z1 (k2 hc5d hr14) ?_;refine z0 ?_;refine cN h (fun hc15 hc15d h=>?_) fun hc15 hc15d h=>?_
 ·refine z1 hc15d ?_;exact e0 h
 obtain ⟨r28,hr16,h⟩:=bI h;refine z1 (k2 hc15d hr16) ?_;refine aM ?_;apply aS (fun (c31:Bool)=>⟨tab 176 (af (af (af (af au 1 (pF 1)) 2 (pF 2)) 3 (pF 3)) 90 (vB c31)),(upd (upd (upd RZ 1 (vA 2 [vS (⟨#[65]⟩),vS (⟨#[97]⟩)])) 2 (vA 2 [vS (⟨#[65]⟩),vS (⟨#[98]⟩)])) 3 (vA 3 (ae.row r28.1)))⟩)
 ·intro hJ17;refine iDs h (fun hc18 hc18d h=>?_) fun hc18 hc18d h=>?_
  ·refine z1 hc18d ?_;exact hJ17 _ true wR h
  refine z1 hc18d ?_;exact hJ17 _ (!decide (r28.2.1=1)) wR h
 intro c31 h;unfold vU at h;refine cB h (fun hc19 h=>?_) fun hc19 h=>?_
 ·refine z1 hc19 ?_;exact e0 h
 refine aZ (pp ?_);unfold u6 at h;obtain ⟨r32,hr20,h⟩:=bI h;obtain ⟨r33,hr21,h⟩:=bI h;obtain rfl:=nf (hr20.symm.trans hr21);obtain ⟨r34,hr22,h⟩:=bI h;refine d1 (k3 hc19 hr20 hr22) ?_;refine aM ?_;apply aS (fun (c41:Bool)=>⟨tab 176 (af (af (af (af au 1 (pF 1)) 2 (pF 2)) 3 (pF 3)) 112 (vB c41)),(upd (upd (upd RZ 1 (vA 2 [vS (⟨#[65]⟩),vS (⟨#[97]⟩)])) 2 (vA 2 [vS (⟨#[65]⟩),vS (⟨#[98]⟩)])) 3 (vA 3 (ae.row r34.1)))⟩)
 ·intro hJ23;refine iDs h (fun hc24 hc24d h=>?_) fun hc24 hc24d h=>?_
  ·refine z1 hc24d ?_;exact hJ23 _ true wR h
  obtain ⟨r42,hr25,h⟩:=bI h;refine iDs h (fun hc26 hc26d h=>?_) fun hc26 hc26d h=>?_
  ·refine z1 (k3 hc24d hr25 hc26d) ?_;exact hJ23 _ true wR h
  obtain ⟨r43,hr27,h⟩:=bI h;refine z1 (k4 hc24d hr25 hc26d hr27) ?_;exact hJ23 _ (!r43) wR h
 intro c41 h;unfold sj at h;refine cB h (fun hc28 h=>?_) fun hc28 h=>?_
 ·refine z1 hc28 ?_;exact e0 h
 refine aZ (pp ?_);unfold rY at h;obtain ⟨r44,hr29,h⟩:=bI h;refine z1 (k2 hc28 hr29) ?_;refine aM ?_;apply aS (fun (c47:Bool)=>⟨tab 176 (af (af (af (af au 1 (pF 1)) 2 (pF 2)) 3 (pF 3)) 125 (vB c47)),(upd (upd (upd RZ 1 (vA 2 [vS (⟨#[65]⟩),vS (⟨#[97]⟩)])) 2 (vA 2 [vS (⟨#[65]⟩),vS (⟨#[98]⟩)])) 3 (vA 3 (ae.row r34.1)))⟩)
 ·intro hJ30;refine iDs h (fun hc31 hc31d h=>?_) fun hc31 hc31d h=>?_
  ·refine z1 hc31d ?_;exact hJ30 _ true wR h
  refine z1 hc31d ?_;exact hJ30 _ (!decide ((r44.2.1.length:Int)=2)) wR h
 intro c47 h;unfold vY at h;refine cB h (fun hc32 h=>?_) fun hc32 h=>?_
 ·refine z1 hc32 ?_;exact e0 h
 refine aZ (pp ?_);unfold wj at h;obtain ⟨r48,hr33,h⟩:=bI h;refine z1 (k2 hc32 hr33) ?_;refine z0 ?_;refine cN h (fun hc34 hc34d h=>?_) fun hc34 hc34d h=>?_
 ·refine z1 hc34d ?_;exact e0 h
 obtain ⟨r49,hr35,h⟩:=bI h;refine z1 (k2 hc34d hr35) ?_;refine aM ?_;apply aS (fun (c54:Bool)=>⟨tab 176 (af (af (af au 1 (pF 1)) 3 (pF 3)) 156 (vB c54)),(upd (upd RZ 1 (vA 2 [vS (⟨#[65]⟩),vS (⟨#[97]⟩)])) 3 (vA 3 (ae.row r49.1)))⟩)
 ·intro hJ36;refine iDs h (fun hc37 hc37d h=>?_) fun hc37 hc37d h=>?_
  ·refine z1 hc37d ?_;exact hJ36 _ true wR h
  obtain ⟨x55,hb38,hx39,h⟩:=aG h;try simp only [xr] at hx39
  try simp only [nI,nJ,true_and] at hb38
  refine iDs h (fun hc40 hc40d h=>?_) fun hc40 hc40d h=>?_
  ·refine z1 (k4 hc37d hb38 hx39 hc40d) ?_;exact hJ36 _ true wR h
  refine z1 (k4 hc37d hb38 hx39 hc40d) ?_;exact hJ36 _ (!decide ((x55.Writes.length:Int)=2)) wR h
 intro c54 h;unfold su at h;refine cB h (fun hc41 h=>?_) fun hc41 h=>?_
 ·refine z1 hc41 ?_;exact e0 h
 refine aZ (pp ?_);unfold sp at h;obtain ⟨r56,hr42,h⟩:=bI h;refine z1 (k2 hc41 hr42) ?_;refine iBs h (fun hc43 h=>?_) fun hc43 h=>?_
 ·refine z1 hc43 ?_;exact e0 h
 obtain ⟨r57,hr44,h⟩:=bI h;refine iD h (fun hc45 hc45d h=>?_) fun hc45 hc45d h=>?_
 ·obtain ⟨r58,hr46,h⟩:=bI h;refine z1 (k4 hc43 hr44 hc45d hr46) ?_;exact e0 h
 refine z1 (k3 hc43 hr44 hc45d) ?_;exact e0 h
@[go_sem] def AK (N:Nat):FnS:={ own:=[],pure:=true,fn:=fun cs=>match cs with
 | [] =>  (uF N ).map fun r=>vB r
 | _=>none }
def Ke (N:Nat):az prog 10 (AK N):=by
 refine ⟨fun cs r h=>?_,fun h=>by cases h⟩;simp only [AK] at h;split at h
 ·simp only [cj] at h;obtain ⟨r',hr,rfl⟩:=h;exact (ag (OW N  r' hr))
 ·cases h
def PS (N:Nat) (a0:ae) (a1:Int) (r:Int) (h:vV N a0 a1=some r):Con prog 19 [] true [.agg (ae.row a0),.val (.int .u8 a1)] (vI r):=by
 refine fk (G:=(aw [])) func19 gn ?_;simp only [f19];unfold vV at h;refine z0 ?_;refine z0 ?_;refine cD h (fun hc1 hc1d h=>?_) fun hc1 hc1d h=>?_
 ·refine z1 hc1d ?_;exact e0 h
 obtain ⟨hd2,h⟩:=P0 h;obtain ⟨x1,hb3,hx4,h⟩:=aG h;refine d1 (k3 hd2 hb3 hx4) ?_;exact e0 h
@[go_sem] def Hp (N:Nat):FnS:=⟨[],true,fn2 ae.decA (aH .u8) fun q0 q1=>(vV N q0 q1).map fun r=>vI r,false⟩
def Lx (N:Nat):az prog 19 (Hp N):=om2 (PS N)
def Sn (N:Nat) (a0:Int) (r:Ref) (h:vh N a0=some r):Con prog 95 [] true [.val (.int .u8 a0)] (.agg (Ref.row r)):=by
 refine fk (G:=(aw [])) func95 gn ?_;simp only [f95];unfold vh at h;refine z0 ?_;refine z0 ?_;obtain ⟨hs1,h⟩:=W2 h;simp only [ByteArray.size,nN,cC,cY,Nat.reduceAdd] at hs1;refine z1 hs1 ?_;exact e0 h
@[go_sem] def Dk (N:Nat):FnS:=⟨[],true,fn1 (aH .u8) fun q0=>(vh N q0).map fun r=>.agg (Ref.row r),false⟩
def D6 (N:Nat):az prog 95 (Dk N):=om1 (Sn N)
@[go_sem] def Pc (N d f:Nat):Option FnS:=aw [(21,95,Dk N)] d f
def OV (N:Nat) (a0:aj) (r:List ah) (h:w5 N a0=some r):Con prog 33 [] false [.agg (aj.row a0)] (sO 4 (r.map ah.row)):=by
 refine fk (G:=(Pc N)) func33 (gc 21 (D6 N) gn) ?_;simp only [f33];unfold w5 at h;refine z0 ?_;refine z0 ?_;refine z0 ?_;refine aT (gl (fun (b:List ah × Int)=>⟨tab 26 (af (af (af au 1 (pF 1)) 3 (.pal 24 [] 0 b.1.length none)) 4 (vI b.2)),(upd (upd RZ 1 (vA 4 (aj.row a0))) 24 (sO 4 (b.1.map ah.row)))⟩) ([],0) h ?_ ?_)
 ·refine aW.trans (qD 3 24 4 (by simp only [go_sem,seval]) (by simp only [go_sem,seval])) ?_;refine wr ?_ ?_<;>repeat' first|rfl|constructor|simp only [go_sem,seval,nH,hU,nS,nT]
 rintro n ⟨l2,v3⟩ h -;cases n with
 | zero=>simp [od] at h
 | succ n=>
 simp only [od] at h;refine z0 ?_;refine cDs h (fun hc1 hc1d h=>?_) fun hc1 hc1d h=>?_
 ·refine z1 hc1d ?_;exact f0 h
 obtain ⟨hd2,h⟩:=Xx h;obtain ⟨r1,hr3,h⟩:=bI h;obtain ⟨ha4,h⟩:=kQ h;simp only [cC,cY,cV,Nat.reduceAdd] at ha4;refine z1 (k4 hc1d hd2 hr3 ha4) ?_;refine z0 ?_;refine ⟨_,cZ _,((l2++[(ah.mk r1 (⟨#[109]⟩) [])]),IntKind.i64.wrap (v3+1)),?_,h⟩;refine aW.trans (vZ (n:=23) ([[vS r1.Type_,vS r1.Key,vS (⟨#[109]⟩),sF 5 []]]) (by (try simp only [go_sem]); rfl) (by simp only [go_sem,seval]; rfl) (by simp only [iZ,gR,go_sem]; rfl)) (aW.trans (vZ (n:=24) (l2.map ah.row++[[vS r1.Type_,vS r1.Key,vS (⟨#[109]⟩),sF 5 []]]) (by (try simp only [go_sem]); rfl) (by simp only [go_sem,seval]; rfl) (by simp only [iZ,gR,go_sem]; rfl)) ?_);refine wr ?_ ?_<;>repeat' first|rfl|constructor|simp only [go_sem,seval]
@[go_sem] def F6 (N:Nat):FnS:=⟨[],false,fn1 aj.decA fun q0=>(w5 N q0).map fun r=>sF 4 (r.map ah.row),false⟩
def JP (N:Nat):az prog 33 (F6 N):=om1 fun q0 r h=>rs (OV N q0 r h)
def Ci (N:Nat) (a0:Value) (r:Value) (h:iX N a0=some r):Con prog 158 [] true [.agg (Value.row a0)] (.agg [vI r.Kind,vI r.N,vS r.S,sO 1 (r.I.map (aB .i64)),sO 1 (r.L.map dE)]):=by
 refine fk (G:=(aw [])) func158 gn ?_;simp only [f158];unfold iX at h;refine z0 ?_;refine aM ?_;obtain ⟨ha1,h⟩:=oR h;simp only [Nat.reduceAdd] at ha1;refine z1 ha1 ?_;refine aM ?_;obtain ⟨ha2,h⟩:=oR h;simp only [Nat.reduceAdd] at ha2;refine z1 ha2 ?_;refine z0 ?_;exact e0 h
@[go_sem] def BN (N:Nat):FnS:=⟨[],true,fn1 Value.decA fun q0=>(iX N q0).map fun r=>.agg (Value.row r),false⟩
def F5 (N:Nat):az prog 158 (BN N):=om1 fun q0 r h=>rs (Ci N q0 r h)
@[go_sem] def Am (N:Nat):FnS:=⟨[],true,fn1 Value.decA fun q0=>(iX N q0).map fun r=>.agg [vI r.Kind,vI r.N,vS r.S,sO 1 (r.I.map (aB .i64)),sO 1 (r.L.map dE)],false⟩
def E7 (N:Nat):az prog 158 (Am N):=om1 (Ci N)
@[go_sem] def It (N d f:Nat):Option FnS:=aw [(16,158,BN N)] d f
def I5 (N:Nat) (a0:List Value) (r:List Value) (h:lr N a0=some r):Con prog 159 [] false [sF 5 (a0.map Value.row)] (sO 5 (r.map Value.row)):=by
 refine fk (G:=(It N)) func159 (gc 16 (F5 N) gn) ?_;simp only [f159];unfold lr at h;refine z0 ?_;refine z0 ?_;refine z0 ?_;refine aT (gZ fun hreal2=>?_);have hl1:=hreal2.lenT 0 (by decide) (by simp only [go_sem,seval]; rfl);rw [cx] at hl1;refine tA (fun (v3:Nat) (b:List Value)=>⟨tab 20 (af (af (af au 0 (sF 5 (a0.map Value.row))) 3 (.pal 18 [] 0 b.length none)) 4 (vI (v3:Int))),(upd RZ 18 (sO 5 (b.map Value.row)))⟩) [] h ?_ ?_
 ·refine aW.trans (qD 3 18 5 (by simp only [go_sem,seval]) (by simp only [go_sem,seval])) ?_;refine wr ?_ ?_<;>repeat' first|rfl|constructor|simp only [go_sem,seval,nH,hU,nS,nT]
 rintro v3 l2 hi3 h -;rcases (mR a0 v3 hi3).symm with ⟨hi3',_,hd6⟩|⟨x6,hi3',hx4,hd6⟩
 ·rw [hd6] at h;simp only [jg] at h;refine z1 hi3' ?_;refine cf ?_;refine z0 ?_;exact f0 h
 rw [hd6] at h;simp only [jg] at h;have hw5:=eH hi3' hl1;refine z1 hi3' ?_;refine ct ?_;obtain ⟨r1,hr7,h⟩:=bI h;obtain ⟨ha8,h⟩:=kQ h;simp only [cC,cY,cV,Nat.reduceAdd] at ha8;refine z1 (k4 hx4 hi3' hr7 ha8) ?_;refine z1 hw5 ?_;refine ⟨hi3',(l2++[r1]),?_,h⟩;refine wr ?_ ?_<;>repeat' first|rfl|constructor|simp only [go_sem,seval]
@[go_sem] def Ah (N:Nat):FnS:=⟨[],false,fn1 (aJ 5 Value.dec) fun q0=>(lr N q0).map fun r=>sF 5 (r.map Value.row),false⟩
def E4 (N:Nat):az prog 159 (Ah N):=om1 fun q0 r h=>rs (I5 N q0 r h)
@[go_sem] def JU (N d f:Nat):Option FnS:=aw [(27,159,Ah N)] d f
def Ka (N:Nat) (a0:List ah) (r:List ah) (h:mj N a0=some r):Con prog 205 [] false [sF 4 (a0.map ah.row)] (sO 4 (r.map ah.row)):=by
 refine fk (G:=(JU N)) func205 (gc 27 (E4 N) gn) ?_;simp only [f205];unfold mj at h;refine z0 ?_;refine z0 ?_;refine z0 ?_;refine aT (gZ fun hreal2=>?_);have hl1:=hreal2.lenT 0 (by decide) (by simp only [go_sem,seval]; rfl);rw [cx] at hl1;refine tA (fun (v3:Nat) (b:List ah)=>⟨tab 32 (af (af (af au 0 (sF 4 (a0.map ah.row))) 3 (.pal 30 [] 0 b.length none)) 4 (vI (v3:Int))),(upd RZ 30 (sO 4 (b.map ah.row)))⟩) [] h ?_ ?_
 ·refine aW.trans (qD 3 30 4 (by simp only [go_sem,seval]) (by simp only [go_sem,seval])) ?_;refine wr ?_ ?_<;>repeat' first|rfl|constructor|simp only [go_sem,seval,nH,hU,nS,nT]
 rintro v3 l2 hi3 h -;rcases (mR a0 v3 hi3).symm with ⟨hi3',_,hd6⟩|⟨x6,hi3',hx4,hd6⟩
 ·rw [hd6] at h;simp only [jz] at h;refine z1 hi3' ?_;refine cf ?_;refine z0 ?_;exact f0 h
 rw [hd6] at h;simp only [jz] at h;have hw5:=eH hi3' hl1;refine z1 hi3' ?_;refine ct ?_;obtain ⟨r1,hr7,h⟩:=bI h;obtain ⟨ha8,h⟩:=kQ h;simp only [cC,cY,cV,Nat.reduceAdd] at ha8;refine d1 (k4 hx4 hi3' hr7 ha8) ?_;refine z1 hw5 ?_;refine ⟨hi3',(l2++[(ah.mk x6.Target x6.Method r1)]),?_,h⟩;refine wr ?_ ?_<;>repeat' first|rfl|constructor|simp only [go_sem,seval]
@[go_sem] def Ai (N:Nat):FnS:=⟨[],false,fn1 (aJ 4 ah.dec) fun q0=>(mj N q0).map fun r=>sO 4 (r.map ah.row),false⟩
def E2 (N:Nat):az prog 205 (Ai N):=om1 (Ka N)
@[go_sem] def LJ (N d f:Nat):Option FnS:=aw [(5,205,Ai N),(9,158,Am N)] d f
def MR (N:Nat) (a0:Txn) (r:Txn) (h:p9 N a0=some r):Con prog 150 [] false [.agg (Txn.row a0)] (.agg [vI r.ID,vI r.Born,vS r.Client,vI r.Seq,sO 4 (r.Calls.map ah.row),vI r.Done,vI r.Last.Kind,vI r.Last.N,vS r.Last.S,sO 1 (r.Last.I.map (aB .i64)),sO 1 (r.Last.L.map dE)]):=by
 refine fk (G:=(LJ N)) func150 (gc 5 (E2 N) (gc 9 (E7 N) gn)) ?_;simp only [f150];unfold p9 at h;refine z0 ?_;obtain ⟨r1,hr1,h⟩:=bI h;refine z1 hr1 ?_;obtain ⟨r2,hr2,h⟩:=bI h;refine z1 hr2 ?_;refine z0 ?_;exact f0 h
@[go_sem] def Cq (N:Nat):FnS:=⟨[],false,fn1 Txn.decA fun q0=>(p9 N q0).map fun r=>.agg [vI r.ID,vI r.Born,vS r.Client,vI r.Seq,sO 4 (r.Calls.map ah.row),vI r.Done,vI r.Last.Kind,vI r.Last.N,vS r.Last.S,sO 1 (r.Last.I.map (aB .i64)),sO 1 (r.Last.L.map dE)],false⟩
def Gj (N:Nat):az prog 150 (Cq N):=om1 (MR N)
@[go_sem] def QY (N d f:Nat):Option FnS:=aw [(27,150,Cq N)] d f
def Q9 (N:Nat) (a0:ae) (a1:Int) (r:Txn × Bool) (h:zw N a0 a1=some r):Con prog 80 [] false [.agg (ae.row a0),vI a1] (.tup [.agg [vI r.1.ID,vI r.1.Born,vS r.1.Client,vI r.1.Seq,sO 4 (r.1.Calls.map ah.row),vI r.1.Done,vI r.1.Last.Kind,vI r.1.Last.N,vS r.1.Last.S,sO 1 (r.1.Last.I.map (aB .i64)),sO 1 (r.1.Last.L.map dE)],vB r.2]):=by
 refine fk (G:=(QY N)) func80 (gc 27 (Gj N) gn) ?_;simp only [f80];unfold zw at h;refine z0 ?_;refine z0 ?_;refine lC 2 0 (fun (v2:Nat) (b:Unit)=>⟨tab 29 (af (af (af (af au 1 (vI a1)) 2 (pF 2)) 4 (pF 4)) 6 (vI (v2:Int))),(upd (upd RZ 2 (vA 3 (ae.row a0))) 4 (vA 11 [vI 0,vI 0,vS (⟨#[]⟩),vI 0,.val (.slice none 0 0),vI 0,vI 0,vI 0,vS (⟨#[]⟩),.val (.slice none 0 0),.val (.slice none 0 0)]))⟩) () h ?_ ?_
 ·rintro v2 ⟨⟩ hi3' h;simp only [pT] at h;refine z1 hi3' ?_;refine cf ?_;refine z0 ?_;exact f0 h
 rintro v2 ⟨⟩ x5 hi3' hx4 hw5 h;simp only [pT] at h;refine z1 hi3' ?_;refine ct ?_;refine z1 (k2 hx4 hi3') ?_;refine cD h (fun hc7 hc7d h=>?_) fun hc7 hc7d h=>?_
 ·obtain ⟨r1,hr8,h⟩:=bI h;refine z1 (k4 hx4 hi3' hc7d hr8) ?_;exact f0 h
 refine z1 (k2 hw5 hc7d) ?_;refine ⟨hi3',(),?_,h⟩;exact wR
@[go_sem] def Hl (N:Nat):FnS:=⟨[],false,fn2 ae.decA (aH .i64) fun q0 q1=>(zw N q0 q1).map fun r=>.tup [.agg (Txn.row r.1),vB r.2],false⟩
def K5 (N:Nat):az prog 80 (Hl N):=om2 fun q0 q1 r h=>rs (Q9 N q0 q1 r h)
def QZ (N:Nat) (a0:Ref) (a1:Ref) (r:Bool) (h:vT N a0 a1=some r):Con prog 77 [] true [.agg [vS a0.Type_,vS a0.Key],.agg [vS a1.Type_,vS a1.Key]] (vB r):=by
 refine fk (G:=(aw [])) func77 gn ?_;simp only [f77];unfold vT at h;refine z0 ?_;refine iB h (fun hc1 h=>?_) fun hc1 h=>?_
 ·refine z1 hc1 ?_;exact e0 h
 refine iB h (fun hc2 h=>?_) fun hc2 h=>?_
 ·refine z1 (k2 hc1 hc2) ?_;exact e0 h
 refine z1 (k2 hc1 hc2) ?_;exact e0 h
@[go_sem] def HB (N:Nat):FnS:=⟨[],true,fn2 Ref.decA Ref.decA fun q0 q1=>(vT N q0 q1).map fun r=>vB r,false⟩
def Ln (N:Nat):az prog 77 (HB N):=om2 (QZ N)
@[go_sem] def Mv (N d f:Nat):Option FnS:=aw [(30,77,HB N)] d f
def M7 (N:Nat) (a0:List ah) (r:List Ref) (h:tY N a0=some r):Con prog 82 [] true [sF 4 (a0.map ah.row)] (sO 2 (r.map Ref.row)):=by
 refine fk (G:=(Mv N)) func82 (gc 30 (Ln N) gn) ?_;simp only [f82];unfold tY at h;refine z0 ?_;refine z0 ?_;refine z0 ?_;refine aT (gZ fun hreal2=>?_);have hl1:=hreal2.lenT 0 (by decide) (by simp only [go_sem,seval]; rfl);rw [cx] at hl1;refine tA (fun (v3:Nat) (b:List Ref)=>⟨tab 62 (af (af (af au 0 (sF 4 (a0.map ah.row))) 3 (.pal 60 [] 0 b.length none)) 4 (vI (v3:Int))),(upd RZ 60 (sO 2 (b.map Ref.row)))⟩) [] h ?_ ?_
 ·refine aW.trans (qD 3 60 2 (by simp only [go_sem,seval]) (by simp only [go_sem,seval])) ?_;refine wr ?_ ?_<;>repeat' first|rfl|constructor|simp only [go_sem,seval,nH,hU,nS,nT]
 rintro v3 l2 hi3 h -;rcases (mR a0 v3 hi3).symm with ⟨hi3',_,hd6⟩|⟨x6,hi3',hx4,hd6⟩
 ·rw [hd6] at h;simp only [ff] at h;refine z1 hi3' ?_;refine cf ?_;refine z0 ?_;exact e0 h
 rw [hd6] at h;simp only [ff] at h;have hw5:=eH hi3' hl1;refine z1 hi3' ?_;refine ct ?_;refine z1 (k2 hx4 hi3') ?_;refine z0 ?_;refine aM (aT (gl (fun (b:Int)=>⟨tab 62 (af (af (af (af (af au 0 (sF 4 (a0.map ah.row))) 3 (.pal 60 [] 0 l2.length none)) 4 (vI (v3:Int))) 5 (pF 5)) 6 (vI b)),(upd (upd RZ 5 (vA 2 [vS x6.Target.Type_,vS x6.Target.Key])) 60 (sO 2 (l2.map Ref.row)))⟩) (l2.length:Int) h ?_ ?_))
 ·exact wF (k3 hx4 hi3' hw5)
 rintro n v10 h -;cases n with
 | zero=>simp [jn] at h
 | succ n=>
 simp only [jn] at h;refine aM ?_;apply aS (fun (c10:Bool)=>⟨tab 62 (af (af (af (af (af (af au 0 (sF 4 (a0.map ah.row))) 3 (.pal 60 [] 0 l2.length none)) 4 (vI (v3:Int))) 5 (pF 5)) 6 (vI v10)) 32 (vB c10)),(upd (upd RZ 5 (vA 2 [vS x6.Target.Type_,vS x6.Target.Key])) 60 (sO 2 (l2.map Ref.row)))⟩)
 ·intro hJ7;refine iD h (fun hc8 hc8d h=>?_) fun hc8 hc8d h=>?_
  ·obtain ⟨x11,hb9,hx10,h⟩:=aG h;obtain ⟨r12,hr11,h⟩:=bI h;refine d1 (k4 hc8d hb9 hx10 hr11) ?_;refine hJ7 _ (!r12) ?_ h;exact wF (k5 hx4 hi3' hw5 hc8d (k3 hb9 hx10 hr11))
  refine d1 hc8d ?_;exact hJ7 _ false (wF (k4 hx4 hi3' hw5 hc8d)) h
 intro c10 h;unfold o9 at h;refine cB h (fun hc12 h=>?_) fun hc12 h=>?_
 ·refine z1 hc12 ?_;refine ⟨_,cZ _,(IntKind.i64.wrap (v10 - 1)),?_,h⟩;exact wF (k4 hx4 hi3' hw5 hc12)
 refine gi (pp ?_);unfold tv at h;refine aM ?_;apply aS (fun (c17:Bool)=>⟨tab 62 (af (af (af (af (af (af au 0 (sF 4 (a0.map ah.row))) 3 (.pal 60 [] 0 l2.length none)) 4 (vI (v3:Int))) 5 (pF 5)) 6 (vI v10)) 46 (vB c17)),(upd (upd RZ 5 (vA 2 [vS x6.Target.Type_,vS x6.Target.Key])) 60 (sO 2 (l2.map Ref.row)))⟩)
 ·intro hJ13;refine lB fun Z hZ=>?_;simp only [go_sem,seval,hc12];repeat with_reducible refine fL (by kernel_rfl) ?_
  refine lU rfl (fun hc14=>?_) (fun hc14=>?_)
  ·have hc14d:=decide_eq_true hc14;rw [if_pos hc14] at h;obtain ⟨x18,hb15,hx16,h⟩:=aG h;simp only [go_sem,seval,hb15,hx16];refine hZ _ (by kernel_rfl) (pp (hJ13 _ (sEq x18.Type_ x6.Target.Type_ && sEq x18.Key x6.Target.Key) ?_ h));exact wF (k5 hx4 hi3' hw5 hc12 (k3 hc14d hb15 hx16))
  have hc14d:=decide_eq_false hc14;rw [if_neg hc14] at h;simp only [go_sem,seval,hc14d];exact hZ _ (by kernel_rfl) (pp (hJ13 _ false (wF (k5 hx4 hi3' hw5 hc12 hc14d)) h))
 intro c17 h;unfold oH at h;refine cB h (fun hc17 h=>?_) fun hc17 h=>?_
 ·refine z1 (k2 hw5 hc17) ?_;refine ⟨hi3',l2,?_,h⟩;exact wF (k5 hx4 hi3' hw5 hc12 hc17)
 refine aZ (pp ?_);unfold lg at h;refine aM ?_;obtain ⟨hs18,h⟩:=iV h;try simp only [cH] at hs18 h
 obtain ⟨ha19,h⟩:=oR h;simp only [Nat.reduceAdd] at ha19;refine z1 (k4 hc17 hs18 @cT ha19) ?_;refine MJ [0,1,2,4,7] [3,5] [[5,3]] [6,8,9] [] (by kernel_rfl) fun Z hZ Y hY=>?_;simp only [go_sem,seval];refine hY _ (by kernel_rfl) (Lo (by kernel_rfl) fun Y hY=>?_);obtain ⟨hs20,ht21,h⟩:=QG h;try simp only [cH] at hs20 ht21 h
 simp only [go_sem,seval,hs18,cU,cT,cw];refine hY _ (by kernel_rfl) (Lo (by kernel_rfl) fun Y hY=>?_);simp only [go_sem,seval,cw];refine hY _ (by kernel_rfl) (XA (sC:=⟨tab 62 (af (af (af (af (af (af (af (af (af (af (af (af (af (af (af (af (af (af au 0 (sF 4 (a0.map ah.row))) 3 (.pal 60 [] 0 l2.length none)) 4 (vI (v3:Int))) 5 (pF 5)) 6 (vI v10)) 7 (.pal 51 [] 0 (((l2.drop ((v10).toNat)).take (l2.length - (v10).toNat)).length) none)) 46 (vB false)) 48 (.pal 60 [] 0 l2.length none)) 49 (vI v10)) 50 (.pal 60 [] ((v10).toNat) (l2.length - (v10).toNat) none)) 51 (.pal 51 [] 0 (((l2.drop ((v10).toNat)).take (l2.length - (v10).toNat)).length) none)) 52 (.pal 60 [] 0 l2.length none)) 53 (vI v10)) 54 (vI v10)) 55 (.pal 60 [] 0 ((v10).toNat) (some ((v10).toNat)))) 56 (.agg [vS x6.Target.Type_,vS x6.Target.Key])) 57 (.pal 57 [] 0 ([x6.Target].length) none)) 59 (.pal 51 [] 0 (((l2.drop ((v10).toNat)).take (l2.length - (v10).toNat)).length) none)),(upd (upd (upd (upd RZ 5 (vA 2 [vS x6.Target.Type_,vS x6.Target.Key])) 51 (sO 2 (((l2.drop ((v10).toNat)).take (l2.length - (v10).toNat)).map Ref.row))) 57 (.sl true none 2 (some 1) ([x6.Target].map Ref.row))) 60 (sO 2 (l2.map Ref.row)))⟩) ?_ ?_ ?_)
 ·try simp only [iZ,gR,go_sem,seval]
  refine wr ?_ ?_<;>repeat' first|rfl|constructor|simp only [go_sem,seval,nH,hU,nS,nT,hx4,hi3',hw5,hc12,hc17,hs18,cU,cT,ha19,hs20,ht21,VM ht21,cw]
 ·refine ⟨?_,trivial⟩
  ·refine MS (by kernel_rfl) fun Y hY=>?_;simp only [go_sem,seval,cw];refine hY _ (by kernel_rfl) (MS (by kernel_rfl) fun Y hY=>?_);simp only [go_sem,seval,hs18,cU,cT,cw];refine hY _ (by kernel_rfl) (V3 ?_);try simp only [iZ,gR,go_sem,seval]
   refine wr ?_ ?_<;>repeat' first|rfl|constructor|simp only [go_sem,seval,nH,hU,nS,nT,hx4,hi3',hw5,hc12,hc17,hs18,cU,cT,ha19,hs20,ht21,VM ht21,cw]
 obtain ⟨ha22,h⟩:=kQ h;simp only [cC,cY,cV,Nat.reduceAdd] at ha22;obtain ⟨ha23,h⟩:=kQ h;simp only [ng,cC,cY,cV,Nat.reduceAdd] at ha23;simp only [go_sem,seval,ha22,ha23];refine hZ _ (z1 hw5 ?_);refine ⟨hi3',(((l2.take ((v10).toNat))++[x6.Target])++((l2.drop ((v10).toNat)).take (l2.length - (v10).toNat))),?_,h⟩;refine wr ?_ ?_<;>repeat' first|rfl|constructor|simp only [go_sem,seval]
@[go_sem] def Cw (N:Nat):FnS:=⟨[],true,fn1 (aJ 4 ah.dec) fun q0=>(tY N q0).map fun r=>sO 2 (r.map Ref.row),false⟩
def Hh (N:Nat):az prog 82 (Cw N):=om1 (M7 N)
@[go_sem] def Gu (N d f:Nat):Option FnS:=aw [(5,82,Cw N)] d f
def GM (N:Nat) (a0:Txn) (r:List Ref) (h:lO N a0=some r):Con prog 94 [] true [.agg (Txn.row a0)] (sO 2 (r.map Ref.row)):=by
 refine fk (G:=(Gu N)) func94 (gc 5 (Hh N) gn) ?_;simp only [f94];unfold lO at h;refine z0 ?_;obtain ⟨r1,hr1,h⟩:=bI h;refine z1 hr1 ?_;exact e0 h
@[go_sem] def zc (N:Nat):FnS:=⟨[],true,fn1 Txn.decA fun q0=>(lO N q0).map fun r=>sF 2 (r.map Ref.row),false⟩
def DN (N:Nat):az prog 94 (zc N):=om1 fun q0 r h=>rs (GM N q0 r h)
@[go_sem] def HX (N d f:Nat):Option FnS:=aw [(13,80,Hl N),(17,94,zc N),(22,95,Dk N)] d f
def HK (N:Nat) (a0:ae) (a1:Int) (a2:Int) (r:Ref) (h:kt N a0 a1 a2=some r):Con prog 32 [] true [.agg (ae.row a0),vI a1,.val (.int .u8 a2)] (.agg (Ref.row r)):=by
 refine fk (G:=(HX N)) func32 (gc 13 (K5 N) (gc 17 (DN N) (gc 22 (D6 N) gn))) ?_;simp only [f32];unfold kt at h;refine z0 ?_;obtain ⟨r1,hr1,h⟩:=bI h;refine z1 hr1 ?_;obtain ⟨r2,hr2,h⟩:=bI h;refine z1 hr2 ?_;refine z0 ?_;refine cD h (fun hc3 hc3d h=>?_) fun hc3 hc3d h=>?_
 ·obtain ⟨r3,hr4,h⟩:=bI h;refine z1 (k2 hc3d hr4) ?_;exact e0 h
 obtain ⟨hd5,h⟩:=P0 h;obtain ⟨x4,hb6,hx7,h⟩:=aG h;refine z1 (k3 hd5 hb6 hx7) ?_;exact e0 h
@[go_sem] def zW (N:Nat):FnS:=⟨[],true,fn3 ae.decA (aH .i64) (aH .u8) fun q0 q1 q2=>(kt N q0 q1 q2).map fun r=>.agg (Ref.row r),false⟩
def DY (N:Nat):az prog 32 (zW N):=om3 (HK N)
@[go_sem] def Q7 (N d f:Nat):Option FnS:=aw [(25,19,Hp N),(58,33,F6 N),(59,38,zH N),(72,25,AZ N),(88,34,rG N),(92,34,rG N),(93,26,Bh N),(110,32,zW N),(111,27,wy N),(34,28,Au N),(40,20,zp N)] d f
def RD (N:Nat) (a0:ae) (a1:Int) (a2:aj) (r:ae × (List aD)) (h:vR N a0 a1 a2=some r):Con prog 11 [] false [.agg (ae.row a0),vI a1,.agg (aj.row a2)] (.tup [.agg (ae.row r.1),sF 9 (r.2.map aD.row)]):=by
 refine JH (G:=(Q7 N)) func11 rfl (by decide) (by kernel_rfl) (gc 25 (Lx N) (gc 58 (JP N) (gc 59 (zm N) (gc 72 (AN N) (gc 88 (oC N) (gc 92 (oC N) (gc 93 (Aw N) (gc 110 (DY N) (gc 111 (wM N) (gc 34 (Cn N) (gc 40 (z7 N) gn))))))))))) [(89,false)] mix (na rfl) ?_;simp only [f11];unfold vR at h;refine z0 ?_;obtain ⟨r1,hr1,h⟩:=bI h;refine z1 hr1 ?_;refine z0 ?_;refine aT ?_;apply aS (fun (c2:Bool)=>⟨tab 118 (af (af (af (af (af (af (af au 1 (vI a1)) 3 (pF 3)) 5 (pF 5)) 6 (pF 6)) 8 (vI r1)) 28 (.val (.int .u8 (Int.tmod a2.Kind 8)))) 47 (vB c2)),(upd (upd (upd RZ 3 (vA 3 (ae.row a0))) 5 (vA 4 (aj.row a2))) 6 (vA 3 [.val (.slice none 0 0),.val (.slice none 0 0),.val (.slice none 0 0)]))⟩)
 ·intro hJ2;refine z0 ?_;refine cD h (fun hc3 hc3d h=>?_) fun hc3 hc3d h=>?_
  ·refine aZ (pp (hJ2 _ true ?_ h));exact wF hc3d
  refine z1 hc3d ?_;exact hJ2 _ (decide ((Int.tmod a2.Kind 8)=1)) (wF (k2 hr1 hc3d)) h
 intro c2 h;unfold uj at h;refine cB h (fun hc4 h=>?_) fun hc4 h=>?_
 ·obtain ⟨r3,hr5,h⟩:=bI h;obtain ⟨r4,hr6,h⟩:=bI h;refine d1 (k3 hc4 hr5 hr6) ?_;refine z0 ?_;refine cD h (fun hc7 hc7d h=>?_) fun hc7 hc7d h=>?_
  ·refine z1 hc7d ?_;exact f0 h
  refine z1 hc7d ?_;exact f0 h
 apply aS (fun (c5:Bool)=>⟨tab 118 (af (af (af (af (af (af au 3 (pF 3)) 5 (pF 5)) 6 (pF 6)) 8 (vI r1)) 28 (.val (.int .u8 (Int.tmod a2.Kind 8)))) 65 (vB c5)),(upd (upd (upd RZ 3 (vA 3 (ae.row a0))) 5 (vA 4 (aj.row a2))) 6 (vA 3 [.val (.slice none 0 0),.val (.slice none 0 0),.val (.slice none 0 0)]))⟩)
 ·intro hJ8;refine z1 hc4 ?_;refine cD h (fun hc9 hc9d h=>?_) fun hc9 hc9d h=>?_
  ·refine aZ (pp (hJ8 _ true ?_ h));exact wF hc9d
  refine z1 hc9d ?_;refine cD h (fun hc10 hc10d h=>?_) fun hc10 hc10d h=>?_
  ·refine aZ (pp (hJ8 _ true ?_ h));exact wF hc10d
  refine z1 hc10d ?_;exact hJ8 _ (decide ((Int.tmod a2.Kind 8)=4)) (wF (k4 hr1 hc4 hc9d hc10d)) h
 intro c5 h;unfold p8 at h;refine cB h (fun hc11 h=>?_) fun hc11 h=>?_
 ·obtain ⟨r6,hr12,h⟩:=bI h;refine z1 (k2 hc11 hr12) ?_;refine z0 ?_;refine cN h (fun hc13 hc13d h=>?_) fun hc13 hc13d h=>?_
  ·refine z1 hc13d ?_;exact f0 h
  refine z1 hc13d ?_;refine cN h (fun hc14 hc14d h=>?_) fun hc14 hc14d h=>?_
  ·refine z1 hc14d ?_;exact f0 h
  obtain ⟨r7,hr15,h⟩:=bI h;obtain ⟨r8,hr16,h⟩:=bI h;obtain rfl:=nf (hr15.symm.trans hr16);obtain ⟨r9,hr17,h⟩:=bI h;refine d1 (k3 hc14d hr15 hr17) ?_;refine z0 ?_;refine cD h (fun hc18 hc18d h=>?_) fun hc18 hc18d h=>?_
  ·refine z1 hc18d ?_;exact f0 h
  refine z1 hc18d ?_;exact f0 h
 apply aS (fun (c10:Bool)=>⟨tab 118 (af (af (af (af (af au 3 (pF 3)) 5 (pF 5)) 6 (pF 6)) 8 (vI r1)) 100 (vB c10)),(upd (upd (upd RZ 3 (vA 3 (ae.row a0))) 5 (vA 4 (aj.row a2))) 6 (vA 3 [.val (.slice none 0 0),.val (.slice none 0 0),.val (.slice none 0 0)]))⟩)
 ·intro hJ19;refine z1 hc11 ?_;refine cD h (fun hc20 hc20d h=>?_) fun hc20 hc20d h=>?_
  ·refine aZ (pp (hJ19 _ true ?_ h));exact wF hc20d
  refine z1 hc20d ?_;exact hJ19 _ (decide ((Int.tmod a2.Kind 8)=6)) (wF (k4 hr1 hc4 hc11 hc20d)) h
 intro c10 h;unfold ua at h;refine cB h (fun hc21 h=>?_) fun hc21 h=>?_
 ·obtain ⟨r11,hr22,h⟩:=bI h;obtain ⟨r12,hr23,h⟩:=bI h;refine d1 (k3 hc21 hr22 hr23) ?_;refine z0 ?_;refine cD h (fun hc24 hc24d h=>?_) fun hc24 hc24d h=>?_
  ·refine z1 hc24d ?_;exact f0 h
  refine z1 hc24d ?_;exact f0 h
 refine z1 hc21 ?_;refine cD h (fun hc25 hc25d h=>?_) fun hc25 hc25d h=>?_
 ·obtain ⟨r13,hr26,h⟩:=bI h;refine z1 (k2 hc25d hr26) ?_;exact f0 h
 obtain ⟨r14,hr27,h⟩:=bI h;refine z1 (k2 hc25d hr27) ?_;refine z0 ?_;refine cD h (fun hc28 hc28d h=>?_) fun hc28 hc28d h=>?_
 ·refine z1 hc28d ?_;exact f0 h
 refine z1 hc28d ?_;exact f0 h
@[go_sem] def Hn (N:Nat):FnS:=⟨[],false,fn3 ae.decA (aH .i64) aj.decA fun q0 q1 q2=>(vR N q0 q1 q2).map fun r=>.tup [.agg (ae.row r.1),sF 9 (r.2.map aD.row)],false⟩
def Lc (N:Nat):az prog 11 (Hn N):=om3 (RD N)
def MF (N:Nat) (a0:List Int) (a1:List Int) (r:Bool) (h:ug N a0 a1=some r):Con prog 36 [] true [sF 1 (a0.map (aB .i64)),sF 1 (a1.map (aB .i64))] (vB r):=by
 refine fk (G:=(aw [])) func36 gn ?_;simp only [f36];unfold ug at h;refine z0 ?_;refine z0 ?_;refine cN h (fun hc1 hc1d h=>?_) fun hc1 hc1d h=>?_
 ·refine z1 hc1d ?_;exact e0 h
 refine z1 hc1d ?_;refine lT 0 (fun (v3:Nat) (b:Unit)=>⟨tab 26 (af (af (af au 0 (sF 1 (a0.map (aB .i64)))) 1 (sF 1 (a1.map (aB .i64)))) 5 (vI (v3:Int))),RZ⟩) () h ?_ ?_
 ·rintro v3 ⟨⟩ hi4' h;simp only [kX] at h;refine z1 hi4' ?_;refine cf ?_;refine z0 ?_;exact e0 h
 rintro v3 ⟨⟩ x6 hi4' hx5 hw6 h;simp only [kX] at h;refine z1 hi4' ?_;refine ct ?_;obtain ⟨x1,hb8,hx9,h⟩:=aG h;try simp only [cH] at hx9
 try simp only [nI,nJ,true_and] at hb8
 refine d1 (k4 hx5 hi4' hb8 hx9) ?_;refine cN h (fun hc10 hc10d h=>?_) fun hc10 hc10d h=>?_
 ·refine z1 hc10d ?_;exact e0 h
 refine z1 (k2 hw6 hc10d) ?_;refine ⟨hi4',(),?_,h⟩;exact wR
@[go_sem] def Dv (N:Nat):FnS:=⟨[],true,fn2 (aJ 1 (dq (aH .i64))) (aJ 1 (dq (aH .i64))) fun q0 q1=>(ug N q0 q1).map fun r=>vB r,false⟩
def HN (N:Nat):az prog 36 (Dv N):=om2 (MF N)
def Iz (N:Nat) (a0:List ByteArray) (a1:List ByteArray) (r:Bool) (h:o5 N a0 a1=some r):Con prog 45 [] true [sF 1 (a0.map dE),sF 1 (a1.map dE)] (vB r):=by
 refine fk (G:=(aw [])) func45 gn ?_;simp only [f45];unfold o5 at h;refine z0 ?_;refine z0 ?_;refine cN h (fun hc1 hc1d h=>?_) fun hc1 hc1d h=>?_
 ·refine z1 hc1d ?_;exact e0 h
 refine z1 hc1d ?_;refine lT 0 (fun (v3:Nat) (b:Unit)=>⟨tab 26 (af (af (af au 0 (sF 1 (a0.map dE))) 1 (sF 1 (a1.map dE))) 5 (vI (v3:Int))),RZ⟩) () h ?_ ?_
 ·rintro v3 ⟨⟩ hi4' h;simp only [je] at h;refine z1 hi4' ?_;refine cf ?_;refine z0 ?_;exact e0 h
 rintro v3 ⟨⟩ x6 hi4' hx5 hw6 h;simp only [je] at h;refine z1 hi4' ?_;refine ct ?_;obtain ⟨x1,hb8,hx9,h⟩:=aG h;try simp only [cH] at hx9
 try simp only [nI,nJ,true_and] at hb8
 refine d1 (k4 hx5 hi4' hb8 hx9) ?_;refine cM h (fun hc10 h=>?_) fun hc10 h=>?_
 ·refine z1 hc10 ?_;exact e0 h
 refine z1 (k2 hw6 hc10) ?_;refine ⟨hi4',(),?_,h⟩;exact wR
@[go_sem] def An (N:Nat):FnS:=⟨[],true,fn2 (aJ 1 (dq bR)) (aJ 1 (dq bR)) fun q0 q1=>(o5 N q0 q1).map fun r=>vB r,false⟩
def ES (N:Nat):az prog 45 (An N):=om2 (Iz N)
@[go_sem] def Lb (N d f:Nat):Option FnS:=aw [(29,36,Dv N),(36,45,An N)] d f
def KJ (N:Nat) (a0:Value) (a1:Value) (r:Bool) (h:k9 N a0 a1=some r):Con prog 14 [] true [.agg (Value.row a0),.agg (Value.row a1)] (vB r):=by
 refine fk (G:=(Lb N)) func14 (gc 29 (HN N) (gc 36 (ES N) gn)) ?_;simp only [f14];unfold k9 at h;refine z0 ?_;refine iDs h (fun hc1 hc1d h=>?_) fun hc1 hc1d h=>?_
 ·refine z1 hc1d ?_;exact e0 h
 refine iDs h (fun hc2 hc2d h=>?_) fun hc2 hc2d h=>?_
 ·refine z1 (k2 hc1d hc2d) ?_;exact e0 h
 refine iBs h (fun hc3 h=>?_) fun hc3 h=>?_
 ·refine z1 (k3 hc1d hc2d hc3) ?_;exact e0 h
 obtain ⟨r1,hr4,h⟩:=bI h;refine iB h (fun hc5 h=>?_) fun hc5 h=>?_
 ·obtain ⟨r2,hr6,h⟩:=bI h;refine z1 (k5 hc1d hc2d hc3 hr4 (k2 hc5 hr6)) ?_;exact e0 h
 refine z1 (k5 hc1d hc2d hc3 hr4 hc5) ?_;exact e0 h
@[go_sem] def wK (N:Nat):FnS:=⟨[],true,fn2 Value.decA Value.decA fun q0 q1=>(k9 N q0 q1).map fun r=>vB r,false⟩
def zV (N:Nat):az prog 14 (wK N):=om2 (KJ N)
@[go_sem] def I2 (N d f:Nat):Option FnS:=aw [(25,14,wK N)] d f
def Ic (N:Nat) (a0:List Value) (a1:List Value) (r:Bool) (h:oZ N a0 a1=some r):Con prog 16 [] true [sF 5 (a0.map Value.row),sF 5 (a1.map Value.row)] (vB r):=by
 refine fk (G:=(I2 N)) func16 (gc 25 (zV N) gn) ?_;simp only [f16];unfold oZ at h;refine z0 ?_;refine z0 ?_;refine cN h (fun hc1 hc1d h=>?_) fun hc1 hc1d h=>?_
 ·refine z1 hc1d ?_;exact e0 h
 refine z1 hc1d ?_;refine lT 0 (fun (v3:Nat) (b:Unit)=>⟨tab 27 (af (af (af au 0 (sF 5 (a0.map Value.row))) 1 (sF 5 (a1.map Value.row))) 5 (vI (v3:Int))),RZ⟩) () h ?_ ?_
 ·rintro v3 ⟨⟩ hi4' h;simp only [jf] at h;refine z1 hi4' ?_;refine cf ?_;refine z0 ?_;exact e0 h
 rintro v3 ⟨⟩ x6 hi4' hx5 hw6 h;simp only [jf] at h;refine z1 hi4' ?_;refine ct ?_;obtain ⟨x1,hb8,hx9,h⟩:=aG h;try simp only [cH] at hx9
 try simp only [nI,nJ,true_and] at hb8
 obtain ⟨r2,hr10,h⟩:=bI h;refine d1 (k5 hx5 hi4' hb8 hx9 hr10) ?_;refine cM h (fun hc11 h=>?_) fun hc11 h=>?_
 ·refine z1 hc11 ?_;exact e0 h
 refine z1 (k2 hw6 hc11) ?_;refine ⟨hi4',(),?_,h⟩;exact wR
@[go_sem] def Aq (N:Nat):FnS:=⟨[],true,fn2 (aJ 5 Value.dec) (aJ 5 Value.dec) fun q0 q1=>(oZ N q0 q1).map fun r=>vB r,false⟩
def E3 (N:Nat):az prog 16 (Aq N):=om2 (Ic N)
@[go_sem] def QQ (N d f:Nat):Option FnS:=aw [(43,12,uG N),(63,12,uG N),(90,12,uG N)] d f
def QM (N:Nat) (a0:ae) (r:Bool) (h:wm N a0=some r):Con prog 17 [] true [.agg (ae.row a0)] (vB r):=by
 refine fk (G:=(QQ N)) func17 (gc 43 (sQ N) (gc 63 (sQ N) (gc 90 (sQ N) gn))) ?_;simp only [f17];unfold wm at h;refine z0 ?_;refine z0 ?_;refine lCs 1 2 (fun (v2:Nat) (b:Unit)=>⟨tab 95 (af (af au 1 (pF 1)) 3 (vI (v2:Int))),(upd RZ 1 (vA 3 (ae.row a0)))⟩) () h ?_ ?_
 ·rintro v2 ⟨⟩ x5 hi3' hx4 hw5 h;simp only [pW] at h;refine z1 hi3' ?_;refine ct ?_;refine z0 ?_;refine aT (gl (fun (b:Int)=>⟨tab 95 (af (af (af au 1 (pF 1)) 3 (vI (v2:Int))) 4 (vI b)),(upd RZ 1 (vA 3 (ae.row a0)))⟩) 0 h ?_ ?_)
  ·exact wR
  rintro n v8 h -;cases n with
  | zero=>simp [pY] at h
  | succ n=>
  simp only [pY] at h;refine z1 (k2 hx4 hi3') ?_;refine cDs h (fun hc7 hc7d h=>?_) fun hc7 hc7d h=>?_
  ·refine z1 (k2 hw5 hc7d) ?_;refine ⟨hi3',(),?_,h⟩;exact wR
  obtain ⟨x13,hb8,hx9,h⟩:=aG h;obtain ⟨r14,hr10,h⟩:=bI h;refine d1 (k5 hx4 hi3' hb8 hx9 hr10) ?_;refine z0 ?_;refine cM h (fun hc11 h=>?_) fun hc11 h=>?_
  ·refine z1 hc11 ?_;exact e0 h
  refine z1 hc11 ?_;refine ⟨_,cZ _,(IntKind.i64.wrap (v8+1)),?_,h⟩;exact wR
 rintro v2 ⟨⟩ hi3' h;simp only [pW] at h;refine z1 hi3' ?_;refine cf ?_;unfold yz at h;refine z0 ?_;refine lC 1 1 (fun (v15:Nat) (b:Unit)=>⟨tab 95 (af (af au 1 (pF 1)) 7 (vI (v15:Int))),(upd RZ 1 (vA 3 (ae.row a0)))⟩) () h ?_ ?_
 ·rintro v15 ⟨⟩ hi14' h;simp only [qe] at h;refine z1 hi14' ?_;refine cf ?_;refine z0 ?_;exact e0 h
 rintro v15 ⟨⟩ x18 hi14' hx15 hw16 h;simp only [qe] at h;refine z1 hi14' ?_;refine ct ?_;obtain ⟨r15,hr18,h⟩:=bI h;refine d1 (k3 hx15 hi14' hr18) ?_;refine z0 ?_;refine cM h (fun hc19 h=>?_) fun hc19 h=>?_
 ·refine z1 hc19 ?_;exact e0 h
 refine z1 hc19 ?_;refine aT (gl (fun (b:Int)=>⟨tab 95 (af (af (af au 1 (pF 1)) 7 (vI (v15:Int))) 10 (vI b)),(upd RZ 1 (vA 3 (ae.row a0)))⟩) 0 h ?_ ?_)
 ·exact wR
 rintro n v23 h -;cases n with
 | zero=>simp [qb] at h
 | succ n=>
 simp only [qb] at h;refine z1 (k2 hx15 hi14') ?_;refine cDs h (fun hc20 hc20d h=>?_) fun hc20 hc20d h=>?_
 ·refine z1 (k2 hw16 hc20d) ?_;refine ⟨hi14',(),?_,h⟩;exact wR
 obtain ⟨x16,hb21,hx22,h⟩:=aG h;obtain ⟨r17,hr23,h⟩:=bI h;refine d1 (k5 hx15 hi14' hb21 hx22 hr23) ?_;refine z0 ?_;refine cM h (fun hc24 h=>?_) fun hc24 h=>?_
 ·refine z1 hc24 ?_;exact e0 h
 refine z1 hc24 ?_;refine ⟨_,cZ _,(IntKind.i64.wrap (v23+1)),?_,h⟩;exact wR
@[go_sem] def HA (N:Nat):FnS:=⟨[],true,fn1 ae.decA fun q0=>(wm N q0).map fun r=>vB r,false⟩
def Lg (N:Nat):az prog 17 (HA N):=om1 (QM N)
@[go_sem] def J7 (N d f:Nat):Option FnS:=aw [(16,10,AK N),(36,11,Hn N),(53,12,uG N),(57,13,py N),(99,14,wK N),(113,15,Ca N),(152,16,Aq N),(174,17,HA N)] d f
def Cp (N:Nat) (a0:List aj) (r:Bool) (h:mw N a0=some r):Con prog 3 [] true [sF 4 (a0.map aj.row)] (vB r):=by
 refine fk (G:=(J7 N)) func3 (gc 16 (Ke N) (gc 36 (Lc N) (gc 53 (sQ N) (gc 57 (rh N) (gc 99 (zV N) (gc 113 (Dt N) (gc 152 (E3 N) (gc 174 (Lg N) gn)))))))) ?_;simp only [f3];unfold mw at h;refine z0 ?_;obtain ⟨r1,hr1,h⟩:=bI h;refine z1 hr1 ?_;refine cM h (fun hc2 h=>?_) fun hc2 h=>?_
 ·refine z1 hc2 ?_;exact e0 h
 refine z1 hc2 ?_;refine cD h (fun hc3 hc3d h=>?_) fun hc3 hc3d h=>?_
 ·refine z1 hc3d ?_;exact e0 h
 refine z1 hc3d ?_;refine z0 ?_;refine aT (gZ fun hreal5=>?_);have hl4:=hreal5.lenT 0 (by decide) (by simp only [go_sem,seval]; rfl);rw [cx] at hl4;refine tA (fun (v8:Nat) (b:List Txn × List ai × List aa)=>⟨tab 176 (af (af (af au 0 (sF 4 (a0.map aj.row))) 3 (pF 3)) 4 (vI (v8:Int))),(upd RZ 3 (vA 3 [sF 11 (b.1.map Txn.row),sF 4 (b.2.1.map ai.row),sF 3 (b.2.2.map aa.row)]))⟩) ([],[],[]) h ?_ ?_
 ·refine aW.trans (Ez 3 [(0,0)] 11 (by simp only [go_sem,seval]) (by simp only [go_sem,seval]; try rfl)) (aW.trans (Ez 3 [(0,1)] 4 (by simp only [go_sem,seval]) (by simp only [go_sem,seval]; try rfl)) (aW.trans (Ez 3 [(0,2)] 3 (by simp only [go_sem,seval]) (by simp only [go_sem,seval]; try rfl)) ?_));exact wR
 rintro v8 ⟨l5,l6,l7⟩ hi6 h -;rcases (mR a0 v8 hi6).symm with ⟨hi6',_,hd9⟩|⟨x11,hi6',hx7,hd9⟩
 ·rw [hd9] at h;simp only [gf] at h;refine z1 hi6' ?_;refine cf ?_;refine z0 ?_;exact e0 h
 rw [hd9] at h;simp only [gf] at h;have hw8:=eH hi6' hl4;refine z1 hi6' ?_;refine ct ?_;refine z0 ?_;obtain ⟨r2,hr10,h⟩:=bI h;refine d1 (k3 hx7 hi6' hr10) ?_;refine z0 ?_;refine z0 ?_;refine lT 7 (fun (v16:Nat) (b:Unit)=>⟨tab 176 (af (af (af (af (af (af au 0 (sF 4 (a0.map aj.row))) 3 (pF 3)) 4 (vI (v8:Int))) 5 (pF 5)) 7 (sF 9 (r2.2.map aD.row))) 8 (vI (v16:Int))),(upd (upd RZ 3 (vA 3 (ae.row r2.1))) 5 (vA 3 [sF 11 (l5.map Txn.row),sF 4 (l6.map ai.row),sF 3 (l7.map aa.row)]))⟩) () h ?_ ?_
 ·rintro v16 ⟨⟩ hi13' h;simp only [dt] at h;refine z1 hi13' ?_;refine cf ?_;refine gi (pp ?_);unfold qO at h;obtain ⟨r62,hr50,h⟩:=bI h;refine z1 hr50 ?_;refine cM h (fun hc51 h=>?_) fun hc51 h=>?_
  ·refine z1 hc51 ?_;exact e0 h
  refine z1 (k2 hw8 hc51) ?_;refine ⟨hi6',(r2.1.Txns,r2.1.Locks,r2.1.Stacks),?_,h⟩;exact wR
 rintro v16 ⟨⟩ x19 hi13' hx14 hw15 h;simp only [dt] at h;refine z1 hi13' ?_;refine ct ?_;obtain ⟨r38,hr17,h⟩:=bI h;refine d1 (k3 hx14 hi13' hr17) ?_;obtain ⟨r39,hr18,h⟩:=bI h;refine z1 hr18 ?_;refine aM ?_;apply aS (fun (c44:Bool)=>⟨tab 176 (af (af (af (af (af (af (af (af (af au 0 (sF 4 (a0.map aj.row))) 3 (pF 3)) 4 (vI (v8:Int))) 5 (pF 5)) 7 (sF 9 (r2.2.map aD.row))) 8 (vI (v16:Int))) 9 (pF 9)) 11 (sF 2 (r39.map Ref.row))) 101 (vB c44)),(upd (upd (upd RZ 3 (vA 3 (ae.row r2.1))) 5 (vA 3 [sF 11 (l5.map Txn.row),sF 4 (l6.map ai.row),sF 3 (l7.map aa.row)])) 9 (vA 11 (Txn.row r38.1)))⟩)
 ·intro hJ19;refine lB fun Z hZ=>?_;simp only [go_sem,seval];refine lq rfl (fun hc20=>?_) (fun hc20=>?_)
  ·rw [if_neg (ne_true_of_eq_false hc20)] at h;simp only [go_sem,seval,hc20];exact hZ _ (by kernel_rfl) (pp (hJ19 _ true wR h))
  rw [if_pos hc20] at h;simp only [go_sem,seval,hx14,hi13',hc20];repeat with_reducible refine fL (by kernel_rfl) ?_
  refine HC rfl (fun hc21=>?_) (fun hc21=>?_)
  ·have hc21d:=decide_eq_false hc21;rw [if_neg hc21] at h;simp only [go_sem,seval,hc21d];exact hZ _ (by kernel_rfl) (pp (hJ19 _ true wR h))
  have hc21d:=decide_eq_true hc21;rw [if_pos hc21] at h;simp only [go_sem,seval,hx14,hi13',hc21d];refine lq rfl (fun hc22=>?_) (fun hc22=>?_)
  ·rw [if_neg (ne_true_of_eq_false hc22)] at h;simp only [go_sem,seval,hc22];exact hZ _ (by kernel_rfl) (pp (hJ19 _ true wR h))
  rw [if_pos hc22] at h;simp only [go_sem,seval,hx14,hi13',hc22];refine HC rfl (fun hc23=>?_) (fun hc23=>?_)
  ·have hc23d:=decide_eq_false hc23;rw [if_neg hc23] at h;simp only [go_sem,seval,hc23d];exact hZ _ (by kernel_rfl) (pp (hJ19 _ true wR h))
  have hc23d:=decide_eq_true hc23;rw [if_pos hc23] at h;obtain ⟨r45,hr24,h⟩:=bI h;simp only [go_sem,seval,hx14,hi13',hc23d,hr24];repeat with_reducible refine fL (by kernel_rfl) ?_
  exact hZ _ (by kernel_rfl) (pp (hJ19 _ (!r45) wR h))
 intro c44 h;unfold iw at h;refine cB h (fun hc25 h=>?_) fun hc25 h=>?_
 ·refine z1 hc25 ?_;exact e0 h
 unfold iG at h;refine z1 hc25 ?_;refine lT 11 (fun (v28:Nat) (b:Unit)=>⟨tab 176 (af (af (af (af (af (af (af (af (af au 0 (sF 4 (a0.map aj.row))) 3 (pF 3)) 4 (vI (v8:Int))) 5 (pF 5)) 7 (sF 9 (r2.2.map aD.row))) 8 (vI (v16:Int))) 9 (pF 9)) 11 (sF 2 (r39.map Ref.row))) 12 (vI (v28:Int))),(upd (upd (upd RZ 3 (vA 3 (ae.row r2.1))) 5 (vA 3 [sF 11 (l5.map Txn.row),sF 4 (l6.map ai.row),sF 3 (l7.map aa.row)])) 9 (vA 11 (Txn.row r38.1)))⟩) () h ?_ ?_
 ·rintro v28 ⟨⟩ hi28' h;simp only [iq] at h;refine z1 hi28' ?_;refine cf ?_;refine z1 hw15 ?_;refine ⟨hi13',(),?_,h⟩;exact wR
 rintro v28 ⟨⟩ x31 hi28' hx29 hw30 h;simp only [iq] at h;refine z1 hi28' ?_;refine ct ?_;obtain ⟨r46,hr32,h⟩:=bI h;refine d1 (k3 hx29 hi28' hr32) ?_;refine z0 ?_;refine z0 ?_;refine lT 13 (fun (v37:Nat) (b:Bool)=>⟨tab 176 (af (af (af (af (af (af (af (af (af (af (af (af au 0 (sF 4 (a0.map aj.row))) 3 (pF 3)) 4 (vI (v8:Int))) 5 (pF 5)) 7 (sF 9 (r2.2.map aD.row))) 8 (vI (v16:Int))) 9 (pF 9)) 11 (sF 2 (r39.map Ref.row))) 12 (vI (v28:Int))) 13 (sF 3 (r46.map al.row))) 14 (vB b)) 15 (vI (v37:Int))),(upd (upd (upd RZ 3 (vA 3 (ae.row r2.1))) 5 (vA 3 [sF 11 (l5.map Txn.row),sF 4 (l6.map ai.row),sF 3 (l7.map aa.row)])) 9 (vA 11 (Txn.row r38.1)))⟩) false h ?_ ?_
 ·rintro v37 c36 hi35' h;simp only [ey] at h;refine z1 hi35' ?_;refine cf ?_;refine gi (pp ?_);unfold vL at h;apply aS (fun (c60:Bool)=>⟨tab 176 (af (af (af (af (af (af (af (af (af (af au 0 (sF 4 (a0.map aj.row))) 3 (pF 3)) 4 (vI (v8:Int))) 5 (pF 5)) 7 (sF 9 (r2.2.map aD.row))) 8 (vI (v16:Int))) 9 (pF 9)) 11 (sF 2 (r39.map Ref.row))) 12 (vI (v28:Int))) 172 (vB c60)),(upd (upd (upd RZ 3 (vA 3 (ae.row r2.1))) 5 (vA 3 [sF 11 (l5.map Txn.row),sF 4 (l6.map ai.row),sF 3 (l7.map aa.row)])) 9 (vA 11 (Txn.row r38.1)))⟩)
  ·intro hJ45;obtain ⟨x61,hb46,hx47,h⟩:=aG h;try simp only [cH] at hx47
   try simp only [nI,nJ,true_and] at hb46
   refine iBs h (fun hc48 h=>?_) fun hc48 h=>?_
   ·refine d1 (k5 hx14 hi13' hx29 hi28' (k3 hb46 hx47 hc48)) ?_;exact hJ45 _ true wR h
   refine d1 (k5 hx14 hi13' hx29 hi28' (k3 hb46 hx47 hc48)) ?_;exact hJ45 _ (!c36) wR h
  intro c60 h;unfold qT at h;refine cB h (fun hc49 h=>?_) fun hc49 h=>?_
  ·refine z1 hc49 ?_;exact e0 h
  refine z1 (k2 hw30 hc49) ?_;refine ⟨hi28',(),?_,h⟩;exact wR
 rintro v37 c36 x40 hi35' hx36 hw37 h;simp only [ey] at h;refine z1 hi35' ?_;refine ct ?_;refine iB h (fun hc39 h=>?_) fun hc39 h=>?_
 ·refine d1 hc39 ?_;refine z1 hw37 ?_;refine ⟨hi35',true,?_,h⟩;exact wR
 refine iDs h (fun hc40 hc40d h=>?_) fun hc40 hc40d h=>?_
 ·refine d1 (k4 hx36 hi35' hc39 hc40d) ?_;refine z1 hw37 ?_;refine ⟨hi35',false,?_,h⟩;exact wR
 refine iBs h (fun hc41 h=>?_) fun hc41 h=>?_
 ·refine d1 (k5 hx36 hi35' hc39 hc40d hc41) ?_;refine z1 hw37 ?_;refine ⟨hi35',false,?_,h⟩;exact wR
 obtain ⟨x57,hb42,hx43,h⟩:=aG h;try simp only [cH] at hx43
 try simp only [nI,nJ,true_and] at hb42
 obtain ⟨r58,hr44,h⟩:=bI h;refine d1 (k5 hx36 hi35' hc39 hc40d (k5 hx14 hi13' hc41 hb42 (k2 hx43 hr44))) ?_;refine z1 hw37 ?_;refine ⟨hi35',r58,?_,h⟩;exact wR
@[go_sem] def H9 (N:Nat):FnS:=⟨[],true,fn1 (aJ 4 aj.dec) fun q0=>(mw N q0).map fun r=>vB r,false⟩
def SU (N:Nat):az prog 3 (H9 N):=om1 (Cp N)
end
end Go.Proofs.YtmacaidmhchpgaaGreat
