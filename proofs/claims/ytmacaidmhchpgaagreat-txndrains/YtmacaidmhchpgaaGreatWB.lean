/- Walks: each function computes its model. No condition. -/
import Derived.Test.YtmacaidmhchpgaaGreatB
import Derived.Test.YtmacaidmhchpgaaGreatWA
/- Each Go function computes its model: proofs laid by a program of ours. -/
set_option linter.defProp false
set_option maxHeartbeats 40000000
set_option synthInstance.maxHeartbeats 2000000
set_option synthInstance.maxSize 4000
set_option linter.unusedSimpArgs false
set_option linter.unusedVariables false
set_option maxRecDepth 100000
namespace Go.Proofs.YtmacaidmhchpgaaGreat
open Go Go.Proofs Go.Abs Tryz
noncomputable section
@[go_sem] def Q6 (N d f:Nat):Option FnS:=aw [(8,43,wy N)] d f
def Ql (N:Nat) (a0:aa) (a1:Ref) (r:Int) (h:qi N a0 a1=some r):Con prog 65 [] true [.agg (aa.row a0),.agg [vS a1.Type_,vS a1.Key]] (vI r):=by
 refine fk (G:=(Q6 N)) func65 (gc 8 (wK N) gn) ?_;simp only [f65];unfold qi at h;refine z0 ?_;obtain ⟨r1,hr1,h⟩:=bI h;refine z1 hr1 ?_;exact e0 h
@[go_sem] def BZ (N:Nat):FnS:=⟨[],true,fn2 aa.decA Ref.decA fun q0 q1=>(qi N q0 q1).map fun r=>vI r,false⟩
def CQ (N:Nat):aA prog 65 (BZ N):=om2 (Ql N)
@[go_sem] def tH (N d f:Nat):Option FnS:=aw [(30,65,BZ N),(46,65,BZ N)] d f
def tD (N:Nat) (a0:List aa) (a1:Ref) (r:Int × Bool) (h:ba N a0 a1=some r):Con prog 64 [] true [sF 3 (a0.map aa.row),.agg [vS a1.Type_,vS a1.Key],.clo 65 []] (.tup [vI r.1,vB r.2]):=by
 refine fk (G:=(tH N)) func64 (gc 30 (CQ N) (gc 46 (CQ N) gn)) ?_;simp only [f64];unfold ba at h;refine z0 ?_;refine z0 ?_;refine z0 ?_;refine aL (aQ (gl (fun (b:Int × Int)=>⟨tab 49 (af (af (af (af (af (af au 0 (sF 3 (a0.map aa.row))) 2 (.clo 65 [])) 4 (pF 4)) 8 (vI (a0.length:Int))) 9 (vI b.1)) 10 (vI b.2)),(upd RZ 4 (vA 2 [vS a1.Type_,vS a1.Key]))⟩) (0,(a0.length:Int)) h ?_ ?_))
 ·exact wR
 rintro n ⟨v2,v3⟩ h -;cases n with
 | zero=>simp [bg] at h
 | succ n=>
 simp only [bg] at h;refine z0 ?_;refine cDs h (fun hc1 hc1d h=>?_) fun hc1 hc1d h=>?_
 ·refine fx (pp ?_);unfold bu at h;refine iD h (fun hc6 hc6d h=>?_) fun hc6 hc6d h=>?_
  ·obtain ⟨x11,hb7,hx8,h⟩:=aI h;obtain ⟨r12,hr9,h⟩:=bI h;refine d1 (k4 hc1d hb7 hx8 hr9) ?_;exact e0 h
  refine d1 (k2 hc1d hc6d) ?_;exact e0 h
 refine z1 hc1d ?_;obtain ⟨x9,hb2,hx3,h⟩:=aI h;obtain ⟨r10,hr4,h⟩:=bI h;refine d1 (k3 hb2 hx3 hr4) ?_;refine cD h (fun hc5 hc5d h=>?_) fun hc5 hc5d h=>?_
 ·refine z1 hc5d ?_;refine ⟨_,cZ _,(IntKind.i64.wrap ((IntKind.i64.wrap (kd .u64 (IntKind.u64.wrap (IntKind.i64.wrap (v2+v3))) 1))+1),v3),?_,h⟩;exact wR
 refine z1 hc5d ?_;refine ⟨_,cZ _,(v2,IntKind.i64.wrap (kd .u64 (IntKind.u64.wrap (IntKind.i64.wrap (v2+v3))) 1)),?_,h⟩;exact wR
@[go_sem] def fZ (N:Nat):FnS:={ own:=[],pure:=true,fn:=fun cs=>match cs with
 | [c0,c1,.clo 65 []]=>((aJ 3 aa.dec) c0).bind fun qc0=>(Ref.decA c1).bind fun qc1=>(ba N qc0 qc1).map fun r=>.tup [vI r.1,vB r.2]
 | _=>none }
def rf (N:Nat):aA prog 64 (fZ N):=by
 refine ⟨fun cs r h=>?_,fun h=>by cases h⟩;simp only [fZ] at h;split at h
 ·simp only [ck,cj] at h;obtain ⟨q0,h0,q1,h1,r',hr,rfl⟩:=h;exact (ag (tD N q0 q1 r' hr))
 ·cases h
def bR:FnS:={ own:=[true,true],pure:=false,fn:=fun _=>none,peek:=true }
theorem tC:bR.own=[true,true]:=rfl
theorem sY:bR.peek=true:=rfl
theorem yc:HX prog 137:=
 MZ (fn:=f137) (tS:=26) (tR:=4) (e:=67) (size:=3) func137 rfl rfl (by kernel_rfl) (by kernel_rfl) (by kernel_rfl) (by kernel_rfl)
def ue:aA prog 137 bR:=⟨(fun cs r h=>by simp [bR] at h),fun _=>yc⟩
def dT:Env:={ T:=ey prog,G:=fun d f=>if d=67/\f=137 then some bR else none }
theorem sy:dT.T=ey prog:=rfl
theorem AM (d:Nat):dT.F d=none:=rfl
theorem Ar (d f:Nat):dT.L d f=none:=rfl
theorem Az:dT.G 67 137=some bR:=rfl
def z6:GOk prog { T:=ey prog,G:=dT.G }:=by
 refine ⟨?_,fun _ _ _ h=>by cases h⟩;intro d f fs hfs;simp only [dT] at hfs;split at hfs
 ·rename_i hc; obtain ⟨rfl,rfl⟩:=hc; obtain rfl:=ng hfs; exact ue
 cases hfs
theorem Bh:DJ prog 66 f66 f66.body.get! := ⟨func66,rfl,by decide,by kernel_rfl⟩
set_option maxHeartbeats 4000000 in
section
attribute [local go_sem] sy Nat.le_refl fX Option.map_some List.isEmpty_nil CA Nat.sub_zero dz tA
def s7 {α:Type} (row:α->List C) (ok:aF row) (l:List α) (i:Nat) (x:α) (k:Nat) (r:List α) (hr:r=l.take i++[x]++l.drop i) (hi:i<=l.length) (hsz:(l.length+1) * 56<=140737488355328) (hk1:l.length<=k) (hk2:k<=maxLen) :
  Con prog 66 [true,false,true] false [.sl true none 3 (some k) (l.map row),vI i,sO 3 ([x].map row)] (sO 3 (r.map row)):=by
 refine Jm (E:=dT) (yW prog _) z6 mix Bh (nb rfl) ?_;intro _;rw [vu (by simp)];rw [show gf [true,false,true] [C.sl true none 3 (some k) (l.map row),C.val (.int .i64 i),C.sl true none 3 none ([x].map row)]=(af (af (af au 0 (.pal 0 [] 0 l.length none)) 1 (vI i)) 2 (.pal 2 [] 0 1 none)) from by funext t; match t with|0=>simp [gf,iW,jW,af]|1=>rfl|2=>rfl|t+3=>rfl];rw [show R0 [true,false,true] [C.sl true none 3 (some k) (l.map row),C.val (.int .i64 i),C.sl true none 3 none ([x].map row)]=upd (upd RZ 0 (C.sl true none 3 (some k) (l.map row))) 2 (C.sl true none 3 none ([x].map row)) from by funext t; match t with|0=>rfl|1=>rfl|2=>rfl|t+3=>rfl];apply Ju;simp only [f66,Option.get!];have hi1:(i:Int)<=(l.length:Int):=by omega
 have hi2:i<=l.length:=hi;have h10:(((1:Nat):Int)=0)=False:=by simp
 have hp:(row x).all Abs.plainCell=true:=ok.plain x;have hf:(row x).map C.frz=(row x):=ok.frz x;have hpD:(row x).all qe=true:=by have:=(aF.allD ok [x]); simpa using this
 have hw1:IntKind.i64.wrap ((l.length:Int)+((1:Nat):Int))=((l.length+1:Nat):Int):=by rw [lE (by omega) (by omega)]; rfl
 have hlt0:(l.take i).length=i:=by simp; omega
 have hes:(3 != 0)=true:=rfl;have hm1:min 1 (l.length+1 - i)=1:=by omega
 have hm2:min (l.length - i) (l.length+1 - (i+1))=l.length - i:=by omega
 have hm3:(l.drop i).take (l.length - i)=l.drop i:=nj (by simp);have hm4:i+1<=l.length+1:=by omega
 have hw2:IntKind.i64.wrap (((l.length+1:Nat):Int) - (i:Int))=((l.length+1 - i:Nat):Int):=by rw [lE (by omega) (by omega)]; omega
 have hw1b:IntKind.i64.wrap ((l.length:Int)+1)=((l.length+1:Nat):Int):=hw1;have hw3:IntKind.i64.wrap ((i:Int)+((1:Nat):Int))=((i+1:Nat):Int):=by rw [lE (by omega) (by omega)]; rfl
 have hw3b:IntKind.i64.wrap ((i:Int)+1)=((i+1:Nat):Int):=hw3;simp only [go_sem,seval,hi2];refine KZ rfl ?_;simp only [go_sem,seval,sy,acP];refine tg rfl (fun hc=>?_) (fun hc=>?_)
 ·have e:i=l.length:=by omega
  subst e;simp only [go_sem,seval,AM,hp,hf,aF.allD ok,acC,dR,hsz];refine sA ok ?_;rw [hr];simp [nj]
 ·have hc1:decide ((i:Int)=(l.length:Int))=false:=decide_eq_false hc;have hlt:i < l.length:=by omega
  simp only [go_sem,seval,QH,tf,hw1b,hc1];refine tg rfl (fun hk=>?_) (fun hk=>?_)
  ·have hk1:decide (k < l.length+1)=true:=decide_eq_true hk;have hk2:k < i+(l.length+1 - i):=by omega
   have e1:i+(l.length+1 - i)=l.length+1:=by omega
   have hi3:(i:Int)<=((l.length+1:Nat):Int):=by omega
   have hi4:i<=l.length+1:=by omega
   obtain ⟨A,hA⟩:∃ A,List.map row (List.take i l)++List.replicate (l.length+1 - i) [C.val (Value.string ⟨#[]⟩),C.val (Value.string ⟨#[]⟩),C.val (Value.slice none 0 0)]=A:=⟨_,rfl⟩;have hAp:bJ A:=by rw [<-hA]; exact jK (fV ok _) (zK _ [Value.string ⟨#[]⟩,Value.string ⟨#[]⟩,Value.slice none 0 0] (by simp [Value.oneCell']))
   have hAl:A.length=l.length+1:=by rw [<-hA,ni,cy,hlt0,xq]; omega
   obtain ⟨B,hB⟩:∃ B,aK A i [(row x)]=B:=⟨_,rfl⟩;have hBp:bJ B:=by rw [<-hB]; exact fT hAp ⟨by simp [frzRows,hf],by simp [hpD]⟩
   have hBl:B.length=l.length+1:=by rw [<-hB]; simp [aK,hAl]; omega
   obtain ⟨D,hD⟩:∃ D,aK B (i+1) (List.map row (List.drop i l))=D:=⟨_,rfl⟩;have hDp:bJ D:=by rw [<-hD]; exact fT hBp (fV ok _)
   have hDl:D.length=l.length+1:=by rw [<-hD]; simp [aK,hBl]; omega
   have hDe:D=(l.take i++[x]++l.drop i).map row:=by
    rw [<-hD,<-hB,<-hA,xb,nQ,Ny (A:=l.map row) (n:=l.length) (by simp) hi2 (by simp)];simp
   simp only [go_sem,seval,hi2,hp,hf,aF.frzRows ok,aF.allPlain ok,CM,tf,Gu,Ct,gu,D5,Ext.all,hw2,hw1b,hw3b,ada,cT,xq,hlt0,hm1,hm3,hm4,hk,e1,hi4,hA,hAl,hAp.1,hAp.2,hB,hBp.1,hBp.2,hD,hsz];repeat' ((with_reducible refine gE ?_ ?_); kernel_rfl)
   simp only [go_sem,seval,dR];refine sA ok ?_;rw [hr,<-hDe,<-hDl,xz]
  ·have hk1:decide (k < l.length+1)=false:=decide_eq_false hk;have hk2:¬ k < i+(l.length+1 - i):=by omega
   have hk3:l.length+1<=k:=by omega
   have e2:l.length+1 - l.length=1:=by omega
   have e3:l.length<=l.length+1:=by omega
   have hi3:(i:Int)<=((l.length+1:Nat):Int):=by omega
   have hi4:i<=l.length+1:=by omega
   have hne:¬ l.length+1 - (i+1)=0:=by omega
   have hne2:¬ l.length - i=0:=by omega
   obtain ⟨A,hA⟩:∃ A,List.map row l++[[C.dead,C.dead,C.dead]]=A:=⟨_,rfl⟩;have hAp:bJ A:=by rw [<-hA]; exact jK (fV ok _) (C5 1 3)
   have hAl:A.length=l.length+1:=by rw [<-hA]; simp
   have hm5:min (l.length+1 - i) (l.length+1 - (i+1))=l.length - i:=by omega
   have hm5b:min (l.length+1 - i) (l.length - i)=l.length - i:=by omega
   obtain ⟨A2,hA2⟩:∃ A2,(A.drop i).take (l.length - i)=A2:=⟨_,rfl⟩;have hA2e:A2=List.map row (l.drop i):=by
    rw [<-hA2,<-hA,acB,cy,show i - l.length=0 by omega,nU,xt,nj (by simp),show l.length - i - (List.drop i (List.map row l)).length=0 by simp];simp [nQ]
   have hA2p:(A2.all fun r=>r.all Abs.plainCell)=true:=by rw [hA2e]; exact ok.allPlain _
   have hA2f:frzRows A2=A2:=by rw [hA2e]; exact ok.frzRows _
   have hA2d:bJ A2:=by rw [hA2e]; exact fV ok _
   obtain ⟨B,hB⟩:∃ B,aK A (i+1) A2=B:=⟨_,rfl⟩;have hBp:bJ B:=by rw [<-hB]; exact fT hAp hA2d
   have hBl:B.length=l.length+1:=by rw [<-hB]; simp [aK,hAl,hA2e]; omega
   obtain ⟨D,hD⟩:∃ D,aK B i [(row x)]=D:=⟨_,rfl⟩;have hDp:bJ D:=by rw [<-hD]; exact fT hBp ⟨by simp [frzRows,hf],by simp [hpD]⟩
   have hDl:D.length=l.length+1:=by rw [<-hD]; simp [aK,hBl]; omega
   have hDe:D=(l.take i++[x]++l.drop i).map row:=by
    rw [<-hD,<-hB,<-hA2,<-hA,Ky (A:=l.map row) (n:=l.length) (by simp) hi2];simp [xb,nQ]
   simp only [go_sem,seval,Ar,Az,aF.frzRows ok,aF.allD ok,AH,I4,qs,hw1b,hw3b,cT,hm4,tC,sY,acC,hk,hk3,e2,e3,hne2,hA,hes];refine KS rfl ?_;simp only [go_sem,seval,hp,hf,CM,Gu,Ct,hw3b,hm1,hm4,hi4,hAp.1,hAp.2,hA2,hA2p,hA2f,hB,hBp.1,hBp.2,hD,hm5b];repeat' ((with_reducible refine gE ?_ ?_); kernel_rfl)
   simp only [go_sem,seval,dR];refine sA ok ?_;rw [hr,<-hDe,<-hDl,xz]
end
def OU (N:Nat) (a0:List aa) (a1:Int) (a2:List aa) (r:List aa) (h:bE N a0 a1 a2=some r) :
  Con prog 66 [true,false,true] false [sO 3 (a0.map aa.row),vI a1,sO 3 (a2.map aa.row)] (sO 3 (r.map aa.row)):=by
 unfold bE at h;obtain ⟨n,x,rfl,rfl,h1,h2,h3⟩:=Bv h;exact I5 fun k hk1 hk2=>s7 aa.row aa.row_ok a0 n x k r (ng h3).symm h1 h2 (by simpa using hk1) hk2
def yD {N:Nat} {a0:List aa} {a1:Int} {x:aa} {r:List aa} (h:bE N a0 a1 [x]=some r):r[a1.toNat]?=some x:=by
 unfold bE at h;obtain ⟨n,y,rfl,hy,h1,h2,h3⟩:=Bv h;obtain rfl:x=y:=by simpa using hy
 obtain rfl:=ng h3;rw [cP,nr,cL (by simp only [nC]; omega)];simp only [nC,acE h1,xh,nH,cu]
def BQ (N:Nat) (a0:List aa) (a1:Int) (a2:List aa) (r:List aa) (h:bE N a0 a1 a2=some r) :
  Con prog 66 [true,false,true] false [sO 3 (a0.map aa.rowD),vI a1,sO 3 (a2.map aa.rowN)] (sO 3 ((r.map aa.rowD).set a1.toNat ((a2.map aa.rowN).headD []))):=by
 unfold bE at h;obtain ⟨n,x,rfl,rfl,h1,h2,h3⟩:=Bv h;obtain rfl:=ng h3;have e2:((a0.take n++[x]++a0.drop n).map aa.rowD).set n (aa.rowN x)=(a0.map aa.rowD).take n++[aa.rowN x]++(a0.map aa.rowD).drop n:=by
  simp only [nt,nq,xf,nr];rw [<-xb,<-nQ,ad8 _ _ (by simp only [cy,nC]; omega)];simp only [cy,nC,acE h1,xh,nH,cK,ad9]
 have:=Xb (P:=prog) (f:=66) (es:=3) (by1:=56) (fun α row ok l i x k r a b c d e=>s7 row ok l i x k r a b c d e) (A:=a0.map aa.rowD) (rx:=aa.rowN x) (i:=n) (by simpa using h1) (by simpa using h2) (fun row hr c hc=>by obtain ⟨y,_,rfl⟩:=cE.1 hr; simp only [aa.rowD,cF,nM,or_false] at hc; rcases hc with rfl|rfl|rfl<;>rfl) (fun c hc=>by simp only [aa.rowN,cF,nM,or_false] at hc; rcases hc with rfl|rfl|rfl<;>rfl)
 rw [<-e2] at this;exact this
def dA (N:Nat):FnS:={ own:=[true,false,true],pure:=false,fn:=fun cs=>match cs with
 | [c0,c1,c2]=>(exL 3 aa.decE c0).bind fun q0=>(aH .i64 c1).bind fun q1=>(vH 3 aa.decN c2).bind fun q2=>(bE N q0 q1 q2).map fun r=>sO 3 ((r.map aa.rowD).set q1.toNat ((q2.map aa.rowN).headD []))
 | _=>none }
theorem yM (N:Nat):(dA N).own=[true,false,true]:=rfl
theorem wS (N:Nat):(dA N).pure=false:=rfl
theorem yi (N:Nat):(dA N).peek=false:=rfl
attribute [go_sem] dA yM wS yi List.headD_cons aa.rowN aa.decN
def zd (N:Nat):aA prog 66 (dA N):=by
 refine ⟨fun cs r h=>?_,fun h=>by cases h⟩;simp only [dA] at h;split at h
 ·simp only [ck,cj] at h;obtain ⟨q0,h0,q1,h1,q2,h2,r',hr,rfl⟩:=h;obtain rfl:=Vn aa.decE_eq h0;exact (BQ N q0 q1 q2 r' hr).argsO rfl (jP ⟨ROk.refl _,fun _ h=>h⟩ (qX (bz h1) (jP (pX aa.rowN_ok aa.decN_le h2) mZ)))
 ·cases h
@[go_sem] def Ur (N d f:Nat):Option FnS:=aw [(19,23,lz N),(23,60,vb N),(28,61,lJ N),(35,24,Bc N),(47,62,AB N),(52,59,pT N),(57,40,gD N),(67,63,rO N),(77,64,fZ N),(89,66,dA N),(135,67,qD N)] d f
def Tf (N:Nat) (a0:ae) (a1:Int) (a2:List Value) (a3:Value) (r:ae × Int) (h:jm N a0 a1 a2 a3=some r):Con prog 26 [] false [.agg (ae.row a0),vI a1,sF 5 (a2.map Value.row),.agg (Value.row a3)] (.tup [.agg [sO 11 (r.1.Txns.map Txn.row),sO 4 (r.1.Locks.map ai.row),sO 3 (r.1.Stacks.map aa.rowD)],vI r.2]):=by
 refine fk (G:=(Ur N)) func26 (gc 19 (j5 N) (gc 23 (y6 N) (gc 28 (mf N) (gc 35 (AL N) (gc 47 (Cc N) (gc 52 (o9 N) (gc 57 (eU N) (gc 67 (tq N) (gc 77 (rf N) (gc 89 (zd N) (gc 135 (sE N) gn))))))))))) ?_;simp only [f26];unfold jm at h;refine z0 ?_;refine aL ?_;apply aT (fun (c9:Bool)=>⟨tab 139 (af (af (af (af (af (af au 1 (vI a1)) 2 (sF 5 (a2.map Value.row))) 4 (pF 4)) 7 (pF 7)) 8 (pF 8)) 30 (vB c9)),(upd (upd (upd RZ 4 (vA 3 (ae.row a0))) 7 (vA 5 (Value.row a3))) 8 (vA 3 [.val (.slice none 0 0),.val (.slice none 0 0),.val (.slice none 0 0)]))⟩)
 ·intro hJ1;obtain ⟨r10,hr2,h⟩:=bI h;refine iBs h (fun hc3 h=>?_) fun hc3 h=>?_
  ·refine z1 (k2 hr2 hc3) ?_;exact hJ1 _ true wR h
  obtain ⟨r11,hr4,h⟩:=bI h;refine iBs h (fun hc5 h=>?_) fun hc5 h=>?_
  ·refine z1 (k4 hr2 hc3 hr4 hc5) ?_;exact hJ1 _ true wR h
  obtain ⟨r12,hr6,h⟩:=bI h;refine z1 (k5 hr2 hc3 hr4 hc5 hr6) ?_;exact hJ1 _ (!r12) wR h
 intro c9 h;unfold ye at h;refine cB h (fun hc7 h=>?_) fun hc7 h=>?_
 ·refine z1 hc7 ?_;exact f0 h
 refine aU (pp ?_);unfold qW at h;obtain ⟨r13,hr8,h⟩:=bI h;refine z1 (k2 hc7 hr8) ?_;refine z0 ?_;refine cM h (fun hc9 h=>?_) fun hc9 h=>?_
 ·refine z1 hc9 ?_;exact f0 h
 obtain ⟨r14,hr10,h⟩:=bI h;refine z1 (k2 hc9 hr10) ?_;refine cN h (fun hc11 hc11d h=>?_) fun hc11 hc11d h=>?_
 ·refine z1 hc11d ?_;exact f0 h
 obtain ⟨r15,hr12,h⟩:=bI h;refine z1 (k2 hc11d hr12) ?_;obtain ⟨r16,hr13,h⟩:=bI h;obtain ⟨x17,hb14,hx15,h⟩:=aI h;refine d1 (k2 hr13 hb14) ?_;obtain ⟨r18,hr16,h⟩:=bI h;have hx18:=kq (y:=(Txn.mk x17.ID x17.Born x17.Client x17.Seq x17.Calls (IntKind.i64.wrap (x17.Done+1)) x17.Last)) hx15;have hx20:=kq (y:=(Txn.mk x17.ID x17.Born x17.Client x17.Seq x17.Calls (IntKind.i64.wrap (x17.Done+1)) r18)) hx15;refine d1 (k5 hx15 hr16 (mm2 (row:=Txn.row) (y:=(Txn.mk x17.ID x17.Born x17.Client x17.Seq x17.Calls (IntKind.i64.wrap (x17.Done+1)) x17.Last)) (rx:=[vI x17.ID,vI x17.Born,vS x17.Client,vI x17.Seq,sF 4 (x17.Calls.map ah.row),vI x17.Done,vI x17.Last.Kind,vI x17.Last.N,vS x17.Last.S,sF 1 (x17.Last.I.map (aB .i64)),sF 1 (x17.Last.L.map dS)]) (ry:=[vI x17.ID,vI x17.Born,vS x17.Client,vI x17.Seq,sF 4 (x17.Calls.map ah.row),vI (IntKind.i64.wrap (x17.Done+1)),vI x17.Last.Kind,vI x17.Last.N,vS x17.Last.S,sF 1 (x17.Last.I.map (aB .i64)),sF 1 (x17.Last.L.map dS)]) hx15 rfl rfl) hx18 (mm3 (row:=Txn.row) (y0:=(Txn.mk x17.ID x17.Born x17.Client x17.Seq x17.Calls (IntKind.i64.wrap (x17.Done+1)) x17.Last)) (y:=(Txn.mk x17.ID x17.Born x17.Client x17.Seq x17.Calls (IntKind.i64.wrap (x17.Done+1)) r18)) (rx:=[vI x17.ID,vI x17.Born,vS x17.Client,vI x17.Seq,sF 4 (x17.Calls.map ah.row),vI (IntKind.i64.wrap (x17.Done+1)),vI x17.Last.Kind,vI x17.Last.N,vS x17.Last.S,sF 1 (x17.Last.I.map (aB .i64)),sF 1 (x17.Last.L.map dS)]) (ry:=[vI x17.ID,vI x17.Born,vS x17.Client,vI x17.Seq,sF 4 (x17.Calls.map ah.row),vI (IntKind.i64.wrap (x17.Done+1)),vI r18.Kind,vI r18.N,vS r18.S,sF 1 (r18.I.map (aB .i64)),sF 1 (r18.L.map dS)]) hx15 rfl rfl)) ?_;obtain ⟨r19,hr21,h⟩:=bI h;refine z1 hr21 ?_;apply aT (fun (l21:List aa)=>⟨tab 139 (af (af (af (af (af au 1 (vI a1)) 2 (sF 5 (a2.map Value.row))) 8 (pF 8)) 12 (pF 12)) 14 (vI r19.1)),(upd (upd RZ 8 (vA 3 [.val (.slice none 0 0),.val (.slice none 0 0),.val (.slice none 0 0)])) 12 (vA 3 [sO 11 ((r15.Txns.set ((r16).toNat) (Txn.mk x17.ID x17.Born x17.Client x17.Seq x17.Calls (IntKind.i64.wrap (x17.Done+1)) r18)).map Txn.row),sO 4 (r15.Locks.map ai.row),sO 3 (l21.map aa.rowD)]))⟩)
 ·intro hJ22;refine z0 ?_;refine cMs h (fun hc23 h=>?_) fun hc23 h=>?_
  ·refine aU (pp (hJ22 _ r15.Stacks ?_ h));exact wR
  obtain ⟨r22,hr24,h⟩:=bI h;have hx25:=yD hr24;refine z1 (k2 hc23 hr24) ?_;refine ll (NX 12 [(0,2),((r19.1).toNat,2)] 3 (by simp only [go_sem,seval,Gh (row:=aa.rowD) _ hx25]) (by simp only [go_sem,seval,F4 (row:=aa.rowD) hx25 rfl]; try rfl)) (ll (yX (n:=12) (c':=vA 3 [sO 11 ((r15.Txns.set ((r16).toNat) (Txn.mk x17.ID x17.Born x17.Client x17.Seq x17.Calls (IntKind.i64.wrap (x17.Done+1)) r18)).map Txn.row),sO 4 (r15.Locks.map ai.row),sO 3 (r22.map aa.rowD)]) (by simp only [go_sem,seval]; rfl) (by simp only [VW (row:=aa.rowD) (rc:=[vS r13.1.Target.Type_,vS r13.1.Target.Key,sO 3 []]) hx25 rfl])) (hJ22 _ r22 ?_ h));exact wR
 intro l21 h;unfold rp at h;obtain ⟨x23,hb26,hx27,h⟩:=aI h;refine z1 hb26 ?_;refine z1 hx27 ?_;apply Da (fun (l28:List aa) (v29:Int)=>⟨tab 139 (af (af (af (af (af au 2 (sF 5 (a2.map Value.row))) 8 (pF 8)) 12 (pF 12)) 16 (.pref 12 [(0,2)] ((r19.1).toNat) 0)) 17 (vI v29)),(upd (upd RZ 8 (vA 3 [.val (.slice none 0 0),.val (.slice none 0 0),.val (.slice none 0 0)])) 12 (vA 3 [sO 11 ((r15.Txns.set ((r16).toNat) (Txn.mk x17.ID x17.Born x17.Client x17.Seq x17.Calls (IntKind.i64.wrap (x17.Done+1)) r18)).map Txn.row),sO 4 (r15.Locks.map ai.row),sO 3 (l28.map aa.rowD)]))⟩)
 ·intro hJ28;apply aT (fun (c31:Bool)=>⟨tab 139 (af (af (af (af (af (af (af au 1 (vI a1)) 2 (sF 5 (a2.map Value.row))) 8 (pF 8)) 12 (pF 12)) 16 (.pref 12 [(0,2)] ((r19.1).toNat) 0)) 17 (vI (x23.Layers.length:Int))) 114 (vB c31)),(upd (upd RZ 8 (vA 3 [.val (.slice none 0 0),.val (.slice none 0 0),.val (.slice none 0 0)])) 12 (vA 3 [sO 11 ((r15.Txns.set ((r16).toNat) (Txn.mk x17.ID x17.Born x17.Client x17.Seq x17.Calls (IntKind.i64.wrap (x17.Done+1)) r18)).map Txn.row),sO 4 (r15.Locks.map ai.row),sO 3 (l21.map aa.rowD)]))⟩)
  ·intro hJ29;refine iD h (fun hc30 hc30d h=>?_) fun hc30 hc30d h=>?_
   ·refine z1 hc30d ?_;exact hJ29 _ true wR h
   obtain ⟨x32,hb31,hx32,h⟩:=aI h;refine z1 (k4 hx27 hc30d hb31 hx32) ?_;exact hJ29 _ (!decide (x32.Txn_=a1)) wR h
  intro c31 h;unfold uz at h;refine cBs h (fun hc33 h=>?_) fun hc33 h=>?_
  ·refine aU (pp (hJ28 _ l21 (x23.Layers.length:Int) ?_ h));exact wR
  obtain ⟨ha34,h⟩:=jR h;simp only [cG,cY,cV,Nat.reduceAdd] at ha34;refine z1 (k5 hx27 hc33 ha34 (ov1 (row:=aa.rowD) (rx:=[vS x23.Actor.Type_,vS x23.Actor.Key,sO 3 (x23.Layers.map al.row)]) hx27 rfl) (k2 (ov2 (row:=aa.rowD) hx27) (ov3 (row:=aa.rowD) hx27))) ?_;refine ll (D9 12 [(0,2),((r19.1).toNat,2),(x23.Layers.length,1)] 5 (by simp only [go_sem,seval,Gh (row:=aa.rowD) _ hx27,Ve]) (by simp only [go_sem,seval,F4 (row:=aa.rowD) hx27 rfl,VU]; try rfl)) (hJ28 _ (l21.set ((r19.1).toNat) (aa.mk x23.Actor (x23.Layers++[(al.mk a1 [] false)]))) (IntKind.i64.wrap ((x23.Layers.length:Int)+1)) ?_ h);refine aX.trans (yX (n:=12) (c':=vA 3 [sO 11 ((r15.Txns.set ((r16).toNat) (Txn.mk x17.ID x17.Born x17.Client x17.Seq x17.Calls (IntKind.i64.wrap (x17.Done+1)) r18)).map Txn.row),sO 4 (r15.Locks.map ai.row),sO 3 ((l21.set ((r19.1).toNat) (aa.mk x23.Actor (x23.Layers++[(al.mk a1 [] false)]))).map aa.rowD)]) (by simp only [go_sem,seval]; rfl) (by first|(simp only [oh (row:=aa.rowD) (l:=l21) (i:=((r19.1).toNat)) (y:=(aa.mk x23.Actor (x23.Layers++[(al.mk a1 [] false)]))) (rc:=[vS x23.Actor.Type_,vS x23.Actor.Key,sO 3 ((x23.Layers++[(al.mk a1 [] false)]).map al.row)]) rfl]; done)|(simp only [oh (row:=aa.rowD) (l:=l21) (i:=((r19.1).toNat)) (y:=(aa.mk x23.Actor (x23.Layers++[(al.mk a1 [] false)]))) (rc:=[vS x23.Actor.Type_,vS x23.Actor.Key,sO 3 ((x23.Layers++[(al.mk a1 [] false)]).map al.row)]) rfl,nt,nq,xf]<;>rfl)|(rw [<-oh (row:=aa.rowD) (l:=l21) (i:=((r19.1).toNat)) (y:=(aa.mk x23.Actor (x23.Layers++[(al.mk a1 [] false)]))) (rc:=[vS x23.Actor.Type_,vS x23.Actor.Key,sO 3 ((x23.Layers++[(al.mk a1 [] false)]).map al.row)]) rfl]; simp only [nt,nq,xf]<;>rfl))) (aX.trans (vP (n:=122) ([[vI a1,sF 5 [],vB false]]) (by (try simp only [go_sem]); rfl) (by simp only [go_sem,seval]; rfl) (by simp only [iZ,gX,go_sem]; rfl)) ?_)
  exact wR
 intro l28 v29 h;unfold w9 at h;obtain ⟨x33,hb35,hx36,h⟩:=aI h;obtain ⟨r34,hr37,h⟩:=bI h;obtain ⟨x35,hb38,hx39,h⟩:=aI h;have hx41:=kq (y:=(al.mk x35.Txn_ r34 x35.Prepared)) hx39;refine d1 (k5 hx36 hr37 hb38 hx39 (k2 (mm2 (row:=al.row) (y:=(al.mk x35.Txn_ r34 x35.Prepared)) (rx:=[vI x35.Txn_,sF 5 (x35.Fields.map Value.row),vB x35.Prepared]) (ry:=[vI x35.Txn_,sF 5 (r34.map Value.row),vB x35.Prepared]) hx39 rfl rfl) (ov1 (row:=aa.rowD) (rx:=[vS x33.Actor.Type_,vS x33.Actor.Key,sO 3 (x33.Layers.map al.row)]) hx36 rfl))) ?_;refine aL ?_;refine ll (yX (n:=12) (c':=vA 3 [sO 11 ((r15.Txns.set ((r16).toNat) (Txn.mk x17.ID x17.Born x17.Client x17.Seq x17.Calls (IntKind.i64.wrap (x17.Done+1)) r18)).map Txn.row),sO 4 (r15.Locks.map ai.row),sO 3 ((l28.set ((r19.1).toNat) (aa.mk x33.Actor (x33.Layers.set ((IntKind.i64.wrap (v29 - 1)).toNat) (al.mk x35.Txn_ r34 x35.Prepared)))).map aa.rowD)]) (by simp only [go_sem,seval]; rfl) (by first|(simp only [oh (row:=aa.rowD) (l:=l28) (i:=((r19.1).toNat)) (y:=(aa.mk x33.Actor (x33.Layers.set ((IntKind.i64.wrap (v29 - 1)).toNat) (al.mk x35.Txn_ r34 x35.Prepared)))) (rc:=[vS x33.Actor.Type_,vS x33.Actor.Key,sO 3 ((x33.Layers.set ((IntKind.i64.wrap (v29 - 1)).toNat) (al.mk x35.Txn_ r34 x35.Prepared)).map al.row)]) rfl]; done)|(simp only [oh (row:=aa.rowD) (l:=l28) (i:=((r19.1).toNat)) (y:=(aa.mk x33.Actor (x33.Layers.set ((IntKind.i64.wrap (v29 - 1)).toNat) (al.mk x35.Txn_ r34 x35.Prepared)))) (rc:=[vS x33.Actor.Type_,vS x33.Actor.Key,sO 3 ((x33.Layers.set ((IntKind.i64.wrap (v29 - 1)).toNat) (al.mk x35.Txn_ r34 x35.Prepared)).map al.row)]) rfl,nt,nq,xf]<;>rfl)|(rw [<-oh (row:=aa.rowD) (l:=l28) (i:=((r19.1).toNat)) (y:=(aa.mk x33.Actor (x33.Layers.set ((IntKind.i64.wrap (v29 - 1)).toNat) (al.mk x35.Txn_ r34 x35.Prepared)))) (rc:=[vS x33.Actor.Type_,vS x33.Actor.Key,sO 3 ((x33.Layers.set ((IntKind.i64.wrap (v29 - 1)).toNat) (al.mk x35.Txn_ r34 x35.Prepared)).map al.row)]) rfl]; simp only [nt,nq,xf]<;>rfl))) (z0 ?_)
 exact f0 h
@[go_sem] def ym (N:Nat):FnS:=⟨[],false,fn4 ae.decA (aH .i64) (aJ 5 Value.dec) Value.decA fun q0 q1 q2 q3=>(jm N q0 q1 q2 q3).map fun r=>.tup [.agg (ae.row r.1),vI r.2],false⟩
def vK (N:Nat):aA prog 26 (ym N):=om4 fun q0 q1 q2 q3 r h=>rs (Tf N q0 q1 q2 q3 r h)
@[go_sem] def Lw (N d f:Nat):Option FnS:=aw [(12,116,ld N),(16,124,pq N),(21,125,rP N),(27,126,yp N),(43,117,j8 N),(45,120,ju N)] d f
def Mi (N:Nat) (a0:List ai) (a1:Ref) (a2:Int) (r:(List ai) × Int × Int) (h:mw N a0 a1 a2=some r):Con prog 70 [] false [sF 4 (a0.map ai.row),.agg [vS a1.Type_,vS a1.Key],vI a2] (.tup [sO 4 (r.1.map ai.row),vI r.2.1,vI r.2.2]):=by
 refine fk (G:=(Lw N)) func70 (gc 12 (km N) (gc 16 (rm N) (gc 21 (tL N) (gc 27 (yG N) (gc 43 (jF N) (gc 45 (Ch N) gn)))))) ?_;simp only [f70];unfold mw at h;refine z0 ?_;refine aL ?_;apply aT (fun (c9:Bool)=>⟨tab 50 (af (af (af (af au 0 (sF 4 (a0.map ai.row))) 2 (vI a2)) 4 (pF 4)) 23 (vB c9)),(upd RZ 4 (vA 2 [vS a1.Type_,vS a1.Key]))⟩)
 ·intro hJ1;obtain ⟨r10,hr2,h⟩:=bI h;refine iBs h (fun hc3 h=>?_) fun hc3 h=>?_
  ·refine z1 (k2 hr2 hc3) ?_;exact hJ1 _ true wR h
  obtain ⟨r11,hr4,h⟩:=bI h;refine iBs h (fun hc5 h=>?_) fun hc5 h=>?_
  ·refine z1 (k4 hr2 hc3 hr4 hc5) ?_;exact hJ1 _ true wR h
  obtain ⟨r12,hr6,h⟩:=bI h;refine z1 (k5 hr2 hc3 hr4 hc5 hr6) ?_;exact hJ1 _ (!r12) wR h
 intro c9 h;unfold oS at h;refine cB h (fun hc7 h=>?_) fun hc7 h=>?_
 ·refine z1 hc7 ?_;exact f0 h
 refine aU (pp ?_);unfold pg at h;obtain ⟨r13,hr8,h⟩:=bI h;refine z1 (k2 hc7 hr8) ?_;refine aL ?_;apply aT (fun (c18:Bool)=>⟨tab 50 (af (af (af au 0 (sF 4 (a0.map ai.row))) 9 (vI r13.1)) 40 (vB c18)),RZ⟩)
 ·intro hJ9;refine iBs h (fun hc10 h=>?_) fun hc10 h=>?_
  ·refine z1 hc10 ?_;exact hJ9 _ true wR h
  obtain ⟨x19,hb11,hx12,h⟩:=aI h;refine z1 (k3 hc10 hb11 hx12) ?_;exact hJ9 _ (!decide (x19.Owner=a2)) wR h
 intro c18 h;unfold kN at h;refine cB h (fun hc13 h=>?_) fun hc13 h=>?_
 ·refine z1 hc13 ?_;exact f0 h
 refine aU (pp ?_);unfold tu at h;obtain ⟨r20,hr14,h⟩:=bI h;obtain ⟨r21,hr15,h⟩:=bI h;refine z1 (k3 hc13 hr14 hr15) ?_;refine z0 ?_;exact f0 h
@[go_sem] def B8 (N:Nat):FnS:=⟨[],false,fn3 (aJ 4 ai.dec) Ref.decA (aH .i64) fun q0 q1 q2=>(mw N q0 q1 q2).map fun r=>.tup [sO 4 (r.1.map ai.row),vI r.2.1,vI r.2.2],false⟩
def GO (N:Nat):aA prog 70 (B8 N):=om3 (Mi N)
@[go_sem] def OG (N d f:Nat):Option FnS:=aw [(14,23,lz N),(19,40,gD N),(30,68,AD N),(53,69,rT N),(60,59,pT N),(65,46,vE N),(80,70,B8 N)] d f
def OZ (N:Nat) (a0:ae) (a1:Int) (a2:Ref) (r:ae × Int) (h:fu N a0 a1 a2=some r):Con prog 27 [] false [.agg (ae.row a0),vI a1,.agg [vS a2.Type_,vS a2.Key]] (.tup [.agg [sF 11 (r.1.Txns.map Txn.row),sO 4 (r.1.Locks.map ai.row),sF 3 (r.1.Stacks.map aa.row)],vI r.2]):=by
 refine fk (G:=(OG N)) func27 (gc 14 (j5 N) (gc 19 (eU N) (gc 30 (Cj N) (gc 53 (qd N) (gc 60 (o9 N) (gc 65 (uV N) (gc 80 (GO N) gn))))))) ?_;simp only [f27];unfold fu at h;refine z0 ?_;obtain ⟨r1,hr1,h⟩:=bI h;refine z1 hr1 ?_;refine cM h (fun hc2 h=>?_) fun hc2 h=>?_
 ·refine z1 hc2 ?_;exact f0 h
 obtain ⟨r2,hr3,h⟩:=bI h;refine z1 (k2 hc2 hr3) ?_;refine aL ?_;apply aT (fun (c9:Bool)=>⟨tab 86 (af (af (af (af (af (af au 1 (vI a1)) 3 (pF 3)) 5 (pF 5)) 6 (pF 6)) 8 (vI r2)) 32 (vB c9)),(upd (upd (upd RZ 3 (vA 3 (ae.row a0))) 5 (vA 2 [vS a2.Type_,vS a2.Key])) 6 (vA 3 [.val (.slice none 0 0),.val (.slice none 0 0),.val (.slice none 0 0)]))⟩)
 ·intro hJ4;refine iD h (fun hc5 hc5d h=>?_) fun hc5 hc5d h=>?_
  ·refine d1 hc5d ?_;exact hJ4 _ true wR h
  obtain ⟨x10,hb6,hx7,h⟩:=aI h;obtain ⟨r11,hr8,h⟩:=bI h;refine d1 (k4 hc5d hb6 hx7 hr8) ?_;exact hJ4 _ (!r11) wR h
 intro c9 h;unfold iO at h;refine cB h (fun hc9 h=>?_) fun hc9 h=>?_
 ·refine z1 hc9 ?_;exact f0 h
 refine aU (pp ?_);unfold lg at h;obtain ⟨x12,hb10,hx11,h⟩:=aI h;refine d1 (k3 hc9 hb10 hx11) ?_;refine cD h (fun hc12 hc12d h=>?_) fun hc12 hc12d h=>?_
 ·refine z1 hc12d ?_;exact f0 h
 obtain ⟨r13,hr13,h⟩:=bI h;refine z1 (k2 hc12d hr13) ?_;refine z0 ?_;refine cB h (fun hc14 h=>?_) fun hc14 h=>?_
 ·refine z1 hc14 ?_;exact f0 h
 obtain ⟨r14,hr15,h⟩:=bI h;refine z1 (k2 hc14 hr15) ?_;obtain ⟨r15,hr16,h⟩:=bI h;obtain ⟨x16,hb17,hx18,h⟩:=aI h;refine d1 (k3 hr16 hb17 hx18) ?_;obtain ⟨x17,hb19,hx20,h⟩:=aI h;have hx22:=kq (y:=(al.mk x17.Txn_ x17.Fields true)) hx20;refine z1 (k5 hx18 hb19 hx20 (mm2 (row:=al.row) (y:=(al.mk x17.Txn_ x17.Fields true)) (rx:=[vI x17.Txn_,sF 5 (x17.Fields.map Value.row),vB x17.Prepared]) (ry:=[vI x17.Txn_,sF 5 (x17.Fields.map Value.row),vB true]) hx20 rfl rfl) (ov1 (row:=aa.rowD) (rx:=[vS x16.Actor.Type_,vS x16.Actor.Key,sO 3 (x16.Layers.map al.row)]) hx18 rfl)) ?_;refine aL ?_;refine ll (yX (n:=11) (c':=vA 3 [sO 11 (r14.Txns.map Txn.row),sO 4 (r14.Locks.map ai.row),sO 3 ((r14.Stacks.set ((r15).toNat) (aa.mk x16.Actor (x16.Layers.set ((IntKind.i64.wrap ((x16.Layers.length:Int) - 1)).toNat) (al.mk x17.Txn_ x17.Fields true)))).map aa.rowD)]) (by simp only [go_sem,seval]; rfl) (by first|(simp only [oh (row:=aa.rowD) (l:=r14.Stacks) (i:=((r15).toNat)) (y:=(aa.mk x16.Actor (x16.Layers.set ((IntKind.i64.wrap ((x16.Layers.length:Int) - 1)).toNat) (al.mk x17.Txn_ x17.Fields true)))) (rc:=[vS x16.Actor.Type_,vS x16.Actor.Key,sO 3 ((x16.Layers.set ((IntKind.i64.wrap ((x16.Layers.length:Int) - 1)).toNat) (al.mk x17.Txn_ x17.Fields true)).map al.row)]) rfl]; done)|(simp only [oh (row:=aa.rowD) (l:=r14.Stacks) (i:=((r15).toNat)) (y:=(aa.mk x16.Actor (x16.Layers.set ((IntKind.i64.wrap ((x16.Layers.length:Int) - 1)).toNat) (al.mk x17.Txn_ x17.Fields true)))) (rc:=[vS x16.Actor.Type_,vS x16.Actor.Key,sO 3 ((x16.Layers.set ((IntKind.i64.wrap ((x16.Layers.length:Int) - 1)).toNat) (al.mk x17.Txn_ x17.Fields true)).map al.row)]) rfl,nt,nq,xf]<;>rfl)|(rw [<-oh (row:=aa.rowD) (l:=r14.Stacks) (i:=((r15).toNat)) (y:=(aa.mk x16.Actor (x16.Layers.set ((IntKind.i64.wrap ((x16.Layers.length:Int) - 1)).toNat) (al.mk x17.Txn_ x17.Fields true)))) (rc:=[vS x16.Actor.Type_,vS x16.Actor.Key,sO 3 ((x16.Layers.set ((IntKind.i64.wrap ((x16.Layers.length:Int) - 1)).toNat) (al.mk x17.Txn_ x17.Fields true)).map al.row)]) rfl]; simp only [nt,nq,xf]<;>rfl))) (ll (Rd (n:=11) (by simp only [go_sem,seval]; rfl) (by simp only [iZ,gX,go_sem]; rfl)) ?_)
 obtain ⟨r18,hr23,h⟩:=bI h;refine z1 hr23 ?_;refine z0 ?_;exact f0 h
@[go_sem] def sm (N:Nat):FnS:=⟨[],false,fn3 ae.decA (aH .i64) Ref.decA fun q0 q1 q2=>(fu N q0 q1 q2).map fun r=>.tup [.agg (ae.row r.1),vI r.2],false⟩
def rQ (N:Nat):aA prog 27 (sm N):=om3 fun q0 q1 q2 r h=>rs (OZ N q0 q1 q2 r h)
@[go_sem] def Qh (N d f:Nat):Option FnS:=aw [(8,46,vE N),(17,47,uG N)] d f
def Qz (N:Nat) (a0:ae) (a1:Ref) (r:List al) (h:ta N a0 a1=some r):Con prog 15 [] false [.agg (ae.row a0),.agg [vS a1.Type_,vS a1.Key]] (sO 3 (r.map al.row)):=by
 refine fk (G:=(Qh N)) func15 (gc 8 (uV N) (gc 17 (yf N) gn)) ?_;simp only [f15];unfold ta at h;refine z0 ?_;obtain ⟨r1,hr1,h⟩:=bI h;refine z1 hr1 ?_;refine z0 ?_;refine cD h (fun hc2 hc2d h=>?_) fun hc2 hc2d h=>?_
 ·obtain ⟨x2,hb3,hx4,h⟩:=aI h;obtain ⟨r3,hr5,h⟩:=bI h;refine z1 (k3 hb3 hx4 hr5) ?_;exact f0 h
 refine z1 hc2d ?_;exact f0 h
@[go_sem] def Hk (N:Nat):FnS:=⟨[],false,fn2 ae.decA Ref.decA fun q0 q1=>(ta N q0 q1).map fun r=>sF 3 (r.map al.row),false⟩
def Lo (N:Nat):aA prog 15 (Hk N):=om2 fun q0 q1 r h=>rs (Qz N q0 q1 r h)
@[go_sem] def Lf (N d f:Nat):Option FnS:=aw [(13,69,rT N)] d f
def Kn (N:Nat) (a0:ah) (c0_0:List Txn) (c0_1:List ai) (c0_2:List aa) (c1_0:Int) (c1_1:Int) (c1_2:ByteArray) (c1_3:Int) (c1_4:List ah) (c1_5:Int) (c1_6:Int) (c1_7:Int) (c1_8:ByteArray) (c1_9:List Int) (c1_10:List ByteArray) (r:Bool) (h:kT N a0 c0_0 c0_1 c0_2 c1_0 c1_1 c1_2 c1_3 c1_4 c1_5 c1_6 c1_7 c1_8 c1_9 c1_10=some r):Con prog 142 [] true [.agg (ah.row a0),.iref 3 [[sF 11 (c0_0.map Txn.row),sF 4 (c0_1.map ai.row),sF 3 (c0_2.map aa.row)]] 0 0,.iref 11 [[vI c1_0,vI c1_1,vS c1_2,vI c1_3,sF 4 (c1_4.map ah.row),vI c1_5,vI c1_6,vI c1_7,vS c1_8,sF 1 (c1_9.map (aB .i64)),sF 1 (c1_10.map dS)]] 0 0] (vB r):=by
 refine fk (G:=(Lf N)) func142 (gc 13 (qd N) gn) ?_;simp only [f142];unfold kT at h;refine z0 ?_;obtain ⟨r1,hr1,h⟩:=bI h;refine z1 hr1 ?_;refine iBs h (fun hc2 h=>?_) fun hc2 h=>?_
 ·refine z1 hc2 ?_;exact e0 h
 refine z1 hc2 ?_;exact e0 h
@[go_sem] def wE (N:Nat):FnS:={ own:=[],pure:=true,fn:=fun cs=>match cs with
 | [c0,.iref 3 [[c1_0,c1_1,c1_2]] 0 0,.iref 11 [[c2_0,c2_1,c2_2,c2_3,c2_4,c2_5,c2_6,c2_7,c2_8,c2_9,c2_10]] 0 0]=>(ah.decA c0).bind fun qc0=>((aJ 11 Txn.dec) c1_0).bind fun qc1_0=>((aJ 4 ai.dec) c1_1).bind fun qc1_1=>((aJ 3 aa.dec) c1_2).bind fun qc1_2=>((aH .i64) c2_0).bind fun qc2_0=>((aH .i64) c2_1).bind fun qc2_1=>(bW c2_2).bind fun qc2_2=>((aH .i64) c2_3).bind fun qc2_3=>((aJ 4 ah.dec) c2_4).bind fun qc2_4=>((aH .i64) c2_5).bind fun qc2_5=>((aH .i64) c2_6).bind fun qc2_6=>((aH .i64) c2_7).bind fun qc2_7=>(bW c2_8).bind fun qc2_8=>((aJ 1 (dJ (aH .i64))) c2_9).bind fun qc2_9=>((aJ 1 (dJ bW)) c2_10).bind fun qc2_10=>(kT N qc0 qc1_0 qc1_1 qc1_2 qc2_0 qc2_1 qc2_2 qc2_3 qc2_4 qc2_5 qc2_6 qc2_7 qc2_8 qc2_9 qc2_10).map fun r=>vB r
 | _=>none }
def F9 (N:Nat):aA prog 142 (wE N):=by
 refine ⟨fun cs r h=>?_,fun h=>by cases h⟩;simp only [wE] at h;split at h
 ·simp only [ck,cj] at h;obtain ⟨q0,h0,q1,h1,q2,h2,q3,h3,q4,h4,q5,h5,q6,h6,q7,h7,q8,h8,q9,h9,q10,h10,q11,h11,q12,h12,q13,h13,q14,h14,r',hr,rfl⟩:=h;exact (ag (Kn N q0 q1 q2 q3 q4 q5 q6 q7 q8 q9 q10 q11 q12 q13 q14 r' hr))
 ·cases h
@[go_sem] def rC (N d f:Nat):Option FnS:=aw [(16,142,wE N)] d f
def rM (N:Nat) (a0:List ah) (k1_0_0:List Txn) (k1_0_1:List ai) (k1_0_2:List aa) (k1_1_0:Int) (k1_1_1:Int) (k1_1_2:ByteArray) (k1_1_3:Int) (k1_1_4:List ah) (k1_1_5:Int) (k1_1_6:Int) (k1_1_7:Int) (k1_1_8:ByteArray) (k1_1_9:List Int) (k1_1_10:List ByteArray) (r:Int) (h:b9 N a0 k1_0_0 k1_0_1 k1_0_2 k1_1_0 k1_1_1 k1_1_2 k1_1_3 k1_1_4 k1_1_5 k1_1_6 k1_1_7 k1_1_8 k1_1_9 k1_1_10=some r):Con prog 203 [] true [sF 4 (a0.map ah.row),.clo 142 [.iref 3 [[sF 11 (k1_0_0.map Txn.row),sF 4 (k1_0_1.map ai.row),sF 3 (k1_0_2.map aa.row)]] 0 0,.iref 11 [[vI k1_1_0,vI k1_1_1,vS k1_1_2,vI k1_1_3,sF 4 (k1_1_4.map ah.row),vI k1_1_5,vI k1_1_6,vI k1_1_7,vS k1_1_8,sF 1 (k1_1_9.map (aB .i64)),sF 1 (k1_1_10.map dS)]] 0 0]] (vI r):=by
 refine fk (G:=(rC N)) func203 (gc 16 (F9 N) gn) ?_;simp only [f203];unfold b9 at h;refine z0 ?_;refine z0 ?_;refine lT 0 (fun (v2:Nat) (b:Unit)=>⟨tab 19 (af (af (af (af au 0 (sF 4 (a0.map ah.row))) 1 (.clo 142 [.iref 3 [[sF 11 (k1_0_0.map Txn.row),sF 4 (k1_0_1.map ai.row),sF 3 (k1_0_2.map aa.row)]] 0 0,.iref 11 [[vI k1_1_0,vI k1_1_1,vS k1_1_2,vI k1_1_3,sF 4 (k1_1_4.map ah.row),vI k1_1_5,vI k1_1_6,vI k1_1_7,vS k1_1_8,sF 1 (k1_1_9.map (aB .i64)),sF 1 (k1_1_10.map dS)]] 0 0])) 7 (vI (a0.length:Int))) 8 (vI (v2:Int))),RZ⟩) () h ?_ ?_
 ·rintro v2 ⟨⟩ hi3' h;simp only [bF] at h;refine z1 hi3' ?_;refine cf ?_;refine z0 ?_;exact e0 h
 rintro v2 ⟨⟩ x5 hi3' hx4 hw5 h;simp only [bF] at h;refine z1 hi3' ?_;refine ct ?_;refine z0 ?_;obtain ⟨r1,hr7,h⟩:=bI h;refine z1 (k3 hx4 hi3' hr7) ?_;refine cB h (fun hc8 h=>?_) fun hc8 h=>?_
 ·refine z1 hc8 ?_;exact e0 h
 refine z1 (k2 hw5 hc8) ?_;refine ⟨hi3',(),?_,h⟩;exact wR
@[go_sem] def fw (N:Nat):FnS:={ own:=[],pure:=true,fn:=fun cs=>match cs with
 | [c0,.clo 142 [.iref 3 [[k1_0_0,k1_0_1,k1_0_2]] 0 0,.iref 11 [[k1_1_0,k1_1_1,k1_1_2,k1_1_3,k1_1_4,k1_1_5,k1_1_6,k1_1_7,k1_1_8,k1_1_9,k1_1_10]] 0 0]]=>((aJ 4 ah.dec) c0).bind fun qc0=>((aJ 11 Txn.dec) k1_0_0).bind fun qk1_0_0=>((aJ 4 ai.dec) k1_0_1).bind fun qk1_0_1=>((aJ 3 aa.dec) k1_0_2).bind fun qk1_0_2=>((aH .i64) k1_1_0).bind fun qk1_1_0=>((aH .i64) k1_1_1).bind fun qk1_1_1=>(bW k1_1_2).bind fun qk1_1_2=>((aH .i64) k1_1_3).bind fun qk1_1_3=>((aJ 4 ah.dec) k1_1_4).bind fun qk1_1_4=>((aH .i64) k1_1_5).bind fun qk1_1_5=>((aH .i64) k1_1_6).bind fun qk1_1_6=>((aH .i64) k1_1_7).bind fun qk1_1_7=>(bW k1_1_8).bind fun qk1_1_8=>((aJ 1 (dJ (aH .i64))) k1_1_9).bind fun qk1_1_9=>((aJ 1 (dJ bW)) k1_1_10).bind fun qk1_1_10=>(b9 N qc0 qk1_0_0 qk1_0_1 qk1_0_2 qk1_1_0 qk1_1_1 qk1_1_2 qk1_1_3 qk1_1_4 qk1_1_5 qk1_1_6 qk1_1_7 qk1_1_8 qk1_1_9 qk1_1_10).map fun r=>vI r
 | _=>none }
def pB (N:Nat):aA prog 203 (fw N):=by
 refine ⟨fun cs r h=>?_,fun h=>by cases h⟩;simp only [fw] at h;split at h
 ·simp only [ck,cj] at h;obtain ⟨q0,h0,q1,h1,q2,h2,q3,h3,q4,h4,q5,h5,q6,h6,q7,h7,q8,h8,q9,h9,q10,h10,q11,h11,q12,h12,q13,h13,q14,h14,r',hr,rfl⟩:=h;exact (ag (rM N q0 q1 q2 q3 q4 q5 q6 q7 q8 q9 q10 q11 q12 q13 q14 r' hr))
 ·cases h
@[go_sem] def pE (N d f:Nat):Option FnS:=aw [(7,203,fw N)] d f
def pN (N:Nat) (a0:List ah) (k1_0_0:List Txn) (k1_0_1:List ai) (k1_0_2:List aa) (k1_1_0:Int) (k1_1_1:Int) (k1_1_2:ByteArray) (k1_1_3:Int) (k1_1_4:List ah) (k1_1_5:Int) (k1_1_6:Int) (k1_1_7:Int) (k1_1_8:ByteArray) (k1_1_9:List Int) (k1_1_10:List ByteArray) (r:Bool) (h:bD N a0 k1_0_0 k1_0_1 k1_0_2 k1_1_0 k1_1_1 k1_1_2 k1_1_3 k1_1_4 k1_1_5 k1_1_6 k1_1_7 k1_1_8 k1_1_9 k1_1_10=some r):Con prog 140 [] true [sF 4 (a0.map ah.row),.clo 142 [.iref 3 [[sF 11 (k1_0_0.map Txn.row),sF 4 (k1_0_1.map ai.row),sF 3 (k1_0_2.map aa.row)]] 0 0,.iref 11 [[vI k1_1_0,vI k1_1_1,vS k1_1_2,vI k1_1_3,sF 4 (k1_1_4.map ah.row),vI k1_1_5,vI k1_1_6,vI k1_1_7,vS k1_1_8,sF 1 (k1_1_9.map (aB .i64)),sF 1 (k1_1_10.map dS)]] 0 0]] (vB r):=by
 refine fk (G:=(pE N)) func140 (gc 7 (pB N) gn) ?_;simp only [f140];unfold bD at h;refine z0 ?_;obtain ⟨r1,hr1,h⟩:=bI h;refine z1 hr1 ?_;exact e0 h
@[go_sem] def eI (N:Nat):FnS:={ own:=[],pure:=true,fn:=fun cs=>match cs with
 | [c0,.clo 142 [.iref 3 [[k1_0_0,k1_0_1,k1_0_2]] 0 0,.iref 11 [[k1_1_0,k1_1_1,k1_1_2,k1_1_3,k1_1_4,k1_1_5,k1_1_6,k1_1_7,k1_1_8,k1_1_9,k1_1_10]] 0 0]]=>((aJ 4 ah.dec) c0).bind fun qc0=>((aJ 11 Txn.dec) k1_0_0).bind fun qk1_0_0=>((aJ 4 ai.dec) k1_0_1).bind fun qk1_0_1=>((aJ 3 aa.dec) k1_0_2).bind fun qk1_0_2=>((aH .i64) k1_1_0).bind fun qk1_1_0=>((aH .i64) k1_1_1).bind fun qk1_1_1=>(bW k1_1_2).bind fun qk1_1_2=>((aH .i64) k1_1_3).bind fun qk1_1_3=>((aJ 4 ah.dec) k1_1_4).bind fun qk1_1_4=>((aH .i64) k1_1_5).bind fun qk1_1_5=>((aH .i64) k1_1_6).bind fun qk1_1_6=>((aH .i64) k1_1_7).bind fun qk1_1_7=>(bW k1_1_8).bind fun qk1_1_8=>((aJ 1 (dJ (aH .i64))) k1_1_9).bind fun qk1_1_9=>((aJ 1 (dJ bW)) k1_1_10).bind fun qk1_1_10=>(bD N qc0 qk1_0_0 qk1_0_1 qk1_0_2 qk1_1_0 qk1_1_1 qk1_1_2 qk1_1_3 qk1_1_4 qk1_1_5 qk1_1_6 qk1_1_7 qk1_1_8 qk1_1_9 qk1_1_10).map fun r=>vB r
 | _=>none }
def mM (N:Nat):aA prog 140 (eI N):=by
 refine ⟨fun cs r h=>?_,fun h=>by cases h⟩;simp only [eI] at h;split at h
 ·simp only [ck,cj] at h;obtain ⟨q0,h0,q1,h1,q2,h2,q3,h3,q4,h4,q5,h5,q6,h6,q7,h7,q8,h8,q9,h9,q10,h10,q11,h11,q12,h12,q13,h13,q14,h14,r',hr,rfl⟩:=h;exact (ag (pN N q0 q1 q2 q3 q4 q5 q6 q7 q8 q9 q10 q11 q12 q13 q14 r' hr))
 ·cases h
@[go_sem] def Ns (N d f:Nat):Option FnS:=aw [(8,140,eI N)] d f
def Nu (N:Nat) (a0:ae) (a1:Txn) (r:Bool) (h:sg N a0 a1=some r):Con prog 73 [] true [.agg (ae.row a0),.agg (Txn.row a1)] (vB r):=by
 refine fk (G:=(Ns N)) func73 (gc 8 (mM N) gn) ?_;simp only [f73];unfold sg at h;refine z0 ?_;obtain ⟨r1,hr1,h⟩:=bI h;refine z1 hr1 ?_;exact e0 h
@[go_sem] def DK (N:Nat):FnS:=⟨[],true,fn2 ae.decA Txn.decA fun q0 q1=>(sg N q0 q1).map fun r=>vB r,false⟩
def IG (N:Nat):aA prog 73 (DK N):=om2 (Nu N)
@[go_sem] def Mm (N d f:Nat):Option FnS:=aw [(13,73,DK N),(19,74,Dn N)] d f
def LI (N:Nat) (a0:Txn) (c0_0:List Txn) (c0_1:List ai) (c0_2:List aa) (r:Bool) (h:mA N a0 c0_0 c0_1 c0_2=some r):Con prog 72 [] true [.agg (Txn.row a0),.iref 3 [[sF 11 (c0_0.map Txn.row),sF 4 (c0_1.map ai.row),sF 3 (c0_2.map aa.row)]] 0 0] (vB r):=by
 refine fk (G:=(Mm N)) func72 (gc 13 (IG N) (gc 19 (DT N) gn)) ?_;simp only [f72];unfold mA at h;refine z0 ?_;refine iDs h (fun hc1 hc1d h=>?_) fun hc1 hc1d h=>?_
 ·refine z1 hc1d ?_;exact e0 h
 obtain ⟨r1,hr2,h⟩:=bI h;refine iB h (fun hc3 h=>?_) fun hc3 h=>?_
 ·obtain ⟨r2,hr4,h⟩:=bI h;refine z1 (k4 hc1d hr2 hc3 hr4) ?_;exact e0 h
 refine z1 (k3 hc1d hr2 hc3) ?_;exact e0 h
@[go_sem] def yI (N:Nat):FnS:={ own:=[],pure:=true,fn:=fun cs=>match cs with
 | [c0,.iref 3 [[c1_0,c1_1,c1_2]] 0 0]=>(Txn.decA c0).bind fun qc0=>((aJ 11 Txn.dec) c1_0).bind fun qc1_0=>((aJ 4 ai.dec) c1_1).bind fun qc1_1=>((aJ 3 aa.dec) c1_2).bind fun qc1_2=>(mA N qc0 qc1_0 qc1_1 qc1_2).map fun r=>vB r
 | _=>none }
def HE (N:Nat):aA prog 72 (yI N):=by
 refine ⟨fun cs r h=>?_,fun h=>by cases h⟩;simp only [yI] at h;split at h
 ·simp only [ck,cj] at h;obtain ⟨q0,h0,q1,h1,q2,h2,q3,h3,r',hr,rfl⟩:=h;exact (ag (LI N q0 q1 q2 q3 r' hr))
 ·cases h
@[go_sem] def vy (N d f:Nat):Option FnS:=aw [(16,72,yI N)] d f
def vm (N:Nat) (a0:List Txn) (k1_0_0:List Txn) (k1_0_1:List ai) (k1_0_2:List aa) (r:Int) (h:dY N a0 k1_0_0 k1_0_1 k1_0_2=some r):Con prog 71 [] true [sF 11 (a0.map Txn.row),.clo 72 [.iref 3 [[sF 11 (k1_0_0.map Txn.row),sF 4 (k1_0_1.map ai.row),sF 3 (k1_0_2.map aa.row)]] 0 0]] (vI r):=by
 refine fk (G:=(vy N)) func71 (gc 16 (HE N) gn) ?_;simp only [f71];unfold dY at h;refine z0 ?_;refine z0 ?_;refine lT 0 (fun (v2:Nat) (b:Unit)=>⟨tab 19 (af (af (af (af au 0 (sF 11 (a0.map Txn.row))) 1 (.clo 72 [.iref 3 [[sF 11 (k1_0_0.map Txn.row),sF 4 (k1_0_1.map ai.row),sF 3 (k1_0_2.map aa.row)]] 0 0])) 7 (vI (a0.length:Int))) 8 (vI (v2:Int))),RZ⟩) () h ?_ ?_
 ·rintro v2 ⟨⟩ hi3' h;simp only [dE] at h;refine z1 hi3' ?_;refine cf ?_;refine z0 ?_;exact e0 h
 rintro v2 ⟨⟩ x5 hi3' hx4 hw5 h;simp only [dE] at h;refine z1 hi3' ?_;refine ct ?_;refine z0 ?_;obtain ⟨r1,hr7,h⟩:=bI h;refine z1 (k3 hx4 hi3' hr7) ?_;refine cB h (fun hc8 h=>?_) fun hc8 h=>?_
 ·refine z1 hc8 ?_;exact e0 h
 refine z1 (k2 hw5 hc8) ?_;refine ⟨hi3',(),?_,h⟩;exact wR
@[go_sem] def gY (N:Nat):FnS:={ own:=[],pure:=true,fn:=fun cs=>match cs with
 | [c0,.clo 72 [.iref 3 [[k1_0_0,k1_0_1,k1_0_2]] 0 0]]=>((aJ 11 Txn.dec) c0).bind fun qc0=>((aJ 11 Txn.dec) k1_0_0).bind fun qk1_0_0=>((aJ 4 ai.dec) k1_0_1).bind fun qk1_0_1=>((aJ 3 aa.dec) k1_0_2).bind fun qk1_0_2=>(dY N qc0 qk1_0_0 qk1_0_1 qk1_0_2).map fun r=>vI r
 | _=>none }
def tl (N:Nat):aA prog 71 (gY N):=by
 refine ⟨fun cs r h=>?_,fun h=>by cases h⟩;simp only [gY] at h;split at h
 ·simp only [ck,cj] at h;obtain ⟨q0,h0,q1,h1,q2,h2,q3,h3,r',hr,rfl⟩:=h;exact (ag (vm N q0 q1 q2 q3 r' hr))
 ·cases h
def Gf (N:Nat) (a0:List Ref) (r:List Ref) (h:jJ N a0=some r):Con prog 44 [true] true [sO 2 (a0.map Ref.row)] (sO 2 (r.map Ref.row)):=by
 refine Ap (G:=(aw [])) (L:=noL) func44 rfl (by decide) (by kernel_rfl) gn (fun _ _ _ h=>by cases h) [] mix (nb rfl) ?_;rw [show gf [true] [sO 2 (a0.map Ref.row)]=(af au 0 (.pal 0 [] 0 a0.length none)) from by funext t; match t with|0=>simp [gf,iW,jW,af]|t+1=>rfl];rw [show R0 [true] [sO 2 (a0.map Ref.row)]=upd RZ 0 (sO 2 (a0.map Ref.row)) from by funext t; match t with|0=>rfl|t+1=>rfl];simp only [f44];unfold jJ at h;refine z0 ?_;refine z0 ?_;refine cD h (fun hc1 hc1d h=>?_) fun hc1 hc1d h=>?_
 ·refine z1 hc1d ?_;refine eZ (pp ?_);cases h;simp only [go_sem,seval,dR];exact ⟨_,rfl,gK.h,qN.h,qn.h⟩
 refine z1 hc1d ?_;refine aQ (ig fun hreal3=>?_);have hl2:=hreal3.lenX 0 (by simp only [go_sem,seval]; rfl);rw [cy] at hl2;refine oR (fun (v3:Nat) (b:Unit)=>⟨tab 61 (af (af au 0 (.pal 0 [] 0 a0.length none)) 3 (vI (v3:Int))),(upd RZ 0 (sO 2 (a0.map Ref.row)))⟩) () h ?_ ?_
 ·exact wF hc1d
 rintro v3 ⟨⟩ _ h -;rcases (jf a0.length v3).symm with ⟨hi4',hd7⟩|⟨hi4',hd7⟩
 ·rw [hd7] at h;simp only [ia] at h;refine z1 hi4' ?_;refine cf ?_;refine z0 ?_;refine eZ (pp ?_);cases h;simp only [go_sem,seval,dR];exact ⟨_,rfl,gK.h,qN.h,qn.h⟩
 rw [hd7] at h;simp only [ia] at h;have hw6:=eG hi4' hl2;refine z1 hi4' ?_;refine ct ?_;obtain ⟨x1,hb8,hx9,h⟩:=aI h;try simp only [cP] at hx9
 try simp only [xl,xm,true_and] at hb8
 obtain ⟨x2,hb10,hx11,h⟩:=aI h;refine d1 (k4 hi4' hx9 hb10 hx11) ?_;refine cBs h (fun hc12 h=>?_) fun hc12 h=>?_
 ·refine z1 (k2 hw6 hc12) ?_;refine ⟨hi4',(),?_,h⟩;exact wF (k5 hc1d hi4' hw6 hb8 (k4 hx9 hb10 hx11 hc12))
 obtain ⟨hs13,h⟩:=iT h;try simp only [cP] at hs13 h
 refine z1 (k3 hc12 hs13 @cT) ?_;refine z0 ?_;refine aQ (gl (fun (b:List Ref × Int × Int)=>⟨tab 61 (af (af (af (af au 0 (.pal 0 [] 0 b.1.length none)) 3 (vI b.2.1)) 4 (.pal 0 [] v3 (a0.length - v3) none)) 5 (vI b.2.2)),(upd RZ 0 (sO 2 (b.1.map Ref.row)))⟩) (a0,(v3:Int),1) h ?_ ?_)
 ·exact wF (k5 hc1d hi4' hw6 hb8 (k5 hx9 hb10 hx11 hc12 (k3 hs13 @cU @cT)))
 rintro n ⟨l12,v13,v14⟩ h -;cases n with
 | zero=>simp [fP] at h
 | succ n=>
 simp only [fP] at h;refine z0 ?_;refine cDs h (fun hc14 hc14d h=>?_) fun hc14 hc14d h=>?_
 ·refine fx (pp ?_);unfold jq at h;refine aL ?_;obtain ⟨hs24,h⟩:=iT h;try simp only [cP] at hs24 h
  refine iL fun Z hZ=>?_;simp only [go_sem,seval,cT,hc14d,hs24,PR (row:=Ref.row) (z:=(Ref.mk (⟨#[]⟩) (⟨#[]⟩))) (rz:=[vS (⟨#[]⟩),vS (⟨#[]⟩)]) (k:=(v13).toNat) (l:=l12) (by have:=hs24; omega) rfl,fX,w4,dz,aF.allD Ref.row_ok];refine hZ _ (pp (aL ?_));obtain ⟨hs25,h⟩:=iT h;try simp only [xu] at hs25 h
  refine iL fun Z hZ=>?_;simp only [go_sem,seval,cU,hs24,tA,hs25];refine hZ _ (pp (eZ (pp ?_)));cases h;simp only [go_sem,seval,dR];exact ⟨_,rfl,gK.h,qN.h,qn.h⟩
 obtain ⟨x16,hb15,hx16,h⟩:=aI h;obtain ⟨x17,hb17,hx18,h⟩:=aI h;refine d1 (k5 hb15 (E8 hx16) (HN hb15) hb17 (k2 (E8 hx18) (HN hb17))) ?_;refine cMs h (fun hc19 h=>?_) fun hc19 h=>?_
 ·refine z1 hc19 ?_;refine ⟨_,cZ _,(l12,v13,IntKind.i64.wrap (v14+1)),?_,h⟩;exact wF (k5 hc1d hi4' hw6 hb8 (k5 hx9 hb10 hx11 hc12 (k5 hs13 @cU @cT hc14d (k5 hb15 hx16 (E8 hx16) (HN hb15) (k5 hb17 hx18 (E8 hx18) (HN hb17) hc19)))))
 obtain ⟨x18,hb20,hx21,h⟩:=aI h;have hx23:=kq (y:=x16) hx21;refine z1 (k5 hb15 (HN hb15) hc19 (E8 hx16) (k3 hb20 hx21 (mm2 (row:=Ref.row) (y:=x16) (rx:=[vS x18.Type_,vS x18.Key]) (ry:=[vS x16.Type_,vS x16.Key]) hx21 rfl rfl))) ?_;refine z0 ?_;refine z0 ?_;refine ⟨_,cZ _,((l12.set ((v13).toNat) x16),IntKind.i64.wrap (v13+1),IntKind.i64.wrap (v14+1)),?_,h⟩;refine wr ?_ ?_<;>repeat' first|rfl|constructor|simp only [go_sem,seval,hC]
def fo (N:Nat):FnS:={ own:=[true],pure:=true,fn:=fun cs=>match cs with
 | [c0]=>((vH 2 Ref.dec) c0).bind fun q0=>(jJ N q0).map fun r=>sO 2 (r.map Ref.row)
 | _=>none }
theorem BS (N:Nat):(fo N).own=[true]:=rfl
theorem Bt (N:Nat):(fo N).pure=true:=rfl
theorem Bx (N:Nat):(fo N).peek=false:=rfl
attribute [go_sem] fo BS Bt Bx
def Cr (N:Nat):aA prog 44 (fo N):=by
 refine ⟨fun cs r h=>?_,fun h=>by cases h⟩;simp only [fo] at h;split at h
 ·simp only [ck,cj] at h;obtain ⟨q0,h0,r',hr,rfl⟩:=h;exact (Gf N q0 r' hr).argsO rfl (jP (pX Ref.row_ok Ref.dec_le h0) (mZ))
 ·cases h
@[go_sem] def oz (N d f:Nat):Option FnS:=aw [(32,43,wy N)] d f
def gH (N:Nat) (a0:List Ref) (a1:Int) (a2:Int) (r:List Ref) (h:be N a0 a1 a2=some r):(r).length=a0.length:=by
 unfold be at h; exact (kA h).2
def oB (N:Nat) (a0:List Ref) (a1:Int) (a2:Int) (r:List Ref) (h:be N a0 a1 a2=some r):mv prog 173 1 [sO 2 (a0.map Ref.row),vI a1,vI a2,.clo 43 []] (.tup []) [sO 2 (r.map Ref.row)]:=by
 unfold be at h;obtain ⟨h,hlen⟩:=kA h;refine zb (G:=(oz N)) (L:=noL) func173 rfl (by decide) (by kernel_rfl) 1 (by kernel_rfl) (gc 32 (wK N) gn) (fun _ _ _ h=>by cases h) [] mix (nb rfl) (nb rfl) rfl (by simp [dC,hlen]) ?_;simp only [f173];refine z0 ?_;refine aQ (gl (fun (b:Int)=>⟨tab 53 (af (af (af (af (af au 0 (.pal 0 [] 0 a0.length none)) 1 (vI a1)) 2 (vI a2)) 3 (.clo 43 [])) 8 (vI b)),(upd RZ 0 (sO 2 (a0.map Ref.row)))⟩) (IntKind.i64.wrap (a1+1)) h ?_ ?_)
 ·exact wR
 rintro n v1 h -;cases n with
 | zero=>simp [bV] at h
 | succ n=>
 simp only [bV] at h;refine z0 ?_;refine cDs h (fun hc1 hc1d h=>?_) fun hc1 hc1d h=>?_
 ·refine fx (pp ?_);obtain rfl:=ng h;refine CI (.inr rfl) (aX.refl _) (by simp only [go_sem,seval,hc1d]; rfl) (by simp only [go_sem,seval]; rfl) (by (try simp only [go_sem,seval]); first|exact Le.refl _|exact LeI.h) ?_;exact CJ (by simp only [go_sem,seval,hc1d]<;>rfl) (by simp only [go_sem,seval]<;>rfl) (EY)
 refine z1 hc1d ?_;refine aQ (gl (fun (b:Unit)=>⟨tab 53 (af (af (af (af (af (af au 0 (.pal 0 [] 0 a0.length none)) 1 (vI a1)) 2 (vI a2)) 3 (.clo 43 [])) 8 (vI v1)) 9 (vI v1)),(upd RZ 0 (sO 2 (a0.map Ref.row)))⟩) () h ?_ ?_)
 ·exact wR
 rintro n ⟨⟩ h -;cases n with
 | zero=>simp [ek] at h
 | succ n=>
 simp only [ek] at h;refine aL ?_;apply aT (fun (c9:Bool)=>⟨tab 53 (af (af (af (af (af (af (af au 0 (.pal 0 [] 0 a0.length none)) 1 (vI a1)) 2 (vI a2)) 3 (.clo 43 [])) 8 (vI v1)) 9 (vI v1)) 34 (vB c9)),(upd RZ 0 (sO 2 (a0.map Ref.row)))⟩)
 ·intro hJ2;refine iDs h (fun hc3 hc3d h=>?_) fun hc3 hc3d h=>?_
  ·refine d1 hc3d ?_;exact hJ2 _ false wR h
  obtain ⟨x10,hb4,hx5,h⟩:=aI h;obtain ⟨x11,hb6,hx7,h⟩:=aI h;obtain ⟨r12,hr8,h⟩:=bI h;refine d1 (k5 hc3d hb4 hx5 hb6 (k2 hx7 hr8)) ?_;exact hJ2 _ (decide (r12 < 0)) wR h
 intro c9 h;unfold ej at h;refine cB h (fun hc9 h=>?_) fun hc9 h=>?_
 ·refine aU (pp ?_);unfold eh at h;refine aL (aQ ?_);obtain ⟨x13,hb10,hx11,h⟩:=aI h;obtain ⟨x14,hb12,hx13,h⟩:=aI h;cases h
 refine z1 hc9 ?_;refine ⟨_,cZ _,(IntKind.i64.wrap (v1+1)),?_,h⟩;exact wR
@[go_sem] def eo (N:Nat):FnL:=⟨1,fun cs rest=>match cs,rest with
 | [v0],[c1,c2,.clo 43 []]=>(C4 2 Ref.dec v0).bind fun q0=>((aH .i64) c1).bind fun q1=>((aH .i64) c2).bind fun q2=>(be N q0 q1 q2).map fun r=>(.tup [],[sO 2 (r.map Ref.row)])
 | _,_=>none,false⟩
def lR (N:Nat):wJ prog 173 (eo N):=by
 refine IA (xJ _) rfl ?_;intro cs rest r ls hlen h;simp only [eo] at h;split at h
 ·simp only [ck,cj] at h;obtain ⟨q0,h0,q1,h1,q2,h2,r',hr,he⟩:=h;cases he;exact mv.told rfl rfl (y7 (yT Ref.row_ok Ref.dec_le h0) (Bm)) (LeL.cons (bz h1) (LeL.cons (bz h2) (LeL.cons (Le.clo (LeL.nil)) (LeL.nil)))) (oB N q0 q1 q2 r' hr)
 ·cases h
@[go_sem] def rK (N d f:Nat):Option FnL:=AV [(30,173,eo N)] d f
def iY (N:Nat) (a0:List Ref) (a1:Int) (a2:Int) (a3:Int) (r:List Ref) (h:bw N a0 a1 a2 a3=some r):(r).length=a0.length:=by
 unfold bw at h; exact (kA h).2
def rI (N:Nat) (a0:List Ref) (a1:Int) (a2:Int) (a3:Int) (r:List Ref) (h:bw N a0 a1 a2 a3=some r):mv prog 101 1 [sO 2 (a0.map Ref.row),vI a1,vI a2,vI a3,.clo 43 []] (.tup []) [sO 2 (r.map Ref.row)]:=by
 unfold bw at h;obtain ⟨h,hlen⟩:=kA h;refine zb (G:=(aw [])) (L:=(rK N)) func101 rfl (by decide) (by kernel_rfl) 1 (by kernel_rfl) gn (lc 30 (lR N) ln) [] mix (nb rfl) (nb rfl) rfl (by simp [dC,hlen]) ?_;simp only [f101];refine z0 ?_;refine z0 ?_;refine aQ (gl (fun (b:Unit)=>⟨tab 148 (af (af (af (af (af (af (af au 0 (.pal 0 [] 0 a0.length none)) 1 (vI a1)) 2 (vI a2)) 3 (vI a3)) 4 (.clo 43 [])) 10 (vB true)) 11 (vB true)),(upd RZ 0 (sO 2 (a0.map Ref.row)))⟩) () h ?_ ?_)
 ·exact wR
 rintro n ⟨⟩ h -;cases n with
 | zero=>simp [fv] at h
 | succ n=>
 simp only [fv] at h;refine z0 ?_;refine z0 ?_;refine cDs h (fun hc1 hc1d h=>?_) fun hc1 hc1d h=>?_
 ·refine z1 hc1d ?_;refine cD h (fun hc3 hc3d h=>?_) fun hc3 hc3d h=>?_
  ·refine aL ?_;cases h
  refine z1 hc3d ?_;refine cf ?_;refine aU (pp (aL ?_));cases h
 obtain ⟨r1,hr2,h⟩:=bI h;refine z1 (k3 hc1d hr2 (gH N a0 a1 a2 r1 hr2)) ?_;refine eZ (pp ?_);obtain rfl:=ng h;refine CI (.inl rfl) (aX.refl _) (by simp only [go_sem,seval]; rfl) (by simp only [go_sem,seval]; rfl) (by (try simp only [go_sem,seval]); first|exact Le.refl _|exact LeI.h) ?_;exact CJ (by simp only [go_sem,seval,gH N a0 a1 a2 r1 hr2]<;>rfl) (by simp only [go_sem,seval]<;>rfl) (EY)
@[go_sem] def fh (N:Nat):FnL:=⟨1,fun cs rest=>match cs,rest with
 | [v0],[c1,c2,c3,.clo 43 []]=>(C4 2 Ref.dec v0).bind fun q0=>((aH .i64) c1).bind fun q1=>((aH .i64) c2).bind fun q2=>((aH .i64) c3).bind fun q3=>(bw N q0 q1 q2 q3).map fun r=>(.tup [],[sO 2 (r.map Ref.row)])
 | _,_=>none,false⟩
def pC (N:Nat):wJ prog 101 (fh N):=by
 refine IA (xJ _) rfl ?_;intro cs rest r ls hlen h;simp only [fh] at h;split at h
 ·simp only [ck,cj] at h;obtain ⟨q0,h0,q1,h1,q2,h2,q3,h3,r',hr,he⟩:=h;cases he;exact mv.told rfl rfl (y7 (yT Ref.row_ok Ref.dec_le h0) (Bm)) (LeL.cons (bz h1) (LeL.cons (bz h2) (LeL.cons (bz h3) (LeL.cons (Le.clo (LeL.nil)) (LeL.nil))))) (rI N q0 q1 q2 q3 r' hr)
 ·cases h
@[go_sem] def tP (N d f:Nat):Option FnS:=aw [(11,102,yC N)] d f
@[go_sem] def tY (N d f:Nat):Option FnL:=AV [(13,101,fh N)] d f
def sV (N:Nat) (a0:List Ref) (r:List Ref) (h:bK N a0=some r):(r).length=a0.length:=by
 unfold bK at h; exact (kA h).2
def kC (N:Nat) (a0:List Ref) (r:List Ref) (h:bK N a0=some r):mv prog 42 1 [sO 2 (a0.map Ref.row),.clo 43 []] (.tup []) [sO 2 (r.map Ref.row)]:=by
 unfold bK at h;obtain ⟨h,hlen⟩:=kA h;refine zb (G:=(tP N)) (L:=(tY N)) func42 rfl (by decide) (by kernel_rfl) 1 (by kernel_rfl) (gc 11 (Af N) gn) (lc 13 (pC N) ln) [] mix (nb rfl) (nb rfl) rfl (by simp [dC,hlen]) ?_;simp only [f42];refine z0 ?_;obtain ⟨r1,hr1,h⟩:=bI h;obtain ⟨r2,hr2,h⟩:=bI h;refine z1 (k3 hr1 hr2 (iY N a0 0 (a0.length:Int) r1 r2 hr2)) ?_;obtain rfl:=ng h;refine CI (.inr rfl) (aX.refl _) (by simp only [go_sem,seval]; rfl) (by simp only [go_sem,seval]; rfl) (by (try simp only [go_sem,seval]); first|exact Le.refl _|exact LeI.h) ?_;exact CJ (by simp only [go_sem,seval,iY N a0 0 (a0.length:Int) r1 r2 hr2]<;>rfl) (by simp only [go_sem,seval]<;>rfl) (EY)
@[go_sem] def jU (N:Nat):FnL:=⟨1,fun cs rest=>match cs,rest with
 | [v0],[.clo 43 []]=>(C4 2 Ref.dec v0).bind fun q0 =>  (bK N q0).map fun r=>(.tup [],[sO 2 (r.map Ref.row)])
 | _,_=>none,false⟩
def EV (N:Nat):wJ prog 42 (jU N):=by
 refine IA (xJ _) rfl ?_;intro cs rest r ls hlen h;simp only [jU] at h;split at h
 ·simp only [ck,cj] at h;obtain ⟨q0,h0,r',hr,he⟩:=h;cases he;exact mv.told rfl rfl (y7 (yT Ref.row_ok Ref.dec_le h0) (Bm)) (LeL.cons (Le.clo (LeL.nil)) (LeL.nil)) (kC N q0 r' hr)
 ·cases h
def wj:Go.Shelf.Ren:=⟨fun|6=>42|14=>101|15=>102|20=>173|21=>174|22=>175|23=>176|24=>177|25=>178|26=>179|27=>180|28=>181|29=>182|46=>214|47=>215|48=>216|49=>217|50=>218|57=>231|n=>n,fun|0=>0|3=>3|4=>4|5=>5|9=>9|22=>46|24=>52|25=>94|39=>136|45=>179|46=>180|50=>115|53=>186|55=>188|66=>207|70=>211|76=>219|77=>220|n=>n,fun n=>n⟩
def vU:Go.Proofs.SlLaysF0.n6 prog wj where
 mixed:=by kernel_rfl
 f6:=⟨f42.name, by decide, func42.trans (congrArg some (by kernel_rfl))⟩
 f14:=⟨f101.name, by decide, func101.trans (congrArg some (by kernel_rfl))⟩
 f15:=func102.trans (congrArg some (by kernel_rfl))
 f20:=⟨f173.name, by decide, func173.trans (congrArg some (by kernel_rfl))⟩
 f21:=⟨f174.name, by decide, func174.trans (congrArg some (by kernel_rfl))⟩
 f22:=⟨f175.name, by decide, func175.trans (congrArg some (by kernel_rfl))⟩
 f23:=⟨f176.name, by decide, func176.trans (congrArg some (by kernel_rfl))⟩
 f24:=⟨f177.name, by decide, func177.trans (congrArg some (by kernel_rfl))⟩
 f25:=⟨f178.name, by decide, func178.trans (congrArg some (by kernel_rfl))⟩
 f26:=⟨f179.name, by decide, func179.trans (congrArg some (by kernel_rfl))⟩
 f27:=⟨f180.name, by decide, func180.trans (congrArg some (by kernel_rfl))⟩
 f28:=func181.trans (congrArg some (by kernel_rfl))
 f29:=func182.trans (congrArg some (by kernel_rfl))
 f46:=⟨f214.name, by decide, func214.trans (congrArg some (by kernel_rfl))⟩
 f47:=func215.trans (congrArg some (by kernel_rfl))
 f48:=func216.trans (congrArg some (by kernel_rfl))
 f49:=⟨f217.name, by decide, func217.trans (congrArg some (by kernel_rfl))⟩
 f50:=⟨f218.name, by decide, func218.trans (congrArg some (by kernel_rfl))⟩
 f57:=⟨f231.name, by decide, func231.trans (congrArg some (by kernel_rfl))⟩
 t0:=underlying0
 a0:=Tryz.isAgg0
 z0:=Tryz.sizeOf0
 v0:=Tryz.zeroValue0
 t3:=underlying3
 a3:=Tryz.isAgg3
 z3:=Tryz.sizeOf3
 v3:=Tryz.zeroValue3
 t4:=underlying4
 a4:=Tryz.isAgg4
 z4:=Tryz.sizeOf4
 v4:=Tryz.zeroValue4
 t5:=underlying5
 a5:=Tryz.isAgg5
 z5:=Tryz.sizeOf5
 v5:=Tryz.zeroValue5
 t9:=underlying9
 a9:=Tryz.isAgg9
 z9:=Tryz.sizeOf9
 v9:=Tryz.zeroValue9
 t22:=underlying46
 a22:=Tryz.isAgg46
 z22:=Tryz.sizeOf46
 v22:=Tryz.zeroValue46
 t25:=underlying94
 a25:=Tryz.isAgg94
 z25:=Tryz.sizeOf94
 v25:=Tryz.zeroValue94
 t39:=underlying136
 a39:=Tryz.isAgg136
 z39:=Tryz.sizeOf136
 v39:=Tryz.zeroValue136
 t45:=underlying179
 a45:=Tryz.isAgg179
 z45:=Tryz.sizeOf179
 v45:=Tryz.zeroValue179
 t46:=underlying180
 a46:=Tryz.isAgg180
 z46:=Tryz.sizeOf180
 v46:=Tryz.zeroValue180
 t50:=underlying115
 a50:=Tryz.isAgg115
 z50:=Tryz.sizeOf115
 v50:=Tryz.zeroValue115
 t53:=underlying186
 a53:=Tryz.isAgg186
 z53:=Tryz.sizeOf186
 v53:=Tryz.zeroValue186
 t55:=underlying188
 a55:=Tryz.isAgg188
 z55:=Tryz.sizeOf188
 v55:=Tryz.zeroValue188
 t66:=underlying207
 a66:=Tryz.isAgg207
 z66:=Tryz.sizeOf207
 v66:=Tryz.zeroValue207
 t70:=underlying211
 a70:=Tryz.isAgg211
 z70:=Tryz.sizeOf211
 v70:=Tryz.zeroValue211
 t76:=underlying219
 a76:=Tryz.isAgg219
 z76:=Tryz.sizeOf219
 v76:=Tryz.zeroValue219
 t77:=underlying220
 a77:=Tryz.isAgg220
 z77:=Tryz.sizeOf220
 v77:=Tryz.zeroValue220
def mj (x:Ref):List Go.Value:=[.string x.Type_,.string x.Key]
def lX (N:Nat) (a0:List Ref) (r:List Ref) (h:bX N a0=some r):(r).length=a0.length:=by
 unfold bX at h;split at h
 ·exact sV N a0 r h
 ·exact VY h
def yn (N:Nat) (a0:List Ref) (r:List Ref) (h:bX N a0=some r):mv prog 42 1 [sO 2 (a0.map Ref.row),.clo 43 []] (.tup []) [sO 2 (r.map Ref.row)]:=by
 unfold bX at h;split at h
 ·exact kC N a0 r h
 ·rename_i hne;obtain ⟨h1,h2,h3,rfl⟩:=MJ h;refine VC vU 2 (by decide) Tryz.isAgg52 Tryz.sizeOf52 mj (fun _=>rfl) (fun x v hv=>by simp only [mj,cF,nM,or_false] at hv; rcases hv with rfl|rfl<;>rfl) Ref.row (fun _=>rfl) rfl (enters_of func42 (by kernel_rfl) rfl) (enters_of func43 (by kernel_rfl) rfl) h2 (fun x y=>⟨true,?_⟩) (fun e=>hne (by rw [e]; rfl)) h3
  obtain ⟨z,hz⟩:=h1 x y;have hw:=Ho N x y  z hz;show Con prog 43 [] true _ (vI ((gG N x y ).getD 0));rw [hz];exact hw
@[go_sem] def iQ (N:Nat):FnL:=⟨1,fun cs rest=>match cs,rest with
 | [v0],[.clo 43 []]=>(C4 2 Ref.dec v0).bind fun q0 =>  (bX N q0).map fun r=>(.tup [],[sO 2 (r.map Ref.row)])
 | _,_=>none,false⟩
def uZ (N:Nat):wJ prog 42 (iQ N):=by
 refine IA (xJ _) rfl ?_;intro cs rest r ls hlen h;simp only [iQ] at h;split at h
 ·simp only [ck,cj] at h;obtain ⟨q0,h0,r',hr,he⟩:=h;cases he;exact mv.told rfl rfl (y7 (yT Ref.row_ok Ref.dec_le h0) (Bm)) (LeL.cons (Le.clo (LeL.nil)) (LeL.nil)) (yn N q0 r' hr)
 ·cases h
@[go_sem] def II (N d f:Nat):Option FnS:=aw [(22,44,fo N)] d f
@[go_sem] def Iy (N d f:Nat):Option FnL:=AV [(20,42,iQ N)] d f
def Ig (N:Nat) (a0:Txn) (r:List Ref) (h:gB N a0=some r):Con prog 13 [] true [.agg (Txn.row a0)] (sO 2 (r.map Ref.row)):=by
 refine SI (G:=(II N)) (L:=(Iy N)) func13 rfl (by decide) (by kernel_rfl) (gc 22 (Cr N) gn) (lc 20 (uZ N) ln) [] mix (nb rfl) ?_;simp only [f13];unfold gB at h;refine z0 ?_;refine z0 ?_;refine z0 ?_;refine aQ (ig fun hreal2=>?_);have hl1:=hreal2.lenT 7 (by decide) (by simp only [go_sem,seval]; rfl);rw [cy] at hl1;refine tB (fun (v3:Nat) (b:List Ref)=>⟨tab 23 (af (af (af (af au 3 (.pal 17 [] 0 b.length none)) 7 (sF 4 (a0.Calls.map ah.row))) 8 (vI (a0.Calls.length:Int))) 9 (vI (v3:Int))),(upd RZ 17 (sO 2 (b.map Ref.row)))⟩) [] h ?_ ?_
 ·refine aX.trans (mR 3 17 2 (by simp only [go_sem,seval]) (by simp only [go_sem,seval])) ?_;refine wr ?_ ?_<;>repeat' first|rfl|constructor|simp only [go_sem,seval,nF,hC,nK,nL]
 rintro v3 l2 hi3 h -;rcases (mN a0.Calls v3 hi3) with ⟨x6,hi3',hx4,hd6⟩|⟨hi3',_,hd6⟩
 ·rw [hd6] at h;simp only [gJ] at h;have hw5:=eG hi3' hl1;refine z1 hi3' ?_;refine ct ?_;refine z1 (k2 hx4 hi3') ?_;obtain ⟨ha7,h⟩:=jR h;simp only [cG,cY,cV,Nat.reduceAdd] at ha7;refine z1 ha7 ?_;refine z1 hw5 ?_;refine ⟨hi3',(l2++[x6.Target]),?_,h⟩;refine wr ?_ ?_<;>repeat' first|rfl|constructor|simp only [go_sem,seval]
 rw [hd6] at h;simp only [gJ] at h;refine z1 hi3' ?_;refine cf ?_;refine fx (pp ?_);unfold kI at h;obtain ⟨r9,hr8,h⟩:=bI h;refine z1 (k2 hr8 (lX N l2 r9 hr8)) ?_;obtain ⟨r10,hr9,h⟩:=bI h;refine z1 (k2 (nj (acW (lX N l2 r9 hr8))) hr9) ?_;refine eZ (pp ?_);obtain rfl:=ng h;simp only [go_sem,seval];exact ⟨_,rfl,gK.h,qn.h⟩
@[go_sem] def po (N:Nat):FnS:=⟨[],true,fn1 Txn.decA fun q0=>(gB N q0).map fun r=>sF 2 (r.map Ref.row),false⟩
def qV (N:Nat):aA prog 13 (po N):=om1 fun q0 r h=>rs (Ig N q0 r h)
@[go_sem] def OQ (N d f:Nat):Option FnS:=aw [(14,23,lz N),(18,59,IV N),(22,71,gY N),(40,63,rO N),(43,13,po N),(54,69,rT N),(62,67,qD N),(72,49,B3 N)] d f
def OM (N:Nat) (a0:ae) (r:ae × (List aD)) (h:lq N a0=some r):Con prog 28 [] false [.agg (ae.row a0)] (.tup [.agg (ae.row r.1),sO 9 (r.2.map aD.row)]):=by
 refine Je (G:=(OQ N)) func28 rfl (by decide) (by kernel_rfl) (gc 14 (j5 N) (gc 18 (L7 N) (gc 22 (tl N) (gc 40 (tq N) (gc 43 (qV N) (gc 54 (qd N) (gc 62 (sE N) (gc 72 (Dv N) gn)))))))) [(71,false)] mix (nb rfl) ?_;simp only [f28];unfold lq at h;refine z0 ?_;obtain ⟨r1,hr1,h⟩:=bI h;refine z1 hr1 ?_;refine cM h (fun hc2 h=>?_) fun hc2 h=>?_
 ·refine z1 hc2 ?_;exact f0 h
 obtain ⟨r2,hr3,h⟩:=bI h;refine z1 (k2 hc2 hr3) ?_;refine z0 ?_;refine aQ (gl (fun (b:List Txn × List ai × List aa × List aD)=>⟨tab 77 (af (af (af au 2 (pF 2)) 4 (pF 4)) 5 (.pal 76 [] 0 b.2.2.2.length none)),(upd (upd (upd RZ 2 (vA 3 [.val (.slice none 0 0),.val (.slice none 0 0),.val (.slice none 0 0)])) 4 (vA 3 [sF 11 (b.1.map Txn.row),sF 4 (b.2.1.map ai.row),sF 3 (b.2.2.1.map aa.row)])) 76 (sO 9 (b.2.2.2.map aD.row)))⟩) (r2.Txns,r2.Locks,r2.Stacks,[]) h ?_ ?_)
 ·refine aX.trans (mR 5 76 9 (by simp only [go_sem,seval]) (by simp only [go_sem,seval])) ?_;exact wF (k3 hr1 hc2 hr3)
 rintro n ⟨l4,l5,l6,l7⟩ h -;cases n with
 | zero=>simp [kK] at h
 | succ n=>
 simp only [kK] at h;obtain ⟨r3,hr4,h⟩:=bI h;refine z1 hr4 ?_;refine z0 ?_;refine cD h (fun hc5 hc5d h=>?_) fun hc5 hc5d h=>?_
 ·refine z1 hc5d ?_;exact f0 h
 obtain ⟨x4,hb6,hx7,h⟩:=aI h;refine z1 (k3 hc5d hb6 hx7) ?_;obtain ⟨r5,hr8,h⟩:=bI h;refine d1 hr8 ?_;obtain ⟨r18,hr9,h⟩:=bI h;refine z1 hr9 ?_;refine aQ (ig fun hreal11=>?_);have hl10:=hreal11.lenT 43 (by decide) (by simp only [go_sem,seval]; rfl);rw [cy] at hl10;refine tB (fun (v16:Nat) (b:List aR)=>⟨tab 77 (af (af (af (af (af (af (af (af au 2 (pF 2)) 4 (pF 4)) 5 (.pal 76 [] 0 l7.length none)) 7 (pF 7)) 8 (pF 8)) 43 (sF 2 (r18.map Ref.row))) 44 (vI (r18.length:Int))) 45 (vI (v16:Int))),(upd (upd (upd (upd (upd RZ 2 (vA 3 [.val (.slice none 0 0),.val (.slice none 0 0),.val (.slice none 0 0)])) 4 (vA 3 [sF 11 (l4.map Txn.row),sF 4 (l5.map ai.row),sF 3 (l6.map aa.row)])) 7 (vA 11 (Txn.row x4))) 8 (vA 9 [vI x4.ID,vS x4.Client,vI x4.Seq,vI r5.Kind,vI r5.N,vS r5.S,sF 1 (r5.I.map (aB .i64)),sF 1 (r5.L.map dS),sO 3 (b.map aR.row)])) 76 (sO 9 (l7.map aD.row)))⟩) [] h ?_ ?_
 ·refine aX.trans (NX 8 [(0,8)] 3 (by simp only [go_sem,seval]) (by simp only [go_sem,seval]; try rfl)) ?_;exact wF (k5 hr1 hc2 hr3 hr4 (k5 hc5d hb6 hx7 hr8 hr9))
 rintro v16 l15 hi12 h -;rcases (mN r18 v16 hi12).symm with ⟨hi12',_,hd15⟩|⟨x19,hi12',hx13,hd15⟩
 ·rw [hd15] at h;simp only [kQ] at h;refine z1 hi12' ?_;refine cf ?_;refine fx (pp ?_);unfold wi at h;refine ll (Rd (n:=8) (by simp only [go_sem,seval]; rfl) (by simp only [iZ,gX,go_sem]; rfl)) ?_;obtain ⟨r21,hr19,h⟩:=bI h;obtain ⟨ha20,h⟩:=jR h;simp only [cG,cY,cV,Nat.reduceAdd] at ha20;refine d1 (k2 hr19 ha20) ?_;refine ⟨_,cZ _,(r21.Txns,r21.Locks,r21.Stacks,(l7++[(aD.mk x4.ID x4.Client x4.Seq r5 l15)])),?_,h⟩;refine wr ?_ ?_<;>repeat' first|rfl|constructor|simp only [go_sem,seval]
 rw [hd15] at h;simp only [kQ] at h;have hw14:=eG hi12' hl10;refine z1 hi12' ?_;refine ct ?_;refine z1 (k2 hx13 hi12') ?_;obtain ⟨r19,hr16,h⟩:=bI h;refine z1 hr16 ?_;obtain ⟨r20,hr17,h⟩:=bI h;obtain ⟨ha18,h⟩:=jR h;simp only [cG,cY,cV,Nat.reduceAdd] at ha18;refine d1 (k2 hr17 ha18) ?_;refine z1 hw14 ?_;refine ⟨hi12',(l15++[(aR.mk x19 r20)]),?_,h⟩;refine wr ?_ ?_<;>repeat' first|rfl|constructor|simp only [go_sem,seval]
@[go_sem] def vL (N:Nat):FnS:=⟨[],false,fn1 ae.decA fun q0=>(lq N q0).map fun r=>.tup [.agg (ae.row r.1),sF 9 (r.2.map aD.row)],false⟩
def wP (N:Nat):aA prog 28 (vL N):=om1 fun q0 r h=>rs (OM N q0 r h)
@[go_sem] def Uw (N d f:Nat):Option FnS:=aw [(9,40,gD N),(17,41,CR N)] d f
def Tj (N:Nat) (a0:ae) (a1:Int) (r:Txn × Bool) (h:tG N a0 a1=some r):Con prog 12 [] false [.agg (ae.row a0),vI a1] (.tup [.agg [vI r.1.ID,vI r.1.Born,vS r.1.Client,vI r.1.Seq,sO 4 (r.1.Calls.map ah.row),vI r.1.Done,vI r.1.Last.Kind,vI r.1.Last.N,vS r.1.Last.S,sO 1 (r.1.Last.I.map (aB .i64)),sO 1 (r.1.Last.L.map dS)],vB r.2]):=by
 refine fk (G:=(Uw N)) func12 (gc 9 (eU N) (gc 17 (Hq N) gn)) ?_;simp only [f12];unfold tG at h;refine z0 ?_;obtain ⟨r1,hr1,h⟩:=bI h;refine z1 hr1 ?_;refine z0 ?_;refine cD h (fun hc2 hc2d h=>?_) fun hc2 hc2d h=>?_
 ·obtain ⟨x2,hb3,hx4,h⟩:=aI h;obtain ⟨r3,hr5,h⟩:=bI h;refine z1 (k3 hb3 hx4 hr5) ?_;exact f0 h
 refine z1 hc2d ?_;exact f0 h
@[go_sem] def Eu (N:Nat):FnS:=⟨[],false,fn2 ae.decA (aH .i64) fun q0 q1=>(tG N q0 q1).map fun r=>.tup [.agg (Txn.row r.1),vB r.2],false⟩
def Fy (N:Nat):aA prog 12 (Eu N):=om2 fun q0 q1 r h=>rs (Tj N q0 q1 r h)
@[go_sem] def Pt (N d f:Nat):Option FnS:=aw [(10,46,vE N),(40,67,pt N),(42,67,pt N)] d f
def Ri (N:Nat) (a0:ae) (a1:Ref) (a2:List Value) (r:List Value) (h:tz N a0 a1 a2=some r):Con prog 39 [] false [.agg (ae.row a0),.agg [vS a1.Type_,vS a1.Key],sF 5 (a2.map Value.row)] (sO 5 (r.map Value.row)):=by
 refine fk (G:=(Pt N)) func39 (gc 10 (uV N) (gc 40 (rb N) (gc 42 (rb N) gn))) ?_;simp only [f39];unfold tz at h;refine z0 ?_;obtain ⟨r8,hr1,h⟩:=bI h;refine z1 hr1 ?_;apply aT (fun (c10:Bool)=>⟨tab 43 (af (af (af (af au 2 (sF 5 (a2.map Value.row))) 3 (pF 3)) 7 (vI r8)) 22 (vB c10)),(upd RZ 3 (vA 3 (ae.row a0)))⟩)
 ·intro hJ2;refine iD h (fun hc3 hc3d h=>?_) fun hc3 hc3d h=>?_
  ·obtain ⟨x11,hb4,hx5,h⟩:=aI h;refine z1 (k2 hb4 hx5) ?_;exact hJ2 _ (decide (0 < (x11.Layers.length:Int))) wR h
  refine z1 hc3d ?_;exact hJ2 _ false wR h
 intro c10 h;unfold yr at h;refine cB h (fun hc6 h=>?_) fun hc6 h=>?_
 ·obtain ⟨x12,hb7,hx8,h⟩:=aI h;obtain ⟨x13,hb9,hx10,h⟩:=aI h;obtain ⟨r14,hr11,h⟩:=bI h;refine d1 (k5 hc6 hb7 hx8 hb9 (k2 hx10 hr11)) ?_;exact f0 h
 refine aU (pp ?_);unfold yw at h;obtain ⟨r15,hr12,h⟩:=bI h;refine z1 (k2 hc6 hr12) ?_;exact f0 h
@[go_sem] def G6 (N:Nat):FnS:=⟨[],false,fn3 ae.decA Ref.decA (aJ 5 Value.dec) fun q0 q1 q2=>(tz N q0 q1 q2).map fun r=>sF 5 (r.map Value.row),false⟩
def KE (N:Nat):aA prog 39 (G6 N):=om3 fun q0 q1 q2 r h=>rs (Ri N q0 q1 q2 r h)
@[go_sem] def OD (N d f:Nat):Option FnS:=aw [(26,38,zq N),(36,38,zq N),(47,25,wZ N),(61,34,qS N),(64,34,qS N),(65,26,ym N),(73,27,sm N),(80,25,wZ N),(93,34,qS N),(95,34,qS N),(96,26,ym N),(104,15,Hk N),(110,23,lz N),(115,20,zY N),(129,27,sm N),(136,28,vL N),(159,12,Eu N),(165,13,po N),(172,39,G6 N)] d f
def OP (N:Nat)  (r:Bool) (h:uD N  = some r):Con prog 10 [] true [] (vB r):=by
 refine Je (G:=(OD N)) func10 rfl (by decide) (by kernel_rfl) (gc 26 (zL N) (gc 36 (zL N) (gc 47 (wv N) (gc 61 (oq N) (gc 64 (oq N) (gc 65 (vK N) (gc 73 (rQ N) (gc 80 (wv N) (gc 93 (oq N) (gc 95 (oq N) (gc 96 (vK N) (gc 104 (Lo N) (gc 110 (j5 N) (gc 115 (zV N) (gc 129 (rQ N) (gc 136 (wP N) (gc 159 (Fy N) (gc 165 (qV N) (gc 172 (KE N) gn))))))))))))))))))) [(62,false),(94,false)] mix (nb rfl) ?_;simp only [f10];unfold uD at h;refine z0 ?_;refine z0 ?_;obtain ⟨r1,hr1,h⟩:=bI h;refine z1 hr1 ?_;refine z0 ?_;refine cN h (fun hc2 hc2d h=>?_) fun hc2 hc2d h=>?_
 ·refine z1 hc2d ?_;exact e0 h
 obtain ⟨r2,hr3,h⟩:=bI h;refine z1 (k2 hc2d hr3) ?_;refine z0 ?_;refine cN h (fun hc4 hc4d h=>?_) fun hc4 hc4d h=>?_
 ·refine z1 hc4d ?_;exact e0 h
 refine z1 hc4d ?_;refine aQ (gl (fun (b:List Txn × List ai × List aa × Int)=>⟨tab 176 (af (af (af (af au 1 (pF 1)) 2 (pF 2)) 3 (pF 3)) 5 (vI b.2.2.2)),(upd (upd (upd RZ 1 (vA 2 [vS (⟨#[65]⟩),vS (⟨#[97]⟩)])) 2 (vA 2 [vS (⟨#[65]⟩),vS (⟨#[98]⟩)])) 3 (vA 3 [sF 11 (b.1.map Txn.row),sF 4 (b.2.1.map ai.row),sF 3 (b.2.2.1.map aa.row)]))⟩) (r2.1.Txns,r2.1.Locks,r2.1.Stacks,0) h ?_ ?_)
 ·exact wR
 rintro n ⟨l6,l7,l8,v9⟩ h -;cases n with
 | zero=>simp [fL] at h
 | succ n=>
 simp only [fL] at h;refine z0 ?_;refine cD h (fun hc5 hc5d h=>?_) fun hc5 hc5d h=>?_
 ·obtain ⟨r20,hr6,h⟩:=bI h;refine z1 (k2 hc5d hr6) ?_;refine aL ?_;apply aT (fun (c23:Bool)=>⟨tab 176 (af (af (af (af (af (af au 1 (pF 1)) 2 (pF 2)) 3 (pF 3)) 5 (vI v9)) 6 (pF 6)) 57 (vB c23)),(upd (upd (upd (upd RZ 1 (vA 2 [vS (⟨#[65]⟩),vS (⟨#[97]⟩)])) 2 (vA 2 [vS (⟨#[65]⟩),vS (⟨#[98]⟩)])) 3 (vA 3 [sF 11 (l6.map Txn.row),sF 4 (l7.map ai.row),sF 3 (l8.map aa.row)])) 6 (vA 3 (ae.row r20.1)))⟩)
  ·intro hJ7;refine iDs h (fun hc8 hc8d h=>?_) fun hc8 hc8d h=>?_
   ·refine z1 hc8d ?_;exact hJ7 _ true wR h
   refine z1 hc8d ?_;exact hJ7 _ (!decide (r20.2.1=1)) wR h
  intro c23 h;unfold sv at h;refine cB h (fun hc9 h=>?_) fun hc9 h=>?_
  ·refine z1 hc9 ?_;exact e0 h
  refine aU (pp ?_);unfold sH at h;obtain ⟨r24,hr10,h⟩:=bI h;obtain ⟨r25,hr11,h⟩:=bI h;obtain rfl:=ng (hr10.symm.trans hr11);obtain ⟨r26,hr12,h⟩:=bI h;refine d1 (k3 hc9 hr10 hr12) ?_;refine z0 ?_;refine cN h (fun hc13 hc13d h=>?_) fun hc13 hc13d h=>?_
  ·refine z1 hc13d ?_;exact e0 h
  refine z1 hc13d ?_;refine ⟨_,cZ _,(r26.1.Txns,r26.1.Locks,r26.1.Stacks,IntKind.i64.wrap (v9+1)),?_,h⟩;exact wR
 refine fx (pp ?_);unfold qL at h;obtain ⟨r27,hr14,h⟩:=bI h;refine z1 (k2 hc5d hr14) ?_;refine z0 ?_;refine cN h (fun hc15 hc15d h=>?_) fun hc15 hc15d h=>?_
 ·refine z1 hc15d ?_;exact e0 h
 obtain ⟨r28,hr16,h⟩:=bI h;refine z1 (k2 hc15d hr16) ?_;refine aL ?_;apply aT (fun (c31:Bool)=>⟨tab 176 (af (af (af (af au 1 (pF 1)) 2 (pF 2)) 3 (pF 3)) 90 (vB c31)),(upd (upd (upd RZ 1 (vA 2 [vS (⟨#[65]⟩),vS (⟨#[97]⟩)])) 2 (vA 2 [vS (⟨#[65]⟩),vS (⟨#[98]⟩)])) 3 (vA 3 (ae.row r28.1)))⟩)
 ·intro hJ17;refine iDs h (fun hc18 hc18d h=>?_) fun hc18 hc18d h=>?_
  ·refine z1 hc18d ?_;exact hJ17 _ true wR h
  refine z1 hc18d ?_;exact hJ17 _ (!decide (r28.2.1=1)) wR h
 intro c31 h;unfold we at h;refine cB h (fun hc19 h=>?_) fun hc19 h=>?_
 ·refine z1 hc19 ?_;exact e0 h
 refine aU (pp ?_);unfold uR at h;obtain ⟨r32,hr20,h⟩:=bI h;obtain ⟨r33,hr21,h⟩:=bI h;obtain rfl:=ng (hr20.symm.trans hr21);obtain ⟨r34,hr22,h⟩:=bI h;refine d1 (k3 hc19 hr20 hr22) ?_;refine aL ?_;apply aT (fun (c41:Bool)=>⟨tab 176 (af (af (af (af au 1 (pF 1)) 2 (pF 2)) 3 (pF 3)) 112 (vB c41)),(upd (upd (upd RZ 1 (vA 2 [vS (⟨#[65]⟩),vS (⟨#[97]⟩)])) 2 (vA 2 [vS (⟨#[65]⟩),vS (⟨#[98]⟩)])) 3 (vA 3 (ae.row r34.1)))⟩)
 ·intro hJ23;refine iDs h (fun hc24 hc24d h=>?_) fun hc24 hc24d h=>?_
  ·refine z1 hc24d ?_;exact hJ23 _ true wR h
  obtain ⟨r42,hr25,h⟩:=bI h;refine iDs h (fun hc26 hc26d h=>?_) fun hc26 hc26d h=>?_
  ·refine z1 (k3 hc24d hr25 hc26d) ?_;exact hJ23 _ true wR h
  obtain ⟨r43,hr27,h⟩:=bI h;refine z1 (k4 hc24d hr25 hc26d hr27) ?_;exact hJ23 _ (!r43) wR h
 intro c41 h;unfold rV at h;refine cB h (fun hc28 h=>?_) fun hc28 h=>?_
 ·refine z1 hc28 ?_;exact e0 h
 refine aU (pp ?_);unfold rR at h;obtain ⟨r44,hr29,h⟩:=bI h;refine z1 (k2 hc28 hr29) ?_;refine aL ?_;apply aT (fun (c47:Bool)=>⟨tab 176 (af (af (af (af au 1 (pF 1)) 2 (pF 2)) 3 (pF 3)) 125 (vB c47)),(upd (upd (upd RZ 1 (vA 2 [vS (⟨#[65]⟩),vS (⟨#[97]⟩)])) 2 (vA 2 [vS (⟨#[65]⟩),vS (⟨#[98]⟩)])) 3 (vA 3 (ae.row r34.1)))⟩)
 ·intro hJ30;refine iDs h (fun hc31 hc31d h=>?_) fun hc31 hc31d h=>?_
  ·refine z1 hc31d ?_;exact hJ30 _ true wR h
  refine z1 hc31d ?_;exact hJ30 _ (!decide ((r44.2.1.length:Int)=2)) wR h
 intro c47 h;unfold vQ at h;refine cB h (fun hc32 h=>?_) fun hc32 h=>?_
 ·refine z1 hc32 ?_;exact e0 h
 refine aU (pp ?_);unfold vY at h;obtain ⟨r48,hr33,h⟩:=bI h;refine z1 (k2 hc32 hr33) ?_;refine z0 ?_;refine cN h (fun hc34 hc34d h=>?_) fun hc34 hc34d h=>?_
 ·refine z1 hc34d ?_;exact e0 h
 obtain ⟨r49,hr35,h⟩:=bI h;refine z1 (k2 hc34d hr35) ?_;refine aL ?_;apply aT (fun (c54:Bool)=>⟨tab 176 (af (af (af au 1 (pF 1)) 3 (pF 3)) 156 (vB c54)),(upd (upd RZ 1 (vA 2 [vS (⟨#[65]⟩),vS (⟨#[97]⟩)])) 3 (vA 3 (ae.row r49.1)))⟩)
 ·intro hJ36;refine iDs h (fun hc37 hc37d h=>?_) fun hc37 hc37d h=>?_
  ·refine z1 hc37d ?_;exact hJ36 _ true wR h
  obtain ⟨x55,hb38,hx39,h⟩:=aI h;try simp only [xu] at hx39
  try simp only [xl,xm,true_and] at hb38
  refine iDs h (fun hc40 hc40d h=>?_) fun hc40 hc40d h=>?_
  ·refine z1 (k4 hc37d hb38 hx39 hc40d) ?_;exact hJ36 _ true wR h
  refine z1 (k4 hc37d hb38 hx39 hc40d) ?_;exact hJ36 _ (!decide ((x55.Writes.length:Int)=2)) wR h
 intro c54 h;unfold sJ at h;refine cB h (fun hc41 h=>?_) fun hc41 h=>?_
 ·refine z1 hc41 ?_;exact e0 h
 refine aU (pp ?_);unfold rS at h;obtain ⟨r56,hr42,h⟩:=bI h;refine z1 (k2 hc41 hr42) ?_;refine iBs h (fun hc43 h=>?_) fun hc43 h=>?_
 ·refine z1 hc43 ?_;exact e0 h
 obtain ⟨r57,hr44,h⟩:=bI h;refine iD h (fun hc45 hc45d h=>?_) fun hc45 hc45d h=>?_
 ·obtain ⟨r58,hr46,h⟩:=bI h;refine z1 (k4 hc43 hr44 hc45d hr46) ?_;exact e0 h
 refine z1 (k3 hc43 hr44 hc45d) ?_;exact e0 h
@[go_sem] def An (N:Nat):FnS:={ own:=[],pure:=true,fn:=fun cs=>match cs with
 | [] =>  (uD N ).map fun r=>vB r
 | _=>none }
def JA (N:Nat):aA prog 10 (An N):=by
 refine ⟨fun cs r h=>?_,fun h=>by cases h⟩;simp only [An] at h;split at h
 ·simp only [cj] at h;obtain ⟨r',hr,rfl⟩:=h;exact (ag (OP N  r' hr))
 ·cases h
def Q9 (N:Nat) (a0:ae) (a1:Int) (r:Int) (h:vJ N a0 a1=some r):Con prog 19 [] true [.agg (ae.row a0),.val (.int .u8 a1)] (vI r):=by
 refine fk (G:=(aw [])) func19 gn ?_;simp only [f19];unfold vJ at h;refine z0 ?_;refine z0 ?_;refine cD h (fun hc1 hc1d h=>?_) fun hc1 hc1d h=>?_
 ·refine z1 hc1d ?_;exact e0 h
 obtain ⟨hd2,h⟩:=Pm h;obtain ⟨x1,hb3,hx4,h⟩:=aI h;refine d1 (k3 hd2 hb3 hx4) ?_;exact e0 h
@[go_sem] def G8 (N:Nat):FnS:=⟨[],true,fn2 ae.decA (aH .u8) fun q0 q1=>(vJ N q0 q1).map fun r=>vI r,false⟩
def Ks (N:Nat):aA prog 19 (G8 N):=om2 (Q9 N)
def RG (N:Nat) (a0:Int) (r:Ref) (h:vx N a0=some r):Con prog 95 [] true [.val (.int .u8 a0)] (.agg (Ref.row r)):=by
 refine fk (G:=(aw [])) func95 gn ?_;simp only [f95];unfold vx at h;refine z0 ?_;refine z0 ?_;obtain ⟨hs1,h⟩:=Xo h;simp only [ByteArray.size,nO,cG,cY,Nat.reduceAdd] at hs1;refine z1 hs1 ?_;exact e0 h
@[go_sem] def CS (N:Nat):FnS:=⟨[],true,fn1 (aH .u8) fun q0=>(vx N q0).map fun r=>.agg (Ref.row r),false⟩
def DS (N:Nat):aA prog 95 (CS N):=om1 (RG N)
@[go_sem] def OK (N d f:Nat):Option FnS:=aw [(21,95,CS N)] d f
def OA (N:Nat) (a0:aj) (r:List ah) (h:wT N a0=some r):Con prog 33 [] false [.agg (aj.row a0)] (sO 4 (r.map ah.row)):=by
 refine fk (G:=(OK N)) func33 (gc 21 (DS N) gn) ?_;simp only [f33];unfold wT at h;refine z0 ?_;refine z0 ?_;refine z0 ?_;refine aQ (gl (fun (b:List ah × Int)=>⟨tab 26 (af (af (af au 1 (pF 1)) 3 (.pal 24 [] 0 b.1.length none)) 4 (vI b.2)),(upd (upd RZ 1 (vA 4 (aj.row a0))) 24 (sO 4 (b.1.map ah.row)))⟩) ([],0) h ?_ ?_)
 ·refine aX.trans (mR 3 24 4 (by simp only [go_sem,seval]) (by simp only [go_sem,seval])) ?_;refine wr ?_ ?_<;>repeat' first|rfl|constructor|simp only [go_sem,seval,nF,hC,nK,nL]
 rintro n ⟨l2,v3⟩ h -;cases n with
 | zero=>simp [od] at h
 | succ n=>
 simp only [od] at h;refine z0 ?_;refine cDs h (fun hc1 hc1d h=>?_) fun hc1 hc1d h=>?_
 ·refine z1 hc1d ?_;exact f0 h
 obtain ⟨hd2,h⟩:=Xp h;obtain ⟨r1,hr3,h⟩:=bI h;obtain ⟨ha4,h⟩:=jR h;simp only [cG,cY,cV,Nat.reduceAdd] at ha4;refine z1 (k4 hc1d hd2 hr3 ha4) ?_;refine z0 ?_;refine ⟨_,cZ _,((l2++[(ah.mk r1 (⟨#[109]⟩) [])]),IntKind.i64.wrap (v3+1)),?_,h⟩;refine aX.trans (vP (n:=23) ([[vS r1.Type_,vS r1.Key,vS (⟨#[109]⟩),sF 5 []]]) (by (try simp only [go_sem]); rfl) (by simp only [go_sem,seval]; rfl) (by simp only [iZ,gX,go_sem]; rfl)) (aX.trans (vP (n:=24) (l2.map ah.row++[[vS r1.Type_,vS r1.Key,vS (⟨#[109]⟩),sF 5 []]]) (by (try simp only [go_sem]); rfl) (by simp only [go_sem,seval]; rfl) (by simp only [iZ,gX,go_sem]; rfl)) ?_);refine wr ?_ ?_<;>repeat' first|rfl|constructor|simp only [go_sem,seval]
@[go_sem] def EX (N:Nat):FnS:=⟨[],false,fn1 aj.decA fun q0=>(wT N q0).map fun r=>sF 4 (r.map ah.row),false⟩
def Jz (N:Nat):aA prog 33 (EX N):=om1 fun q0 r h=>rs (OA N q0 r h)
def Cd (N:Nat) (a0:Value) (r:Value) (h:ja N a0=some r):Con prog 158 [] true [.agg (Value.row a0)] (.agg [vI r.Kind,vI r.N,vS r.S,sO 1 (r.I.map (aB .i64)),sO 1 (r.L.map dS)]):=by
 refine fk (G:=(aw [])) func158 gn ?_;simp only [f158];unfold ja at h;refine z0 ?_;refine aL ?_;obtain ⟨ha1,h⟩:=oE h;simp only [Nat.reduceAdd] at ha1;refine z1 ha1 ?_;refine aL ?_;obtain ⟨ha2,h⟩:=oE h;simp only [Nat.reduceAdd] at ha2;refine z1 ha2 ?_;refine z0 ?_;exact e0 h
@[go_sem] def BO (N:Nat):FnS:=⟨[],true,fn1 Value.decA fun q0=>(ja N q0).map fun r=>.agg (Value.row r),false⟩
def Fc (N:Nat):aA prog 158 (BO N):=om1 fun q0 r h=>rs (Cd N q0 r h)
@[go_sem] def Aj (N:Nat):FnS:=⟨[],true,fn1 Value.decA fun q0=>(ja N q0).map fun r=>.agg [vI r.Kind,vI r.N,vS r.S,sO 1 (r.I.map (aB .i64)),sO 1 (r.L.map dS)],false⟩
def EG (N:Nat):aA prog 158 (Aj N):=om1 (Cd N)
@[go_sem] def HR (N d f:Nat):Option FnS:=aw [(16,158,BO N)] d f
def HL (N:Nat) (a0:List Value) (r:List Value) (h:kJ N a0=some r):Con prog 159 [] false [sF 5 (a0.map Value.row)] (sO 5 (r.map Value.row)):=by
 refine fk (G:=(HR N)) func159 (gc 16 (Fc N) gn) ?_;simp only [f159];unfold kJ at h;refine z0 ?_;refine z0 ?_;refine z0 ?_;refine aQ (ig fun hreal2=>?_);have hl1:=hreal2.lenT 0 (by decide) (by simp only [go_sem,seval]; rfl);rw [cy] at hl1;refine tB (fun (v3:Nat) (b:List Value)=>⟨tab 20 (af (af (af au 0 (sF 5 (a0.map Value.row))) 3 (.pal 18 [] 0 b.length none)) 4 (vI (v3:Int))),(upd RZ 18 (sO 5 (b.map Value.row)))⟩) [] h ?_ ?_
 ·refine aX.trans (mR 3 18 5 (by simp only [go_sem,seval]) (by simp only [go_sem,seval])) ?_;refine wr ?_ ?_<;>repeat' first|rfl|constructor|simp only [go_sem,seval,nF,hC,nK,nL]
 rintro v3 l2 hi3 h -;rcases (mN a0 v3 hi3).symm with ⟨hi3',_,hd6⟩|⟨x6,hi3',hx4,hd6⟩
 ·rw [hd6] at h;simp only [jc] at h;refine z1 hi3' ?_;refine cf ?_;refine z0 ?_;exact f0 h
 rw [hd6] at h;simp only [jc] at h;have hw5:=eG hi3' hl1;refine z1 hi3' ?_;refine ct ?_;obtain ⟨r1,hr7,h⟩:=bI h;obtain ⟨ha8,h⟩:=jR h;simp only [cG,cY,cV,Nat.reduceAdd] at ha8;refine z1 (k4 hx4 hi3' hr7 ha8) ?_;refine z1 hw5 ?_;refine ⟨hi3',(l2++[r1]),?_,h⟩;refine wr ?_ ?_<;>repeat' first|rfl|constructor|simp only [go_sem,seval]
@[go_sem] def Ac (N:Nat):FnS:=⟨[],false,fn1 (aJ 5 Value.dec) fun q0=>(kJ N q0).map fun r=>sF 5 (r.map Value.row),false⟩
def Ej (N:Nat):aA prog 159 (Ac N):=om1 fun q0 r h=>rs (HL N q0 r h)
@[go_sem] def JS (N d f:Nat):Option FnS:=aw [(27,159,Ac N)] d f
def JB (N:Nat) (a0:List ah) (r:List ah) (h:lV N a0=some r):Con prog 205 [] false [sF 4 (a0.map ah.row)] (sO 4 (r.map ah.row)):=by
 refine fk (G:=(JS N)) func205 (gc 27 (Ej N) gn) ?_;simp only [f205];unfold lV at h;refine z0 ?_;refine z0 ?_;refine z0 ?_;refine aQ (ig fun hreal2=>?_);have hl1:=hreal2.lenT 0 (by decide) (by simp only [go_sem,seval]; rfl);rw [cy] at hl1;refine tB (fun (v3:Nat) (b:List ah)=>⟨tab 32 (af (af (af au 0 (sF 4 (a0.map ah.row))) 3 (.pal 30 [] 0 b.length none)) 4 (vI (v3:Int))),(upd RZ 30 (sO 4 (b.map ah.row)))⟩) [] h ?_ ?_
 ·refine aX.trans (mR 3 30 4 (by simp only [go_sem,seval]) (by simp only [go_sem,seval])) ?_;refine wr ?_ ?_<;>repeat' first|rfl|constructor|simp only [go_sem,seval,nF,hC,nK,nL]
 rintro v3 l2 hi3 h -;rcases (mN a0 v3 hi3).symm with ⟨hi3',_,hd6⟩|⟨x6,hi3',hx4,hd6⟩
 ·rw [hd6] at h;simp only [jz] at h;refine z1 hi3' ?_;refine cf ?_;refine z0 ?_;exact f0 h
 rw [hd6] at h;simp only [jz] at h;have hw5:=eG hi3' hl1;refine z1 hi3' ?_;refine ct ?_;obtain ⟨r1,hr7,h⟩:=bI h;obtain ⟨ha8,h⟩:=jR h;simp only [cG,cY,cV,Nat.reduceAdd] at ha8;refine d1 (k4 hx4 hi3' hr7 ha8) ?_;refine z1 hw5 ?_;refine ⟨hi3',(l2++[(ah.mk x6.Target x6.Method r1)]),?_,h⟩;refine wr ?_ ?_<;>repeat' first|rfl|constructor|simp only [go_sem,seval]
@[go_sem] def Ab (N:Nat):FnS:=⟨[],false,fn1 (aJ 4 ah.dec) fun q0=>(lV N q0).map fun r=>sO 4 (r.map ah.row),false⟩
def EN (N:Nat):aA prog 205 (Ab N):=om1 (JB N)
@[go_sem] def Mr (N d f:Nat):Option FnS:=aw [(5,205,Ab N),(9,158,Aj N)] d f
def Mq (N:Nat) (a0:Txn) (r:Txn) (h:pQ N a0=some r):Con prog 150 [] false [.agg (Txn.row a0)] (.agg [vI r.ID,vI r.Born,vS r.Client,vI r.Seq,sO 4 (r.Calls.map ah.row),vI r.Done,vI r.Last.Kind,vI r.Last.N,vS r.Last.S,sO 1 (r.Last.I.map (aB .i64)),sO 1 (r.Last.L.map dS)]):=by
 refine fk (G:=(Mr N)) func150 (gc 5 (EN N) (gc 9 (EG N) gn)) ?_;simp only [f150];unfold pQ at h;refine z0 ?_;obtain ⟨r1,hr1,h⟩:=bI h;refine z1 hr1 ?_;obtain ⟨r2,hr2,h⟩:=bI h;refine z1 hr2 ?_;refine z0 ?_;exact f0 h
@[go_sem] def Cf (N:Nat):FnS:=⟨[],false,fn1 Txn.decA fun q0=>(pQ N q0).map fun r=>.agg [vI r.ID,vI r.Born,vS r.Client,vI r.Seq,sO 4 (r.Calls.map ah.row),vI r.Done,vI r.Last.Kind,vI r.Last.N,vS r.Last.S,sO 1 (r.Last.I.map (aB .i64)),sO 1 (r.Last.L.map dS)],false⟩
def Gp (N:Nat):aA prog 150 (Cf N):=om1 (Mq N)
@[go_sem] def Rf (N d f:Nat):Option FnS:=aw [(27,150,Cf N)] d f
def Qr (N:Nat) (a0:ae) (a1:Int) (r:Txn × Bool) (h:zi N a0 a1=some r):Con prog 80 [] false [.agg (ae.row a0),vI a1] (.tup [.agg [vI r.1.ID,vI r.1.Born,vS r.1.Client,vI r.1.Seq,sO 4 (r.1.Calls.map ah.row),vI r.1.Done,vI r.1.Last.Kind,vI r.1.Last.N,vS r.1.Last.S,sO 1 (r.1.Last.I.map (aB .i64)),sO 1 (r.1.Last.L.map dS)],vB r.2]):=by
 refine fk (G:=(Rf N)) func80 (gc 27 (Gp N) gn) ?_;simp only [f80];unfold zi at h;refine z0 ?_;refine z0 ?_;refine lC 2 0 (fun (v2:Nat) (b:Unit)=>⟨tab 29 (af (af (af (af au 1 (vI a1)) 2 (pF 2)) 4 (pF 4)) 6 (vI (v2:Int))),(upd (upd RZ 2 (vA 3 (ae.row a0))) 4 (vA 11 [vI 0,vI 0,vS (⟨#[]⟩),vI 0,.val (.slice none 0 0),vI 0,vI 0,vI 0,vS (⟨#[]⟩),.val (.slice none 0 0),.val (.slice none 0 0)]))⟩) () h ?_ ?_
 ·rintro v2 ⟨⟩ hi3' h;simp only [pR] at h;refine z1 hi3' ?_;refine cf ?_;refine z0 ?_;exact f0 h
 rintro v2 ⟨⟩ x5 hi3' hx4 hw5 h;simp only [pR] at h;refine z1 hi3' ?_;refine ct ?_;refine z1 (k2 hx4 hi3') ?_;refine cD h (fun hc7 hc7d h=>?_) fun hc7 hc7d h=>?_
 ·obtain ⟨r1,hr8,h⟩:=bI h;refine z1 (k4 hx4 hi3' hc7d hr8) ?_;exact f0 h
 refine z1 (k2 hw5 hc7d) ?_;refine ⟨hi3',(),?_,h⟩;exact wR
@[go_sem] def Hn (N:Nat):FnS:=⟨[],false,fn2 ae.decA (aH .i64) fun q0 q1=>(zi N q0 q1).map fun r=>.tup [.agg (Txn.row r.1),vB r.2],false⟩
def KK (N:Nat):aA prog 80 (Hn N):=om2 fun q0 q1 r h=>rs (Qr N q0 q1 r h)
def Qn (N:Nat) (a0:Ref) (a1:Ref) (r:Bool) (h:wu N a0 a1=some r):Con prog 77 [] true [.agg [vS a0.Type_,vS a0.Key],.agg [vS a1.Type_,vS a1.Key]] (vB r):=by
 refine fk (G:=(aw [])) func77 gn ?_;simp only [f77];unfold wu at h;refine z0 ?_;refine iB h (fun hc1 h=>?_) fun hc1 h=>?_
 ·refine z1 hc1 ?_;exact e0 h
 refine iB h (fun hc2 h=>?_) fun hc2 h=>?_
 ·refine z1 (k2 hc1 hc2) ?_;exact e0 h
 refine z1 (k2 hc1 hc2) ?_;exact e0 h
@[go_sem] def Ha (N:Nat):FnS:=⟨[],true,fn2 Ref.decA Ref.decA fun q0 q1=>(wu N q0 q1).map fun r=>vB r,false⟩
def Lc (N:Nat):aA prog 77 (Ha N):=om2 (Qn N)
@[go_sem] def LZ (N d f:Nat):Option FnS:=aw [(30,77,Ha N)] d f
def MK (N:Nat) (a0:List ah) (r:List Ref) (h:ua N a0=some r):Con prog 82 [] true [sF 4 (a0.map ah.row)] (sO 2 (r.map Ref.row)):=by
 refine fk (G:=(LZ N)) func82 (gc 30 (Lc N) gn) ?_;simp only [f82];unfold ua at h;refine z0 ?_;refine z0 ?_;refine z0 ?_;refine aQ (ig fun hreal2=>?_);have hl1:=hreal2.lenT 0 (by decide) (by simp only [go_sem,seval]; rfl);rw [cy] at hl1;refine tB (fun (v3:Nat) (b:List Ref)=>⟨tab 62 (af (af (af au 0 (sF 4 (a0.map ah.row))) 3 (.pal 60 [] 0 b.length none)) 4 (vI (v3:Int))),(upd RZ 60 (sO 2 (b.map Ref.row)))⟩) [] h ?_ ?_
 ·refine aX.trans (mR 3 60 2 (by simp only [go_sem,seval]) (by simp only [go_sem,seval])) ?_;refine wr ?_ ?_<;>repeat' first|rfl|constructor|simp only [go_sem,seval,nF,hC,nK,nL]
 rintro v3 l2 hi3 h -;rcases (mN a0 v3 hi3).symm with ⟨hi3',_,hd6⟩|⟨x6,hi3',hx4,hd6⟩
 ·rw [hd6] at h;simp only [fq] at h;refine z1 hi3' ?_;refine cf ?_;refine z0 ?_;exact e0 h
 rw [hd6] at h;simp only [fq] at h;have hw5:=eG hi3' hl1;refine z1 hi3' ?_;refine ct ?_;refine z1 (k2 hx4 hi3') ?_;refine z0 ?_;refine aL (aQ (gl (fun (b:Int)=>⟨tab 62 (af (af (af (af (af au 0 (sF 4 (a0.map ah.row))) 3 (.pal 60 [] 0 l2.length none)) 4 (vI (v3:Int))) 5 (pF 5)) 6 (vI b)),(upd (upd RZ 5 (vA 2 [vS x6.Target.Type_,vS x6.Target.Key])) 60 (sO 2 (l2.map Ref.row)))⟩) (l2.length:Int) h ?_ ?_))
 ·exact wF (k3 hx4 hi3' hw5)
 rintro n v10 h -;cases n with
 | zero=>simp [jk] at h
 | succ n=>
 simp only [jk] at h;refine aL ?_;apply aT (fun (c10:Bool)=>⟨tab 62 (af (af (af (af (af (af au 0 (sF 4 (a0.map ah.row))) 3 (.pal 60 [] 0 l2.length none)) 4 (vI (v3:Int))) 5 (pF 5)) 6 (vI v10)) 32 (vB c10)),(upd (upd RZ 5 (vA 2 [vS x6.Target.Type_,vS x6.Target.Key])) 60 (sO 2 (l2.map Ref.row)))⟩)
 ·intro hJ7;refine iD h (fun hc8 hc8d h=>?_) fun hc8 hc8d h=>?_
  ·obtain ⟨x11,hb9,hx10,h⟩:=aI h;obtain ⟨r12,hr11,h⟩:=bI h;refine d1 (k4 hc8d hb9 hx10 hr11) ?_;refine hJ7 _ (!r12) ?_ h;exact wF (k5 hx4 hi3' hw5 hc8d (k3 hb9 hx10 hr11))
  refine d1 hc8d ?_;exact hJ7 _ false (wF (k4 hx4 hi3' hw5 hc8d)) h
 intro c10 h;unfold pf at h;refine cB h (fun hc12 h=>?_) fun hc12 h=>?_
 ·refine z1 hc12 ?_;refine ⟨_,cZ _,(IntKind.i64.wrap (v10 - 1)),?_,h⟩;exact wF (k4 hx4 hi3' hw5 hc12)
 refine fx (pp ?_);unfold tj at h;refine aL ?_;apply aT (fun (c17:Bool)=>⟨tab 62 (af (af (af (af (af (af au 0 (sF 4 (a0.map ah.row))) 3 (.pal 60 [] 0 l2.length none)) 4 (vI (v3:Int))) 5 (pF 5)) 6 (vI v10)) 46 (vB c17)),(upd (upd RZ 5 (vA 2 [vS x6.Target.Type_,vS x6.Target.Key])) 60 (sO 2 (l2.map Ref.row)))⟩)
 ·intro hJ13;refine mW fun Z hZ=>?_;simp only [go_sem,seval,hc12];repeat with_reducible refine gE (by kernel_rfl) ?_
  refine lO rfl (fun hc14=>?_) (fun hc14=>?_)
  ·have hc14d:=decide_eq_true hc14;rw [if_pos hc14] at h;obtain ⟨x18,hb15,hx16,h⟩:=aI h;simp only [go_sem,seval,hb15,hx16];refine hZ _ (by kernel_rfl) (pp (hJ13 _ (sEq x18.Type_ x6.Target.Type_ && sEq x18.Key x6.Target.Key) ?_ h));exact wF (k5 hx4 hi3' hw5 hc12 (k3 hc14d hb15 hx16))
  have hc14d:=decide_eq_false hc14;rw [if_neg hc14] at h;simp only [go_sem,seval,hc14d];exact hZ _ (by kernel_rfl) (pp (hJ13 _ false (wF (k5 hx4 hi3' hw5 hc12 hc14d)) h))
 intro c17 h;unfold o8 at h;refine cB h (fun hc17 h=>?_) fun hc17 h=>?_
 ·refine z1 (k2 hw5 hc17) ?_;refine ⟨hi3',l2,?_,h⟩;exact wF (k5 hx4 hi3' hw5 hc12 hc17)
 refine aU (pp ?_);unfold kV at h;refine aL ?_;obtain ⟨hs18,h⟩:=iT h;try simp only [cP] at hs18 h
 obtain ⟨ha19,h⟩:=oE h;simp only [Nat.reduceAdd] at ha19;refine z1 (k4 hc17 hs18 @cT ha19) ?_;refine LF [0,1,2,4,7] [3,5] [[5,3]] [6,8,9] [] (by kernel_rfl) fun Z hZ Y hY=>?_;simp only [go_sem,seval];refine hY _ (by kernel_rfl) (KJ (by kernel_rfl) fun Y hY=>?_);obtain ⟨hs20,ht21,h⟩:=Q4 h;try simp only [cP] at hs20 ht21 h
 simp only [go_sem,seval,hs18,cU,cT,cr];refine hY _ (by kernel_rfl) (KJ (by kernel_rfl) fun Y hY=>?_);simp only [go_sem,seval,cr];refine hY _ (by kernel_rfl) (WY (sC:=⟨tab 62 (af (af (af (af (af (af (af (af (af (af (af (af (af (af (af (af (af (af au 0 (sF 4 (a0.map ah.row))) 3 (.pal 60 [] 0 l2.length none)) 4 (vI (v3:Int))) 5 (pF 5)) 6 (vI v10)) 7 (.pal 51 [] 0 (((l2.drop ((v10).toNat)).take (l2.length - (v10).toNat)).length) none)) 46 (vB false)) 48 (.pal 60 [] 0 l2.length none)) 49 (vI v10)) 50 (.pal 60 [] ((v10).toNat) (l2.length - (v10).toNat) none)) 51 (.pal 51 [] 0 (((l2.drop ((v10).toNat)).take (l2.length - (v10).toNat)).length) none)) 52 (.pal 60 [] 0 l2.length none)) 53 (vI v10)) 54 (vI v10)) 55 (.pal 60 [] 0 ((v10).toNat) (some ((v10).toNat)))) 56 (.agg [vS x6.Target.Type_,vS x6.Target.Key])) 57 (.pal 57 [] 0 ([x6.Target].length) none)) 59 (.pal 51 [] 0 (((l2.drop ((v10).toNat)).take (l2.length - (v10).toNat)).length) none)),(upd (upd (upd (upd RZ 5 (vA 2 [vS x6.Target.Type_,vS x6.Target.Key])) 51 (sO 2 (((l2.drop ((v10).toNat)).take (l2.length - (v10).toNat)).map Ref.row))) 57 (.sl true none 2 (some 1) ([x6.Target].map Ref.row))) 60 (sO 2 (l2.map Ref.row)))⟩) ?_ ?_ ?_)
 ·try simp only [iZ,gX,go_sem,seval]
  refine wr ?_ ?_<;>repeat' first|rfl|constructor|simp only [go_sem,seval,nF,hC,nK,nL,hx4,hi3',hw5,hc12,hc17,hs18,cU,cT,ha19,hs20,ht21,VN ht21,cr]
 ·refine ⟨?_,trivial⟩
  ·refine LA (by kernel_rfl) fun Y hY=>?_;simp only [go_sem,seval,cr];refine hY _ (by kernel_rfl) (LA (by kernel_rfl) fun Y hY=>?_);simp only [go_sem,seval,hs18,cU,cT,cr];refine hY _ (by kernel_rfl) (UY ?_);try simp only [iZ,gX,go_sem,seval]
   refine wr ?_ ?_<;>repeat' first|rfl|constructor|simp only [go_sem,seval,nF,hC,nK,nL,hx4,hi3',hw5,hc12,hc17,hs18,cU,cT,ha19,hs20,ht21,VN ht21,cr]
 obtain ⟨ha22,h⟩:=jR h;simp only [cG,cY,cV,Nat.reduceAdd] at ha22;obtain ⟨ha23,h⟩:=jR h;simp only [ni,cG,cY,cV,Nat.reduceAdd] at ha23;simp only [go_sem,seval,ha22,ha23];refine hZ _ (z1 hw5 ?_);refine ⟨hi3',(((l2.take ((v10).toNat))++[x6.Target])++((l2.drop ((v10).toNat)).take (l2.length - (v10).toNat))),?_,h⟩;refine wr ?_ ?_<;>repeat' first|rfl|constructor|simp only [go_sem,seval]
@[go_sem] def Cg (N:Nat):FnS:=⟨[],true,fn1 (aJ 4 ah.dec) fun q0=>(ua N q0).map fun r=>sO 2 (r.map Ref.row),false⟩
def Gk (N:Nat):aA prog 82 (Cg N):=om1 (MK N)
@[go_sem] def Ga (N d f:Nat):Option FnS:=aw [(5,82,Cg N)] d f
def Gd (N:Nat) (a0:Txn) (r:List Ref) (h:lB N a0=some r):Con prog 94 [] true [.agg (Txn.row a0)] (sO 2 (r.map Ref.row)):=by
 refine fk (G:=(Ga N)) func94 (gc 5 (Gk N) gn) ?_;simp only [f94];unfold lB at h;refine z0 ?_;obtain ⟨r1,hr1,h⟩:=bI h;refine z1 hr1 ?_;exact e0 h
@[go_sem] def y8 (N:Nat):FnS:=⟨[],true,fn1 Txn.decA fun q0=>(lB N q0).map fun r=>sF 2 (r.map Ref.row),false⟩
def C0 (N:Nat):aA prog 94 (y8 N):=om1 fun q0 r h=>rs (Gd N q0 r h)
@[go_sem] def Hv (N d f:Nat):Option FnS:=aw [(13,80,Hn N),(17,94,y8 N),(22,95,CS N)] d f
def Hu (N:Nat) (a0:ae) (a1:Int) (a2:Int) (r:Ref) (h:kr N a0 a1 a2=some r):Con prog 32 [] true [.agg (ae.row a0),vI a1,.val (.int .u8 a2)] (.agg (Ref.row r)):=by
 refine fk (G:=(Hv N)) func32 (gc 13 (KK N) (gc 17 (C0 N) (gc 22 (DS N) gn))) ?_;simp only [f32];unfold kr at h;refine z0 ?_;obtain ⟨r1,hr1,h⟩:=bI h;refine z1 hr1 ?_;obtain ⟨r2,hr2,h⟩:=bI h;refine z1 hr2 ?_;refine z0 ?_;refine cD h (fun hc3 hc3d h=>?_) fun hc3 hc3d h=>?_
 ·obtain ⟨r3,hr4,h⟩:=bI h;refine z1 (k2 hc3d hr4) ?_;exact e0 h
 obtain ⟨hd5,h⟩:=Pm h;obtain ⟨x4,hb6,hx7,h⟩:=aI h;refine z1 (k3 hd5 hb6 hx7) ?_;exact e0 h
@[go_sem] def zu (N:Nat):FnS:=⟨[],true,fn3 ae.decA (aH .i64) (aH .u8) fun q0 q1 q2=>(kr N q0 q1 q2).map fun r=>.agg (Ref.row r),false⟩
def Dy (N:Nat):aA prog 32 (zu N):=om3 (Hu N)
@[go_sem] def Qs (N d f:Nat):Option FnS:=aw [(25,19,G8 N),(58,33,EX N),(59,38,zq N),(72,25,wZ N),(88,34,qS N),(92,34,qS N),(93,26,ym N),(110,32,zu N),(111,27,sm N),(34,28,vL N),(40,20,zY N)] d f
def Qt (N:Nat) (a0:ae) (a1:Int) (a2:aj) (r:ae × (List aD)) (h:vX N a0 a1 a2=some r):Con prog 11 [] false [.agg (ae.row a0),vI a1,.agg (aj.row a2)] (.tup [.agg (ae.row r.1),sF 9 (r.2.map aD.row)]):=by
 refine Je (G:=(Qs N)) func11 rfl (by decide) (by kernel_rfl) (gc 25 (Ks N) (gc 58 (Jz N) (gc 59 (zL N) (gc 72 (wv N) (gc 88 (oq N) (gc 92 (oq N) (gc 93 (vK N) (gc 110 (Dy N) (gc 111 (rQ N) (gc 34 (wP N) (gc 40 (zV N) gn))))))))))) [(89,false)] mix (nb rfl) ?_;simp only [f11];unfold vX at h;refine z0 ?_;obtain ⟨r1,hr1,h⟩:=bI h;refine z1 hr1 ?_;refine z0 ?_;refine aQ ?_;apply aT (fun (c2:Bool)=>⟨tab 118 (af (af (af (af (af (af (af au 1 (vI a1)) 3 (pF 3)) 5 (pF 5)) 6 (pF 6)) 8 (vI r1)) 28 (.val (.int .u8 (Int.tmod a2.Kind 8)))) 47 (vB c2)),(upd (upd (upd RZ 3 (vA 3 (ae.row a0))) 5 (vA 4 (aj.row a2))) 6 (vA 3 [.val (.slice none 0 0),.val (.slice none 0 0),.val (.slice none 0 0)]))⟩)
 ·intro hJ2;refine z0 ?_;refine cD h (fun hc3 hc3d h=>?_) fun hc3 hc3d h=>?_
  ·refine aU (pp (hJ2 _ true ?_ h));exact wF hc3d
  refine z1 hc3d ?_;exact hJ2 _ (decide ((Int.tmod a2.Kind 8)=1)) (wF (k2 hr1 hc3d)) h
 intro c2 h;unfold uk at h;refine cB h (fun hc4 h=>?_) fun hc4 h=>?_
 ·obtain ⟨r3,hr5,h⟩:=bI h;obtain ⟨r4,hr6,h⟩:=bI h;refine d1 (k3 hc4 hr5 hr6) ?_;refine z0 ?_;refine cD h (fun hc7 hc7d h=>?_) fun hc7 hc7d h=>?_
  ·refine z1 hc7d ?_;exact f0 h
  refine z1 hc7d ?_;exact f0 h
 apply aT (fun (c5:Bool)=>⟨tab 118 (af (af (af (af (af (af au 3 (pF 3)) 5 (pF 5)) 6 (pF 6)) 8 (vI r1)) 28 (.val (.int .u8 (Int.tmod a2.Kind 8)))) 65 (vB c5)),(upd (upd (upd RZ 3 (vA 3 (ae.row a0))) 5 (vA 4 (aj.row a2))) 6 (vA 3 [.val (.slice none 0 0),.val (.slice none 0 0),.val (.slice none 0 0)]))⟩)
 ·intro hJ8;refine z1 hc4 ?_;refine cD h (fun hc9 hc9d h=>?_) fun hc9 hc9d h=>?_
  ·refine aU (pp (hJ8 _ true ?_ h));exact wF hc9d
  refine z1 hc9d ?_;refine cD h (fun hc10 hc10d h=>?_) fun hc10 hc10d h=>?_
  ·refine aU (pp (hJ8 _ true ?_ h));exact wF hc10d
  refine z1 hc10d ?_;exact hJ8 _ (decide ((Int.tmod a2.Kind 8)=4)) (wF (k4 hr1 hc4 hc9d hc10d)) h
 intro c5 h;unfold pU at h;refine cB h (fun hc11 h=>?_) fun hc11 h=>?_
 ·obtain ⟨r6,hr12,h⟩:=bI h;refine z1 (k2 hc11 hr12) ?_;refine z0 ?_;refine cN h (fun hc13 hc13d h=>?_) fun hc13 hc13d h=>?_
  ·refine z1 hc13d ?_;exact f0 h
  refine z1 hc13d ?_;refine cN h (fun hc14 hc14d h=>?_) fun hc14 hc14d h=>?_
  ·refine z1 hc14d ?_;exact f0 h
  obtain ⟨r7,hr15,h⟩:=bI h;obtain ⟨r8,hr16,h⟩:=bI h;obtain rfl:=ng (hr15.symm.trans hr16);obtain ⟨r9,hr17,h⟩:=bI h;refine d1 (k3 hc14d hr15 hr17) ?_;refine z0 ?_;refine cD h (fun hc18 hc18d h=>?_) fun hc18 hc18d h=>?_
  ·refine z1 hc18d ?_;exact f0 h
  refine z1 hc18d ?_;exact f0 h
 apply aT (fun (c10:Bool)=>⟨tab 118 (af (af (af (af (af au 3 (pF 3)) 5 (pF 5)) 6 (pF 6)) 8 (vI r1)) 100 (vB c10)),(upd (upd (upd RZ 3 (vA 3 (ae.row a0))) 5 (vA 4 (aj.row a2))) 6 (vA 3 [.val (.slice none 0 0),.val (.slice none 0 0),.val (.slice none 0 0)]))⟩)
 ·intro hJ19;refine z1 hc11 ?_;refine cD h (fun hc20 hc20d h=>?_) fun hc20 hc20d h=>?_
  ·refine aU (pp (hJ19 _ true ?_ h));exact wF hc20d
  refine z1 hc20d ?_;exact hJ19 _ (decide ((Int.tmod a2.Kind 8)=6)) (wF (k4 hr1 hc4 hc11 hc20d)) h
 intro c10 h;unfold tX at h;refine cB h (fun hc21 h=>?_) fun hc21 h=>?_
 ·obtain ⟨r11,hr22,h⟩:=bI h;obtain ⟨r12,hr23,h⟩:=bI h;refine d1 (k3 hc21 hr22 hr23) ?_;refine z0 ?_;refine cD h (fun hc24 hc24d h=>?_) fun hc24 hc24d h=>?_
  ·refine z1 hc24d ?_;exact f0 h
  refine z1 hc24d ?_;exact f0 h
 refine z1 hc21 ?_;refine cD h (fun hc25 hc25d h=>?_) fun hc25 hc25d h=>?_
 ·obtain ⟨r13,hr26,h⟩:=bI h;refine z1 (k2 hc25d hr26) ?_;exact f0 h
 obtain ⟨r14,hr27,h⟩:=bI h;refine z1 (k2 hc25d hr27) ?_;refine z0 ?_;refine cD h (fun hc28 hc28d h=>?_) fun hc28 hc28d h=>?_
 ·refine z1 hc28d ?_;exact f0 h
 refine z1 hc28d ?_;exact f0 h
@[go_sem] def He (N:Nat):FnS:=⟨[],false,fn3 ae.decA (aH .i64) aj.decA fun q0 q1 q2=>(vX N q0 q1 q2).map fun r=>.tup [.agg (ae.row r.1),sF 9 (r.2.map aD.row)],false⟩
def K2 (N:Nat):aA prog 11 (He N):=om3 (Qt N)
@[go_sem] def OH (N d f:Nat):Option FnS:=aw [(23,11,He N)] d f
def Ow (N:Nat) (a0:List aj) (r:ae × (List aD)) (h:uB N a0=some r):Con prog 18 [] false [sF 4 (a0.map aj.row)] (.tup [.agg (ae.row r.1),sO 9 (r.2.map aD.row)]):=by
 refine fk (G:=(OH N)) func18 (gc 23 (K2 N) gn) ?_;simp only [f18];unfold uB at h;refine z0 ?_;refine z0 ?_;refine z0 ?_;refine z0 ?_;refine aQ (ig fun hreal2=>?_);have hl1:=hreal2.lenT 0 (by decide) (by simp only [go_sem,seval]; rfl);rw [cy] at hl1;refine tB (fun (v6:Nat) (b:List Txn × List ai × List aa × List aD)=>⟨tab 32 (af (af (af (af (af au 0 (sF 4 (a0.map aj.row))) 2 (pF 2)) 4 (pF 4)) 5 (.pal 29 [] 0 b.2.2.2.length none)) 6 (vI (v6:Int))),(upd (upd (upd RZ 2 (vA 3 [.val (.slice none 0 0),.val (.slice none 0 0),.val (.slice none 0 0)])) 4 (vA 3 [sF 11 (b.1.map Txn.row),sF 4 (b.2.1.map ai.row),sF 3 (b.2.2.1.map aa.row)])) 29 (sO 9 (b.2.2.2.map aD.row)))⟩) ([],[],[],[]) h ?_ ?_
 ·refine aX.trans (D9 4 [(0,0)] 11 (by simp only [go_sem,seval]) (by simp only [go_sem,seval]; try rfl)) (aX.trans (D9 4 [(0,1)] 4 (by simp only [go_sem,seval]) (by simp only [go_sem,seval]; try rfl)) (aX.trans (D9 4 [(0,2)] 3 (by simp only [go_sem,seval]) (by simp only [go_sem,seval]; try rfl)) (aX.trans (mR 5 29 9 (by simp only [go_sem,seval]) (by simp only [go_sem,seval])) ?_)));refine wr ?_ ?_<;>repeat' first|rfl|constructor|simp only [go_sem,seval,nF,hC,nK,nL]
 rintro v6 ⟨l2,l3,l4,l5⟩ hi3 h -;rcases (mN a0 v6 hi3).symm with ⟨hi3',_,hd6⟩|⟨x9,hi3',hx4,hd6⟩
 ·rw [hd6] at h;simp only [k9] at h;refine z1 hi3' ?_;refine cf ?_;refine z0 ?_;exact f0 h
 rw [hd6] at h;simp only [k9] at h;have hw5:=eG hi3' hl1;refine z1 hi3' ?_;refine ct ?_;obtain ⟨r1,hr7,h⟩:=bI h;refine d1 (k3 hx4 hi3' hr7) ?_;refine z0 ?_;obtain ⟨ha8,h⟩:=jR h;simp only [Nat.reduceAdd] at ha8;refine z1 ha8 ?_;refine z1 hw5 ?_;refine ⟨hi3',(r1.1.Txns,r1.1.Locks,r1.1.Stacks,(l5++r1.2)),?_,h⟩;refine wr ?_ ?_<;>repeat' first|rfl|constructor|simp only [go_sem,seval]
@[go_sem] def FB (N:Nat):FnS:=⟨[],false,fn1 (aJ 4 aj.dec) fun q0=>(uB N q0).map fun r=>.tup [.agg (ae.row r.1),sF 9 (r.2.map aD.row)],false⟩
def JL (N:Nat):aA prog 18 (FB N):=om1 fun q0 r h=>rs (Ow N q0 r h)
@[go_sem] def JQ (N d f:Nat):Option FnS:=aw [(21,10,An N),(28,18,FB N),(57,24,Bc N),(64,25,wZ N),(80,26,ym N),(88,12,Eu N),(92,13,po N),(102,27,sm N),(112,28,vL N)] d f
def Ck (N:Nat) (a0:List aj) (r:Bool) (h:lZ N a0=some r):Con prog 5 [] true [sF 4 (a0.map aj.row)] (vB r):=by
 refine fk (G:=(JQ N)) func5 (gc 21 (JA N) (gc 28 (JL N) (gc 57 (AL N) (gc 64 (wv N) (gc 80 (vK N) (gc 88 (Fy N) (gc 92 (qV N) (gc 102 (rQ N) (gc 112 (wP N) gn))))))))) ?_;simp only [f5];unfold lZ at h;refine z0 ?_;obtain ⟨r1,hr1,h⟩:=bI h;refine z1 hr1 ?_;refine cM h (fun hc2 h=>?_) fun hc2 h=>?_
 ·refine z1 hc2 ?_;exact e0 h
 refine z1 hc2 ?_;refine cD h (fun hc3 hc3d h=>?_) fun hc3 hc3d h=>?_
 ·refine z1 hc3d ?_;exact e0 h
 obtain ⟨r2,hr4,h⟩:=bI h;refine z1 (k2 hc3d hr4) ?_;refine z0 ?_;refine aQ (gl (fun (b:List Txn × List ai × List aa × Int)=>⟨tab 131 (af (af au 3 (pF 3)) 5 (vI b.2.2.2)),(upd RZ 3 (vA 3 [sF 11 (b.1.map Txn.row),sF 4 (b.2.1.map ai.row),sF 3 (b.2.2.1.map aa.row)]))⟩) (r2.1.Txns,r2.1.Locks,r2.1.Stacks,0) h ?_ ?_)
 ·exact wR
 rintro n ⟨l6,l7,l8,v9⟩ h -;cases n with
 | zero=>simp [gb] at h
 | succ n=>
 simp only [gb] at h;refine aL ?_;apply aT (fun (c65:Bool)=>⟨tab 131 (af (af (af au 3 (pF 3)) 5 (vI v9)) 38 (vB c65)),(upd RZ 3 (vA 3 [sF 11 (l6.map Txn.row),sF 4 (l7.map ai.row),sF 3 (l8.map aa.row)]))⟩)
 ·intro hJ5;refine iD h (fun hc6 hc6d h=>?_) fun hc6 hc6d h=>?_
  ·refine z1 hc6d ?_;exact hJ5 _ (decide (0 < (l6.length:Int))) wR h
  refine z1 hc6d ?_;exact hJ5 _ false wR h
 intro c65 h;unfold qb at h;refine cBs h (fun hc7 h=>?_) fun hc7 h=>?_
 ·refine fx (pp ?_);unfold lK at h;refine iDs h (fun hc33 hc33d h=>?_) fun hc33 hc33d h=>?_
  ·refine z1 (k2 hc7 hc33d) ?_;exact e0 h
  refine iD h (fun hc34 hc34d h=>?_) fun hc34 hc34d h=>?_
  ·refine z1 (k3 hc7 hc33d hc34d) ?_;exact e0 h
  refine z1 (k3 hc7 hc33d hc34d) ?_;exact e0 h
 refine aU (pp ?_);unfold qH at h;refine aL (aQ ?_);apply QQ (fun (l109:List Txn) (l110:List ai) (l111:List aa)=>⟨tab 131 (af (af au 3 (pF 3)) 5 (vI v9)),(upd RZ 3 (vA 3 [sF 11 (l109.map Txn.row),sF 4 (l110.map ai.row),sF 3 (l111.map aa.row)]))⟩)
 ·intro hJ8;refine z1 hc7 ?_;refine aQ (gl (fun (b:List Txn × List ai × List aa × Int)=>⟨tab 131 (af (af (af au 3 (pF 3)) 5 (vI v9)) 6 (vI b.2.2.2)),(upd RZ 3 (vA 3 [sF 11 (b.1.map Txn.row),sF 4 (b.2.1.map ai.row),sF 3 (b.2.2.1.map aa.row)]))⟩) (l6,l7,l8,0) h ?_ ?_)
  ·exact wR
  rintro n ⟨l16,l17,l18,v19⟩ h -;cases n with
  | zero=>simp [fa] at h
  | succ n=>
  simp only [fa] at h;refine z0 ?_;refine cDs h (fun hc9 hc9d h=>?_) fun hc9 hc9d h=>?_
  ·refine fx (pp (hJ8 _ l16 l17 l18 ?_ h));exact wR
  obtain ⟨x112,hb10,hx11,h⟩:=aI h;refine z1 (k2 hb10 hx11) ?_;obtain ⟨r113,hr12,h⟩:=bI h;refine z1 hr12 ?_;refine z0 ?_;refine cB h (fun hc13 h=>?_) fun hc13 h=>?_
  ·obtain ⟨r114,hr14,h⟩:=bI h;refine z1 (k2 hc13 hr14) ?_;refine z0 ?_;refine cN h (fun hc15 hc15d h=>?_) fun hc15 hc15d h=>?_
   ·refine z1 hc15d ?_;exact e0 h
   refine z1 hc15d ?_;refine z0 ?_;refine cD h (fun hc16 hc16d h=>?_) fun hc16 hc16d h=>?_
   ·refine z1 hc16d ?_;refine ⟨_,cZ _,(r114.1.Txns,r114.1.Locks,r114.1.Stacks,IntKind.i64.wrap (v19+1)),?_,h⟩;exact wR
   refine aU (pp ?_);apply QQ (fun (l116:List Txn) (l117:List ai) (l118:List aa)=>⟨tab 131 (af (af au 3 (pF 3)) 5 (vI v9)),(upd RZ 3 (vA 3 [sF 11 (l116.map Txn.row),sF 4 (l117.map ai.row),sF 3 (l118.map aa.row)]))⟩)
   ·intro hJ17;refine z1 hc16d ?_;refine cDs h (fun hc18 hc18d h=>?_) fun hc18 hc18d h=>?_
    ·refine aU (pp (hJ17 _ r114.1.Txns r114.1.Locks r114.1.Stacks ?_ h));exact wR
    obtain ⟨r119,hr19,h⟩:=bI h;refine z1 (k2 hc18d hr19) ?_;refine z0 ?_;refine cN h (fun hc20 hc20d h=>?_) fun hc20 hc20d h=>?_
    ·refine z1 hc20d ?_;exact e0 h
    refine aU (pp (hJ17 _ r119.1.Txns r119.1.Locks r119.1.Stacks ?_ h));exact wR
   intro l116 l117 l118 h;unfold lF at h;refine fx (pp (hJ8 _ l116 l117 l118 ?_ h));exact wR
  obtain ⟨r120,hr21,h⟩:=bI h;refine z1 (k2 hc13 hr21) ?_;refine z0 ?_;obtain ⟨r137,hr22,h⟩:=bI h;refine z1 hr22 ?_;refine lT 92 (fun (v41:Nat) (b:List Txn × List ai × List aa × Bool)=>⟨tab 131 (af (af (af (af (af (af (af (af au 3 (pF 3)) 5 (vI v9)) 6 (vI v19)) 7 (vI x112.ID)) 16 (vB b.2.2.2)) 92 (sF 2 (r137.map Ref.row))) 93 (vI (r137.length:Int))) 94 (vI (v41:Int))),(upd RZ 3 (vA 3 [sF 11 (b.1.map Txn.row),sF 4 (b.2.1.map ai.row),sF 3 (b.2.2.1.map aa.row)]))⟩) (l16,l17,l18,false) h ?_ ?_
  ·rintro v41 ⟨l37,l38,l39,c40⟩ hi25' h;simp only [gh] at h;refine z1 hi25' ?_;refine cf ?_;unfold qm at h;refine z0 ?_;refine cB h (fun hc31 h=>?_) fun hc31 h=>?_
   ·refine fx (pp (hJ8 _ l37 l38 l39 ?_ h));exact wR
   refine z1 hc31 ?_;refine ⟨_,cZ _,(l37,l38,l39,IntKind.i64.wrap (v19+1)),?_,h⟩;exact wR
  rintro v41 ⟨l37,l38,l39,c40⟩ x44 hi25' hx26 hw27 h;simp only [gh] at h;refine z1 hi25' ?_;refine ct ?_;refine z1 (k2 hx26 hi25') ?_;obtain ⟨r138,hr29,h⟩:=bI h;refine z1 hr29 ?_;refine z0 ?_;refine cDs h (fun hc30 hc30d h=>?_) fun hc30 hc30d h=>?_
  ·refine z1 (k2 hw27 hc30d) ?_;refine ⟨hi25',(l37,l38,l39,c40),?_,h⟩;exact wR
  refine z1 hc30d ?_;refine z1 hw27 ?_;refine ⟨hi25',(r138.1.Txns,r138.1.Locks,r138.1.Stacks,true),?_,h⟩;exact wR
 intro l109 l110 l111 h;unfold qk at h;obtain ⟨r139,hr32,h⟩:=bI h;refine z1 hr32 ?_;refine z0 ?_;refine ⟨_,cZ _,(r139.1.Txns,r139.1.Locks,r139.1.Stacks,IntKind.i64.wrap (v9+1)),?_,h⟩;exact wR
@[go_sem] def IJ (N:Nat):FnS:=⟨[],true,fn1 (aJ 4 aj.dec) fun q0=>(lZ N q0).map fun r=>vB r,false⟩
def SC (N:Nat):aA prog 5 (IJ N):=om1 (Ck N)
end
end Go.Proofs.YtmacaidmhchpgaaGreat
