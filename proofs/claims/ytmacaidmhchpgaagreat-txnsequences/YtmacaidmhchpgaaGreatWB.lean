import Derived.Test.YtmacaidmhchpgaaGreatB
import Derived.Test.YtmacaidmhchpgaaGreatWA
/- Each Go function computes its model: proofs laid by a program of ours. -/
set_option linter.defProp false
set_option maxHeartbeats 40000000
set_option synthInstance.maxHeartbeats 2000000
set_option synthInstance.maxSize 4000
set_option linter.unusedSimpArgs false
set_option linter.unusedVariables false
set_option maxRecDepth 100000
namespace Go.Abs
def app_last{α:Type}(f:α->List C)(l:List α)(r:List C):(l.map f++[r])[l.length]?=some r:=by
 rw[ni oZk];simp
def app_modl{α:Type}(f:α->List C)(l:List α)(r:List C)(k:List C->List C):(l.map f++[r]).modify l.length k=l.map f++[k r]:=by
 induction l with
 | nil=>rfl
 | cons x l ih=>simpa using ih
def ins_open{α:Type}{row:α->List C}{A B:List α}(y:α){r:List C}{i:Nat}(hi:A.length=i):A.map row++[r]++B.map row=((A++[y]++B).map row).set i r:=by
 subst hi;simp
def ins_get{α:Type}{A B:List α}{y:α}{i:Nat}(hi:A.length=i):(A++[y]++B)[i]?=some y:=by
 subst hi;simp
def ins_openL{α:Type}{row:α->List C}{A B L:List α}{y:α}{r:List C}{i:Nat}(hL:L=A++[y]++B)(hi:A.length=i):A.map row++[r]++B.map row=(L.map row).set i r:=by
 subst hL;exact ins_open y hi
def ins_getL{α:Type}{A B L:List α}{y:α}{i:Nat}(hL:L=A++[y]++B)(hi:A.length=i):L[i]?=some y:=by
 subst hL;exact ins_get hi
def weak_foldQ{α:Type}{row:α->List C}[hrow:B7 row]{k:Nat}{f f':Nat->C}{R:Nat->C}(n:Nat)(q:aq){nl:Option Bool}{es:Nat}{cap:Option Nat}(l:List α)(i:Nat)(y:α){rc rz:List C}(hq:(R n).at q=some (.sl true nl es cap ((l.map row).set i rc)))
  (hz:row y=rz) [hle:jt rc rz] (hf:zb (fun n' p'=>n' == n&&ph q p') f=f') {c':C} (hc:(R n).turn (fun _=>.sl true nl es cap ((l.set i y).map row)) q=c'):
  aM ⟨tab k f,R⟩ ⟨tab k f',upd R n c'⟩:=by
 subst hf;subst hc;rintro X a w ⟨m,H⟩;have h1:AM ((l.map row).set i rc) ((l.set i y).map row):=by
  have:jt rc (row y):=by rw[hz];exact hle
  exact over_le row l i rc y
 have:=H.tellP hq h1.h (hrow.ok.noOwn (l.set i y));exact⟨m,by simpa[Fa]using this⟩end Go.Abs
namespace Go.Proofs.YtmacaidmhchpgaaGreat
open Go Go.Proofs Go.Abs Tryz
noncomputable section
@[go_sem] def Vr(N d f:Nat):Option FnS:=aL [(26,38,EG N),(36,38,EG N),(47,25,FO N),(61,34,va N),(64,34,va N),(65,26,FT N),(73,27,BI N),(80,25,FO N),(93,34,va N),(95,34,va N),(96,26,FT N),(104,15,Nk N),(110,23,HY N),(115,20,IM N),(129,27,BI N),(136,28,Fg N),(159,12,Qk N),(165,13,EP N),(172,39,M4 N)] d f
def Vx(N:Nat)  (r:Bool) (h:zS N  = some r):Con prog 10 [] true [] (vB r):=by
 refine DD (G:=(Vr N)) func10 rfl oZh oZc (gc 26 (Ag N) (gc 36 (Ag N) (gc 47 (BA N) (gc 61 (lA N) (gc 64 (lA N) (gc 65 (Bd N) (gc 73 (vE N) (gc 80 (BA N) (gc 93 (lA N) (gc 95 (lA N) (gc 96 (Bd N) (gc 104 (HT N) (gc 110 (gv N) (gc 115 (z8 N) (gc 129 (vE N) (gc 136 (BV N) (gc 159 (Lf N) (gc 165 (uW N) (gc 172 (Io N) gn))))))))))))))))))) [(62,false),(94,false)] mix (cU rfl) ?_;simp only[f10];unfold zS at h;refine z0 ?_;refine z0 ?_;obtain⟨r1,hr1,h⟩:=bI h;refine z2 ?_;refine z0 ?_;refine cN h (fun hc2 hc2d h=>?_) fun hc2 hc2d h=>?_
 .refine z2 ?_;exact e0 h
 obtain⟨r2,hr3,h⟩:=bI h;refine z2 ?_;refine z0 ?_;refine cN h (fun hc4 hc4d h=>?_) fun hc4 hc4d h=>?_
 .refine z2 ?_;exact e0 h
 refine z2 ?_;refine aK (dw (fun(b:List Txn×List ai×List aa×Int)=>⟨tab 176 (af (af (af (af au 1 (pF 1)) 2 (pF 2)) 3 (pF 3)) 5 (vI b.2.2.2)),(upd (upd (upd RZ 1 (vA 2 [vS (⟨#[65]⟩),vS (⟨#[97]⟩)])) 2 (vA 2 [vS (⟨#[65]⟩),vS (⟨#[98]⟩)])) 3 (vA 3 [sF 11 (b.1.map Txn.row),sF 4 (b.2.1.map ai.row),sF 3 (b.2.2.1.map aa.row)]))⟩) (r2.1.Txns,r2.1.Locks,r2.1.Stacks,0) h ?_ ?_)
 .exact wR
 rintro n ⟨l6,l7,l8,v9⟩ h -;cases n with
 | zero=>simp[fY]at h
 | succ n=>
 simp only[fY]at h;refine z0 ?_;refine cD h (fun hc5 hc5d h=>?_) fun hc5 hc5d h=>?_
 .obtain⟨r20,hr6,h⟩:=bI h;refine z2 ?_;refine aN ?_;apply aS (fun(c23:Bool)=>⟨tab 176 (af (af (af (af (af (af au 1 (pF 1)) 2 (pF 2)) 3 (pF 3)) 5 (vI v9)) 6 (pF 6)) 57 (vB c23)),(upd (upd (upd (upd RZ 1 (vA 2 [vS (⟨#[65]⟩),vS (⟨#[97]⟩)])) 2 (vA 2 [vS (⟨#[65]⟩),vS (⟨#[98]⟩)])) 3 (vA 3 [sF 11 (l6.map Txn.row),sF 4 (l7.map ai.row),sF 3 (l8.map aa.row)])) 6 (vA 3 (ae.row r20.1)))⟩)
  .intro hJ7;refine iDs h (fun hc8 hc8d h=>?_) fun hc8 hc8d h=>?_
   .refine z2 ?_;exact hJ7 _ true wR h
   refine z2 ?_;exact hJ7 _ (!decide (r20.2.1=1)) wR h
  intro c23 h;unfold w4 at h;refine cB h (fun hc9 h=>?_) fun hc9 h=>?_
  .refine z2 ?_;exact e0 h
  refine bm (pp ?_);unfold w7 at h;obtain⟨r24,hr10,h⟩:=bI h;obtain⟨r25,hr11,h⟩:=bI h;obtain rfl:=cX (hr10.symm.trans hr11);obtain⟨r26,hr12,h⟩:=bI h;refine d2 ?_;refine z0 ?_;refine cN h (fun hc13 hc13d h=>?_) fun hc13 hc13d h=>?_
  .refine z2 ?_;exact e0 h
  refine z2 ?_;refine⟨_,cZ _,(r26.1.Txns,r26.1.Locks,r26.1.Stacks,IntKind.i64.wrap (v9+1)),?_,h⟩;exact wR
 refine eV (pp ?_);unfold uK at h;obtain⟨r27,hr14,h⟩:=bI h;refine z2 ?_;refine z0 ?_;refine cN h (fun hc15 hc15d h=>?_) fun hc15 hc15d h=>?_
 .refine z2 ?_;exact e0 h
 obtain⟨r28,hr16,h⟩:=bI h;refine z2 ?_;refine aN ?_;apply aS (fun(c31:Bool)=>⟨tab 176 (af (af (af (af au 1 (pF 1)) 2 (pF 2)) 3 (pF 3)) 90 (vB c31)),(upd (upd (upd RZ 1 (vA 2 [vS (⟨#[65]⟩),vS (⟨#[97]⟩)])) 2 (vA 2 [vS (⟨#[65]⟩),vS (⟨#[98]⟩)])) 3 (vA 3 (ae.row r28.1)))⟩)
 .intro hJ17;refine iDs h (fun hc18 hc18d h=>?_) fun hc18 hc18d h=>?_
  .refine z2 ?_;exact hJ17 _ true wR h
  refine z2 ?_;exact hJ17 _ (!decide (r28.2.1=1)) wR h
 intro c31 h;unfold Bf at h;refine cB h (fun hc19 h=>?_) fun hc19 h=>?_
 .refine z2 ?_;exact e0 h
 refine bm (pp ?_);unfold Ab at h;obtain⟨r32,hr20,h⟩:=bI h;obtain⟨r33,hr21,h⟩:=bI h;obtain rfl:=cX (hr20.symm.trans hr21);obtain⟨r34,hr22,h⟩:=bI h;refine d2 ?_;refine aN ?_;apply aS (fun(c41:Bool)=>⟨tab 176 (af (af (af (af au 1 (pF 1)) 2 (pF 2)) 3 (pF 3)) 112 (vB c41)),(upd (upd (upd RZ 1 (vA 2 [vS (⟨#[65]⟩),vS (⟨#[97]⟩)])) 2 (vA 2 [vS (⟨#[65]⟩),vS (⟨#[98]⟩)])) 3 (vA 3 (ae.row r34.1)))⟩)
 .intro hJ23;refine iDs h (fun hc24 hc24d h=>?_) fun hc24 hc24d h=>?_
  .refine z2 ?_;exact hJ23 _ true wR h
  obtain⟨r42,hr25,h⟩:=bI h;refine iDs h (fun hc26 hc26d h=>?_) fun hc26 hc26d h=>?_
  .refine z2 ?_;exact hJ23 _ true wR h
  obtain⟨r43,hr27,h⟩:=bI h;refine z2 ?_;exact hJ23 _ (!r43) wR h
 intro c41 h;unfold wW at h;refine cB h (fun hc28 h=>?_) fun hc28 h=>?_
 .refine z2 ?_;exact e0 h
 refine bm (pp ?_);unfold ye at h;obtain⟨r44,hr29,h⟩:=bI h;refine z2 ?_;refine aN ?_;apply aS (fun(c47:Bool)=>⟨tab 176 (af (af (af (af au 1 (pF 1)) 2 (pF 2)) 3 (pF 3)) 125 (vB c47)),(upd (upd (upd RZ 1 (vA 2 [vS (⟨#[65]⟩),vS (⟨#[97]⟩)])) 2 (vA 2 [vS (⟨#[65]⟩),vS (⟨#[98]⟩)])) 3 (vA 3 (ae.row r34.1)))⟩)
 .intro hJ30;refine iDs h (fun hc31 hc31d h=>?_) fun hc31 hc31d h=>?_
  .refine z2 ?_;exact hJ30 _ true wR h
  refine z2 ?_;exact hJ30 _ (!decide ((r44.2.1.length:Int)=2)) wR h
 intro c47 h;unfold Bk at h;refine cB h (fun hc32 h=>?_) fun hc32 h=>?_
 .refine z2 ?_;exact e0 h
 refine bm (pp ?_);unfold Bw at h;obtain⟨r48,hr33,h⟩:=bI h;refine z2 ?_;refine z0 ?_;refine cN h (fun hc34 hc34d h=>?_) fun hc34 hc34d h=>?_
 .refine z2 ?_;exact e0 h
 obtain⟨r49,hr35,h⟩:=bI h;refine z2 ?_;refine aN ?_;apply aS (fun(c54:Bool)=>⟨tab 176 (af (af (af au 1 (pF 1)) 3 (pF 3)) 156 (vB c54)),(upd (upd RZ 1 (vA 2 [vS (⟨#[65]⟩),vS (⟨#[97]⟩)])) 3 (vA 3 (ae.row r49.1)))⟩)
 .intro hJ36;refine iDs h (fun hc37 hc37d h=>?_) fun hc37 hc37d h=>?_
  .refine z2 ?_;exact hJ36 _ true wR h
  obtain⟨x55,hb38,hx39,h⟩:=aQ h;try simp only[nE]at hx39
  try simp only[nU,xd,true_and]at hb38
  refine iDs h (fun hc40 hc40d h=>?_) fun hc40 hc40d h=>?_
  .refine z2 ?_;exact hJ36 _ true wR h
  refine z2 ?_;exact hJ36 _ (!decide ((x55.Writes.length:Int)=2)) wR h
 intro c54 h;unfold yb at h;refine cB h (fun hc41 h=>?_) fun hc41 h=>?_
 .refine z2 ?_;exact e0 h
 refine bm (pp ?_);unfold wG at h;obtain⟨r56,hr42,h⟩:=bI h;refine z2 ?_;refine iBs h (fun hc43 h=>?_) fun hc43 h=>?_
 .refine z2 ?_;exact e0 h
 obtain⟨r57,hr44,h⟩:=bI h;refine iD h (fun hc45 hc45d h=>?_) fun hc45 hc45d h=>?_
 .obtain⟨r58,hr46,h⟩:=bI h;refine z2 ?_;exact e0 h
 refine z2 ?_;exact e0 h
@[go_sem] def Fp(N:Nat):FnS:={own:=[],pure:=true,fn:=fun cs=>match cs with
 | []=>  (zS N ).map fun r=>vB r
 | _=>none}
def PT(N:Nat):ar prog 10 (Fp N):=by
 refine⟨fun cs r h=>?_,fun h=>oZj⟩;simp only[Fp]at h;split at h
 .simp only[cq]at h;obtain⟨r',hr,rfl⟩:=h;exact(ag (Vx N  r' hr))
 .cases h
@[go_sem] def Nj(N:Nat):FnS:=⟨[],true,fn2 ae.decA (aC .u8) fun q0 q1=>(DU N q0 q1).map fun r=>vI r,false⟩
def IP(N:Nat):ar prog 19 (Nj N):=om2 fun _ _ _ h=>by
 refine fk (G:=(aL [])) func19 gn ?_;simp only[f19];exact go
@[go_sem] def Yo(N:Nat):FnS:=⟨[],true,fn1 (aC .u8) fun q0=>(DH N q0).map fun r=>.agg (Ref.row r),false⟩
def Jb(N:Nat):ar prog 95 (Yo N):=om1 fun _ _ h=>by
 refine fk (G:=(aL [])) func95 gn ?_;simp only[f95];unfold DH at h;refine z0 ?_;refine z0 ?_;obtain⟨hs1,h⟩:=WW h;simp only[ByteArray.size,xg,cn,cw,Nat.reduceAdd]at hs1;exact go
@[go_sem] def KN(N:Nat):FnS:=⟨[],false,fn1 al.decA fun q0=>(Ch N q0).map fun r=>sF 4 (r.map ah.row),false⟩
def Hj(N:Nat):ar prog 33 (KN N):=om1 fun a0 _ h=>by
 refine fk func33 (gc 21 (Jb N) gn) ?_;simp only[f33];unfold Ch at h;refine z0 ?_;refine z0 ?_;refine z0 ?_;refine aK (dw (fun(b:List ah×Int)=>⟨tab 26 (af (af (af au 1 (pF 1)) 3 (.pal 24 [] 0 b.1.length none)) 4 (vI b.2)),(upd (upd RZ 1 (vA 4 (al.row a0))) 24 (sO 4 (b.1.map ah.row)))⟩) ([],0) h ?_ ?_)
 .refine aM.trans (fm 3 24 4 oZb oZb) ?_;refine wr ?_ ?_<;>repeat' first|rfl|constructor|simp only[go_sem,seval,cY,cL,nj,nk]
 rintro n ⟨l2,v3⟩ h -;cases n with
 | zero=>simp[qY]at h
 | succ n=>
 simp only[qY]at h;refine z0 ?_;refine cDs h (fun hc1 hc1d h=>?_) fun hc1 hc1d h=>?_
 .exact go
 obtain⟨hd2,h⟩:=XG h;obtain⟨r1,hr3,h⟩:=bI h;obtain⟨ha4,h⟩:=bq h;simp only[cn,cw,cy,Nat.reduceAdd]at ha4;refine z2 ?_;refine z0 ?_;refine⟨_,cZ _,((l2++[(ah.mk r1 (⟨#[109]⟩) [])]),IntKind.i64.wrap (v3+1)),?_,h⟩;refine aM.trans (tu (n:=23) ([[vS r1.Type_,vS r1.Key,vS (⟨#[109]⟩),sF 5 []]]) (by(try simp only[go_sem]);rfl) oZa (by simp only[fg,ek,go_sem];rfl)) (aM.trans (tu (n:=24) (l2.map ah.row++[[vS r1.Type_,vS r1.Key,vS (⟨#[109]⟩),sF 5 []]]) (by(try simp only[go_sem]);rfl) oZa (by simp only[fg,ek,go_sem];rfl)) ?_);refine wr ?_ ?_<;>repeat' first|rfl|constructor|simp only[go_sem,seval]
def G5(N:Nat)(a0:Value)(r:Value)(h:iY N a0=some r):Con prog 158 [] true [.agg (Value.row a0)] (.agg [vI r.Kind,vI r.N,vS r.S,sO 1 (r.I.map (aA .i64)),sO 1 (r.L.map dA)]):=by
 refine fk (G:=(aL [])) func158 gn ?_;simp only[f158];exact go
@[go_sem] def F9(N:Nat):FnS:=⟨[],true,fn1 Value.decA fun q0=>(iY N q0).map fun r=>.agg (Value.row r),false⟩
def wQ(N:Nat):ar prog 158 (F9 N):=om1 fun q0 r h=>rs (G5 N q0 r h)
@[go_sem] def ER(N:Nat):FnS:=⟨[],true,fn1 Value.decA fun q0=>(iY N q0).map fun r=>.agg [vI r.Kind,vI r.N,vS r.S,sO 1 (r.I.map (aA .i64)),sO 1 (r.L.map dA)],false⟩
def JH(N:Nat):ar prog 158 (ER N):=om1 (G5 N)
@[go_sem] def ON(N d f:Nat):Option FnS:=aL [(16,158,F9 N)] d f
def GH(N:Nat)(a0:List Value)(r:List Value)(h:dW N a0=some r):Con prog 159 [] false [sF 5 (a0.map Value.row)] (sO 5 (r.map Value.row)):=by
 refine fk (G:=(ON N)) func159 (gc 16 (wQ N) gn) ?_;simp only[f159];unfold dW at h;refine z0 ?_;refine z0 ?_;refine z0 ?_;refine aK (dc fun hreal2=>?_);have hl1:=hreal2.lenT 0 oZh oZa;rw[cr]at hl1;refine fb (fun(v3:Nat) (b:List Value)=>⟨tab 20 (af (af (af au 0 (sF 5 (a0.map Value.row))) 3 (.pal 18 [] 0 b.length none)) 4 (vI (v3:Int))),(upd RZ 18 (sO 5 (b.map Value.row)))⟩) [] h ?_ ?_
 .refine aM.trans (fm 3 18 5 oZb oZb) ?_;refine wr ?_ ?_<;>repeat' first|rfl|constructor|simp only[go_sem,seval,cY,cL,nj,nk]
 rintro v3 l2 hi3 h -;rcases(dj a0 v3 hi3).symm with⟨hi3',_,hd6⟩|⟨x6,hi3',hx4,hd6⟩
 .rw[hd6]at h;exact go
 rw[hd6]at h;simp only[mU]at h;have hw5:=bn hi3' hl1;refine z2 ?_;refine ct ?_;obtain⟨r1,hr7,h⟩:=bI h;obtain⟨ha8,h⟩:=bq h;simp only[cn,cw,cy,Nat.reduceAdd]at ha8;refine z2 ?_;refine z2 ?_;refine⟨hi3',(l2++[r1]),?_,h⟩;refine wr ?_ ?_<;>repeat' first|rfl|constructor|simp only[go_sem,seval]
@[go_sem] def NI(N:Nat):FnS:=⟨[],false,fn1 (aD 5 Value.dec) fun q0=>(dW N q0).map fun r=>sF 5 (r.map Value.row),false⟩
def oK(N:Nat):ar prog 159 (NI N):=om1 fun q0 r h=>rs (GH N q0 r h)
@[go_sem] def Mz(N:Nat):FnS:=⟨[],false,fn1 (aD 5 Value.dec) fun q0=>(dW N q0).map fun r=>sO 5 (r.map Value.row),false⟩
def I4(N:Nat):ar prog 159 (Mz N):=om1 (GH N)
@[go_sem] def E2(N:Nat):FnS:=⟨[],false,fn1 (aD 4 ah.dec) fun q0=>(ug N q0).map fun r=>sO 4 (r.map ah.row),false⟩
def JI(N:Nat):ar prog 205 (E2 N):=om1 fun a0 _ h=>by
 refine fk func205 (gc 27 (oK N) gn) ?_;simp only[f205];unfold ug at h;refine z0 ?_;refine z0 ?_;refine z0 ?_;refine aK (dc fun hreal2=>?_);have hl1:=hreal2.lenT 0 oZh oZa;rw[cr]at hl1;refine fb (fun(v3:Nat) (b:List ah)=>⟨tab 32 (af (af (af au 0 (sF 4 (a0.map ah.row))) 3 (.pal 30 [] 0 b.length none)) 4 (vI (v3:Int))),(upd RZ 30 (sO 4 (b.map ah.row)))⟩) [] h ?_ ?_
 .refine aM.trans (fm 3 30 4 oZb oZb) ?_;refine wr ?_ ?_<;>repeat' first|rfl|constructor|simp only[go_sem,seval,cY,cL,nj,nk]
 rintro v3 l2 hi3 h -;rcases(dj a0 v3 hi3).symm with⟨hi3',_,hd6⟩|⟨x6,hi3',hx4,hd6⟩
 .rw[hd6]at h;exact go
 rw[hd6]at h;simp only[pH]at h;have hw5:=bn hi3' hl1;refine z2 ?_;refine ct ?_;obtain⟨r1,hr7,h⟩:=bI h;obtain⟨ha8,h⟩:=bq h;simp only[cn,cw,cy,Nat.reduceAdd]at ha8;refine d2 ?_;refine z2 ?_;refine⟨hi3',(l2++[(ah.mk x6.Target x6.Method r1)]),?_,h⟩;refine wr ?_ ?_<;>repeat' first|rfl|constructor|simp only[go_sem,seval]
@[go_sem] def Sj(N d f:Nat):Option FnS:=aL [(5,205,E2 N),(9,158,ER N)] d f
def Ja(N:Nat)(a0:Txn)(r:Txn)(h:jG N a0=some r):Con prog 150 [] false [.agg (Txn.row a0)] (.agg [vI r.ID,vI r.Born,vS r.Client,vI r.Seq,sO 4 (r.Calls.map ah.row),vI r.Done,vI r.Last.Kind,vI r.Last.N,vS r.Last.S,sO 1 (r.Last.I.map (aA .i64)),sO 1 (r.Last.L.map dA)]):=by
 refine fk (G:=(Sj N)) func150 (gc 5 (JI N) (gc 9 (JH N) gn)) ?_;simp only[f150];exact go
@[go_sem] def Il(N:Nat):FnS:=⟨[],false,fn1 Txn.decA fun q0=>(jG N q0).map fun r=>.agg (Txn.row r),false⟩
def zX(N:Nat):ar prog 150 (Il N):=om1 fun q0 r h=>rs (Ja N q0 r h)
@[go_sem] def Qa(N:Nat):FnS:=⟨[],false,fn1 Txn.decA fun q0=>(jG N q0).map fun r=>.agg [vI r.ID,vI r.Born,vS r.Client,vI r.Seq,sO 4 (r.Calls.map ah.row),vI r.Done,vI r.Last.Kind,vI r.Last.N,vS r.Last.S,sO 1 (r.Last.I.map (aA .i64)),sO 1 (r.Last.L.map dA)],false⟩
def Lz(N:Nat):ar prog 150 (Qa N):=om1 (Ja N)
@[go_sem] def VG(N:Nat):FnS:=⟨[],false,fn2 ae.decA (aC .i64) fun q0 q1=>(iZ N q0 q1).map fun r=>.tup [.agg (Txn.row r.1),vB r.2],false⟩
def js(N:Nat):ar prog 80 (VG N):=om2 fun _ _ _ h=>by
 refine fk func80 (gc 27 (Lz N) gn) ?_;simp only[f80];unfold iZ at h;have:LC 2 [1,2,4] [2,4] 2 0 (fun f (v2:Nat) (b:Unit)=>(af f 6 (.val (.int .i64 (v2:Int))))) (fun R _ _=>R):=⟨⟩;exact go
@[go_sem] def M0(N:Nat):FnS:=⟨[],true,fn2 Ref.decA Ref.decA fun q0 q1=>(qE N q0 q1).map fun r=>vB r,false⟩
def ru(N:Nat):ar prog 77 (M0 N):=om2 fun _ _ _ h=>by
 refine fk (G:=(aL [])) func77 gn ?_;simp only[f77];unfold qE at h;exact go
@[go_sem] def SB(N d f:Nat):Option FnS:=aL [(30,77,M0 N)] d f
def Jj(N:Nat)(a0:List ah)(r:List Ref)(h:kv N a0=some r):Con prog 82 [] true [sF 4 (a0.map ah.row)] (sO 2 (r.map Ref.row)):=by
 refine fk (G:=(SB N)) func82 (gc 30 (ru N) gn) ?_;simp only[f82];unfold kv at h;refine z0 ?_;refine z0 ?_;refine z0 ?_;refine aK (dc fun hreal2=>?_);have hl1:=hreal2.lenT 0 oZh oZa;rw[cr]at hl1;refine fb (fun(v3:Nat) (b:List Ref)=>⟨tab 62 (af (af (af au 0 (sF 4 (a0.map ah.row))) 3 (.pal 60 [] 0 b.length none)) 4 (vI (v3:Int))),(upd RZ 60 (sO 2 (b.map Ref.row)))⟩) [] h ?_ ?_
 .refine aM.trans (fm 3 60 2 oZb oZb) ?_;refine wr ?_ ?_<;>repeat' first|rfl|constructor|simp only[go_sem,seval,cY,cL,nj,nk]
 rintro v3 l2 hi3 h -;rcases(dj a0 v3 hi3).symm with⟨hi3',_,hd6⟩|⟨x6,hi3',hx4,hd6⟩
 .rw[hd6]at h;exact go
 rw[hd6]at h;simp only[dy]at h;have hw5:=bn hi3' hl1;refine z2 ?_;refine ct ?_;refine z2 ?_;refine z0 ?_;refine aN (aK (dw (fun(b:Int)=>⟨tab 62 (af (af (af (af (af au 0 (sF 4 (a0.map ah.row))) 3 (.pal 60 [] 0 l2.length none)) 4 (vI (v3:Int))) 5 (pF 5)) 6 (vI b)),(upd (upd RZ 5 (vA 2 [vS x6.Target.Type_,vS x6.Target.Key])) 60 (sO 2 (l2.map Ref.row)))⟩) (l2.length:Int) h ?_ ?_))
 .exact w2
 rintro n v10 h -;cases n with
 | zero=>simp[gP]at h
 | succ n=>
 simp only[gP]at h;refine aN ?_;apply aS (fun(c10:Bool)=>⟨tab 62 (af (af (af (af (af (af au 0 (sF 4 (a0.map ah.row))) 3 (.pal 60 [] 0 l2.length none)) 4 (vI (v3:Int))) 5 (pF 5)) 6 (vI v10)) 32 (vB c10)),(upd (upd RZ 5 (vA 2 [vS x6.Target.Type_,vS x6.Target.Key])) 60 (sO 2 (l2.map Ref.row)))⟩)
 .intro hJ7;refine iD h (fun hc8 hc8d h=>?_) fun hc8 hc8d h=>?_
  .have hJ:=hJ7;exact go
  have hJ:=hJ7;exact go
 intro c10 h;unfold kM at h;refine cB h (fun hc12 h=>?_) fun hc12 h=>?_
 .exact go
 refine eV (pp ?_);unfold m7 at h;refine aN ?_;apply aS (fun(c17:Bool)=>⟨tab 62 (af (af (af (af (af (af au 0 (sF 4 (a0.map ah.row))) 3 (.pal 60 [] 0 l2.length none)) 4 (vI (v3:Int))) 5 (pF 5)) 6 (vI v10)) 46 (vB c17)),(upd (upd RZ 5 (vA 2 [vS x6.Target.Type_,vS x6.Target.Key])) 60 (sO 2 (l2.map Ref.row)))⟩)
 .intro hJ13;refine o5 fun Z hZ=>?_;simp only[go_sem,seval,hc12];repeat with_reducible refine mj oZc ?_
  refine jx rfl (fun hc14=>?_) (fun hc14=>?_)
  .have hc14d:=decide_eq_true hc14;rw[if_pos hc14]at h;have hJ:=hJ13;exact go
  have hc14d:=decide_eq_false hc14;rw[if_neg hc14]at h;have hJ:=hJ13;exact go
 intro c17 h;unfold jz at h;refine cB h (fun hc17 h=>?_) fun hc17 h=>?_
 .exact go
 refine bm (pp ?_);unfold jE at h;refine aN ?_;obtain⟨hs18,h⟩:=fC h;try simp only[cu]at hs18 h
 obtain⟨ha19,h⟩:=AK h;simp only[Nat.reduceAdd]at ha19;refine z2 ?_;refine qy [0,1,2,4,7] [3,5] [[5,3]] [6,8,9] [] oZc fun Z hZ Y hY=>?_;simp only[go_sem,seval];refine hY _ oZc (du oZc fun Y hY=>?_);obtain⟨hs20,ht21,h⟩:=Ii h;try simp only[cu]at hs20 ht21 h
 simp only[go_sem,seval,hs18,cR,cQ,ck];refine hY _ oZc (du oZc fun Y hY=>?_);simp only[go_sem,seval,ck];refine hY _ oZc (Fo (sC:=⟨tab 62 (af (af (af (af (af au 0 (sF 4 (a0.map ah.row))) 4 (vI (v3:Int))) 55 (.pal 60 [] 0 ((v10).toNat) (some ((v10).toNat)))) 57 (.pal 57 [] 0 ([x6.Target].length) none)) 59 (.pal 51 [] 0 (((l2.drop ((v10).toNat)).take (l2.length -(v10).toNat)).length) none)),(upd (upd (upd (upd RZ 5 (vA 2 [vS x6.Target.Type_,vS x6.Target.Key])) 51 (sO 2 (((l2.drop ((v10).toNat)).take (l2.length -(v10).toNat)).map Ref.row))) 57 (.sl true none 2 (some 1) ([x6.Target].map Ref.row))) 60 (sO 2 (l2.map Ref.row)))⟩) wP hT ?_);obtain⟨ha22,h⟩:=bq h;simp only[cn,cw,cy,Nat.reduceAdd]at ha22;obtain⟨ha23,h⟩:=bq h;simp only[nc,cn,cw,cy,Nat.reduceAdd]at ha23;simp only[go_sem,seval,ha22,ha23];refine hZ _ (z2 ?_);refine⟨hi3',(((l2.take ((v10).toNat))++[x6.Target])++((l2.drop ((v10).toNat)).take (l2.length -(v10).toNat))),?_,h⟩;refine wr ?_ ?_<;>repeat' first|rfl|constructor|simp only[go_sem,seval]
@[go_sem] def QU(N:Nat):FnS:=⟨[],true,fn1 (aD 4 ah.dec) fun q0=>(kv N q0).map fun r=>sF 2 (r.map Ref.row),false⟩
def ES(N:Nat):ar prog 82 (QU N):=om1 fun q0 r h=>rs (Jj N q0 r h)
@[go_sem] def PF(N:Nat):FnS:=⟨[],true,fn1 (aD 4 ah.dec) fun q0=>(kv N q0).map fun r=>sO 2 (r.map Ref.row),false⟩
def LZ(N:Nat):ar prog 82 (PF N):=om1 (Jj N)
@[go_sem] def KC(N:Nat):FnS:=⟨[],true,fn1 Txn.decA fun q0=>(eE N q0).map fun r=>sF 2 (r.map Ref.row),false⟩
def lX(N:Nat):ar prog 94 (KC N):=om1 fun _ _ h=>by
 refine fk func94 (gc 5 (LZ N) gn) ?_;simp only[f94];exact go
@[go_sem] def Ef(N:Nat):FnS:=⟨[],true,fn3 ae.decA (aC .i64) (aC .u8) fun q0 q1 q2=>(qq N q0 q1 q2).map fun r=>.agg (Ref.row r),false⟩
def BP(N:Nat):ar prog 32 (Ef N):=om3 fun _ _ _ _ h=>by
 refine fk func32 (gc 13 (js N) (gc 17 (lX N) (gc 22 (Jb N) gn))) ?_;simp only[f32];exact go
@[go_sem] def MZ(N:Nat):FnS:=⟨[],false,fn3 ae.decA (aC .i64) al.decA fun q0 q1 q2=>(Et N q0 q1 q2).map fun r=>.tup [.agg (ae.row r.1),sF 9 (r.2.map aB.row)],false⟩
def Rw(N:Nat):ar prog 11 (MZ N):=om3 fun a0 a1 a2 _ h=>by
 refine DD func11 rfl oZh oZc (gc 25 (IP N) (gc 58 (Hj N) (gc 59 (Ag N) (gc 72 (BA N) (gc 88 (lA N) (gc 92 (lA N) (gc 93 (Bd N) (gc 110 (BP N) (gc 111 (vE N) (gc 34 (BV N) (gc 40 (z8 N) gn))))))))))) [(89,false)] mix (cU rfl) ?_;simp only[f11];unfold Et at h;refine z0 ?_;obtain⟨r1,hr1,h⟩:=bI h;refine z2 ?_;refine z0 ?_;refine aK ?_;apply aS (fun(c2:Bool)=>⟨tab 118 (af (af (af (af (af (af (af au 1 (vI a1)) 3 (pF 3)) 5 (pF 5)) 6 (pF 6)) 8 (vI r1)) 28 (.val (.int .u8 (Int.tmod a2.Kind 8)))) 47 (vB c2)),(upd (upd (upd RZ 3 (vA 3 (ae.row a0))) 5 (vA 4 (al.row a2))) 6 (vA 3 [.val (.slice none 0 0),.val (.slice none 0 0),.val (.slice none 0 0)]))⟩)
 .intro hJ2;refine z0 ?_;refine cD h (fun hc3 hc3d h=>?_) fun hc3 hc3d h=>?_
  .refine bm (pp (hJ2 _ true ?_ h));exact w2
  have hJ:=hJ2;exact go
 intro c2 h;unfold zH at h;refine cB h (fun hc4 h=>?_) fun hc4 h=>?_
 .exact go
 apply aS (fun(c5:Bool)=>⟨tab 118 (af (af (af (af (af (af au 3 (pF 3)) 5 (pF 5)) 6 (pF 6)) 8 (vI r1)) 28 (.val (.int .u8 (Int.tmod a2.Kind 8)))) 65 (vB c5)),(upd (upd (upd RZ 3 (vA 3 (ae.row a0))) 5 (vA 4 (al.row a2))) 6 (vA 3 [.val (.slice none 0 0),.val (.slice none 0 0),.val (.slice none 0 0)]))⟩)
 .intro hJ8;refine z2 ?_;refine cD h (fun hc9 hc9d h=>?_) fun hc9 hc9d h=>?_
  .refine bm (pp (hJ8 _ true ?_ h));exact w2
  refine z2 ?_;refine cD h (fun hc10 hc10d h=>?_) fun hc10 hc10d h=>?_
  .refine bm (pp (hJ8 _ true ?_ h));exact w2
  have hJ:=hJ8;exact go
 intro c5 h;unfold s4 at h;refine cB h (fun hc11 h=>?_) fun hc11 h=>?_
 .obtain⟨r6,hr12,h⟩:=bI h;refine z2 ?_;refine z0 ?_;refine cN h (fun hc13 hc13d h=>?_) fun hc13 hc13d h=>?_
  .exact go
  refine z2 ?_;refine cN h (fun hc14 hc14d h=>?_) fun hc14 hc14d h=>?_
  .exact go
  obtain⟨r7,hr15,h⟩:=bI h;obtain⟨r8,hr16,h⟩:=bI h;obtain rfl:=cX (hr15.symm.trans hr16);exact go
 apply aS (fun(c10:Bool)=>⟨tab 118 (af (af (af (af (af au 3 (pF 3)) 5 (pF 5)) 6 (pF 6)) 8 (vI r1)) 100 (vB c10)),(upd (upd (upd RZ 3 (vA 3 (ae.row a0))) 5 (vA 4 (al.row a2))) 6 (vA 3 [.val (.slice none 0 0),.val (.slice none 0 0),.val (.slice none 0 0)]))⟩)
 .intro hJ19;refine z2 ?_;refine cD h (fun hc20 hc20d h=>?_) fun hc20 hc20d h=>?_
  .refine bm (pp (hJ19 _ true ?_ h));exact w2
  have hJ:=hJ19;exact go
 exact go
@[go_sem] def PO(N:Nat):FnS:=⟨[],true,fn1 Ref.decA fun q0=>(ig N q0).map fun r=>vB r,false⟩
def qv(N:Nat):ar prog 96 (PO N):=om1 fun _ _ h=>by
 refine fk (G:=(aL [])) func96 gn ?_;simp only[f96];unfold ig at h;exact go
@[go_sem] def Tp(N:Nat):FnS:=⟨[],true,fn1 (aC .i64) fun q0=>(u9 N q0).map fun r=>vB r,false⟩
def B5(N:Nat):ar prog 97 (Tp N):=om1 fun _ _ h=>by
 refine fk (G:=(aL [])) func97 gn ?_;simp only[f97];unfold u9 at h;exact go
@[go_sem] def Nt(N:Nat):FnS:=⟨[],true,fn1 (aD 4 ai.dec) fun q0=>(fv N q0).map fun r=>vB r,false⟩
def il(N:Nat):ar prog 37 (Nt N):=om1 fun a0 _ h=>by
 refine fk func37 (gc 21 (qv N) (gc 26 (B5 N) (gc 47 (ru N) gn))) ?_;simp only[f37];unfold fv at h;have:J1 12 0 [0,3,4,5] [4] (fun f (c17:Bool)=>(af f 91 (.val (.bool c17)))) (fun R _=>R):=⟨⟩;refine z0 ?_;refine z0 ?_;refine cD h (fun hc1 hc1d h=>?_) fun hc1 hc1d h=>?_
 .exact go
 refine z1 hc1d ?_;refine lT 0 (fun(v3:Nat) (b:Unit)=>⟨tab 92 (af (af au 0 (sF 4 (a0.map ai.row))) 3 (vI (v3:Int))),RZ⟩) () h ?_ ?_
 .exact go
 rintro v3 ⟨⟩ x6 hi4' hx5 hw6 h;simp only[dR]at h;refine z1 hi4' ?_;refine ct ?_;refine z1 (k2 hx5 hi4') ?_;refine aN ?_;apply aS (fun(c11:Bool)=>⟨tab 92 (af (af (af (af au 0 (sF 4 (a0.map ai.row))) 3 (vI (v3:Int))) 4 (pF 4)) 50 (vB c11)),(upd RZ 4 (vA 4 (ai.row x6)))⟩)
 .intro hJ8;obtain⟨r12,hr9,h⟩:=bI h;have hJ:=hJ8;exact go
 intro c11 h;unfold fQ at h;refine cB h (fun hc18 h=>?_) fun hc18 h=>?_
 .exact go
 unfold fN at h;refine z1 hc18 ?_;refine lC 4 3 (fun(v16:Nat) (b:Unit)=>⟨tab 92 (af (af (af (af au 0 (sF 4 (a0.map ai.row))) 3 (vI (v3:Int))) 4 (pF 4)) 5 (vI (v16:Int))),(upd RZ 4 (vA 4 (ai.row x6)))⟩) () h ?_ ?_
 .exact go
 rintro v16 ⟨⟩ x19 hi21' hx22 hw23 h;simp only[fS]at h;exact go
@[go_sem] def Gn(N:Nat):FnS:=⟨[],true,fn1 bG fun q0=>(pP N q0).map fun r=>vB r,false⟩
def DF(N:Nat):ar prog 143 (Gn N):=om1 fun _ _ h=>by
 refine fk (G:=(aL [])) func143 gn ?_;simp only[f143];unfold pP at h;exact go
@[go_sem] def GA(N:Nat):FnS:=⟨[],true,fn1 Value.decA fun q0=>(j5 N q0).map fun r=>vB r,false⟩
def pO(N:Nat):ar prog 144 (GA N):=om1 fun a0 _ h=>by
 refine fk (G:=(aL [])) func144 gn ?_;simp only[f144];unfold j5 at h;have:LC 6 [1] [1] 1 4 (fun f (v8:Nat) (b:Unit)=>(af f 3 (.val (.int .i64 (v8:Int))))) (fun R _ _=>R):=⟨⟩;refine z0 ?_;refine aN ?_;apply aS (fun(c3:Bool)=>⟨tab 104 (af (af au 1 (pF 1)) 48 (vB c3)),(upd RZ 1 (vA 5 (Value.row a0)))⟩)
 .intro hJ1;refine iD h (fun hc2 hc2d h=>?_) fun hc2 hc2d h=>?_
  .refine iD h (fun hc25 hc25d h=>?_) fun hc25 hc25d h=>?_
   .refine iD h (fun hc31 hc31d h=>?_) fun hc31 hc31d h=>?_
    .refine iDs h (fun hc34 hc34d h=>?_) fun hc34 hc34d h=>?_
     .refine z1 (k4 hc2d hc25d hc31d hc34d) ?_;exact hJ1 _ (decide (0 <(a0.L.length:Int))) wR h
     refine z1 (k4 hc2d hc25d hc31d hc34d) ?_;exact hJ1 _ false wR h
    refine iD h (fun hc32 hc32d h=>?_) fun hc32 hc32d h=>?_
    .refine z1 (k4 hc2d hc25d hc31d hc32d) ?_;exact hJ1 _ true wR h
    refine iDs h (fun hc33 hc33d h=>?_) fun hc33 hc33d h=>?_
    .refine z1 (k5 hc2d hc25d hc31d hc32d hc33d) ?_;exact hJ1 _ (decide (0 <(a0.L.length:Int))) wR h
    refine z1 (k5 hc2d hc25d hc31d hc32d hc33d) ?_;exact hJ1 _ false wR h
   refine iBs h (fun hc26 h=>?_) fun hc26 h=>?_
   .refine z1 (k3 hc2d hc25d hc26) ?_;exact hJ1 _ true wR h
   refine iD h (fun hc27 hc27d h=>?_) fun hc27 hc27d h=>?_
   .refine iDs h (fun hc30 hc30d h=>?_) fun hc30 hc30d h=>?_
    .refine z1 (k5 hc2d hc25d hc26 hc27d hc30d) ?_;exact hJ1 _ (decide (0 <(a0.L.length:Int))) wR h
    refine z1 (k5 hc2d hc25d hc26 hc27d hc30d) ?_;exact hJ1 _ false wR h
   refine iD h (fun hc28 hc28d h=>?_) fun hc28 hc28d h=>?_
   .refine z1 (k5 hc2d hc25d hc26 hc27d hc28d) ?_;exact hJ1 _ true wR h
   refine iDs h (fun hc29 hc29d h=>?_) fun hc29 hc29d h=>?_
   .refine z1 (k5 hc2d hc25d hc26 hc27d (k2 hc28d hc29d)) ?_;exact hJ1 _ (decide (0 <(a0.L.length:Int))) wR h
   refine z1 (k5 hc2d hc25d hc26 hc27d (k2 hc28d hc29d)) ?_;exact hJ1 _ false wR h
  refine iD h (fun hc3 hc3d h=>?_) fun hc3 hc3d h=>?_
  .refine iD h (fun hc15 hc15d h=>?_) fun hc15 hc15d h=>?_
   .refine iD h (fun hc21 hc21d h=>?_) fun hc21 hc21d h=>?_
    .refine iDs h (fun hc24 hc24d h=>?_) fun hc24 hc24d h=>?_
     .refine z1 (k5 hc2d hc3d hc15d hc21d hc24d) ?_;exact hJ1 _ (decide (0 <(a0.L.length:Int))) wR h
     refine z1 (k5 hc2d hc3d hc15d hc21d hc24d) ?_;exact hJ1 _ false wR h
    refine iD h (fun hc22 hc22d h=>?_) fun hc22 hc22d h=>?_
    .refine z1 (k5 hc2d hc3d hc15d hc21d hc22d) ?_;exact hJ1 _ true wR h
    refine iDs h (fun hc23 hc23d h=>?_) fun hc23 hc23d h=>?_
    .refine z1 (k5 hc2d hc3d hc15d hc21d (k2 hc22d hc23d)) ?_;exact hJ1 _ (decide (0 <(a0.L.length:Int))) wR h
    refine z1 (k5 hc2d hc3d hc15d hc21d (k2 hc22d hc23d)) ?_;exact hJ1 _ false wR h
   refine iBs h (fun hc16 h=>?_) fun hc16 h=>?_
   .refine z1 (k4 hc2d hc3d hc15d hc16) ?_;exact hJ1 _ true wR h
   refine iD h (fun hc17 hc17d h=>?_) fun hc17 hc17d h=>?_
   .refine iDs h (fun hc20 hc20d h=>?_) fun hc20 hc20d h=>?_
    .refine z1 (k5 hc2d hc3d hc15d hc16 (k2 hc17d hc20d)) ?_;exact hJ1 _ (decide (0 <(a0.L.length:Int))) wR h
    refine z1 (k5 hc2d hc3d hc15d hc16 (k2 hc17d hc20d)) ?_;exact hJ1 _ false wR h
   refine iD h (fun hc18 hc18d h=>?_) fun hc18 hc18d h=>?_
   .refine z1 (k5 hc2d hc3d hc15d hc16 (k2 hc17d hc18d)) ?_;exact hJ1 _ true wR h
   refine iDs h (fun hc19 hc19d h=>?_) fun hc19 hc19d h=>?_
   .refine z1 (k5 hc2d hc3d hc15d hc16 (k3 hc17d hc18d hc19d)) ?_;exact hJ1 _ (decide (0 <(a0.L.length:Int))) wR h
   refine z1 (k5 hc2d hc3d hc15d hc16 (k3 hc17d hc18d hc19d)) ?_;exact hJ1 _ false wR h
  refine iDs h (fun hc4 hc4d h=>?_) fun hc4 hc4d h=>?_
  .refine z2 ?_;exact hJ1 _ true wR h
  refine iD h (fun hc5 hc5d h=>?_) fun hc5 hc5d h=>?_
  .refine iD h (fun hc11 hc11d h=>?_) fun hc11 hc11d h=>?_
   .refine iDs h (fun hc14 hc14d h=>?_) fun hc14 hc14d h=>?_
    .refine z1 (k5 hc2d hc3d hc4d hc5d (k2 hc11d hc14d)) ?_;exact hJ1 _ (decide (0 <(a0.L.length:Int))) wR h
    refine z1 (k5 hc2d hc3d hc4d hc5d (k2 hc11d hc14d)) ?_;exact hJ1 _ false wR h
   refine iD h (fun hc12 hc12d h=>?_) fun hc12 hc12d h=>?_
   .refine z1 (k5 hc2d hc3d hc4d hc5d (k2 hc11d hc12d)) ?_;exact hJ1 _ true wR h
   refine iDs h (fun hc13 hc13d h=>?_) fun hc13 hc13d h=>?_
   .refine z1 (k5 hc2d hc3d hc4d hc5d (k3 hc11d hc12d hc13d)) ?_;exact hJ1 _ (decide (0 <(a0.L.length:Int))) wR h
   refine z1 (k5 hc2d hc3d hc4d hc5d (k3 hc11d hc12d hc13d)) ?_;exact hJ1 _ false wR h
  refine iBs h (fun hc6 h=>?_) fun hc6 h=>?_
  .refine z1 (k5 hc2d hc3d hc4d hc5d hc6) ?_;exact hJ1 _ true wR h
  refine iD h (fun hc7 hc7d h=>?_) fun hc7 hc7d h=>?_
  .refine iDs h (fun hc10 hc10d h=>?_) fun hc10 hc10d h=>?_
   .refine z1 (k5 hc2d hc3d hc4d hc5d (k3 hc6 hc7d hc10d)) ?_;exact hJ1 _ (decide (0 <(a0.L.length:Int))) wR h
   refine z1 (k5 hc2d hc3d hc4d hc5d (k3 hc6 hc7d hc10d)) ?_;exact hJ1 _ false wR h
  refine iD h (fun hc8 hc8d h=>?_) fun hc8 hc8d h=>?_
  .refine z1 (k5 hc2d hc3d hc4d hc5d (k3 hc6 hc7d hc8d)) ?_;exact hJ1 _ true wR h
  refine iDs h (fun hc9 hc9d h=>?_) fun hc9 hc9d h=>?_
  .refine z1 (k5 hc2d hc3d hc4d hc5d (k4 hc6 hc7d hc8d hc9d)) ?_;exact hJ1 _ (decide (0 <(a0.L.length:Int))) wR h
  refine z1 (k5 hc2d hc3d hc4d hc5d (k4 hc6 hc7d hc8d hc9d)) ?_;exact hJ1 _ false wR h
 intro c3 h;unfold aH at h;refine cB h (fun hc35 h=>?_) fun hc35 h=>?_
 .refine z2 ?_;exact e0 h
 refine bm (pp ?_);unfold aG at h;refine aN ?_;apply aS (fun(c6:Bool)=>⟨tab 104 (af (af au 1 (pF 1)) 89 (vB c6)),(upd RZ 1 (vA 5 (Value.row a0)))⟩)
 .intro hJ36;refine iD h (fun hc37 hc37d h=>?_) fun hc37 hc37d h=>?_
  .refine z2 ?_;exact hJ36 _ true wR h
  refine iD h (fun hc38 hc38d h=>?_) fun hc38 hc38d h=>?_
  .refine z2 ?_;exact hJ36 _ true wR h
  refine iDs h (fun hc39 hc39d h=>?_) fun hc39 hc39d h=>?_
  .refine iD h (fun hc46 hc46d h=>?_) fun hc46 hc46d h=>?_
   .refine z2 ?_;exact hJ36 _ true wR h
   refine iD h (fun hc47 hc47d h=>?_) fun hc47 hc47d h=>?_
   .refine z2 ?_;exact hJ36 _ true wR h
   refine z2 ?_;exact hJ36 _ (decide (16 <(a0.L.length:Int))) wR h
  refine iD h (fun hc40 hc40d h=>?_) fun hc40 hc40d h=>?_
  .refine iD h (fun hc44 hc44d h=>?_) fun hc44 hc44d h=>?_
   .refine z1 (k5 hc35 hc37d hc38d hc39d (k2 hc40d hc44d)) ?_;exact hJ36 _ true wR h
   refine iD h (fun hc45 hc45d h=>?_) fun hc45 hc45d h=>?_
   .refine z1 (k5 hc35 hc37d hc38d hc39d (k3 hc40d hc44d hc45d)) ?_;exact hJ36 _ true wR h
   refine z1 (k5 hc35 hc37d hc38d hc39d (k3 hc40d hc44d hc45d)) ?_;exact hJ36 _ (decide (16 <(a0.L.length:Int))) wR h
  refine iDs h (fun hc41 hc41d h=>?_) fun hc41 hc41d h=>?_
  .refine z1 (k5 hc35 hc37d hc38d hc39d (k2 hc40d hc41d)) ?_;exact hJ36 _ true wR h
  refine iD h (fun hc42 hc42d h=>?_) fun hc42 hc42d h=>?_
  .refine z1 (k5 hc35 hc37d hc38d hc39d (k3 hc40d hc41d hc42d)) ?_;exact hJ36 _ true wR h
  refine iD h (fun hc43 hc43d h=>?_) fun hc43 hc43d h=>?_
  .refine z1 (k5 hc35 hc37d hc38d hc39d (k4 hc40d hc41d hc42d hc43d)) ?_;exact hJ36 _ true wR h
  refine z1 (k5 hc35 hc37d hc38d hc39d (k4 hc40d hc41d hc42d hc43d)) ?_;have hJ:=hJ36;exact go
 exact go
@[go_sem] def F5(N:Nat):FnS:=⟨[],true,fn1 ah.decA fun q0=>(ua N q0).map fun r=>vB r,false⟩
def Li(N:Nat):ar prog 145 (F5 N):=om1 fun _ _ h=>by
 refine fk func145 (gc 6 (qv N) (gc 11 (DF N) (gc 32 (pO N) gn))) ?_;simp only[f145];unfold ua at h;have:J1 1 0 [1] [1] (fun f (c7:Bool)=>(af f 19 (.val (.bool c7)))) (fun R _=>R):=⟨⟩;have:LC 4 [1] [1] 1 3 (fun f (v7:Nat) (b:Unit)=>(af f 3 (.val (.int .i64 (v7:Int))))) (fun R _ _=>R):=⟨⟩;have:J1 6 0 [1,3] [1] (fun f (c11:Bool)=>(af f 42 (.val (.bool c11)))) (fun R _=>R):=⟨⟩;exact go
def Iu(N d f:Nat):Option FnS:=aL [(25,143,Gn N),(66,144,GA N),(92,145,F5 N)] d f
attribute [go_sem] Iu
def Re(N:Nat)(a0:Txn)(r:Bool)(h:kR N a0=some r):Con prog 75 [] true [.agg (Txn.row a0)] (.val (.bool r)):=by
 refine DD (G:=(Iu N)) func75 rfl oZh oZc (gc 25 (DF N) (gc 66 (pO N) (gc 92 (Li N) gn))) [] mix (cU rfl) ?_;simp only[f75,List.append_eq,nF,cO];unfold kR at h;refine Ws fun Z hZ=>?_;simp only[go_sem,seval];refine hZ _ (pp (aN ?_));apply aS (fun(c7:Bool)=>⟨tab 94 (af (af au 1 (.pref 1 [] 0 0)) 79 (.val (.bool c7))),(upd RZ 1 (.sl true none 11 (some 1) [Txn.row a0]))⟩)
 .intro hJ1;refine eB fun Z hZ=>?_;simp only[go_sem,seval];refine jx rfl (fun hc2=>?_) (fun hc2=>?_)
  .have hc2d:=decide_eq_true hc2;rw[if_pos hc2]at h;have hJ:=hJ1;exact go
  have hc2d:=decide_eq_false hc2;rw[if_neg hc2]at h;simp only[go_sem,seval,hc2d];refine jx rfl (fun hc3=>?_) (fun hc3=>?_)
  .have hc3d:=decide_eq_true hc3;rw[if_pos hc3]at h;have hJ:=hJ1;exact go
  have hc3d:=decide_eq_false hc3;rw[if_neg hc3]at h;simp only[go_sem,seval,hc2d,hc3d];refine jx rfl (fun hc4=>?_) (fun hc4=>?_)
  .have hc4d:=decide_eq_true hc4;rw[if_pos hc4]at h;have hJ:=hJ1;exact go
  have hc4d:=decide_eq_false hc4;rw[if_neg hc4]at h;simp only[go_sem,seval,hc2d,hc3d,hc4d];refine jx rfl (fun hc5=>?_) (fun hc5=>?_)
  .have hc5d:=decide_eq_true hc5;rw[if_pos hc5]at h;have hJ:=hJ1;exact go
  have hc5d:=decide_eq_false hc5;rw[if_neg hc5]at h;obtain⟨r8,hr6,h⟩:=cv.1 h;simp only[go_sem,seval,hc2d,hc3d,hc4d,hc5d,hr6];refine Fe rfl (fun hc7=>?_) (fun hc7=>?_)
  .rw[if_neg (ne_true_of_eq_false hc7)]at h;have hJ:=hJ1;exact go
  rw[if_pos hc7]at h;simp only[go_sem,seval,hc2d,hc3d,hc4d,hc5d,hr6,hc7];refine jx rfl (fun hc8=>?_) (fun hc8=>?_)
  .have hc8d:=decide_eq_true hc8;rw[if_pos hc8]at h;have hJ:=hJ1;exact go
  have hc8d:=decide_eq_false hc8;rw[if_neg hc8]at h;simp only[go_sem,seval,hc2d,hc3d,hc4d,hc5d,hr6,hc7,hc8d];have hJ:=hJ1;exact go
 intro c7 h;unfold bA at h;refine pe rfl (fun hc17=>?_) (fun hc17=>?_)
 .rw[if_pos hc17]at h;exact go
 rw[if_neg (ne_true_of_eq_false hc17)]at h;refine bm (pp ?_);unfold bB at h;refine aN (Ws fun Z hZ=>?_);simp only[go_sem,seval,hc17];refine hZ _ (pp (aK (dc fun hreal19=>?_)));have hl18:=hreal19.cell 1 4 (by simp only[go_sem,seval,cY,cL,nj,nk,hc17];rfl) rfl;rw[cr]at hl18;refine fb (fun(v7:Nat) (b:Unit)=>⟨tab 94 (af (af au 1 (.pref 1 [] 0 0)) 3 (.val (.int .i64 (v7:Int)))),(upd RZ 1 (.sl true none 11 (some 1) [Txn.row a0]))⟩) () h ?_ ?_
 .refine wr ?_ ?_<;>repeat' first|rfl|constructor
 rintro v7 ⟨⟩ hi20 h -;rcases(dj a0.Calls v7 hi20).symm with⟨hi20',_,hd23⟩|⟨x10,hi20',hx21,hd23⟩
 .rw[hd23]at h;exact go
 rw[hd23]at h;simp only[mh]at h;have hw22:=bn hi20' hl18;refine aN (Ws fun Z hZ=>?_);simp only[go_sem,seval,hc17,hx21,hi20',hw22];exact go
def G6(N:Nat):FnS:=⟨[],true,fn1 Txn.decA fun q0=>(kR N q0).map fun r=>.val (.bool r),false⟩
attribute [go_sem] G6
def Ee(N:Nat):ar prog 75 (G6 N):=ok1 (fun q0 r h=>by
 obtain⟨r',hr,rfl⟩:=cq.1 h;exact Re N q0 r' hr) (Txn.decA_le)
@[go_sem] def To(N:Nat):FnS:=⟨[],true,fn2 (aD 3 aj.dec) (aC .i64) fun q0 q1=>(eY N q0 q1).map fun r=>vI r,false⟩
def eX(N:Nat):ar prog 146 (To N):=om2 fun _ _ _ h=>by
 refine fk (G:=(aL [])) func146 gn ?_;simp only[f146];unfold eY at h;have:LT 2 [0,1] [] 0 (fun f (v2:Nat) (b:Unit)=>(af f 5 (.val (.int .i64 (v2:Int))))) (fun R _ _=>R):=⟨⟩;exact go
@[go_sem] def LO(N:Nat):FnS:=⟨[],true,fn1 (aD 5 Value.dec) fun q0=>(mv N q0).map fun r=>vB r,false⟩
def BS(N:Nat):ar prog 147 (LO N):=om1 fun a0 _ h=>by
 refine fk func147 (gc 17 (pO N) gn) ?_;simp only[f147];unfold mv at h;refine z0 ?_;refine z0 ?_;refine cD h (fun hc1 hc1d h=>?_) fun hc1 hc1d h=>?_
 .exact go
 refine z1 hc1d ?_;refine lT 0 (fun(v3:Nat) (b:Unit)=>⟨tab 19 (af (af au 0 (sF 5 (a0.map Value.row))) 3 (vI (v3:Int))),RZ⟩) () h ?_ ?_
 .exact go
 rintro v3 ⟨⟩ x6 hi4' hx5 hw6 h;exact go
@[go_sem] def NN(N:Nat):FnS:=⟨[],true,fn2 ae.decA aa.decA fun q0 q1=>(rO N q0 q1).map fun r=>vB r,false⟩
def JO(N:Nat):ar prog 76 (NN N):=om2 fun a0 a1 _ h=>by
 refine fk func76 (gc 25 (js N) (gc 35 (eX N) (gc 42 (BS N) gn))) ?_;simp only[f76];unfold rO at h;refine z0 ?_;refine z0 ?_;refine aK (dc fun hreal2=>?_);have hl1:=hreal2.cell 3 2 oZa rfl;rw[cr]at hl1;refine fb (fun(v2:Nat) (b:Unit)=>⟨tab 62 (af (af (af au 2 (pF 2)) 3 (pF 3)) 5 (vI (v2:Int))),(upd (upd RZ 2 (vA 3 (ae.row a0))) 3 (vA 3 (aa.row a1)))⟩) () h ?_ ?_
 .refine wr ?_ ?_<;>repeat' first|rfl|constructor|simp only[go_sem,seval,cY,cL,nj,nk]
 rintro v2 ⟨⟩ hi3 h -;rcases(dj a1.Layers v2 hi3).symm with⟨hi3',_,hd6⟩|⟨x5,hi3',hx4,hd6⟩
 .rw[hd6]at h;exact go
 rw[hd6]at h;simp only[eN]at h;have hw5:=bn hi3' hl1;refine z2 ?_;refine ct ?_;refine z2 ?_;obtain⟨r1,hr7,h⟩:=bI h;refine z2 ?_;apply aS (fun(c4:Bool)=>⟨tab 62 (af (af (af (af au 2 (pF 2)) 3 (pF 3)) 5 (vI (v2:Int))) 57 (vB c4)),(upd (upd RZ 2 (vA 3 (ae.row a0))) 3 (vA 3 (aa.row a1)))⟩)
 .intro hJ8;refine iBs h (fun hc9 h=>?_) fun hc9 h=>?_
  .have hJ:=hJ8;exact go
  obtain⟨r5,hr10,h⟩:=bI h;refine iDs h (fun hc11 hc11d h=>?_) fun hc11 hc11d h=>?_
  .have hJ:=hJ8;exact go
  obtain⟨r6,hr12,h⟩:=bI h;refine iBs h (fun hc13 h=>?_) fun hc13 h=>?_
  .have hJ:=hJ8;exact go
  refine iBs h (fun hc14 h=>?_) fun hc14 h=>?_
  .refine z2 ?_;exact hJ8 _ (decide ((IntKind.i64.wrap ((v2:Int)+1))<(a1.Layers.length:Int))) (w2) h
  have hJ:=hJ8;exact go
 exact go
@[go_sem] def D7(N:Nat):FnS:=⟨[],false,fn1 (aD 3 aj.dec) fun q0=>(kK N q0).map fun r=>sO 3 (r.map aj.row),false⟩
def sG(N:Nat):ar prog 204 (D7 N):=om1 fun a0 _ h=>by
 refine fk func204 (gc 22 (oK N) gn) ?_;simp only[f204];unfold kK at h;refine z0 ?_;refine z0 ?_;refine z0 ?_;refine aK (dc fun hreal2=>?_);have hl1:=hreal2.lenT 0 oZh oZa;rw[cr]at hl1;refine fb (fun(v3:Nat) (b:List aj)=>⟨tab 32 (af (af (af au 0 (sF 3 (a0.map aj.row))) 3 (.pal 30 [] 0 b.length none)) 4 (vI (v3:Int))),(upd RZ 30 (sO 3 (b.map aj.row)))⟩) [] h ?_ ?_
 .refine aM.trans (fm 3 30 3 oZb oZb) ?_;refine wr ?_ ?_<;>repeat' first|rfl|constructor|simp only[go_sem,seval,cY,cL,nj,nk]
 rintro v3 l2 hi3 h -;rcases(dj a0 v3 hi3).symm with⟨hi3',_,hd6⟩|⟨x6,hi3',hx4,hd6⟩
 .rw[hd6]at h;exact go
 rw[hd6]at h;simp only[mQ]at h;have hw5:=bn hi3' hl1;refine z2 ?_;refine ct ?_;obtain⟨r1,hr7,h⟩:=bI h;obtain⟨ha8,h⟩:=bq h;simp only[cn,cw,cy,Nat.reduceAdd]at ha8;refine d2 ?_;refine z2 ?_;refine⟨hi3',(l2++[(aj.mk x6.Txn_ r1 x6.Prepared)]),?_,h⟩;refine wr ?_ ?_<;>repeat' first|rfl|constructor|simp only[go_sem,seval]
@[go_sem] def RE(N:Nat):FnS:=⟨[],false,fn2 ae.decA Ref.decA fun q0 q1=>(gb N q0 q1).map fun r=>sF 3 (r.map aj.row),false⟩
def po(N:Nat):ar prog 148 (RE N):=om2 fun _ _ _ h=>by
 refine fk func148 (gc 27 (sG N) gn) ?_;simp only[f148];unfold gb at h;have:LC 2 [2,3] [2,3] 2 2 (fun f (v2:Nat) (b:Unit)=>(af f 5 (.val (.int .i64 (v2:Int))))) (fun R _ _=>R):=⟨⟩;exact go
@[go_sem] def Oo(N:Nat):FnS:=⟨[],true,fn2 ae.decA Txn.decA fun q0 q1=>(tl N q0 q1).map fun r=>vB r,false⟩
def K4(N:Nat):ar prog 78 (Oo N):=om2 fun a0 a1 _ h=>by
 refine fk func78 (gc 12 (ES N) (gc 24 (po N) (gc 27 (eX N) gn))) ?_;simp only[f78];unfold tl at h;refine z0 ?_;obtain⟨hs1,h⟩:=fC h;try simp only[nE,cR,nu]at hs1 h
 obtain⟨r1,hr2,h⟩:=bI h;refine z1 (k3 hs1 @cR hr2) ?_;refine z0 ?_;refine lT 5 (fun(v4:Nat) (b:Unit)=>⟨tab 29 (af (af (af (af au 2 (pF 2)) 3 (pF 3)) 5 (sF 2 (r1.map Ref.row))) 6 (vI (v4:Int))),(upd (upd RZ 2 (vA 3 (ae.row a0))) 3 (vA 11 (Txn.row a1)))⟩) () h ?_ ?_
 .exact go
 rintro v4 ⟨⟩ x7 hi5' hx6 hw7 h;exact go
@[go_sem] def SY(N:Nat):FnS:=⟨[],true,fn2 (aD 4 ai.dec) Ref.decA fun q0 q1=>(rW N q0 q1).map fun r=>.tup [vI r.1,vB r.2],false⟩
def tv(N:Nat):ar prog 149 (SY N):=om2 fun _ _ _ h=>by
 refine fk func149 (gc 19 (ru N) gn) ?_;simp only[f149];unfold rW at h;have:LT 2 [0,3] [3] 0 (fun f (v2:Nat) (b:Unit)=>(af f 6 (.val (.int .i64 (v2:Int))))) (fun R _ _=>R):=⟨⟩;exact go
@[go_sem] def TB(N:Nat):FnS:=⟨[],true,fn2 (aD 4 ai.dec) Ref.decA fun q0 q1=>(Cq N q0 q1).map fun r=>vI r,false⟩
def Hl(N:Nat):ar prog 79 (TB N):=om2 fun _ _ _ h=>by
 refine fk func79 (gc 8 (il N) (gc 13 (tv N) gn)) ?_;simp only[f79];exact go
@[go_sem] def V5(N:Nat):FnS:=⟨[],true,fn2 (aD 2 Ref.dec) Ref.decA fun q0 q1=>(yy N q0 q1).map fun r=>vB r,false⟩
def Jg(N:Nat):ar prog 81 (V5 N):=om2 fun _ _ _ h=>by
 refine fk (G:=(aL [])) func81 gn ?_;simp only[f81];unfold yy at h;have:LT 2 [0,3] [3] 0 (fun f (v2:Nat) (b:Unit)=>(af f 5 (.val (.int .i64 (v2:Int))))) (fun R _ _=>R):=⟨⟩;exact go
@[go_sem] def VC(N:Nat):FnS:=⟨[],false,fn2 ae.decA (aC .i64) fun q0 q1=>(jK N q0 q1).map fun r=>.tup [.agg (ah.row r.1),vB r.2],false⟩
def rm(N:Nat):ar prog 151 (VC N):=om2 fun _ _ _ h=>by
 refine fk func151 (gc 11 (js N) gn) ?_;simp only[f151];exact go
@[go_sem] def PR(N:Nat):FnS:=⟨[],true,fn1 ae.decA fun q0=>(wB N q0).map fun r=>vB r,false⟩
def Mt(N:Nat):ar prog 83 (PR N):=om1 fun _ _ h=>by
 refine fk func83 (gc 30 (js N) (gc 38 (po N) (gc 42 (eX N) (gc 47 (rm N) (gc 88 (rm N) gn))))) ?_;simp only[f83];unfold wB at h;have:LC 2 [1] [1] 1 1 (fun f (v2:Nat) (b:Unit)=>(af f 3 (.val (.int .i64 (v2:Int))))) (fun R _ _=>R):=⟨⟩;have:J1 11 0 [1,3,4] [1,4] (fun f (c9:Bool)=>(af f 73 (.val (.bool c9)))) (fun R _=>R):=⟨⟩;have:LC 14 [1,3,4] [1,4] 4 3 (fun f (v17:Nat) (b:Unit)=>(af f 11 (.val (.int .i64 (v17:Int))))) (fun R _ _=>R):=⟨⟩;have:J1 17 0 [1,3,4,11] [1,4] (fun f (c12:Bool)=>(af f 99 (.val (.bool c12)))) (fun R _=>R):=⟨⟩;exact go
@[go_sem] def PX(N:Nat):FnS:=⟨[],true,fn2 (aD 1 (bO (aC .i64))) (aC .i64) fun q0 q1=>(iq N q0 q1).map fun r=>vB r,false⟩
def gS(N:Nat):ar prog 152 (PX N):=om2 fun _ _ _ h=>by
 refine fk (G:=(aL [])) func152 gn ?_;simp only[f152];unfold iq at h;have:LT 2 [0,1] [] 0 (fun f (v2:Nat) (b:Unit)=>(af f 5 (.val (.int .i64 (v2:Int))))) (fun R _ _=>R):=⟨⟩;exact go
@[go_sem] def RQ(N:Nat):FnS:=⟨[],true,fn3 ae.decA (aC .i64) (aD 1 (bO (aC .i64))) fun q0 q1 q2=>(Ed N q0 q1 q2).map fun r=>vB r,false⟩
def On(N:Nat):ar prog 153 (RQ N):=om3 fun _ _ _ _ h=>by
 refine fk func153 (gc 26 (eX N) (gc 38 (gS N) gn)) ?_;simp only[f153];unfold Ed at h;have:LC 2 [1,2,3] [3] 3 2 (fun f (v2:Nat) (b:Unit)=>(af f 7 (.val (.int .i64 (v2:Int))))) (fun R _ _=>R):=⟨⟩;have:LF 7 [1,2,3,7,8,9] [3] (fun f (b:Int)=>(af f 10 (.val (.int .i64 b)))) (fun R _=>R):=⟨⟩;exact go
@[go_sem] def QI(N:Nat):FnS:=⟨[],true,fn1 ae.decA fun q0=>(CH N q0).map fun r=>vB r,false⟩
def Nz(N:Nat):ar prog 84 (QI N):=om1 fun a0 _ h=>by
 refine fk func84 (gc 28 (gS N) (gc 34 (On N) gn)) ?_;simp only[f84];unfold CH at h;refine z0 ?_;refine z0 ?_;refine aN (aK (dw (fun(b:List Int)=>⟨tab 42 (af (af au 1 (pF 1)) 3 (.pal 39 [] 0 b.length none)),(upd (upd RZ 1 (vA 3 (ae.row a0))) 39 (sO 1 (b.map (aA .i64))))⟩) [] h ?_ ?_))
 .refine aM.trans (fm 3 39 1 oZb oZb) ?_;refine wr ?_ ?_<;>repeat' first|rfl|constructor|simp only[go_sem,seval,cY,cL,nj,nk]
 rintro n l2 h -;cases n with
 | zero=>simp[mX]at h
 | succ n=>
 simp only[mX]at h;refine z0 ?_;refine sw (oZ rfl) (fun hc1=>?_) (fun hc1=>?_)
 .have hc1d:=decide_eq_false hc1;exact go
 have hc1d:=decide_eq_true hc1;simp only[nU]at h;rw[if_pos hc1]at h;refine z2 ?_;refine z0 ?_;refine lT 10 (fun(v8:Nat) (b:List Int×Bool)=>⟨tab 42 (af (af (af (af au 1 (pF 1)) 3 (.pal 39 [] 0 b.1.length none)) 4 (vB b.2)) 5 (vI (v8:Int))),(upd (upd RZ 1 (vA 3 (ae.row a0))) 39 (sO 1 (b.1.map (aA .i64))))⟩) (l2,false) h ?_ ?_ (h0:=w2)
 .rintro v8 ⟨l6,c7⟩ hi4' h;simp only[jD]at h;refine z2 ?_;refine cf ?_;unfold CZ at h;refine z0 ?_;refine p7 rfl (fun hc14=>?_) (fun hc14=>?_)
  .rw[if_neg (ne_true_of_eq_false hc14)]at h;exact go
  rw[if_pos hc14]at h;refine bm (pp (⟨_,cZ _,l6,?_,h⟩));exact w2
 rintro v8 ⟨l6,c7⟩ x11 hi4' hx5 hw6 h;simp only[jD]at h;refine z2 ?_;refine ct ?_;refine z2 ?_;apply aS (fun(c18:Bool)=>⟨tab 42 (af (af (af (af (af (af au 1 (pF 1)) 3 (.pal 39 [] 0 l6.length none)) 4 (vB c7)) 5 (vI (v8:Int))) 6 (vI x11.ID)) 35 (vB c18)),(upd (upd RZ 1 (vA 3 (ae.row a0))) 39 (sO 1 (l6.map (aA .i64))))⟩)
 .intro hJ8;obtain⟨r19,hr9,h⟩:=bI h;have hJ:=hJ8;exact go
 intro c18 h;unfold rK at h;refine sw (pe rfl) (fun hc12=>?_) (fun hc12=>?_)
 .rw[if_neg (ne_true_of_eq_false hc12)]at h;exact go
 rw[if_pos hc12]at h;obtain⟨ha13,h⟩:=bq h;simp only[cn,cw,cy,Nat.reduceAdd]at ha13;refine z2 ?_;refine z0 ?_;refine z2 ?_;refine⟨hi4',((l6++[x11.ID]),true),?_,h⟩;refine wr ?_ ?_<;>repeat' first|rfl|constructor|simp only[go_sem,seval]
@[go_sem] def KY(N:Nat):FnS:=⟨[],true,fn1 ae.decA fun q0=>(ib N q0).map fun r=>vB r,false⟩
def fT(N:Nat):ar prog 30 (KY N):=om1 fun a0 _ h=>by
 refine fk func30 (gc 19 (il N) (gc 34 (Ee N) (gc 69 (JO N) (gc 88 (ru N) (gc 105 (K4 N) (gc 138 (Hl N) (gc 156 (js N) (gc 164 (ES N) (gc 171 (Jg N) (gc 189 (Mt N) (gc 192 (Nz N) gn))))))))))) ?_;simp only[f30];unfold ib at h;have:J1 6 0 [1,3] [1] (fun f (c19:Bool)=>(af f 55 (.val (.bool c19)))) (fun R _=>R):=⟨⟩;have:J1 11 0 [1,4] [1] (fun f (c36:Bool)=>(af f 91 (.val (.bool c36)))) (fun R _=>R):=⟨⟩;have:J1 23 0 [1,6,7] [1] (fun f (c77:Bool)=>(af f 142 (.val (.bool c77)))) (fun R _=>R):=⟨⟩;have:LT 26 [1,6,7] [1] 7 (fun f (v48:Nat) (b:Unit)=>(af f 9 (.val (.int .i64 (v48:Int))))) (fun R _ _=>R):=⟨⟩;have:J1 29 0 [1,6,7,9] [1] (fun f (c83:Bool)=>(af f 187 (.val (.bool c83)))) (fun R _=>R):=⟨⟩;refine z0 ?_;refine aN ?_;apply aS (fun(c5:Bool)=>⟨tab 194 (af (af au 1 (pF 1)) 21 (vB c5)),(upd RZ 1 (vA 3 (ae.row a0)))⟩)
 .intro hJ1;refine iD h (fun hc2 hc2d h=>?_) fun hc2 hc2d h=>?_
  .have hJ:=hJ1;exact go
  have hJ:=hJ1;exact go
 intro c5 h;unfold Bv at h;refine cB h (fun hc4 h=>?_) fun hc4 h=>?_
 .exact go
 unfold uG at h;refine z1 hc4 ?_;refine lCs 1 0 (fun(v6:Nat) (b:Unit)=>⟨tab 194 (af (af au 1 (pF 1)) 3 (vI (v6:Int))),(upd RZ 1 (vA 3 (ae.row a0)))⟩) () h ?_ ?_
 .rintro v6 ⟨⟩ x9 hi7' hx8 hw9 h;exact go
 rintro v6 ⟨⟩ hi7' h;simp only[oe]at h;refine z1 hi7' ?_;refine cf ?_;unfold Ad at h;refine z0 ?_;refine lCs 1 2 (fun(v17:Nat) (b:Unit)=>⟨tab 194 (af (af au 1 (pF 1)) 4 (vI (v17:Int))),(upd RZ 1 (vA 3 (ae.row a0)))⟩) () h ?_ ?_
 .rintro v17 ⟨⟩ x20 hi20' hx21 hw22 h;exact go
 rintro v17 ⟨⟩ hi20' h;simp only[oq]at h;refine z1 hi20' ?_;refine cf ?_;unfold BM at h;refine z0 ?_;refine lCs 1 0 (fun(v29:Nat) (b:Unit)=>⟨tab 194 (af (af au 1 (pF 1)) 5 (vI (v29:Int))),(upd RZ 1 (vA 3 (ae.row a0)))⟩) () h ?_ ?_
 .rintro v29 ⟨⟩ x32 hi34' hx35 hw36 h;exact go
 rintro v29 ⟨⟩ hi34' h;simp only[wu]at h;refine z1 hi34' ?_;refine cf ?_;unfold FB at h;refine z0 ?_;refine lC 1 2 (fun(v37:Nat) (b:Unit)=>⟨tab 194 (af (af au 1 (pF 1)) 6 (vI (v37:Int))),(upd RZ 1 (vA 3 (ae.row a0)))⟩) () h ?_ ?_
 .exact go
 rintro v37 ⟨⟩ x40 hi42' hx43 hw44 h;exact go
def Hg(N:Nat)(a0:List ai)(r:List ai)(h:dO N a0=some r):Con prog 206 [] false [sF 4 (a0.map ai.row)] (sO 4 (r.map ai.row)):=by
 refine fk (G:=(aL [])) func206 gn ?_;simp only[f206];unfold dO at h;refine z0 ?_;refine aN ?_;obtain⟨ha1,h⟩:=AK h;simp only[Nat.reduceAdd]at ha1;refine z2 ?_;refine z0 ?_;refine aK (dw (fun(b:List ai×Int)=>⟨tab 26 (af (af au 3 (.pal 7 [] 0 b.1.length none)) 4 (vI b.2)),(upd RZ 7 (sO 4 (b.1.map ai.row)))⟩) (a0,0) h ?_ ?_)
 .exact w2
 rintro n ⟨l2,v3⟩ h -;cases n with
 | zero=>simp[lq]at h
 | succ n=>
 simp only[lq]at h;refine z0 ?_;refine cDs h (fun hc2 hc2d h=>?_) fun hc2 hc2d h=>?_
 .exact go
 refine bm (pp (aN (aK ?_)));obtain⟨x1,hb3,hx4,h⟩:=aQ h;obtain⟨ha5,h⟩:=AK h;simp only[Nat.reduceAdd]at ha5;refine z1 (k4 hb3 hx4 ha5 (ov1 (row:=ai.row) (rx:=[vS x1.Actor.Type_,vS x1.Actor.Key,vI x1.Owner,sF 1 (x1.Waiters.map (aA .i64))]) hx4 rfl)) ?_;refine z0 ?_;refine⟨_,cZ _,((l2.set ((v3).toNat) x1),IntKind.i64.wrap (v3+1)),?_,h⟩;refine aM.trans (Uw (n:=7) x1 [vS x1.Actor.Type_,vS x1.Actor.Key,vI x1.Owner,sF 1 (x1.Waiters.map (aA .i64))] oZa rfl) ?_;refine wr ?_ ?_<;>repeat' first|rfl|constructor|simp only[go_sem,seval,cY,cL]
@[go_sem] def OJ(N:Nat):FnS:=⟨[],false,fn1 (aD 4 ai.dec) fun q0=>(dO N q0).map fun r=>sF 4 (r.map ai.row),false⟩
def Dk(N:Nat):ar prog 206 (OJ N):=om1 fun q0 r h=>rs (Hg N q0 r h)
@[go_sem] def EW(N:Nat):FnS:=⟨[],false,fn1 (aD 4 ai.dec) fun q0=>(dO N q0).map fun r=>sO 4 (r.map ai.row),false⟩
def km(N:Nat):ar prog 206 (EW N):=om1 (Hg N)
@[go_sem] def X4(N d f:Nat):Option FnS:=aL [(8,206,EW N),(24,150,Il N),(49,204,D7 N)] d f
def OE(N:Nat)(a0:ae)(r:ae)(h:lQ N a0=some r):Con prog 154 [] false [.agg (ae.row a0)] (.agg [sO 11 (r.Txns.map Txn.row),sO 4 (r.Locks.map ai.row),sO 3 (r.Stacks.map aa.rowD)]):=by
 refine fk (G:=(X4 N)) func154 (gc 8 (km N) (gc 24 (zX N) (gc 49 (sG N) gn))) ?_;simp only[f154];unfold lQ at h;refine z0 ?_;obtain⟨r1,hr1,h⟩:=bI h;refine z2 ?_;refine z0 ?_;refine aK (dc fun hreal3=>?_);have hl2:=hreal3.cell 1 0 oZa rfl;rw[cr]at hl2;refine fb (fun(v4:Nat) (b:List Txn)=>⟨tab 55 (af (af (af (af au 1 (pF 1)) 2 (pF 2)) 3 (pF 3)) 4 (vI (v4:Int))),(upd (upd (upd RZ 1 (vA 3 (ae.row a0))) 2 (vA 3 [.val (.slice none 0 0),.val (.slice none 0 0),.val (.slice none 0 0)])) 3 (vA 3 [sO 11 (b.map Txn.row),sO 4 (r1.map ai.row),.val (.slice none 0 0)]))⟩) [] h ?_ ?_
 .refine aM.trans (yB 3 [(0,0)] 11 oZb (by simp only[go_sem,seval];try rfl)) ?_;exact w2
 rintro v4 l3 hi4 h -;rcases(dj a0.Txns v4 hi4)with⟨x7,hi4',hx5,hd7⟩|⟨hi4',_,hd7⟩
 .rw[hd7]at h;simp only[s6]at h;have hw6:=bn hi4' hl2;refine z2 ?_;refine ct ?_;obtain⟨r11,hr8,h⟩:=bI h;obtain⟨ha9,h⟩:=bq h;simp only[cn,cw,cy,Nat.reduceAdd]at ha9;refine d2 ?_;refine z2 ?_;refine⟨hi4',(l3++[r11]),?_,h⟩;refine wr ?_ ?_<;>repeat' first|rfl|constructor|simp only[go_sem,seval]
 rw[hd7]at h;simp only[s6]at h;refine z2 ?_;refine cf ?_;unfold zm at h;refine z0 ?_;refine aK (dc fun hreal11=>?_);have hl10:=hreal11.cell 1 2 oZa rfl;rw[cr]at hl10;refine fb (fun(v15:Nat) (b:List aa)=>⟨tab 55 (af (af (af (af au 1 (pF 1)) 2 (pF 2)) 3 (pF 3)) 5 (vI (v15:Int))),(upd (upd (upd RZ 1 (vA 3 (ae.row a0))) 2 (vA 3 [.val (.slice none 0 0),.val (.slice none 0 0),.val (.slice none 0 0)])) 3 (vA 3 [sO 11 (l3.map Txn.row),sO 4 (r1.map ai.row),sO 3 (b.map aa.rowD)]))⟩) [] h ?_ ?_
 .refine aM.trans (yB 3 [(0,2)] 3 oZb (by simp only[go_sem,seval];try rfl)) ?_;exact w2
 rintro v15 l14 hi12 h -;rcases(dj a0.Stacks v15 hi12).symm with⟨hi12',_,hd15⟩|⟨x18,hi12',hx13,hd15⟩
 .rw[hd15]at h;exact go
 rw[hd15]at h;simp only[zz]at h;have hw14:=bn hi12' hl10;refine z2 ?_;refine ct ?_;refine bm (pp (aN (aK ?_)));refine qy [0,1,2,3,4,5,6,8,9,10,11,12,13] [7,14,15,16] [[14,7,15,16]] [17,18,19] [3,1] oZc fun Z hZ Y hY=>?_;simp only[go_sem,seval,hx13,hi12'];refine hY _ oZc (du oZc fun Y hY=>?_);simp only[go_sem,seval,hx13];refine hY _ oZc (du (by simp only[go_sem,seval,BT,Kd,ml,nR,aiS,n8,nM,Option.isNone,nK];try rfl) fun Y hY=>?_);obtain⟨r12,hr16,h⟩:=bI h;simp only[go_sem,seval,hr16];refine hY _ oZc (du oZc fun Y hY=>?_);simp only[go_sem,seval];refine hY _ oZc (du oZc fun Y hY=>?_);simp only[go_sem,seval,HQ];refine hY _ oZc (Fo (sC:=⟨tab 55 (af (af (af (af (af (af au 1 (pF 1)) 2 (pF 2)) 3 (pF 3)) 5 (vI (v15:Int))) 36 (.pal 3 [(0,2)] 0 l14.length none)) 51 (.pal 51 [] 0 ([(aa.mk x18.Actor r12)].length) none)),(upd (upd (upd (upd RZ 1 (vA 3 (ae.row a0))) 2 (vA 3 [.val (.slice none 0 0),.val (.slice none 0 0),.val (.slice none 0 0)])) 3 (vA 3 [sO 11 (l3.map Txn.row),sO 4 (r1.map ai.row),sO 3 (l14.map aa.rowD)])) 51 (.sl true none 3 (some 1) (([(aa.mk x18.Actor r12)].map aa.row).set 0 [vS x18.Actor.Type_,vS x18.Actor.Key,sO 3 (r12.map aj.row)])))⟩) wP hT ?_);obtain⟨ha17,h⟩:=bq h;simp only[cn,cw,cy,Nat.reduceAdd]at ha17;simp only[go_sem,seval,app_last,app_modl,ha17];refine hZ _ (z2 ?_);refine⟨hi12',(l14++[(aa.mk x18.Actor r12)]),?_,h⟩;refine wr ?_ ?_<;>repeat' first|rfl|constructor|simp only[go_sem,seval]
@[go_sem] def VD(N:Nat):FnS:=⟨[],false,fn1 ae.decA fun q0=>(lQ N q0).map fun r=>.agg (ae.row r),false⟩
def QA(N:Nat):ar prog 154 (VD N):=om1 fun q0 r h=>rs (OE N q0 r h)
@[go_sem] def Ts(N:Nat):FnS:=⟨[],false,fn1 ae.decA fun q0=>(lQ N q0).map fun r=>.agg [sO 11 (r.Txns.map Txn.row),sO 4 (r.Locks.map ai.row),sO 3 (r.Stacks.map aa.rowD)],false⟩
def vJ(N:Nat):ar prog 154 (Ts N):=om1 (OE N)
@[go_sem] def Lo(N:Nat):FnS:=⟨[],false,fn6 ae.decA (aC .i64) (aC .i64) bG (aC .i64) (aD 4 ah.dec) fun q0 q1 q2 q3 q4 q5=>(zN N q0 q1 q2 q3 q4 q5).map fun r=>.tup [.agg (ae.row r.1),vI r.2],false⟩
def PI(N:Nat):ar prog 85 (Lo N):=om6 fun a0 a1 a2 a3 a4 a5 _ h=>by
 refine fk func85 (gc 23 (fT N) (gc 27 (Ee N) (gc 54 (vJ N) (gc 58 (zX N) gn)))) ?_;simp only[f85];unfold zN at h;refine z0 ?_;refine z0 ?_;refine aN ?_;apply aS (fun(c7:Bool)=>⟨tab 63 (af (af (af (af (af au 1 (vI a1)) 6 (pF 6)) 12 (pF 12)) 14 (pF 14)) 29 (vB c7)),(upd (upd (upd RZ 6 (vA 3 (ae.row a0))) 12 (vA 3 [.val (.slice none 0 0),.val (.slice none 0 0),.val (.slice none 0 0)])) 14 (vA 11 [vI a1,vI a2,vS a3,vI a4,sF 4 (a5.map ah.row),vI 0,vI 0,vI 0,vS (⟨#[]⟩),.val (.slice none 0 0),.val (.slice none 0 0)]))⟩)
 .intro hJ1;obtain⟨r8,hr2,h⟩:=bI h;have hJ:=hJ1;exact go
 intro c7 h;unfold ya at h;refine cB h (fun hc5 h=>?_) fun hc5 h=>?_
 .exact go
 unfold wK at h;refine z1 hc5 ?_;apply aS (fun(c14:Bool)=>⟨tab 63 (af (af (af (af au 6 (pF 6)) 12 (pF 12)) 14 (pF 14)) 46 (vB c14)),(upd (upd (upd RZ 6 (vA 3 (ae.row a0))) 12 (vA 3 [.val (.slice none 0 0),.val (.slice none 0 0),.val (.slice none 0 0)])) 14 (vA 11 [vI a1,vI a2,vS a3,vI a4,sF 4 (a5.map ah.row),vI 0,vI 0,vI 0,vS (⟨#[]⟩),.val (.slice none 0 0),.val (.slice none 0 0)]))⟩)
 .intro hJ6;refine iD h (fun hc7 hc7d h=>?_) fun hc7 hc7d h=>?_
  .have hJ:=hJ6;exact go
  have hJ:=hJ6;exact go
 intro c14 h;unfold wI at h;refine cB h (fun hc10 h=>?_) fun hc10 h=>?_
 .exact go
 unfold vO at h;refine z1 hc10 ?_;refine cD h (fun hc11 hc11d h=>?_) fun hc11 hc11d h=>?_
 .exact go
 obtain⟨r16,hr12,h⟩:=bI h;refine z1 (k2 hc11d hr12) ?_;obtain⟨r17,hr13,h⟩:=bI h;obtain⟨ha14,h⟩:=bq h;simp only[cn,cw,cy,Nat.reduceAdd]at ha14;exact go
@[go_sem] def TN(N:Nat):FnS:=⟨[],true,fn2 ai.decA (aC .i64) fun q0 q1=>(FR N q0 q1).map fun r=>vB r,false⟩
def PU(N:Nat):ar prog 207 (TN N):=om2 fun _ _ _ h=>by
 refine fk (G:=(aL [])) func207 gn ?_;simp only[f207];unfold FR at h;have:LC 2 [1,2] [2] 2 3 (fun f (v2:Nat) (b:Unit)=>(af f 5 (.val (.int .i64 (v2:Int))))) (fun R _ _=>R):=⟨⟩;exact go
def YI(N:Nat)(a0:List Int)(a1:Int)(r:List Int)(h:Dm N a0 a1=some r):Con prog 208 [] true [sF 1 (a0.map (aA .i64)),vI a1] (sO 1 (r.map (aA .i64))):=by
 refine fk (G:=(aL [])) func208 gn ?_;simp only[f208];unfold Dm at h;refine z0 ?_;refine z0 ?_;refine aN (aK (dw (fun(b:Int)=>⟨tab 33 (af (af (af au 0 (sF 1 (a0.map (aA .i64)))) 1 (vI a1)) 5 (vI b)),RZ⟩) (a0.length:Int) h ?_ ?_))
 .refine wr ?_ ?_<;>repeat' first|rfl|constructor|simp only[go_sem,seval,cY,cL,nj,nk]
 rintro n v2 h -;cases n with
 | zero=>simp[rD]at h
 | succ n=>
 simp only[rD]at h;refine aN ?_;apply aS (fun(c8:Bool)=>⟨tab 33 (af (af (af (af au 0 (sF 1 (a0.map (aA .i64)))) 1 (vI a1)) 5 (vI v2)) 18 (vB c8)),RZ⟩)
 .intro hJ1;refine eB fun Z hZ=>?_;simp (config := { maxSteps := 4000000 }) only[go_sem,seval];refine jx rfl (fun hc2=>?_) (fun hc2=>?_)
  .have hc2d:=decide_eq_true hc2;rw[if_pos hc2]at h;have hJ:=hJ1;exact go
  have hc2d:=decide_eq_false hc2;have hJ:=hJ1;exact go
 intro c8 h;unfold wD at h;refine pe rfl (fun hc5=>?_) (fun hc5=>?_)
 .rw[if_pos hc5]at h;exact go
 rw[if_neg (ne_true_of_eq_false hc5)]at h;refine eV (pp ?_);unfold Ij at h;refine aN ?_;obtain⟨hs6,h⟩:=fC h;try simp only[cu]at hs6 h
 refine qy [1,2,5,8,9,10] [0,3,4,6] [[0,3,6,4],[0,6,3,4],[3,0,4,6],[3,0,6,4],[3,6,0,4],[6,0,3,4],[6,3,0,4]] [7,11,12] [] oZc fun Z hZ Y hY=>?_;simp (config := { maxSteps := 4000000 }) only[go_sem,seval,hc5,hs6,cQ];refine hY _ oZc (du oZc fun Y hY=>?_);simp (config := { maxSteps := 4000000 }) only[go_sem,seval,cQ];refine hY _ oZc (du oZc fun Y hY=>?_);obtain⟨hs7,h⟩:=fC h;try simp only[nE,cR,nu]at hs7 h
 simp (config := { maxSteps := 4000000 }) only[go_sem,seval,hs6,cR,hs7];refine hY _ oZc (du (by simp only[go_sem,seval,BT,nM,SJ,PA,XE,Option.isNone,cy,ck,decide_true,nK];try rfl) fun Y hY=>?_);obtain⟨ha8,h⟩:=AK h;simp only[Nat.reduceAdd]at ha8;simp (config := { maxSteps := 4000000 }) only[go_sem,seval,ha8];refine hY _ oZc (du oZc fun Y hY=>?_);simp (config := { maxSteps := 4000000 }) only[go_sem,seval];refine hY _ oZc (Fo (sC:=⟨tab 33 (af (af (af au 25 (.pal 25 [] 0 ((a0.take ((v2).toNat)).length) none)) 27 (.pal 27 [] 0 ([a1].length) none)) 31 (sF 1 (((a0.drop ((v2).toNat)).take (a0.length -((v2).toNat))).map (aA .i64)))),(upd (upd RZ 25 (sO 1 ((a0.take ((v2).toNat)).map (aA .i64)))) 27 (.sl true none 1 (some 1) ([a1].map (aA .i64))))⟩) wP hT ?_);obtain⟨ha9,h⟩:=bq h;simp only[cn,cw,cy,Nat.reduceAdd]at ha9;obtain⟨ha10,h⟩:=bq h;simp only[nc,cn,cw,cy,Nat.reduceAdd]at ha10;exact go
@[go_sem] def W5(N:Nat):FnS:=⟨[],true,fn2 (aD 1 (bO (aC .i64))) (aC .i64) fun q0 q1=>(Dm N q0 q1).map fun r=>sF 1 (r.map (aA .i64)),false⟩
def SD(N:Nat):ar prog 208 (W5 N):=ok2 (fun q0 q1 r h=>by
 obtain⟨r',hr,rfl⟩:=cq.1 h;exact(YI N q0 q1 r' hr).res (by(try simp only[go_sem]);exact jV.h)) (fun h=>fX (jR .i64) h) (bE)
@[go_sem] def P3(N:Nat):FnS:=⟨[],false,fn3 (aD 4 ai.dec) Ref.decA (aC .i64) fun q0 q1 q2=>(zw N q0 q1 q2).map fun r=>.tup [sO 4 (r.1.map ai.row),vI r.2.1,vI r.2.2],false⟩
def Ly(N:Nat):ar prog 155 (P3 N):=om3 fun a0 a1 a2 _ h=>by
 refine DD func155 rfl oZh oZc (gc 15 (il N) (gc 19 (qv N) (gc 24 (B5 N) (gc 30 (tv N) (gc 39 (Dk N) (gc 57 (km N) (gc 74 (PU N) (gc 85 (SD N) gn)))))))) [(53,true)] mix (cU rfl) ?_;simp only[f155];unfold zw at h;refine z0 ?_;refine aN ?_;apply aS (fun(c9:Bool)=>⟨tab 89 (af (af (af (af au 0 (sF 4 (a0.map ai.row))) 2 (vI a2)) 4 (pF 4)) 26 (vB c9)),(upd RZ 4 (vA 2 [vS a1.Type_,vS a1.Key]))⟩)
 .intro hJ1;obtain⟨r10,hr2,h⟩:=bI h;have hJ:=hJ1;exact go
 intro c9 h;unfold rJ at h;refine cB h (fun hc7 h=>?_) fun hc7 h=>?_
 .exact go
 refine bm (pp ?_);unfold rP at h;obtain⟨r13,hr8,h⟩:=bI h;refine z2 ?_;refine z0 ?_;refine cMs h (fun hc9 h=>?_) fun hc9 h=>?_
 .obtain⟨r15,hr18,h⟩:=bI h;refine z2 ?_;obtain⟨x16,hb19,hx20,h⟩:=aQ h;refine z2 ?_;refine z0 ?_;refine cD h (fun hc21 hc21d h=>?_) fun hc21 hc21d h=>?_
  .exact go
  refine z2 ?_;refine cD h (fun hc22 hc22d h=>?_) fun hc22 hc22d h=>?_
  .exact go
  obtain⟨r17,hr23,h⟩:=bI h;refine z2 ?_;refine cB h (fun hc24 h=>?_) fun hc24 h=>?_
  .exact go
  refine z2 ?_;refine cD h (fun hc25 hc25d h=>?_) fun hc25 hc25d h=>?_
  .exact go
  obtain⟨r18,hr26,h⟩:=bI h;have hx28:=fE (y:=(ai.mk x16.Actor x16.Owner r18)) hx20;refine z1 (k5 hb19 hx20 hc25d hr26 (mm2 (row:=ai.row) (y:=(ai.mk x16.Actor x16.Owner r18)) (rx:=[vS x16.Actor.Type_,vS x16.Actor.Key,vI x16.Owner,sF 1 (x16.Waiters.map (aA .i64))]) (ry:=[vS x16.Actor.Type_,vS x16.Actor.Key,vI x16.Owner,sF 1 (r18.map (aA .i64))]) hx20 rfl rfl)) ?_;exact go
 refine z2 ?_;refine cD h (fun hc10 hc10d h=>?_) fun hc10 hc10d h=>?_
 .exact go
 obtain⟨r14,hr11,h⟩:=bI h;refine z2 ?_;refine aN ?_;obtain⟨hs12,h⟩:=fC h;try simp only[cu]at hs12 h
 obtain⟨ha13,h⟩:=AK h;simp only[Nat.reduceAdd]at ha13;refine z2 ?_;refine aN (qy [0,1,2,4,5,9] [3,6,7] [[6,3,7],[6,7,3]] [8,10,11,12,13] [] oZc fun Z hZ Y hY=>?_);simp only[go_sem,seval];refine hY _ oZc (du oZc fun Y hY=>?_);obtain⟨hs14,ht15,h⟩:=Ii h;try simp only[cu]at hs14 ht15 h
 simp only[go_sem,seval,hs12,cR,cQ,ck];refine hY _ oZc (du oZc fun Y hY=>?_);simp only[go_sem,seval];refine hY _ oZc (du oZc fun Y hY=>?_);simp only[go_sem,seval,ck];refine hY _ oZc (Fo (sC:=⟨tab 89 (af (af (af au 48 (.sl false none 4 (some ((r13.1).toNat)) ((r14.take ((r13.1).toNat)).map ai.row))) 52 (.pal 52 [] 0 ([(ai.mk a1 a2 [])].length) none)) 54 (.pal 44 [] 0 (((r14.drop ((r13.1).toNat)).take (r14.length -((r13.1).toNat))).length) none)),(upd (upd (upd RZ 4 (vA 2 [vS a1.Type_,vS a1.Key])) 44 (sO 4 (((r14.drop ((r13.1).toNat)).take (r14.length -((r13.1).toNat))).map ai.row))) 52 (.sl true none 4 (some 1) ([[vS a1.Type_,vS a1.Key,vI a2,.val (.slice none 0 0)]])))⟩) wP hT ?_);obtain⟨ha16,h⟩:=bq h;simp only[cn,cw,cy,Nat.reduceAdd]at ha16;obtain⟨ha17,h⟩:=bq h;simp only[nc,cn,cw,cy,Nat.reduceAdd]at ha17;simp only[go_sem,seval,afh ht15,ha16,ha17];exact go
@[go_sem] def S7(N:Nat):FnS:=⟨[],true,fn3 ae.decA (aC .i64) (aD 1 (bO (aC .i64))) fun q0 q1 q2=>(F0 N q0 q1 q2).map fun r=>vB r,false⟩
def PH(N:Nat):ar prog 212 (S7 N):=om3 fun _ _ _ _ h=>by
 refine fk func212 (gc 26 (eX N) (gc 38 (gS N) gn)) ?_;simp only[f212];unfold F0 at h;have:LC 2 [1,2,3] [3] 3 2 (fun f (v2:Nat) (b:Unit)=>(af f 7 (.val (.int .i64 (v2:Int))))) (fun R _ _=>R):=⟨⟩;have:LF 7 [1,2,3,7,8,9] [3] (fun f (b:Int)=>(af f 10 (.val (.int .i64 b)))) (fun R _=>R):=⟨⟩;exact go
@[go_sem] def Nu(N:Nat):FnS:=⟨[],true,fn2 ae.decA (aC .i64) fun q0 q1=>(rV N q0 q1).map fun r=>sF 1 (r.map (aA .i64)),false⟩
def JG(N:Nat):ar prog 161 (Nu N):=om2 fun a0 a1 _ h=>by
 refine fk func161 (gc 29 (gS N) (gc 35 (PH N) (gc 55 (gS N) gn))) ?_;simp only[f161];unfold rV at h;refine z0 ?_;refine z0 ?_;refine z0 ?_;refine aK (dw (fun(b:List Int×Bool)=>⟨tab 66 (af (af (af au 2 (pF 2)) 5 (.pal 12 [] 0 b.1.length none)) 6 (vB b.2)),(upd (upd RZ 2 (vA 3 (ae.row a0))) 12 (sO 1 (b.1.map (aA .i64))))⟩) ([a1],true) h ?_ ?_)
 .refine aM.trans (adl 12 oZa) ?_;refine wr ?_ ?_<;>repeat' first|rfl|constructor|simp only[go_sem,seval,cY,cL,nj,nk]
 rintro n ⟨l2,c3⟩ h -;cases n with
 | zero=>simp[fP]at h
 | succ n=>
 simp only[fP]at h;refine z0 ?_;refine cBs h (fun hc1 h=>?_) fun hc1 h=>?_
 .unfold sp at h;refine z2 ?_;refine z0 ?_;refine aK (dc fun hreal15=>?_);have hl14:=hreal15.cell 2 0 oZa rfl;rw[cr]at hl14;refine fb (fun(v25:Nat) (b:List Int×List Int)=>⟨tab 66 (af (af (af (af au 2 (pF 2)) 5 (.pal 12 [] 0 b.1.length none)) 9 (.pal 64 [] 0 b.2.length none)) 10 (vI (v25:Int))),(upd (upd (upd RZ 2 (vA 3 (ae.row a0))) 12 (sO 1 (b.1.map (aA .i64)))) 64 (sO 1 (b.2.map (aA .i64))))⟩) (l2,[]) h ?_ ?_
  .refine aM.trans (fm 9 64 1 oZb oZb) ?_;exact w2
  rintro v25 ⟨l23,l24⟩ hi16 h -;rcases(dj a0.Txns v25 hi16).symm with⟨hi16',_,hd19⟩|⟨x28,hi16',hx17,hd19⟩
  .rw[hd19]at h;exact go
  rw[hd19]at h;simp only[iV]at h;have hw18:=bn hi16' hl14;refine z2 ?_;refine ct ?_;obtain⟨r25,hr20,h⟩:=bI h;refine z2 ?_;refine cBs h (fun hc21 h=>?_) fun hc21 h=>?_
  .exact go
  obtain⟨ha22,h⟩:=bq h;simp only[cn,cw,cy,Nat.reduceAdd]at ha22;refine z2 ?_;refine z2 ?_;refine⟨hi16',(l23,(l24++[x28.ID])),?_,h⟩;refine wr ?_ ?_<;>repeat' first|rfl|constructor|simp only[go_sem,seval]
 refine z2 ?_;refine z0 ?_;refine lC 2 0 (fun(v8:Nat) (b:List Int×Bool)=>⟨tab 66 (af (af (af (af au 2 (pF 2)) 5 (.pal 12 [] 0 b.1.length none)) 6 (vB b.2)) 7 (vI (v8:Int))),(upd (upd RZ 2 (vA 3 (ae.row a0))) 12 (sO 1 (b.1.map (aA .i64))))⟩) (l2,false) h ?_ ?_ (h0:=w2)
 .rintro v8 ⟨l6,c7⟩ hi4' h;simp only[iM]at h;refine z2 ?_;refine cf ?_;refine eV (pp (⟨_,cZ _,(l6,c7),?_,h⟩));exact w2
 rintro v8 ⟨l6,c7⟩ x11 hi4' hx5 hw6 h;simp only[iM]at h;refine z2 ?_;refine ct ?_;refine z2 ?_;apply aS (fun(c22:Bool)=>⟨tab 66 (af (af (af (af (af (af au 2 (pF 2)) 5 (.pal 12 [] 0 l6.length none)) 6 (vB c7)) 7 (vI (v8:Int))) 8 (vI x11.ID)) 36 (vB c22)),(upd (upd RZ 2 (vA 3 (ae.row a0))) 12 (sO 1 (l6.map (aA .i64))))⟩)
 .intro hJ8;obtain⟨r23,hr9,h⟩:=bI h;have hJ:=hJ8;exact go
 intro c22 h;unfold mT at h;refine cBs h (fun hc12 h=>?_) fun hc12 h=>?_
 .exact go
 obtain⟨ha13,h⟩:=bq h;simp only[cn,cw,cy,Nat.reduceAdd]at ha13;refine z2 ?_;refine z0 ?_;refine z2 ?_;refine⟨hi4',((l6++[x11.ID]),true),?_,h⟩;refine aM.trans (Qf 5 40 12 oZh oZh oZb oZa oZa oZk) ?_;refine wr ?_ ?_<;>repeat' first|rfl|constructor|simp only[go_sem,seval]
@[go_sem] def Vi(N:Nat):FnS:=⟨[],false,fn2 ae.decA (aD 1 (bO (aC .i64))) fun q0 q1=>(Bt N q0 q1).map fun r=>.agg (ae.row r),false⟩
def IG(N:Nat):ar prog 162 (Vi N):=om2 fun a0 a1 _ h=>by
 refine fk func162 (gc 12 (km N) (gc 28 (gS N) (gc 37 (zX N) (gc 70 (gS N) (gc 96 (sG N) gn))))) ?_;simp only[f162];unfold Bt at h;refine z0 ?_;obtain⟨r1,hr1,h⟩:=bI h;refine z2 ?_;refine z0 ?_;refine aK (dc fun hreal3=>?_);have hl2:=hreal3.cell 2 0 oZa rfl;rw[cr]at hl2;refine fb (fun(v4:Nat) (b:List Txn)=>⟨tab 102 (af (af (af (af (af au 1 (sF 1 (a1.map (aA .i64)))) 2 (pF 2)) 4 (pF 4)) 5 (pF 5)) 6 (vI (v4:Int))),(upd (upd (upd RZ 2 (vA 3 (ae.row a0))) 4 (vA 3 [.val (.slice none 0 0),.val (.slice none 0 0),.val (.slice none 0 0)])) 5 (vA 3 [sO 11 (b.map Txn.row),sO 4 (r1.map ai.row),.val (.slice none 0 0)]))⟩) [] h ?_ ?_
 .refine aM.trans (yB 5 [(0,0)] 11 oZb (by simp only[go_sem,seval];try rfl)) ?_;exact w2
 rintro v4 l3 hi4 h -;rcases(dj a0.Txns v4 hi4)with⟨x7,hi4',hx5,hd7⟩|⟨hi4',_,hd7⟩
 .rw[hd7]at h;simp only[mE]at h;have hw6:=bn hi4' hl2;refine z2 ?_;refine ct ?_;obtain⟨r13,hr8,h⟩:=bI h;refine z2 ?_;refine cMs h (fun hc9 h=>?_) fun hc9 h=>?_
  .exact go
  obtain⟨r14,hr10,h⟩:=bI h;obtain⟨ha11,h⟩:=bq h;simp only[cn,cw,cy,Nat.reduceAdd]at ha11;refine d2 ?_;refine z2 ?_;refine⟨hi4',(l3++[r14]),?_,h⟩;refine wr ?_ ?_<;>repeat' first|rfl|constructor|simp only[go_sem,seval]
 rw[hd7]at h;simp only[mE]at h;refine z2 ?_;refine cf ?_;unfold zu at h;refine z0 ?_;refine aK (dc fun hreal13=>?_);have hl12:=hreal13.cell 2 2 oZa rfl;rw[cr]at hl12;refine fb (fun(v17:Nat) (b:List aa)=>⟨tab 102 (af (af (af (af (af au 1 (sF 1 (a1.map (aA .i64)))) 2 (pF 2)) 4 (pF 4)) 5 (pF 5)) 7 (vI (v17:Int))),(upd (upd (upd RZ 2 (vA 3 (ae.row a0))) 4 (vA 3 [.val (.slice none 0 0),.val (.slice none 0 0),.val (.slice none 0 0)])) 5 (vA 3 [sO 11 (l3.map Txn.row),sO 4 (r1.map ai.row),sO 3 (b.map aa.rowD)]))⟩) [] h ?_ ?_
 .refine aM.trans (yB 5 [(0,2)] 3 oZb (by simp only[go_sem,seval];try rfl)) ?_;exact w2
 rintro v17 l16 hi14 h -;rcases(dj a0.Stacks v17 hi14).symm with⟨hi14',_,hd17⟩|⟨x20,hi14',hx15,hd17⟩
 .rw[hd17]at h;exact go
 rw[hd17]at h;simp only[sX]at h;have hw16:=bn hi14' hl12;refine z2 ?_;refine ct ?_;refine z0 ?_;refine z0 ?_;refine aK (dw (fun(b:List aj×Int)=>⟨tab 102 (af (af (af (af (af (af (af au 1 (sF 1 (a1.map (aA .i64)))) 2 (pF 2)) 4 (pF 4)) 5 (pF 5)) 7 (vI (v17:Int))) 8 (.pal 83 [] 0 b.1.length none)) 9 (vI b.2)),(upd (upd (upd (upd RZ 2 (vA 3 (ae.row a0))) 4 (vA 3 [.val (.slice none 0 0),.val (.slice none 0 0),.val (.slice none 0 0)])) 5 (vA 3 [sO 11 (l3.map Txn.row),sO 4 (r1.map ai.row),sO 3 (l16.map aa.rowD)])) 83 (sO 3 (b.1.map aj.row)))⟩) ([],0) h ?_ ?_)
 .refine aM.trans (fm 8 83 3 oZb oZb) ?_;exact w2
 rintro n ⟨l24,v25⟩ h -;cases n with
 | zero=>simp[pZ]at h
 | succ n=>
 simp only[pZ]at h;refine z2 ?_;refine cD h (fun hc18 hc18d h=>?_) fun hc18 hc18d h=>?_
 .obtain⟨x26,hb19,hx20,h⟩:=aQ h;obtain⟨r27,hr21,h⟩:=bI h;refine z2 ?_;refine cMs h (fun hc22 h=>?_) fun hc22 h=>?_
  .exact go
  obtain⟨ha23,h⟩:=bq h;simp only[cn,cw,cy,Nat.reduceAdd]at ha23;refine z2 ?_;refine z0 ?_;refine⟨_,cZ _,((l24++[x26]),IntKind.i64.wrap (v25+1)),?_,h⟩;refine wr ?_ ?_<;>repeat' first|rfl|constructor|simp only[go_sem,seval]
 unfold GW at h;refine z2 ?_;refine cDs h (fun hc24 hc24d h=>?_) fun hc24 hc24d h=>?_
 .exact go
 refine eU (abC (n:=83) oZa (by simp only[UH,SQ,go_sem,seval];rfl)) ?_;refine qy [0,1,2,3,4,5,6,8] [7,9,10,11] [[9,7,10,11]] [12,13,14] [5,2] oZc fun Z hZ Y hY=>?_;simp only[go_sem,seval,hi14',hc24d];refine hY _ oZc (du oZc fun Y hY=>?_);simp only[go_sem,seval,hx15];refine hY _ oZc (du (by simp only[go_sem,seval,BT,Kd,ml,nR,aiS,n8,nM,Option.isNone,nK];try rfl) fun Y hY=>?_);obtain⟨r28,hr25,h⟩:=bI h;simp only[go_sem,seval,hr25];refine hY _ oZc (du oZc fun Y hY=>?_);simp only[go_sem,seval];refine hY _ oZc (du oZc fun Y hY=>?_);simp only[go_sem,seval,HQ];refine hY _ oZc (Fo (sC:=⟨tab 102 (af (af (af (af (af (af (af au 1 (sF 1 (a1.map (aA .i64)))) 2 (pF 2)) 4 (pF 4)) 5 (pF 5)) 7 (vI (v17:Int))) 88 (.pal 5 [(0,2)] 0 l16.length none)) 98 (.pal 98 [] 0 ([(aa.mk x20.Actor r28)].length) none)),(upd (upd (upd (upd RZ 2 (vA 3 (ae.row a0))) 4 (vA 3 [.val (.slice none 0 0),.val (.slice none 0 0),.val (.slice none 0 0)])) 5 (vA 3 [sO 11 (l3.map Txn.row),sO 4 (r1.map ai.row),sO 3 (l16.map aa.rowD)])) 98 (.sl true none 3 (some 1) (([(aa.mk x20.Actor r28)].map aa.row).set 0 [vS x20.Actor.Type_,vS x20.Actor.Key,sO 3 (r28.map aj.row)])))⟩) wP hT ?_);obtain⟨ha26,h⟩:=bq h;simp only[cn,cw,cy,Nat.reduceAdd]at ha26;simp only[go_sem,seval,app_last,app_modl,ha26];refine hZ _ (z2 ?_);refine⟨hi14',(l16++[(aa.mk x20.Actor r28)]),?_,h⟩;refine wr ?_ ?_<;>repeat' first|rfl|constructor|simp only[go_sem,seval]
@[go_sem] def PZ(N:Nat):FnS:=⟨[],false,fn2 (aD 4 ai.dec) (aC .i64) fun q0 q1=>(yg N q0 q1).map fun r=>sF 4 (r.map ai.row),false⟩
def MP(N:Nat):ar prog 163 (PZ N):=om2 fun _ a1 _ h=>by
 refine fk func163 (gc 10 (il N) (gc 13 (km N) gn)) ?_;simp only[f163];unfold yg at h;refine z0 ?_;obtain⟨r1,hr1,h⟩:=bI h;refine z2 ?_;refine cM h (fun hc2 h=>?_) fun hc2 h=>?_
 .exact go
 obtain⟨r2,hr3,h⟩:=bI h;refine z2 ?_;refine z0 ?_;refine aK (dw (fun(b:List ai×Int)=>⟨tab 57 (af (af (af au 1 (vI a1)) 5 (.pal 13 [] 0 b.1.length none)) 6 (vI b.2)),(upd RZ 13 (sO 4 (b.1.map ai.row)))⟩) (r2,0) h ?_ ?_)
 .exact w2
 rintro n ⟨l5,v6⟩ h -;cases n with
 | zero=>simp[jY]at h
 | succ n=>
 simp only[jY]at h;refine z0 ?_;refine cDs h (fun hc4 hc4d h=>?_) fun hc4 hc4d h=>?_
 .exact go
 refine z2 ?_;refine z0 ?_;refine aK (dw (fun(b:List Int×Int)=>⟨tab 57 (af (af (af (af (af au 1 (vI a1)) 5 (.pal 13 [] 0 l5.length none)) 6 (vI v6)) 7 (.pal 50 [] 0 b.1.length none)) 8 (vI b.2)),(upd (upd RZ 13 (sO 4 (l5.map ai.row))) 50 (sO 1 (b.1.map (aA .i64))))⟩) ([],0) h ?_ ?_)
 .refine aM.trans (fm 7 50 1 oZb oZb) ?_;exact w2
 rintro n ⟨l11,v12⟩ h -;cases n with
 | zero=>simp[jS]at h
 | succ n=>
 simp only[jS]at h;obtain⟨x13,hb5,hx6,h⟩:=aQ h;refine z2 ?_;refine cD h (fun hc7 hc7d h=>?_) fun hc7 hc7d h=>?_
 .obtain⟨x14,hb8,hx9,h⟩:=aQ h;refine z2 ?_;refine cNs h (fun hc10 hc10d h=>?_) fun hc10 hc10d h=>?_
  .exact go
  obtain⟨ha11,h⟩:=bq h;simp only[cn,cw,cy,Nat.reduceAdd]at ha11;refine z2 ?_;refine z0 ?_;refine⟨_,cZ _,((l11++[x14]),IntKind.i64.wrap (v12+1)),?_,h⟩;refine wr ?_ ?_<;>repeat' first|rfl|constructor|simp only[go_sem,seval]
 unfold BW at h;obtain⟨x15,hb12,hx13,h⟩:=aQ h;obtain rfl:=W3 hx6 hx13;refine z1 (k4 hb5 hx6 hc7d (ov1 (row:=ai.row) (rx:=[vS x13.Actor.Type_,vS x13.Actor.Key,vI x13.Owner,sF 1 (x13.Waiters.map (aA .i64))]) hx6 rfl)) ?_;refine z0 ?_;refine⟨_,cZ _,((l5.set ((v6).toNat) (ai.mk x13.Actor x13.Owner l11)),IntKind.i64.wrap (v6+1)),?_,h⟩;refine aM.trans (Uw (n:=13) (ai.mk x13.Actor x13.Owner l11) [vS x13.Actor.Type_,vS x13.Actor.Key,vI x13.Owner,sF 1 (l11.map (aA .i64))] oZa rfl) ?_;refine wr ?_ ?_<;>repeat' first|rfl|constructor|simp only[go_sem,seval,cY,cL]
@[go_sem] def Vn(N:Nat):FnS:=⟨[],false,fn2 (aD 4 ai.dec) (aC .i64) fun q0 q1=>(Bu N q0 q1).map fun r=>.tup [sF 4 (r.1.map ai.row),vI r.2],false⟩
def H9(N:Nat):ar prog 211 (Vn N):=om2 fun _ _ _ h=>by
 refine DD func211 rfl oZh oZc (gc 9 (km N) gn) [(26,false)] mix (cU rfl) ?_;simp only[f211];unfold Bu at h;refine z0 ?_;obtain⟨r1,hr1,h⟩:=bI h;refine z1 hr1 ?_;obtain⟨x2,hb2,hx3,h⟩:=aQ h;refine z1 (k2 hb2 hx3) ?_;refine z0 ?_;refine cD h (fun hc4 hc4d h=>?_) fun hc4 hc4d h=>?_
 .exact go
 obtain⟨x3,hb9,hx10,h⟩:=aQ h;have hx12:=fE (y:=(ai.mk x2.Actor x3 x2.Waiters)) hx3;refine z1 (k5 hb2 hx3 hc4d hb9 (k2 hx10 (mm2 (row:=ai.row) (y:=(ai.mk x2.Actor x3 x2.Waiters)) (rx:=[vS x2.Actor.Type_,vS x2.Actor.Key,vI x2.Owner,sF 1 (x2.Waiters.map (aA .i64))]) (ry:=[vS x2.Actor.Type_,vS x2.Actor.Key,vI x3,sF 1 (x2.Waiters.map (aA .i64))]) hx3 rfl rfl))) ?_;obtain⟨hs13,h⟩:=fC h;try simp only[nE,cR,nu]at hs13 h
 have hx15:=fE (y:=(ai.mk x2.Actor x3 (x2.Waiters.take ((IntKind.i64.wrap ((x2.Waiters.length:Int)-1)).toNat)))) hx3;refine z1 (k5 hb2 hb9 hx12 hs13 (k2 @cR (mm3 (row:=ai.row) (y0:=(ai.mk x2.Actor x3 x2.Waiters)) (y:=(ai.mk x2.Actor x3 (x2.Waiters.take ((IntKind.i64.wrap ((x2.Waiters.length:Int)-1)).toNat)))) (rx:=[vS x2.Actor.Type_,vS x2.Actor.Key,vI x3,sF 1 (x2.Waiters.map (aA .i64))]) (ry:=[vS x2.Actor.Type_,vS x2.Actor.Key,vI x3,sF 1 ((x2.Waiters.take ((IntKind.i64.wrap ((x2.Waiters.length:Int)-1)).toNat)).map (aA .i64))]) hx3 rfl rfl))) ?_;exact go
@[go_sem] def NF(N:Nat):FnS:=⟨[],false,fn2 (aD 4 ai.dec) (aC .i64) fun q0 q1=>(rf N q0 q1).map fun r=>.tup [sF 4 (r.1.map ai.row),sF 3 (r.2.map ay.row)],false⟩
def Ke(N:Nat):ar prog 164 (NF N):=om2 fun a0 a1 _ h=>by
 refine fk func164 (gc 13 (il N) (gc 16 (Dk N) (gc 37 (tv N) (gc 43 (H9 N) gn)))) ?_;simp only[f164];unfold rf at h;refine z0 ?_;obtain⟨r1,hr1,h⟩:=bI h;refine z2 ?_;refine cM h (fun hc2 h=>?_) fun hc2 h=>?_
 .exact go
 obtain⟨r2,hr3,h⟩:=bI h;refine z2 ?_;refine z0 ?_;refine z0 ?_;refine aK (dc fun hreal5=>?_);have hl4:=hreal5.lenT 0 oZh oZa;rw[cr]at hl4;refine fb (fun(v7:Nat) (b:List ai×List ay)=>⟨tab 60 (af (af (af (af (af au 0 (sF 4 (a0.map ai.row))) 1 (vI a1)) 6 (sF 4 (b.1.map ai.row))) 7 (.pal 57 [] 0 b.2.length none)) 8 (vI (v7:Int))),(upd RZ 57 (sO 3 (b.2.map ay.row)))⟩) (r2,[]) h ?_ ?_
 .refine aM.trans (fm 7 57 3 oZb oZb) ?_;exact w2
 rintro v7 ⟨l5,l6⟩ hi6 h -;rcases(dj a0 v7 hi6).symm with⟨hi6',_,hd9⟩|⟨x10,hi6',hx7,hd9⟩
 .rw[hd9]at h;exact go
 rw[hd9]at h;simp only[fR]at h;have hw8:=bn hi6' hl4;refine z2 ?_;refine ct ?_;refine z2 ?_;refine cN h (fun hc10 hc10d h=>?_) fun hc10 hc10d h=>?_
 .exact go
 obtain⟨r3,hr11,h⟩:=bI h;refine z2 ?_;refine z0 ?_;obtain⟨r4,hr12,h⟩:=bI h;refine z2 ?_;refine z0 ?_;refine cNs h (fun hc13 hc13d h=>?_) fun hc13 hc13d h=>?_
 .exact go
 obtain⟨ha14,h⟩:=bq h;simp only[cn,cw,cy,Nat.reduceAdd]at ha14;refine z2 ?_;refine z2 ?_;refine⟨hi6',(r4.1,(l6++[(ay.mk x10.Actor r4.2)])),?_,h⟩;refine wr ?_ ?_<;>repeat' first|rfl|constructor|simp only[go_sem,seval]
@[go_sem] def KF(N:Nat):FnS:=⟨[],false,fn2 ae.decA (aC .i64) fun q0 q1=>(uP N q0 q1).map fun r=>.tup [.agg (ae.row r.1),sF 1 (r.2.1.map (aA .i64)),vI r.2.2],false⟩
def Hh(N:Nat):ar prog 90 (KF N):=om2 fun _ _ _ h=>by
 refine fk func90 (gc 14 (fT N) (gc 20 (js N) (gc 28 (JG N) (gc 31 (IG N) (gc 44 (MP N) (gc 59 (Ke N) gn)))))) ?_;simp only[f90];unfold uP at h;refine z0 ?_;obtain⟨r1,hr1,h⟩:=bI h;refine z1 hr1 ?_;refine cM h (fun hc2 h=>?_) fun hc2 h=>?_
 .exact go
 obtain⟨r2,hr3,h⟩:=bI h;refine z1 (k2 hc2 hr3) ?_;refine z0 ?_;refine cM h (fun hc4 h=>?_) fun hc4 h=>?_
 .exact go
 obtain⟨r3,hr5,h⟩:=bI h;refine z1 (k2 hc4 hr5) ?_;obtain⟨r4,hr6,h⟩:=bI h;have:LT 9 [4,9,10] [4] 9 (fun f (v9:Nat) (b:List ai)=>(af f 11 (.val (.int .i64 (v9:Int))))) (fun R (v9:Nat) (b:List ai)=>(upd R 10 (.sl true none 3 (some 1) [[.sl false none 11 none (r4.Txns.map Txn.row),.sl false none 4 none (b.map ai.row),.sl false none 3 none (r4.Stacks.map aa.row)]]))):=⟨⟩;have:LT 13 [4,9,10] [4] 9 (fun f (v19:Nat) (b:List ai)=>(af f 12 (.val (.int .i64 (v19:Int))))) (fun R (v19:Nat) (b:List ai)=>(upd R 10 (.sl true none 3 (some 1) [[.sl false none 11 none (r4.Txns.map Txn.row),.sl false none 4 none (b.map ai.row),.sl false none 3 none (r4.Stacks.map aa.row)]]))):=⟨⟩;exact go
@[go_sem] def Nb(N:Nat):FnS:=⟨[],false,fn2 ae.decA (aC .i64) fun q0 q1=>(Hn N q0 q1).map fun r=>.tup [.agg (ae.row r.1),vI r.2.1,sF 1 (r.2.2.1.map (aA .i64)),vI r.2.2.2],false⟩
def QM(N:Nat):ar prog 86 (Nb N):=om2 fun _ _ _ h=>by
 refine fk func86 (gc 17 (fT N) (gc 23 (rm N) (gc 35 (Ly N) (gc 48 (Hh N) (gc 56 (vJ N) gn))))) ?_;simp only[f86];exact go
@[go_sem] def Od(N:Nat):FnS:=⟨[],true,fn2 (aD 4 ai.dec) (aD 4 ai.dec) fun q0 q1=>(uj N q0 q1).map fun r=>vB r,false⟩
def KH(N:Nat):ar prog 209 (Od N):=om2 fun _ _ _ h=>by
 refine fk (G:=(aL [])) func209 gn ?_;simp only[f209];unfold uj at h;have:LT 4 [0,1] [] 0 (fun f (v3:Nat) (b:Unit)=>(af f 5 (.val (.int .i64 (v3:Int))))) (fun R _ _=>R):=⟨⟩;have:J1 6 0 [0,1,5] [] (fun f (c5:Bool)=>(af f 56 (.val (.bool c5)))) (fun R _=>R):=⟨⟩;have:LF 9 [0,1,5] [] (fun f (b:Int)=>(af f 6 (.val (.int .i64 b)))) (fun R _=>R):=⟨⟩;exact go
@[go_sem] def O3(N:Nat):FnS:=⟨[],true,fn2 ae.decA ae.decA fun q0 q1=>(Eg N q0 q1).map fun r=>vB r,false⟩
def Lq(N:Nat):ar prog 156 (O3 N):=om2 fun _ _ _ h=>by
 refine fk func156 (gc 9 (KH N) gn) ?_;simp only[f156];exact go
@[go_sem] def CT(N:Nat):FnS:=⟨[],true,fn2 (aD 1 (bO (aC .i64))) (aD 1 (bO (aC .i64))) fun q0 q1=>(mD N q0 q1).map fun r=>vB r,false⟩
def si(N:Nat):ar prog 36 (CT N):=om2 fun a0 a1 _ h=>by
 refine fk (G:=(aL [])) func36 gn ?_;simp only[f36];unfold mD at h;refine z0 ?_;refine z0 ?_;refine cN h (fun hc1 hc1d h=>?_) fun hc1 hc1d h=>?_
 .exact go
 refine z1 hc1d ?_;refine lT 0 (fun(v3:Nat) (b:Unit)=>⟨tab 26 (af (af (af au 0 (sF 1 (a0.map (aA .i64)))) 1 (sF 1 (a1.map (aA .i64)))) 5 (vI (v3:Int))),RZ⟩) () h ?_ ?_
 .rintro v3 ⟨⟩ hi4' h;simp only[og]at h;refine z1 hi4' ?_;exact go
 rintro v3 ⟨⟩ x6 hi4' hx5 hw6 h;simp only[og]at h;exact go
@[go_sem] def NV(N:Nat):FnS:=⟨[],true,fn2 (aD 1 (bO bG)) (aD 1 (bO bG)) fun q0 q1=>(yI N q0 q1).map fun r=>vB r,false⟩
def JR(N:Nat):ar prog 45 (NV N):=om2 fun a0 a1 _ h=>by
 refine fk (G:=(aL [])) func45 gn ?_;simp only[f45];unfold yI at h;refine z0 ?_;refine z0 ?_;refine cN h (fun hc1 hc1d h=>?_) fun hc1 hc1d h=>?_
 .exact go
 refine z1 hc1d ?_;refine lT 0 (fun(v3:Nat) (b:Unit)=>⟨tab 26 (af (af (af au 0 (sF 1 (a0.map dA))) 1 (sF 1 (a1.map dA))) 5 (vI (v3:Int))),RZ⟩) () h ?_ ?_
 .rintro v3 ⟨⟩ hi4' h;simp only[kd]at h;refine z1 hi4' ?_;exact go
 rintro v3 ⟨⟩ x6 hi4' hx5 hw6 h;simp only[kd]at h;exact go
@[go_sem] def Hc(N:Nat):FnS:=⟨[],true,fn2 Value.decA Value.decA fun q0 q1=>(k9 N q0 q1).map fun r=>vB r,false⟩
def ze(N:Nat):ar prog 14 (Hc N):=om2 fun _ _ _ h=>by
 refine fk func14 (gc 29 (si N) (gc 36 (JR N) gn)) ?_;simp only[f14];unfold k9 at h;exact go
@[go_sem] def Np(N:Nat):FnS:=⟨[],true,fn2 (aD 5 Value.dec) (aD 5 Value.dec) fun q0 q1=>(jv N q0 q1).map fun r=>vB r,false⟩
def o4(N:Nat):ar prog 16 (Np N):=om2 fun _ _ _ h=>by
 refine fk func16 (gc 25 (ze N) gn) ?_;simp only[f16];unfold jv at h;have:LT 4 [0,1] [] 0 (fun f (v3:Nat) (b:Unit)=>(af f 5 (.val (.int .i64 (v3:Int))))) (fun R _ _=>R):=⟨⟩;exact go
@[go_sem] def PK(N:Nat):FnS:=⟨[],true,fn2 ah.decA ah.decA fun q0 q1=>(qS N q0 q1).map fun r=>vB r,false⟩
def Eo(N:Nat):ar prog 167 (PK N):=om2 fun _ _ _ h=>by
 refine fk func167 (gc 22 (o4 N) gn) ?_;simp only[f167];unfold qS at h;exact go
@[go_sem] def Ou(N:Nat):FnS:=⟨[],true,fn2 (aD 4 ah.dec) (aD 4 ah.dec) fun q0 q1=>(tL N q0 q1).map fun r=>vB r,false⟩
def Kw(N:Nat):ar prog 210 (Ou N):=om2 fun _ _ _ h=>by
 refine fk func210 (gc 25 (Eo N) gn) ?_;simp only[f210];unfold tL at h;have:LT 4 [0,1] [] 0 (fun f (v3:Nat) (b:Unit)=>(af f 5 (.val (.int .i64 (v3:Int))))) (fun R _ _=>R):=⟨⟩;exact go
@[go_sem] def QG(N:Nat):FnS:=⟨[],true,fn2 Txn.decA Txn.decA fun q0 q1=>(sZ N q0 q1).map fun r=>vB r,false⟩
def EN(N:Nat):ar prog 157 (QG N):=om2 fun _ _ _ h=>by
 refine fk func157 (gc 43 (ze N) (gc 50 (Kw N) gn)) ?_;simp only[f157];unfold sZ at h;exact go
@[go_sem] def Nw(N:Nat):FnS:=⟨[],true,fn2 (aD 3 aj.dec) (aD 3 aj.dec) fun q0 q1=>(mV N q0 q1).map fun r=>vB r,false⟩
def Ca(N:Nat):ar prog 22 (Nw N):=om2 fun a0 a1 _ h=>by
 refine fk func22 (gc 52 (o4 N) gn) ?_;simp only[f22];unfold mV at h;have:J1 6 0 [0,1,5] [] (fun f (c3:Bool)=>(af f 54 (.val (.bool c3)))) (fun R _=>R):=⟨⟩;refine z0 ?_;refine z0 ?_;refine cN h (fun hc1 hc1d h=>?_) fun hc1 hc1d h=>?_
 .exact go
 refine z1 hc1d ?_;refine lT 0 (fun(v3:Nat) (b:Unit)=>⟨tab 55 (af (af (af au 0 (sF 3 (a0.map aj.row))) 1 (sF 3 (a1.map aj.row))) 5 (vI (v3:Int))),RZ⟩) () h ?_ ?_
 .rintro v3 ⟨⟩ hi4' h;simp only[fM]at h;refine z1 hi4' ?_;exact go
 rintro v3 ⟨⟩ x6 hi4' hx5 hw6 h;simp only[fM]at h;exact go
@[go_sem] def jC(N:Nat):FnS:=⟨[],true,fn2 ae.decA ae.decA fun q0 q1=>(gl N q0 q1).map fun r=>vB r,false⟩
def je(N:Nat):ar prog 87 (jC N):=om2 fun _ _ _ h=>by
 refine fk func87 (gc 26 (Lq N) (gc 46 (EN N) (gc 81 (Ca N) gn))) ?_;simp only[f87];unfold gl at h;have:J1 1 0 [2,3] [2,3] (fun f (c5:Bool)=>(af f 28 (.val (.bool c5)))) (fun R _=>R):=⟨⟩;have:LC 4 [2,3] [2,3] 2 0 (fun f (v6:Nat) (b:Unit)=>(af f 5 (.val (.int .i64 (v6:Int))))) (fun R _ _=>R):=⟨⟩;have:LC 9 [2,3] [2,3] 2 2 (fun f (v15:Nat) (b:Unit)=>(af f 6 (.val (.int .i64 (v15:Int))))) (fun R _ _=>R):=⟨⟩;have:J1 11 0 [2,3,6] [2,3] (fun f (c19:Bool)=>(af f 83 (.val (.bool c19)))) (fun R _=>R):=⟨⟩;exact go
@[go_sem] def Nm(N:Nat):FnS:=⟨[],false,fn4 ae.decA (aC .i64) (aD 5 Value.dec) Value.decA fun q0 q1 q2 q3=>(Bn N q0 q1 q2 q3).map fun r=>.tup [.agg (ae.row r.1),vI r.2],false⟩
def QO(N:Nat):ar prog 88 (Nm N):=om4 fun a0 a1 a2 a3 r h=>by
 refine fk func88 (gc 17 (fT N) (gc 21 (BS N) (gc 26 (pO N) (gc 33 (rm N) (gc 43 (Hl N) (gc 48 (vJ N) (gc 77 (wQ N) (gc 94 (ru N) (gc 140 (eX N) (gc 173 (oK N) gn)))))))))) ?_;simp only[f88];unfold Bn at h;refine z0 ?_;refine aN ?_;apply aS (fun(c9:Bool)=>⟨tab 177 (af (af (af (af (af (af au 1 (vI a1)) 2 (sF 5 (a2.map Value.row))) 4 (pF 4)) 7 (pF 7)) 8 (pF 8)) 28 (vB c9)),(upd (upd (upd RZ 4 (vA 3 (ae.row a0))) 7 (vA 5 (Value.row a3))) 8 (vA 3 [.val (.slice none 0 0),.val (.slice none 0 0),.val (.slice none 0 0)]))⟩)
 .intro hJ1;obtain⟨r10,hr2,h⟩:=bI h;refine iBs h (fun hc3 h=>?_) fun hc3 h=>?_
  .refine z2 ?_;exact hJ1 _ true wR h
  obtain⟨r11,hr4,h⟩:=bI h;refine iBs h (fun hc5 h=>?_) fun hc5 h=>?_
  .refine z2 ?_;exact hJ1 _ true wR h
  obtain⟨r12,hr6,h⟩:=bI h;refine z2 ?_;exact hJ1 _ (!r12) wR h
 intro c9 h;unfold zs at h;refine cB h (fun hc7 h=>?_) fun hc7 h=>?_
 .refine z2 ?_;exact f0 h
 refine bm (pp ?_);unfold p9 at h;obtain⟨r13,hr8,h⟩:=bI h;refine z2 ?_;refine z0 ?_;refine cM h (fun hc9 h=>?_) fun hc9 h=>?_
 .refine z2 ?_;exact f0 h
 obtain⟨r14,hr10,h⟩:=bI h;refine z2 ?_;refine cN h (fun hc11 hc11d h=>?_) fun hc11 hc11d h=>?_
 .refine z2 ?_;exact f0 h
 obtain⟨r15,hr12,h⟩:=bI h;refine z2 ?_;refine z0 ?_;refine aK (dw (fun(b:List Txn×Int)=>⟨tab 177 (af (af (af (af (af (af (af au 1 (vI a1)) 2 (sF 5 (a2.map Value.row))) 4 (pF 4)) 7 (pF 7)) 8 (pF 8)) 10 (pF 10)) 12 (vI b.2)),(upd (upd (upd (upd RZ 4 (vA 3 [sO 11 (b.1.map Txn.row),sO 4 (r15.Locks.map ai.row),sO 3 (r15.Stacks.map aa.rowD)])) 7 (vA 5 (Value.row a3))) 8 (vA 3 [.val (.slice none 0 0),.val (.slice none 0 0),.val (.slice none 0 0)])) 10 (vA 4 (ah.row r13.1)))⟩) (r15.Txns,0) h ?_ ?_)
 .exact wR
 rintro n ⟨l13,v14⟩ h -;cases n with
 | zero=>simp[gZ]at h
 | succ n=>
 simp only[gZ]at h;refine z0 ?_;refine cD h (fun hc13 hc13d h=>?_) fun hc13 hc13d h=>?_
 .obtain⟨x24,hb14,hx15,h⟩:=aQ h;refine z2 ?_;refine cDs h (fun hc16 hc16d h=>?_) fun hc16 hc16d h=>?_
  .refine z2 ?_;refine⟨_,cZ _,(l13,IntKind.i64.wrap (v14+1)),?_,h⟩;exact wR
  have hx18:=fE (y:=(Txn.mk x24.ID x24.Born x24.Client x24.Seq x24.Calls (IntKind.i64.wrap (x24.Done+1)) x24.Last)) hx15;refine z1 (k4 hb14 hx15 hc16d (mm2 (row:=Txn.row) (y:=(Txn.mk x24.ID x24.Born x24.Client x24.Seq x24.Calls (IntKind.i64.wrap (x24.Done+1)) x24.Last)) (rx:=[vI x24.ID,vI x24.Born,vS x24.Client,vI x24.Seq,sF 4 (x24.Calls.map ah.row),vI x24.Done,vI x24.Last.Kind,vI x24.Last.N,vS x24.Last.S,sF 1 (x24.Last.I.map (aA .i64)),sF 1 (x24.Last.L.map dA)]) (ry:=[vI x24.ID,vI x24.Born,vS x24.Client,vI x24.Seq,sF 4 (x24.Calls.map ah.row),vI (IntKind.i64.wrap (x24.Done+1)),vI x24.Last.Kind,vI x24.Last.N,vS x24.Last.S,sF 1 (x24.Last.I.map (aA .i64)),sF 1 (x24.Last.L.map dA)]) hx15 rfl rfl)) ?_;obtain⟨r25,hr19,h⟩:=bI h;have hx21:=fE (y:=(Txn.mk x24.ID x24.Born x24.Client x24.Seq x24.Calls (IntKind.i64.wrap (x24.Done+1)) r25)) hx15;refine d1 (k4 hb14 hx18 hr19 (mm3 (row:=Txn.row) (y0:=(Txn.mk x24.ID x24.Born x24.Client x24.Seq x24.Calls (IntKind.i64.wrap (x24.Done+1)) x24.Last)) (y:=(Txn.mk x24.ID x24.Born x24.Client x24.Seq x24.Calls (IntKind.i64.wrap (x24.Done+1)) r25)) (rx:=[vI x24.ID,vI x24.Born,vS x24.Client,vI x24.Seq,sF 4 (x24.Calls.map ah.row),vI (IntKind.i64.wrap (x24.Done+1)),vI x24.Last.Kind,vI x24.Last.N,vS x24.Last.S,sF 1 (x24.Last.I.map (aA .i64)),sF 1 (x24.Last.L.map dA)]) (ry:=[vI x24.ID,vI x24.Born,vS x24.Client,vI x24.Seq,sF 4 (x24.Calls.map ah.row),vI (IntKind.i64.wrap (x24.Done+1)),vI r25.Kind,vI r25.N,vS r25.S,sF 1 (r25.I.map (aA .i64)),sF 1 (r25.L.map dA)]) hx15 rfl rfl)) ?_;refine z0 ?_;refine⟨_,cZ _,((l13.set ((v14).toNat) (Txn.mk x24.ID x24.Born x24.Client x24.Seq x24.Calls (IntKind.i64.wrap (x24.Done+1)) r25)),IntKind.i64.wrap (v14+1)),?_,h⟩;exact wR
 unfold GQ at h;refine z2 ?_;apply aS (fun(v34:Int)=>⟨tab 177 (af (af (af (af (af (af au 1 (vI a1)) 2 (sF 5 (a2.map Value.row))) 4 (pF 4)) 8 (pF 8)) 10 (pF 10)) 13 (vI v34)),(upd (upd (upd RZ 4 (vA 3 [sO 11 (l13.map Txn.row),sO 4 (r15.Locks.map ai.row),sO 3 (r15.Stacks.map aa.rowD)])) 8 (vA 3 [.val (.slice none 0 0),.val (.slice none 0 0),.val (.slice none 0 0)])) 10 (vA 4 (ah.row r13.1)))⟩)
 .intro hJ22;refine lC 4 2 (fun(v23:Nat) (b:Unit)=>⟨tab 177 (af (af (af (af (af (af au 1 (vI a1)) 2 (sF 5 (a2.map Value.row))) 4 (pF 4)) 8 (pF 8)) 10 (pF 10)) 13 (vI (v23:Int))),(upd (upd (upd RZ 4 (vA 3 [sO 11 (l13.map Txn.row),sO 4 (r15.Locks.map ai.row),sO 3 (r15.Stacks.map aa.rowD)])) 8 (vA 3 [.val (.slice none 0 0),.val (.slice none 0 0),.val (.slice none 0 0)])) 10 (vA 4 (ah.row r13.1)))⟩) () h ?_ ?_
  .rintro v23 ⟨⟩ hi25' h;simp only[mF]at h;refine d2 ?_;refine cf ?_;refine eV (pp (hJ22 _ (v23:Int) ?_ h));exact wR
  rintro v23 ⟨⟩ x27 hi25' hx26 hw27 h;simp only[mF]at h;obtain⟨r35,hr29,h⟩:=bI h;refine d2 ?_;refine cB h (fun hc30 h=>?_) fun hc30 h=>?_
  .refine z2 ?_;refine⟨hi25',(),?_,h⟩;exact wR
  refine eV (pp (hJ22 _ (v23:Int) ?_ h));exact wR
 intro v34 h;unfold s5 at h;refine aN ?_;apply aS (fun(c37:Bool)=>⟨tab 177 (af (af (af (af (af (af (af au 1 (vI a1)) 2 (sF 5 (a2.map Value.row))) 4 (pF 4)) 8 (pF 8)) 10 (pF 10)) 13 (vI v34)) 113 (vB c37)),(upd (upd (upd RZ 4 (vA 3 [sO 11 (l13.map Txn.row),sO 4 (r15.Locks.map ai.row),sO 3 (r15.Stacks.map aa.rowD)])) 8 (vA 3 [.val (.slice none 0 0),.val (.slice none 0 0),.val (.slice none 0 0)])) 10 (vA 4 (ah.row r13.1)))⟩)
 .intro hJ31;refine o5 fun Z hZ=>?_;simp only[go_sem,seval];repeat with_reducible refine mj oZc ?_
  refine jx rfl (fun hc32=>?_) (fun hc32=>?_)
  .have hc32d:=decide_eq_true hc32;rw[if_pos hc32]at h;simp only[go_sem,seval,hc32d];exact hZ _ oZc (pp (hJ31 _ true wR h))
  have hc32d:=decide_eq_false hc32;rw[if_neg hc32]at h;obtain⟨x38,hb33,hx34,h⟩:=aQ h;simp only[go_sem,seval,hc32d,hb33,hx34];exact hZ _ oZc (pp (hJ31 _ (!(sEq x38.Actor.Type_ r13.1.Target.Type_&&sEq x38.Actor.Key r13.1.Target.Key)) wR h))
 intro c37 h;unfold qg at h;refine cBs h (fun hc35 h=>?_) fun hc35 h=>?_
 .obtain⟨x46,hb59,hx60,h⟩:=aQ h;obtain⟨r47,hr61,h⟩:=bI h;refine z2 ?_;apply IE (fun(l49:List aa) (v50:Int)=>⟨tab 177 (af (af (af (af (af au 2 (sF 5 (a2.map Value.row))) 4 (pF 4)) 8 (pF 8)) 13 (vI v34)) 15 (vI v50)),(upd (upd RZ 4 (vA 3 [sO 11 (l13.map Txn.row),sO 4 (r15.Locks.map ai.row),sO 3 (l49.map aa.rowD)])) 8 (vA 3 [.val (.slice none 0 0),.val (.slice none 0 0),.val (.slice none 0 0)]))⟩)
  .intro hJ62;refine z0 ?_;refine cDs h (fun hc63 hc63d h=>?_) fun hc63 hc63d h=>?_
   .refine bm (pp (hJ62 _ r15.Stacks r47 ?_ h));exact wR
   refine z2 ?_;refine qy [0,1,2,3,4,5,6,7,8,9] [10,11,12] [] [13,14,15] [4] oZc fun Z hZ Y hY=>?_;simp only[go_sem,seval,hb59,hx60];refine hY _ oZc (du oZc fun Y hY=>?_);simp only[go_sem,seval];refine hY _ oZc (du oZc fun Y hY=>?_);simp only[go_sem,seval];refine hY _ oZc (du (by simp only[go_sem,seval,BT,nR,aiS,nM,SJ,PA,XE,Option.isNone,nK];try rfl) fun Y hY=>?_);obtain⟨ha64,h⟩:=bq h;simp only[cn,cw,cy,Nat.reduceAdd]at ha64;simp only[go_sem,seval,hx60,ha64,Ui (row:=aa.rowD) (rx:=[vS x46.Actor.Type_,vS x46.Actor.Key,sO 3 (x46.Layers.map aj.row)]) hx60 rfl rfl];refine hY _ oZc (Tx ?_);simp only[go_sem,seval,hb59,rL (row:=aa.rowD) _ hx60,uM (row:=aa.rowD) hx60 rfl];refine hZ _ (pp (eU (Dq 4 [(0,2),((v34).toNat,2),(x46.Layers.length,1)] 5 (by simp only[go_sem,seval,rL (row:=aa.rowD) _ hx60,UA]) (by simp only[go_sem,seval,uM (row:=aa.rowD) hx60 rfl,U7];try rfl)) (hJ62 _ (r15.Stacks.set ((v34).toNat) (aa.mk x46.Actor (x46.Layers++[(aj.mk a1 [] false)]))) (x46.Layers.length:Int) ?_ h)));refine aM.trans (tE (n:=4) (c':=vA 3 [sO 11 (l13.map Txn.row),sO 4 (r15.Locks.map ai.row),sO 3 ((r15.Stacks.set ((v34).toNat) (aa.mk x46.Actor (x46.Layers++[(aj.mk a1 [] false)]))).map aa.rowD)]) oZa (by first|(simp only[iv (row:=aa.rowD) (l:=r15.Stacks) (i:=((v34).toNat)) (y:=(aa.mk x46.Actor (x46.Layers++[(aj.mk a1 [] false)]))) (rc:=[vS x46.Actor.Type_,vS x46.Actor.Key,sO 3 ((x46.Layers++[(aj.mk a1 [] false)]).map aj.row)]) rfl];done)|(simp only[iv (row:=aa.rowD) (l:=r15.Stacks) (i:=((v34).toNat)) (y:=(aa.mk x46.Actor (x46.Layers++[(aj.mk a1 [] false)]))) (rc:=[vS x46.Actor.Type_,vS x46.Actor.Key,sO 3 ((x46.Layers++[(aj.mk a1 [] false)]).map aj.row)]) rfl,cW,hC,nA]<;>rfl)|(rw[<-iv (row:=aa.rowD) (l:=r15.Stacks) (i:=((v34).toNat)) (y:=(aa.mk x46.Actor (x46.Layers++[(aj.mk a1 [] false)]))) (rc:=[vS x46.Actor.Type_,vS x46.Actor.Key,sO 3 ((x46.Layers++[(aj.mk a1 [] false)]).map aj.row)]) rfl];simp only[cW,hC,nA]<;>rfl))) (aM.trans (tu (n:=161) ([[vI a1,sF 5 [],vB false]]) (by(try simp only[go_sem]);rfl) oZa (by simp only[fg,ek,go_sem];rfl)) ?_)
   exact wR
  intro l49 v50 h;unfold zy at h;obtain⟨x51,hb65,hx66,h⟩:=aQ h;obtain⟨r52,hr67,h⟩:=bI h;obtain⟨x53,hb68,hx69,h⟩:=aQ h;have hx71:=fE (y:=(aj.mk x53.Txn_ r52 x53.Prepared)) hx69;refine d1 (k5 hb59 hb65 hx66 hr67 (k4 hb68 hx69 (mm2 (row:=aj.row) (y:=(aj.mk x53.Txn_ r52 x53.Prepared)) (rx:=[vI x53.Txn_,sF 5 (x53.Fields.map Value.row),vB x53.Prepared]) (ry:=[vI x53.Txn_,sF 5 (r52.map Value.row),vB x53.Prepared]) hx69 rfl rfl) (ov1 (row:=aa.rowD) (rx:=[vS x51.Actor.Type_,vS x51.Actor.Key,sO 3 (x51.Layers.map aj.row)]) hx66 rfl))) ?_;refine aN ?_;refine eU (tE (n:=4) (c':=vA 3 [sO 11 (l13.map Txn.row),sO 4 (r15.Locks.map ai.row),sO 3 ((l49.set ((v34).toNat) (aa.mk x51.Actor (x51.Layers.set ((v50).toNat) (aj.mk x53.Txn_ r52 x53.Prepared)))).map aa.rowD)]) oZa (by first|(simp only[iv (row:=aa.rowD) (l:=l49) (i:=((v34).toNat)) (y:=(aa.mk x51.Actor (x51.Layers.set ((v50).toNat) (aj.mk x53.Txn_ r52 x53.Prepared)))) (rc:=[vS x51.Actor.Type_,vS x51.Actor.Key,sO 3 ((x51.Layers.set ((v50).toNat) (aj.mk x53.Txn_ r52 x53.Prepared)).map aj.row)]) rfl];done)|(simp only[iv (row:=aa.rowD) (l:=l49) (i:=((v34).toNat)) (y:=(aa.mk x51.Actor (x51.Layers.set ((v50).toNat) (aj.mk x53.Txn_ r52 x53.Prepared)))) (rc:=[vS x51.Actor.Type_,vS x51.Actor.Key,sO 3 ((x51.Layers.set ((v50).toNat) (aj.mk x53.Txn_ r52 x53.Prepared)).map aj.row)]) rfl,cW,hC,nA]<;>rfl)|(rw[<-iv (row:=aa.rowD) (l:=l49) (i:=((v34).toNat)) (y:=(aa.mk x51.Actor (x51.Layers.set ((v50).toNat) (aj.mk x53.Txn_ r52 x53.Prepared)))) (rc:=[vS x51.Actor.Type_,vS x51.Actor.Key,sO 3 ((x51.Layers.set ((v50).toNat) (aj.mk x53.Txn_ r52 x53.Prepared)).map aj.row)]) rfl];simp only[cW,hC,nA]<;>rfl))) (z0 ?_)
  exact f0 h
 refine aN (eU (Qn aa.rowD aa.row 4 [(0,2)] r15.Stacks oZa (by simp only[fg,ek,go_sem,seval];rfl) oZa) ?_);obtain⟨hs36,h⟩:=fC h;try simp only[cu]at hs36 h
 obtain⟨ha37,h⟩:=AK h;simp only[Nat.reduceAdd]at ha37;refine z2 ?_;refine qy [0,1,2,3,5,6,10] [4,7,8] [[7,4,8],[7,8,4]] [9,11,12,13] [] oZc fun Z hZ Y hY=>?_;simp only[go_sem,seval];refine hY _ oZc (du oZc fun Y hY=>?_);obtain⟨hs38,ht39,h⟩:=Ii h;try simp only[cu]at hs38 ht39 h
 simp only[go_sem,seval,hs36,cR,cQ,ck];refine hY _ oZc (du oZc fun Y hY=>?_);simp only[go_sem,seval];refine hY _ oZc (du oZc fun Y hY=>?_);simp only[go_sem,seval,ck];refine hY _ oZc (Fo (sC:=⟨tab 177 (af (af (af (af (af (af (af (af au 1 (vI a1)) 2 (sF 5 (a2.map Value.row))) 4 (pF 4)) 8 (pF 8)) 13 (vI v34)) 124 (.pal 4 [(0,2)] 0 ((v34).toNat) (some ((v34).toNat)))) 128 (.pal 128 [] 0 ([(aa.mk r13.1.Target [])].length) none)) 130 (.pal 119 [] 0 (((r15.Stacks.drop ((v34).toNat)).take (r15.Stacks.length -(v34).toNat)).length) none)),(upd (upd (upd (upd (upd RZ 4 (vA 3 [sO 11 (l13.map Txn.row),sO 4 (r15.Locks.map ai.row),sO 3 (r15.Stacks.map aa.row)])) 8 (vA 3 [.val (.slice none 0 0),.val (.slice none 0 0),.val (.slice none 0 0)])) 10 (vA 4 (ah.row r13.1))) 119 (sO 3 (((r15.Stacks.drop ((v34).toNat)).take (r15.Stacks.length -(v34).toNat)).map aa.row))) 128 (.sl true none 3 (some 1) ([[vS r13.1.Target.Type_,vS r13.1.Target.Key,.val (.slice none 0 0)]])))⟩) wP hT ?_);obtain⟨ha40,h⟩:=bq h;simp only[cn,cw,cy,Nat.reduceAdd]at ha40;obtain⟨ha41,h⟩:=bq h;simp only[nc,cn,cw,cy,Nat.reduceAdd]at ha41;obtain⟨lq42,hL43⟩:∃L,L=(((r15.Stacks.take ((v34).toNat))++[(aa.mk r13.1.Target [])])++((r15.Stacks.drop ((v34).toNat)).take (r15.Stacks.length -(v34).toNat))):=⟨_,rfl⟩;rw[<-hL43]at h;have hi44:(r15.Stacks.take ((v34).toNat)).length=(v34).toNat:=by first|assumption|(simp only[nC];omega)
 have hx45:=ins_getL hL43 hi44;simp only[go_sem,seval,ha40,ha41,ins_openL (row:=aa.row) (r:=[vS r13.1.Target.Type_,vS r13.1.Target.Key,.val (.slice none 0 0)]) hL43 hi44];refine hZ _ (pp (eU (yB 4 [(0,2),((v34).toNat,2)] 3 (by simp only[go_sem,seval,rL (row:=aa.row) _ hx45]) (by simp only[go_sem,seval,uM (row:=aa.row) hx45 rfl];try rfl)) (aN ?_)));obtain⟨x39,hb46,hx47,h⟩:=aQ h;obtain⟨r40,hr48,h⟩:=bI h;refine z1 (k5 hs36 @ck (ov2 (row:=aa.row) hx45) hb46 hr48) ?_;apply IE (fun(l41:List aj) (v42:Int)=>⟨tab 177 (af (af (af (af (af au 2 (sF 5 (a2.map Value.row))) 4 (pF 4)) 8 (pF 8)) 13 (vI v34)) 15 (vI v42)),(upd (upd RZ 4 (vA 3 [sO 11 (l13.map Txn.row),sO 4 (r15.Locks.map ai.row),sO 3 ((lq42.map aa.row).set ((v34).toNat) [vS r13.1.Target.Type_,vS r13.1.Target.Key,sO 3 (l41.map aj.row)])])) 8 (vA 3 [.val (.slice none 0 0),.val (.slice none 0 0),.val (.slice none 0 0)]))⟩)
 .intro hJ49;refine z0 ?_;refine cDs h (fun hc50 hc50d h=>?_) fun hc50 hc50d h=>?_
  .refine bm (pp (hJ49 _ [] r40 ?_ h));exact wR
  refine z1 (k5 hs36 @ck (ov2 (row:=aa.row) hx45) hb46 hc50d) ?_;refine qy [0,1,2,3,4,5,6,7,8,9] [10,11,12] [] [13,14,15] [4] oZc fun Z hZ Y hY=>?_;simp only[go_sem,seval,hs36,ck,rL (row:=aa.row) _ hx45,hb46];refine hY _ oZc (du oZc fun Y hY=>?_);simp only[go_sem,seval];refine hY _ oZc (du oZc fun Y hY=>?_);simp only[go_sem,seval,ck];refine hY _ oZc (du (by simp only[go_sem,seval,BT,nR,aiS,nM,SJ,PA,XE,Option.isNone,nK];try rfl) fun Y hY=>?_);obtain⟨ha51,h⟩:=AK h;simp only[cn,cw,cy,Nat.reduceAdd]at ha51;simp only[go_sem,seval,rL (row:=aa.row) _ hx45,uM (row:=aa.row) hx45 rfl,ha51];refine hY _ oZc (Tx ?_);simp only[go_sem,seval,hs36,rL (row:=aa.row) _ hx45,uM (row:=aa.row) hx45 rfl,hb46];refine hZ _ (pp (eU (Dq 4 [(0,2),((v34).toNat,2),(0,1)] 5 (by simp only[go_sem,seval,rL (row:=aa.row) _ hx45]) (by simp only[go_sem,seval,uM (row:=aa.row) hx45 rfl];try rfl)) (hJ49 _ [(aj.mk a1 [] false)] 0 ?_ h)));refine aM.trans (tu (n:=161) ([[vI a1,sF 5 [],vB false]]) (by(try simp only[go_sem]);rfl) oZa (by simp only[fg,ek,go_sem];rfl)) ?_;exact wR
 intro l41 v42 h;unfold CS at h;obtain⟨x43,hb52,hx53,h⟩:=aQ h;obtain rfl:=W3 hx47 hx53;obtain⟨r44,hr54,h⟩:=bI h;obtain⟨x45,hb55,hx56,h⟩:=aQ h;have hx58:=fE (y:=(aj.mk x45.Txn_ r44 x45.Prepared)) hx56;refine d1 (k5 hs36 @ck (ov2 (row:=aa.row) hx45) (ov3 (row:=aa.row) hx45) (k5 hb46 hr54 hb55 hx56 (mm2 (row:=aj.row) (y:=(aj.mk x45.Txn_ r44 x45.Prepared)) (rx:=[vI x45.Txn_,sF 5 (x45.Fields.map Value.row),vB x45.Prepared]) (ry:=[vI x45.Txn_,sF 5 (r44.map Value.row),vB x45.Prepared]) hx56 rfl rfl))) ?_;refine aN ?_;refine eU (weak_foldQ 4 [(0,2)] lq42 ((v34).toNat) (aa.mk r13.1.Target (l41.set ((v42).toNat) (aj.mk x45.Txn_ r44 x45.Prepared))) (rz:=[vS r13.1.Target.Type_,vS r13.1.Target.Key,sF 3 ((l41.set ((v42).toNat) (aj.mk x45.Txn_ r44 x45.Prepared)).map aj.row)]) oZa rfl (by simp only[fg,ek,go_sem,seval];rfl) (c':=vA 3 [sO 11 (l13.map Txn.row),sO 4 (r15.Locks.map ai.row),sO 3 ((lq42.set ((v34).toNat) (aa.mk r13.1.Target (l41.set ((v42).toNat) (aj.mk x45.Txn_ r44 x45.Prepared)))).map aa.row)]) (by simp only[go_sem,seval]<;>rfl)) (z1 @ck ?_)
 exact f1 @ck h
@[go_sem] def Rm(N:Nat):FnS:=⟨[],false,fn3 (aD 4 ai.dec) Ref.decA (aC .i64) fun q0 q1 q2=>(CM N q0 q1 q2).map fun r=>.tup [sF 4 (r.1.map ai.row),vI r.2.1,vI r.2.2],false⟩
def NP(N:Nat):ar prog 160 (Rm N):=om3 fun _ _ _ _ h=>by
 refine fk func160 (gc 14 (il N) (gc 18 (qv N) (gc 23 (B5 N) (gc 29 (tv N) (gc 46 (H9 N) gn))))) ?_;simp only[f160];exact go
@[go_sem] def Ib(N:Nat):FnS:=⟨[],false,fn3 ae.decA (aC .i64) Ref.decA fun q0 q1 q2=>(mJ N q0 q1 q2).map fun r=>.tup [.agg (ae.row r.1),vI r.2],false⟩
def NC(N:Nat):ar prog 89 (Ib N):=om3 fun a0 a1 a2 _ h=>by
 refine fk func89 (gc 16 (fT N) (gc 22 (js N) (gc 29 (lX N) (gc 31 (Jg N) (gc 43 (vJ N) (gc 66 (eX N) (gc 92 (NP N) gn))))))) ?_;simp only[f89];unfold mJ at h;refine z0 ?_;obtain⟨r1,hr1,h⟩:=bI h;refine z2 ?_;refine cM h (fun hc2 h=>?_) fun hc2 h=>?_
 .exact go
 obtain⟨r2,hr3,h⟩:=bI h;refine z2 ?_;refine aN ?_;apply aS (fun(c9:Bool)=>⟨tab 99 (af (af (af (af (af (af au 1 (vI a1)) 3 (pF 3)) 5 (pF 5)) 6 (pF 6)) 8 (pF 8)) 33 (vB c9)),(upd (upd (upd (upd RZ 3 (vA 3 (ae.row a0))) 5 (vA 2 [vS a2.Type_,vS a2.Key])) 6 (vA 3 [.val (.slice none 0 0),.val (.slice none 0 0),.val (.slice none 0 0)])) 8 (vA 11 (Txn.row r2.1)))⟩)
 .intro hJ4;refine iBs h (fun hc5 h=>?_) fun hc5 h=>?_
  .have hJ:=hJ4;exact go
  have hJ:=hJ4;exact go
 intro c9 h;unfold ju at h;refine cB h (fun hc8 h=>?_) fun hc8 h=>?_
 .exact go
 unfold om at h;refine z2 ?_;refine cD h (fun hc9 hc9d h=>?_) fun hc9 hc9d h=>?_
 .exact go
 obtain⟨r12,hr10,h⟩:=bI h;refine z2 ?_;refine z0 ?_;refine aK (dw (fun(b:List aa×Int)=>⟨tab 99 (af (af (af (af (af au 1 (vI a1)) 3 (pF 3)) 5 (pF 5)) 6 (pF 6)) 10 (vI b.2)),(upd (upd (upd RZ 3 (vA 3 [sO 11 (r12.Txns.map Txn.row),sO 4 (r12.Locks.map ai.row),sO 3 (b.1.map aa.rowD)])) 5 (vA 2 [vS a2.Type_,vS a2.Key])) 6 (vA 3 [.val (.slice none 0 0),.val (.slice none 0 0),.val (.slice none 0 0)]))⟩) (r12.Stacks,0) h ?_ ?_)
 .exact wR
 rintro n ⟨l12,v13⟩ h -;cases n with
 | zero=>simp[dY]at h
 | succ n=>
 simp only[dY]at h;refine z0 ?_;refine cDs h (fun hc11 hc11d h=>?_) fun hc11 hc11d h=>?_
 .refine eV (pp ?_);unfold rM at h;refine aN (eU (MO (n:=3) oZa (by simp only[fg,ek,go_sem];rfl)) ?_);exact go
 obtain⟨x24,hb12,hx13,h⟩:=aQ h;refine d2 ?_;refine cM h (fun hc14 h=>?_) fun hc14 h=>?_
 .exact go
 obtain⟨r25,hr15,h⟩:=bI h;refine z2 ?_;obtain⟨x26,hb16,hx17,h⟩:=aQ h;refine z2 ?_;refine cB h (fun hc18 h=>?_) fun hc18 h=>?_
 .exact go
 have hx20:=fE (y:=(aj.mk x26.Txn_ x26.Fields true)) hx17;refine z1 (k5 hb12 hx13 hb16 hx17 (k3 hc18 (mm2 (row:=aj.row) (y:=(aj.mk x26.Txn_ x26.Fields true)) (rx:=[vI x26.Txn_,sF 5 (x26.Fields.map Value.row),vB x26.Prepared]) (ry:=[vI x26.Txn_,sF 5 (x26.Fields.map Value.row),vB true]) hx17 rfl rfl) (ov1 (row:=aa.rowD) (rx:=[vS x24.Actor.Type_,vS x24.Actor.Key,sO 3 (x24.Layers.map aj.row)]) hx13 rfl))) ?_;refine z0 ?_;refine⟨_,cZ _,((l12.set ((v13).toNat) (aa.mk x24.Actor (x24.Layers.set ((r25).toNat) (aj.mk x26.Txn_ x26.Fields true)))),IntKind.i64.wrap (v13+1)),?_,h⟩;refine aM.trans (tE (n:=3) (c':=vA 3 [sO 11 (r12.Txns.map Txn.row),sO 4 (r12.Locks.map ai.row),sO 3 ((l12.set ((v13).toNat) (aa.mk x24.Actor (x24.Layers.set ((r25).toNat) (aj.mk x26.Txn_ x26.Fields true)))).map aa.rowD)]) oZa (by first|(simp only[iv (row:=aa.rowD) (l:=l12) (i:=((v13).toNat)) (y:=(aa.mk x24.Actor (x24.Layers.set ((r25).toNat) (aj.mk x26.Txn_ x26.Fields true)))) (rc:=[vS x24.Actor.Type_,vS x24.Actor.Key,sO 3 ((x24.Layers.set ((r25).toNat) (aj.mk x26.Txn_ x26.Fields true)).map aj.row)]) rfl];done)|(simp only[iv (row:=aa.rowD) (l:=l12) (i:=((v13).toNat)) (y:=(aa.mk x24.Actor (x24.Layers.set ((r25).toNat) (aj.mk x26.Txn_ x26.Fields true)))) (rc:=[vS x24.Actor.Type_,vS x24.Actor.Key,sO 3 ((x24.Layers.set ((r25).toNat) (aj.mk x26.Txn_ x26.Fields true)).map aj.row)]) rfl,cW,hC,nA]<;>rfl)|(rw[<-iv (row:=aa.rowD) (l:=l12) (i:=((v13).toNat)) (y:=(aa.mk x24.Actor (x24.Layers.set ((r25).toNat) (aj.mk x26.Txn_ x26.Fields true)))) (rc:=[vS x24.Actor.Type_,vS x24.Actor.Key,sO 3 ((x24.Layers.set ((r25).toNat) (aj.mk x26.Txn_ x26.Fields true)).map aj.row)]) rfl];simp only[cW,hC,nA]<;>rfl))) ?_
 exact wR
@[go_sem] def Td(N:Nat):FnS:=⟨[],true,fn2 ae.decA Txn.decA fun q0 q1=>(Cu N q0 q1).map fun r=>vB r,false⟩
def P8(N:Nat):ar prog 165 (Td N):=om2 fun a0 a1 _ h=>by
 refine fk func165 (gc 28 (eX N) gn) ?_;simp only[f165];unfold Cu at h;refine z0 ?_;refine z0 ?_;refine cD h (fun hc1 hc1d h=>?_) fun hc1 hc1d h=>?_
 .exact go
 refine z1 hc1d ?_;refine lC 2 2 (fun(v3:Nat) (b:Unit)=>⟨tab 47 (af (af (af au 2 (pF 2)) 3 (pF 3)) 5 (vI (v3:Int))),(upd (upd RZ 2 (vA 3 (ae.row a0))) 3 (vA 11 (Txn.row a1)))⟩) () h ?_ ?_
 .exact go
 rintro v3 ⟨⟩ x6 hi4' hx5 hw6 h;simp only[kP]at h;refine z1 hi4' ?_;refine ct ?_;obtain⟨r1,hr8,h⟩:=bI h;refine d1 (k3 hx5 hi4' hr8) ?_;apply aS (fun(c3:Bool)=>⟨tab 47 (af (af (af (af au 2 (pF 2)) 3 (pF 3)) 5 (vI (v3:Int))) 46 (vB c3)),(upd (upd RZ 2 (vA 3 (ae.row a0))) 3 (vA 11 (Txn.row a1)))⟩)
 .intro hJ9;refine iD h (fun hc10 hc10d h=>?_) fun hc10 hc10d h=>?_
  .have hJ:=hJ9;exact go
  refine iDs h (fun hc11 hc11d h=>?_) fun hc11 hc11d h=>?_
  .have hJ:=hJ9;exact go
  obtain⟨x4,hb12,hx13,h⟩:=aQ h;try simp only[nE]at hx13
  have hJ:=hJ9;exact go
 exact go
@[go_sem] def HZ(N:Nat):FnS:=⟨[],false,fn1 ae.decA fun q0=>(zr N q0).map fun r=>.tup [.agg (ae.row r.1),sF 9 (r.2.map aB.row)],false⟩
def NB(N:Nat):ar prog 91 (HZ N):=om1 fun _ _ h=>by
 refine fk func91 (gc 11 (fT N) (gc 15 (QA N) (gc 28 (P8 N) (gc 40 (wQ N) (gc 57 (eX N) (gc 78 (oK N) (gc 91 (IG N) gn))))))) ?_;simp only[f91];unfold zr at h;refine z0 ?_;obtain⟨r1,hr1,h⟩:=bI h;refine z2 ?_;refine cM h (fun hc2 h=>?_) fun hc2 h=>?_
 .exact go
 obtain⟨r2,hr3,h⟩:=bI h;refine z2 ?_;refine z0 ?_;refine z0 ?_;refine aK (dw (fun(b:List Txn×List ai×List aa×List aB×Int)=>⟨tab 94 (af (af (af (af au 1 (pF 1)) 2 (pF 2)) 4 (.pal 86 [] 0 b.2.2.2.1.length none)) 5 (vI b.2.2.2.2)),(upd (upd (upd RZ 1 (vA 3 [sF 11 (b.1.map Txn.row),sF 4 (b.2.1.map ai.row),sF 3 (b.2.2.1.map aa.row)])) 2 (vA 3 [.val (.slice none 0 0),.val (.slice none 0 0),.val (.slice none 0 0)])) 86 (sO 9 (b.2.2.2.1.map aB.row)))⟩) (r2.Txns,r2.Locks,r2.Stacks,[],0) h ?_ ?_)
 .refine aM.trans (fm 4 86 9 oZb oZb) ?_;exact w2
 rintro n ⟨l5,l6,l7,l8,v9⟩ h -;cases n with
 | zero=>simp[dX]at h
 | succ n=>
 simp only[dX]at h;refine z0 ?_;refine cDs h (fun hc4 hc4d h=>?_) fun hc4 hc4d h=>?_
 .exact go
 obtain⟨x3,hb5,hx6,h⟩:=aQ h;refine z2 ?_;obtain⟨r4,hr7,h⟩:=bI h;refine z2 ?_;refine cM h (fun hc8 h=>?_) fun hc8 h=>?_
 .refine z2 ?_;refine eV (pp (⟨_,cZ _,(l5,l6,l7,l8,IntKind.i64.wrap (v9+1)),?_,h⟩));exact w2
 obtain⟨r5,hr9,h⟩:=bI h;refine d2 ?_;refine z0 ?_;refine aK (dc fun hreal11=>?_);have hl10:=hreal11.cell 1 2 oZa rfl;rw[cr]at hl10;refine fb (fun(v18:Nat) (b:List aP)=>⟨tab 94 (af (af (af (af (af (af au 1 (pF 1)) 2 (pF 2)) 4 (.pal 86 [] 0 l8.length none)) 6 (pF 6)) 7 (pF 7)) 8 (vI (v18:Int))),(upd (upd (upd (upd (upd RZ 1 (vA 3 [sF 11 (l5.map Txn.row),sF 4 (l6.map ai.row),sF 3 (l7.map aa.row)])) 2 (vA 3 [.val (.slice none 0 0),.val (.slice none 0 0),.val (.slice none 0 0)])) 6 (vA 11 (Txn.row x3))) 7 (vA 9 [vI x3.ID,vS x3.Client,vI x3.Seq,vI r5.Kind,vI r5.N,vS r5.S,sF 1 (r5.I.map (aA .i64)),sF 1 (r5.L.map dA),sO 3 (b.map aP.row)])) 86 (sO 9 (l8.map aB.row)))⟩) [] h ?_ ?_
 .refine aM.trans (yB 7 [(0,8)] 3 oZb (by simp only[go_sem,seval];try rfl)) ?_;exact w2
 rintro v18 l17 hi12 h -;rcases(dj l7 v18 hi12).symm with⟨hi12',_,hd15⟩|⟨x21,hi12',hx13,hd15⟩
 .rw[hd15]at h;simp only[jr]at h;refine z2 ?_;refine cf ?_;refine eV (pp ?_);unfold zf at h;refine aN (eU (MO (n:=7) oZa (by simp only[fg,ek,go_sem];rfl)) ?_);obtain⟨ha22,h⟩:=bq h;simp only[cn,cw,cy,Nat.reduceAdd]at ha22;refine z2 ?_;obtain⟨r24,hr23,h⟩:=bI h;refine z2 ?_;refine z0 ?_;refine⟨_,cZ _,(r24.Txns,r24.Locks,r24.Stacks,(l8++[(aB.mk x3.ID x3.Client x3.Seq r5 l17)]),0),?_,h⟩;refine wr ?_ ?_<;>repeat' first|rfl|constructor|simp only[go_sem,seval]
 rw[hd15]at h;simp only[jr]at h;have hw14:=bn hi12' hl10;refine z2 ?_;refine ct ?_;obtain⟨r21,hr16,h⟩:=bI h;refine d2 ?_;refine z0 ?_;refine cDs h (fun hc17 hc17d h=>?_) fun hc17 hc17d h=>?_
 .exact go
 obtain⟨x22,hb18,hx19,h⟩:=aQ h;obtain⟨r23,hr20,h⟩:=bI h;obtain⟨ha21,h⟩:=bq h;simp only[cn,cw,cy,Nat.reduceAdd]at ha21;refine d2 ?_;refine z2 ?_;refine⟨hi12',(l17++[(aP.mk x21.Actor r23)]),?_,h⟩;refine wr ?_ ?_<;>repeat' first|rfl|constructor|simp only[go_sem,seval]
@[go_sem] def EU(N:Nat):FnS:=⟨[],true,fn2 (aD 3 aP.dec) (aD 3 aP.dec) fun q0 q1=>(rp N q0 q1).map fun r=>vB r,false⟩
def JS(N:Nat):ar prog 166 (EU N):=om2 fun a0 a1 _ h=>by
 refine fk func166 (gc 39 (o4 N) gn) ?_;simp only[f166];unfold rp at h;have:J1 6 0 [0,1,5] [] (fun f (c3:Bool)=>(af f 41 (.val (.bool c3)))) (fun R _=>R):=⟨⟩;refine z0 ?_;refine z0 ?_;refine cN h (fun hc1 hc1d h=>?_) fun hc1 hc1d h=>?_
 .exact go
 refine z1 hc1d ?_;refine lT 0 (fun(v3:Nat) (b:Unit)=>⟨tab 42 (af (af (af au 0 (sF 3 (a0.map aP.row))) 1 (sF 3 (a1.map aP.row))) 5 (vI (v3:Int))),RZ⟩) () h ?_ ?_
 .rintro v3 ⟨⟩ hi4' h;simp only[iR]at h;refine z1 hi4' ?_;exact go
 rintro v3 ⟨⟩ x6 hi4' hx5 hw6 h;simp only[iR]at h;exact go
def E3(N d f:Nat):Option FnS:=aL [(65,14,Hc N),(79,166,EU N)] d f
attribute [go_sem] E3
def Nq(N:Nat)(a0:List aB)(a1:List aB)(r:Bool)(h:mo N a0 a1=some r):Con prog 92 [] true [.sl false none 9 none (a0.map aB.row),.sl false none 9 none (a1.map aB.row)] (.val (.bool r)):=by
 refine DD (G:=(E3 N)) func92 rfl oZh oZc (gc 65 (ze N) (gc 79 (JS N) gn)) [] mix (cU rfl) ?_;simp only[f92,List.append_eq,nF,cO];unfold mo at h;have:J1 6 0 [0,1,5] [] (fun f (c4:Bool)=>(af f 81 (.val (.bool c4)))) (fun R _=>R):=⟨⟩;refine Ws fun Z hZ=>?_;simp only[go_sem,seval];refine hZ _ (pp (aN (Ws fun Z hZ=>?_)));simp only[go_sem,seval];refine hZ _ (pp (Ig rfl (fun hc1=>?_) (fun hc1=>?_)))
 .have hc1d:=decide_eq_false hc1;rw[if_neg hc1]at h;exact go
 have hc1d:=decide_eq_true hc1;rw[if_pos hc1]at h;refine bm (pp (aN (Ws fun Z hZ=>?_)));simp only[go_sem,seval,hc1d];refine hZ _ (pp (aK (dc fun hreal3=>?_)));have hl2:=hreal3.lenT 0 oZh (by simp only[go_sem,seval,cY,cL,nj,nk,hc1d];rfl);rw[cr]at hl2;refine fb (fun(v3:Nat) (b:Unit)=>⟨tab 82 (af (af (af au 0 (.sl false none 9 none (a0.map aB.row))) 1 (.sl false none 9 none (a1.map aB.row))) 5 (.val (.int .i64 (v3:Int)))),RZ⟩) () h ?_ ?_
 .refine wr ?_ ?_<;>repeat' first|rfl|constructor
 rintro v3 ⟨⟩ hi4 h -;rcases(dj a0 v3 hi4).symm with⟨hi4',_,hd7⟩|⟨x6,hi4',hx5,hd7⟩
 .rw[hd7]at h;exact go
 rw[hd7]at h;simp only[eC]at h;have hw6:=bn hi4' hl2;refine aN (Ws fun Z hZ=>?_);simp only[go_sem,seval,hc1d,hx5,hi4',hw6];exact go
def yH(N:Nat):FnS:=⟨[],true,fn2 (aD 9 aB.dec) (aD 9 aB.dec) fun q0 q1=>(mo N q0 q1).map fun r=>.val (.bool r),false⟩
attribute [go_sem] yH
def I1(N:Nat):ar prog 92 (yH N):=ok2 (fun q0 q1 r h=>by
 obtain⟨r',hr,rfl⟩:=cq.1 h;exact Nq N q0 q1 r' hr) (fun h=>fX aB.dec_le h) (fun h=>fX aB.dec_le h)
@[go_sem] def Tz(N:Nat):FnS:=⟨[],true,fn2 ae.decA (aC .i64) fun q0 q1=>(zO N q0 q1).map fun r=>sF 1 (r.map (aA .i64)),false⟩
def P6(N:Nat):ar prog 35 (Tz N):=om2 fun a0 a1 _ h=>by
 refine fk func35 (gc 9 (gv N) (gc 20 (Gh N) gn)) ?_;simp only[f35];unfold zO at h;refine z0 ?_;obtain⟨r1,hr1,h⟩:=bI h;refine z2 ?_;refine cM h (fun hc2 h=>?_) fun hc2 h=>?_
 .exact go
 refine z2 ?_;refine z0 ?_;refine aK (dc fun hreal4=>?_);have hl3:=hreal4.lenT 12 oZh oZa;rw[cr]at hl3;refine fb (fun(v5:Nat) (b:List Int)=>⟨tab 36 (af (af (af (af (af (af au 1 (vI a1)) 2 (pF 2)) 5 (.pal 33 [] 0 b.length none)) 12 (sF 11 (a0.Txns.map Txn.row))) 13 (vI (a0.Txns.length:Int))) 14 (vI (v5:Int))),(upd (upd RZ 2 (vA 3 (ae.row a0))) 33 (sO 1 (b.map (aA .i64))))⟩) [] h ?_ ?_
 .refine aM.trans (fm 5 33 1 oZb oZb) ?_;exact w2
 rintro v5 l4 hi5 h -;rcases(dj a0.Txns v5 hi5).symm with⟨hi5',_,hd8⟩|⟨x8,hi5',hx6,hd8⟩
 .rw[hd8]at h;exact go
 rw[hd8]at h;simp only[m8]at h;have hw7:=bn hi5' hl3;refine z2 ?_;refine ct ?_;refine z2 ?_;apply aS (fun(c3:Bool)=>⟨tab 36 (af (af (af (af (af (af (af (af au 1 (vI a1)) 2 (pF 2)) 5 (.pal 33 [] 0 l4.length none)) 7 (pF 7)) 12 (sF 11 (a0.Txns.map Txn.row))) 13 (vI (a0.Txns.length:Int))) 14 (vI (v5:Int))) 28 (vB c3)),(upd (upd (upd RZ 2 (vA 3 (ae.row a0))) 7 (vA 11 (Txn.row x8))) 33 (sO 1 (l4.map (aA .i64))))⟩)
 .intro hJ9;obtain⟨r4,hr10,h⟩:=bI h;have hJ:=hJ9;exact go
 intro c3 h;unfold vT at h;refine cBs h (fun hc12 h=>?_) fun hc12 h=>?_
 .exact go
 obtain⟨ha13,h⟩:=bq h;simp only[cn,cw,cy,Nat.reduceAdd]at ha13;refine z2 ?_;refine z2 ?_;refine⟨hi5',(l4++[x8.ID]),?_,h⟩;refine wr ?_ ?_<;>repeat' first|rfl|constructor|simp only[go_sem,seval]
@[go_sem] def Q5(N:Nat):FnS:=⟨[],true,fn2 ae.decA (aC .i64) fun q0 q1=>(zB N q0 q1).map fun r=>sF 1 (r.map (aA .i64)),false⟩
def NS(N:Nat):ar prog 168 (Q5 N):=om2 fun a0 a1 _ h=>by
 refine fk func168 (gc 14 (fT N) (gc 34 (lX N) (gc 46 (po N) (gc 50 (eX N) gn)))) ?_;simp only[f168];unfold zB at h;refine z0 ?_;obtain⟨r1,hr1,h⟩:=bI h;refine z2 ?_;refine cM h (fun hc2 h=>?_) fun hc2 h=>?_
 .exact go
 refine z2 ?_;refine z0 ?_;refine aK (dc fun hreal4=>?_);have hl3:=hreal4.cell 2 0 oZa rfl;rw[cr]at hl3;refine fb (fun(v5:Nat) (b:List Int)=>⟨tab 71 (af (af (af (af au 1 (vI a1)) 2 (pF 2)) 5 (.pal 69 [] 0 b.length none)) 6 (vI (v5:Int))),(upd (upd RZ 2 (vA 3 (ae.row a0))) 69 (sO 1 (b.map (aA .i64))))⟩) [] h ?_ ?_
 .refine aM.trans (fm 5 69 1 oZb oZb) ?_;exact w2
 rintro v5 l4 hi5 h -;rcases(dj a0.Txns v5 hi5).symm with⟨hi5',_,hd8⟩|⟨x8,hi5',hx6,hd8⟩
 .rw[hd8]at h;exact go
 rw[hd8]at h;simp only[kF]at h;have hw7:=bn hi5' hl3;refine z2 ?_;refine ct ?_;refine z2 ?_;refine z0 ?_;refine cD h (fun hc9 hc9d h=>?_) fun hc9 hc9d h=>?_
 .exact go
 obtain⟨r2,hr10,h⟩:=bI h;refine z2 ?_;refine z0 ?_;refine z0 ?_;refine lT 8 (fun(v15:Nat) (b:Bool)=>⟨tab 71 (af (af (af (af (af (af (af (af au 1 (vI a1)) 2 (pF 2)) 5 (.pal 69 [] 0 l4.length none)) 6 (vI (v5:Int))) 7 (pF 7)) 8 (sF 2 (r2.map Ref.row))) 9 (vB b)) 10 (vI (v15:Int))),(upd (upd (upd RZ 2 (vA 3 (ae.row a0))) 7 (vA 11 (Txn.row x8))) 69 (sO 1 (l4.map (aA .i64))))⟩) false h ?_ ?_ (h0:=w2)
 .rintro v15 c14 hi13' h;simp only[fB]at h;refine z2 ?_;refine cf ?_;unfold CW at h;refine z0 ?_;refine cBs h (fun hc23 h=>?_) fun hc23 h=>?_
  .exact go
  obtain⟨ha24,h⟩:=bq h;simp only[cn,cw,cy,Nat.reduceAdd]at ha24;refine z2 ?_;refine z2 ?_;refine⟨hi5',(l4++[x8.ID]),?_,h⟩;refine wr ?_ ?_<;>repeat' first|rfl|constructor|simp only[go_sem,seval]
 rintro v15 c14 x18 hi13' hx14 hw15 h;exact go
@[go_sem] def P7(N:Nat):FnS:=⟨[],true,fn2 (aD 2 Ref.dec) (aD 2 Ref.dec) fun q0 q1=>(yf N q0 q1).map fun r=>vB r,false⟩
def L7(N:Nat):ar prog 169 (P7 N):=om2 fun a0 a1 _ h=>by
 refine fk (G:=(aL [])) func169 gn ?_;simp only[f169];unfold yf at h;refine z0 ?_;refine z0 ?_;refine cN h (fun hc1 hc1d h=>?_) fun hc1 hc1d h=>?_
 .exact go
 refine z1 hc1d ?_;refine lT 0 (fun(v3:Nat) (b:Unit)=>⟨tab 26 (af (af (af au 0 (sF 2 (a0.map Ref.row))) 1 (sF 2 (a1.map Ref.row))) 5 (vI (v3:Int))),RZ⟩) () h ?_ ?_
 .rintro v3 ⟨⟩ hi4' h;simp only[my]at h;refine z1 hi4' ?_;exact go
 rintro v3 ⟨⟩ x6 hi4' hx5 hw6 h;simp only[my]at h;exact go
@[go_sem] def R3(N:Nat):FnS:=⟨[],false,fn3 ae.decA Ref.decA (aD 5 Value.dec) fun q0 q1 q2=>(AE N q0 q1 q2).map fun r=>sF 5 (r.map Value.row),false⟩
def OW(N:Nat):ar prog 170 (R3 N):=om3 fun _ _ _ _ h=>by
 refine fk func170 (gc 10 (po N) (gc 15 (I4 N) gn)) ?_;simp only[f170];exact go
@[go_sem] def KU(N:Nat):FnS:=⟨[],true,fn5 ae.decA (aC .i64) (aC .i64) Ref.decA (aD 5 Value.dec) fun q0 q1 q2 q3 q4=>(Cc N q0 q1 q2 q3 q4).map fun r=>vB r,false⟩
def P9(N:Nat):ar prog 93 (KU N):=om5 fun a0 _ _ a3 a4 _ h=>by
 refine fk func93 (gc 22 (Lf N) (gc 28 (js N) (gc 34 (Ft N) (gc 40 (rm N) (gc 49 (EN N) (gc 60 (Eo N) (gc 66 (P6 N) (gc 69 (NS N) (gc 70 (si N) (gc 74 (gv N) (gc 76 (fT N) (gc 80 (uW N) (gc 82 (lX N) (gc 83 (L7 N) (gc 88 (HT N) (gc 91 (po N) (gc 92 (Ca N) (gc 98 (Io N) (gc 102 (OW N) (gc 103 (o4 N) gn)))))))))))))))))))) ?_;simp only[f93];unfold Cc at h;have:J1 5 0 [4,5,8,11,13] [5,8,11,13] (fun f (c17:Bool)=>(af f 72 (.val (.bool c17)))) (fun R _=>R):=⟨⟩;refine z0 ?_;obtain⟨r1,hr1,h⟩:=bI h;refine z1 hr1 ?_;obtain⟨r2,hr2,h⟩:=bI h;refine z1 hr2 ?_;obtain⟨r3,hr3,h⟩:=bI h;refine z1 hr3 ?_;obtain⟨r4,hr4,h⟩:=bI h;refine z1 hr4 ?_;refine aN ?_;apply aS (fun(c17:Bool)=>⟨tab 105 (af (af (af (af (af (af au 4 (sF 5 (a4.map Value.row))) 5 (pF 5)) 8 (pF 8)) 11 (pF 11)) 13 (pF 13)) 72 (vB c17)),(upd (upd (upd (upd RZ 5 (vA 3 (ae.row a0))) 8 (vA 2 [vS a3.Type_,vS a3.Key])) 11 (vA 11 (Txn.row r1.1))) 13 (vA 11 (Txn.row r2.1)))⟩)
 .intro hJ5;refine o5 fun Z hZ=>?_;simp only[go_sem,seval];refine VB rfl (fun hc6=>?_) (fun hc6=>?_)
  .have hc6d:=decide_eq_false hc6;rw[if_neg hc6]at h;have hJ:=hJ5;exact go
  have hc6d:=decide_eq_true hc6;rw[if_pos hc6]at h;have hJ:=hJ5;exact go
 intro c17 h;unfold oc at h;refine cB h (fun hc15 h=>?_) fun hc15 h=>?_
 .exact go
 refine bm (pp ?_);unfold k7 at h;refine aN ?_;obtain⟨r23,hr16,h⟩:=bI h;obtain⟨r24,hr17,h⟩:=bI h;refine o5 fun Z hZ=>?_;simp only[go_sem,seval,hc15,hr16,hr17];repeat with_reducible refine mj oZc ?_
 refine sw (jx rfl) (fun hc18=>?_) (fun hc18=>?_)
 .have hc18d:=decide_eq_false hc18;rw[if_neg hc18]at h;exact go
 have hc18d:=decide_eq_true hc18;rw[if_pos hc18]at h;obtain⟨r25,hr19,h⟩:=bI h;obtain⟨r26,hr20,h⟩:=bI h;obtain⟨r27,hr21,h⟩:=bI h;simp only[go_sem,seval,hc18d,hr19,hr20,hr21];exact go
@[go_sem] def O5(N d f:Nat):Option FnS:=aL [(56,38,EG N),(66,85,Lo N),(72,25,FO N),(80,86,Nb N),(91,87,jC N),(107,36,CT N),(113,87,jC N),(121,26,FT N),(129,88,Nm N),(136,27,BI N),(143,89,Ib N),(152,87,jC N),(163,87,jC N),(169,20,IM N),(176,90,KF N),(182,28,Fg N),(187,91,HZ N),(196,36,CT N),(202,87,jC N),(208,87,jC N),(214,92,yH N),(222,93,KU N)] d f
def Oj(N:Nat)(a0:ae)(a1:Int)(a2:Int)(a3:ByteArray)(a4:Int)(a5:Ref)(a6:List ah)(a7:List Value)(a8:Value)(r:Bool)(h:mY N a0 a1 a2 a3 a4 a5 a6 a7 a8=some r):Con prog 31 [] true [.agg (ae.row a0),vI a1,vI a2,vS a3,vI a4,.agg [vS a5.Type_,vS a5.Key],sF 4 (a6.map ah.row),sF 5 (a7.map Value.row),.agg (Value.row a8)] (vB r):=by
 refine fk (G:=(O5 N)) func31 (gc 56 (Ag N) (gc 66 (PI N) (gc 72 (BA N) (gc 80 (QM N) (gc 91 (je N) (gc 107 (si N) (gc 113 (je N) (gc 121 (Bd N) (gc 129 (QO N) (gc 136 (vE N) (gc 143 (NC N) (gc 152 (je N) (gc 163 (je N) (gc 169 (z8 N) (gc 176 (Hh N) (gc 182 (BV N) (gc 187 (NB N) (gc 196 (si N) (gc 202 (je N) (gc 208 (je N) (gc 214 (I1 N) (gc 222 (P9 N) gn)))))))))))))))))))))) ?_;simp only[f31];unfold mY at h;have:J1 17 0 [1,2,7,9,14] [9,14] (fun f (c44:Bool)=>(af f 216 (.val (.bool c44)))) (fun R _=>R):=⟨⟩;refine z0 ?_;obtain⟨r1,hr1,h⟩:=bI h;refine z2 ?_;obtain⟨r2,hr2,h⟩:=bI h;refine z2 ?_;obtain⟨r3,hr3,h⟩:=bI h;refine z2 ?_;obtain⟨r4,hr4,h⟩:=bI h;refine z2 ?_;refine aN ?_;apply aS (fun(c13:Bool)=>⟨tab 223 (af (af (af (af (af (af (af au 1 (vI a1)) 2 (vI a2)) 7 (sF 5 (a7.map Value.row))) 9 (pF 9)) 14 (pF 14)) 17 (pF 17)) 115 (vB c13)),(upd (upd (upd RZ 9 (vA 3 (ae.row a0))) 14 (vA 2 [vS a5.Type_,vS a5.Key])) 17 (vA 5 (Value.row a8)))⟩)
 .intro hJ5;refine iDs h (fun hc6 hc6d h=>?_) fun hc6 hc6d h=>?_
  .have hJ:=hJ5;exact go
  have hJ:=hJ5;exact go
 intro c13 h;unfold fO at h;refine cB h (fun hc14 h=>?_) fun hc14 h=>?_
 .exact go
 refine bm (pp ?_);unfold eQ at h;obtain⟨r17,hr15,h⟩:=bI h;refine z2 ?_;obtain⟨r18,hr16,h⟩:=bI h;refine z2 ?_;obtain⟨r19,hr17,h⟩:=bI h;refine z2 ?_;obtain⟨r20,hr18,h⟩:=bI h;refine z2 ?_;refine aN ?_;apply aS (fun(c27:Bool)=>⟨tab 223 (af (af (af (af (af (af au 1 (vI a1)) 2 (vI a2)) 7 (sF 5 (a7.map Value.row))) 9 (pF 9)) 14 (pF 14)) 165 (vB c27)),(upd (upd RZ 9 (vA 3 (ae.row a0))) 14 (vA 2 [vS a5.Type_,vS a5.Key]))⟩)
 .intro hJ19;refine iDs h (fun hc20 hc20d h=>?_) fun hc20 hc20d h=>?_
  .have hJ:=hJ19;exact go
  have hJ:=hJ19;exact go
 exact go
@[go_sem] def ET(N:Nat):FnS:={own:=[],pure:=true,fn:=fun cs=>match cs with
 | [c0,c1,c2,c3,c4,c5,c6,c7,c8]=>(ae.decA c0).bind fun qc0=>((aC .i64) c1).bind fun qc1=>((aC .i64) c2).bind fun qc2=>(bG c3).bind fun qc3=>((aC .i64) c4).bind fun qc4=>(Ref.decA c5).bind fun qc5=>((aD 4 ah.dec) c6).bind fun qc6=>((aD 5 Value.dec) c7).bind fun qc7=>(Value.decA c8).bind fun qc8=>(mY N qc0 qc1 qc2 qc3 qc4 qc5 qc6 qc7 qc8).map fun r=>vB r
 | _=>none}
def Kn(N:Nat):ar prog 31 (ET N):=oz (Oj N)
@[go_sem] def Mw(N d f:Nat):Option FnS:=aL [(8,10,Fp N),(27,11,MZ N),(32,23,HY N),(36,30,KY N),(45,19,Nj N),(58,32,Ef N),(63,33,KN N),(65,34,va N),(72,34,va N),(73,31,ET N)] d f
def DW(N:Nat)(a0:List al)(r:Bool)(h:lz N a0=some r):Con prog 8 [] true [sF 4 (a0.map al.row)] (vB r):=by
 refine fk (G:=(Mw N)) func8 (gc 8 (PT N) (gc 27 (Rw N) (gc 32 (gv N) (gc 36 (fT N) (gc 45 (IP N) (gc 58 (BP N) (gc 63 (Hj N) (gc 65 (lA N) (gc 72 (lA N) (gc 73 (Kn N) gn)))))))))) ?_;simp only[f8];unfold lz at h;have:J1 11 0 [0,3,4] [3] (fun f (c9:Bool)=>(af f 38 (.val (.bool c9)))) (fun R _=>R):=⟨⟩;refine z0 ?_;obtain⟨r1,hr1,h⟩:=bI h;refine z2 ?_;refine cM h (fun hc2 h=>?_) fun hc2 h=>?_
 .exact go
 refine z2 ?_;refine cD h (fun hc3 hc3d h=>?_) fun hc3 hc3d h=>?_
 .exact go
 refine z2 ?_;refine z0 ?_;refine aK (dc fun hreal5=>?_);have hl4:=hreal5.lenT 0 oZh oZa;rw[cr]at hl4;refine fb (fun(v8:Nat) (b:List Txn×List ai×List aa)=>⟨tab 75 (af (af (af au 0 (sF 4 (a0.map al.row))) 3 (pF 3)) 4 (vI (v8:Int))),(upd RZ 3 (vA 3 [sF 11 (b.1.map Txn.row),sF 4 (b.2.1.map ai.row),sF 3 (b.2.2.map aa.row)]))⟩) ([],[],[]) h ?_ ?_
 .refine aM.trans (Dq 3 [(0,0)] 11 oZb (by simp only[go_sem,seval];try rfl)) (aM.trans (Dq 3 [(0,1)] 4 oZb (by simp only[go_sem,seval];try rfl)) (aM.trans (Dq 3 [(0,2)] 3 oZb (by simp only[go_sem,seval];try rfl)) ?_));exact wR
 rintro v8 ⟨l5,l6,l7⟩ hi6 h -;rcases(dj a0 v8 hi6).symm with⟨hi6',_,hd9⟩|⟨x11,hi6',hx7,hd9⟩
 .rw[hd9]at h;exact go
 rw[hd9]at h;simp only[fV]at h;have hw8:=bn hi6' hl4;exact go
@[go_sem] def KJ(N:Nat):FnS:=⟨[],true,fn1 (aD 4 al.dec) fun q0=>(lz N q0).map fun r=>vB r,false⟩
def W7(N:Nat):ar prog 8 (KJ N):=om1 (DW N)
end
end Go.Proofs.YtmacaidmhchpgaaGreat
