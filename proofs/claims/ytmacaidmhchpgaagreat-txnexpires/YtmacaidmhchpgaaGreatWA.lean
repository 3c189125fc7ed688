/- Walks: each function computes its model. No condition. -/
import Derived.Test.YtmacaidmhchpgaaGreatB
/- Each Go function computes its model: proofs laid by a program of ours. -/
set_option linter.defProp false
set_option maxHeartbeats 40000000
set_option synthInstance.maxHeartbeats 2000000
set_option synthInstance.maxSize 4000
set_option linter.unusedSimpArgs false
set_option linter.unusedVariables false
set_option maxRecDepth 100000
namespace Go.Proofs.YtmacaidmhchpgaaGreat
open Go Go.Proofs Go.Abs Tryz
noncomputable section
def J6 (N:Nat) (a0:Value) (r:Bool) (h:gY N a0=some r):Con prog 61 [] true [.agg (Value.row a0)] (vB r):=by
 refine fk (G:=(aw [])) func61 gn ?_;simp only [f61];unfold gY at h;refine z0 ?_;refine aK ?_;apply aQ (fun (c3:Bool)=>⟨tab 86 (af (af au 1 (pF 1)) 12 (vB c3)),(upd RZ 1 (vA 5 (Value.row a0)))⟩)
 ·intro hJ1;refine iD h (fun hc2 hc2d h=>?_) fun hc2 hc2d h=>?_
  ·refine z1 hc2d ?_;refine hJ1 _ true ?_ h;exact wF hc2d
  refine z1 hc2d ?_;refine hJ1 _ (decide (5 < a0.Kind)) ?_ h;exact wF hc2d
 intro c3 h;unfold qs at h;refine cB h (fun hc3 h=>?_) fun hc3 h=>?_
 ·refine z1 hc3 ?_;exact e0 h
 refine aW (pp ?_);unfold qJ at h;refine aK (aS ?_);apply aQ (fun (c12:Bool)=>⟨tab 86 (af (af au 1 (pF 1)) 13 (vB c12)),(upd RZ 1 (vA 5 (Value.row a0)))⟩)
 ·intro hJ4;refine iD h (fun hc5 hc5d h=>?_) fun hc5 hc5d h=>?_
  ·refine z1 (k2 hc3 hc5d) ?_;refine hJ4 _ false ?_ h;exact wF (k2 hc3 hc5d)
  refine iD h (fun hc6 hc6d h=>?_) fun hc6 hc6d h=>?_
  ·refine z1 (k3 hc3 hc5d hc6d) ?_;refine hJ4 _ false ?_ h;exact wF (k3 hc3 hc5d hc6d)
  refine iDs h (fun hc7 hc7d h=>?_) fun hc7 hc7d h=>?_
  ·refine z1 (k4 hc3 hc5d hc6d hc7d) ?_;refine hJ4 _ true ?_ h;exact wF (k4 hc3 hc5d hc6d hc7d)
  refine z1 (k4 hc3 hc5d hc6d hc7d) ?_;refine hJ4 _ (!decide (a0.N=1)) ?_ h;exact wF (k4 hc3 hc5d hc6d hc7d)
 intro c12 h;unfold jM at h;refine cB h (fun hc8 h=>?_) fun hc8 h=>?_
 ·refine z1 hc8 ?_;exact e0 h
 apply aQ (fun (c17:Bool)=>⟨tab 86 (af (af au 1 (pF 1)) 32 (vB c17)),(upd RZ 1 (vA 5 (Value.row a0)))⟩)
 ·intro hJ9;apply aQ (fun (c18:Bool)=>⟨tab 86 (af (af au 1 (pF 1)) 32 (vB c18)),(upd RZ 1 (vA 5 (Value.row a0)))⟩)
  ·intro hJ10;refine iBs h (fun hc11 h=>?_) fun hc11 h=>?_
   ·refine z1 (k2 hc8 hc11) ?_;refine hJ10 _ (!decide (a0.Kind=3)) ?_ h;exact wF (k3 hc3 hc8 hc11)
   refine z1 (k2 hc8 hc11) ?_;refine hJ10 _ false ?_ h;exact wF (k3 hc3 hc8 hc11)
  intro c18 h;unfold qL at h;refine cB h (fun hc12 h=>?_) fun hc12 h=>?_
  ·refine aW (pp (hJ9 _ true ?_ h));exact wF hc12
  apply aQ (fun (c19:Bool)=>⟨tab 86 (af (af au 1 (pF 1)) 32 (vB c19)),(upd RZ 1 (vA 5 (Value.row a0)))⟩)
  ·intro hJ13;refine iD h (fun hc14 hc14d h=>?_) fun hc14 hc14d h=>?_
   ·refine z1 (k2 hc12 hc14d) ?_;refine hJ13 _ (!decide (a0.Kind=4)) ?_ h;exact wF (k4 hc3 hc8 hc12 hc14d)
   refine z1 (k2 hc12 hc14d) ?_;refine hJ13 _ false ?_ h;exact wF (k4 hc3 hc8 hc12 hc14d)
  intro c19 h;unfold qD at h;refine cB h (fun hc15 h=>?_) fun hc15 h=>?_
  ·refine aW (pp (hJ9 _ true ?_ h));exact wF hc15
  refine iD h (fun hc16 hc16d h=>?_) fun hc16 hc16d h=>?_
  ·refine z1 (k2 hc15 hc16d) ?_;refine hJ9 _ (!decide (a0.Kind=5)) ?_ h;exact wF (k5 hc3 hc8 hc12 hc15 hc16d)
  refine z1 (k2 hc15 hc16d) ?_;refine hJ9 _ false ?_ h;exact wF (k5 hc3 hc8 hc12 hc15 hc16d)
 intro c17 h;unfold qI at h;refine cB h (fun hc17 h=>?_) fun hc17 h=>?_
 ·refine z1 hc17 ?_;exact e0 h
 refine aW (pp ?_);unfold jK at h;refine aK ?_;apply aQ (fun (c22:Bool)=>⟨tab 86 (af (af au 1 (pF 1)) 74 (vB c22)),(upd RZ 1 (vA 5 (Value.row a0)))⟩)
 ·intro hJ18;refine iD h (fun hc19 hc19d h=>?_) fun hc19 hc19d h=>?_
  ·refine z1 (k2 hc17 hc19d) ?_;refine hJ18 _ true ?_ h;exact wF (k4 hc3 hc8 hc17 hc19d)
  refine iD h (fun hc20 hc20d h=>?_) fun hc20 hc20d h=>?_
  ·refine z1 (k3 hc17 hc19d hc20d) ?_;refine hJ18 _ true ?_ h;exact wF (k5 hc3 hc8 hc17 hc19d hc20d)
  refine z1 (k3 hc17 hc19d hc20d) ?_;refine hJ18 _ (decide (16 < (a0.L.length:Int))) ?_ h;exact wF (k5 hc3 hc8 hc17 hc19d hc20d)
 intro c22 h;unfold lR at h;refine cB h (fun hc21 h=>?_) fun hc21 h=>?_
 ·refine z1 hc21 ?_;exact e0 h
 unfold mg at h;refine z1 hc21 ?_;refine lT 76 (fun (v17:Nat) (b:Unit)=>⟨tab 86 (af (af (af au 76 (sF 1 (a0.L.map dT))) 77 (vI (a0.L.length:Int))) 78 (vI (v17:Int))),RZ⟩) () h ?_ ?_ (h0:=wF (k4 hc3 hc8 hc17 hc21))
 ·rintro v17 ⟨⟩ hi24' h;simp only [jE] at h;refine z1 hi24' ?_;refine cf ?_;refine z0 ?_;exact e0 h
 rintro v17 ⟨⟩ x20 hi24' hx25 hw26 h;simp only [jE] at h;refine z1 hi24' ?_;refine ct ?_;refine z1 (k2 hx25 hi24') ?_;refine z0 ?_;refine cD h (fun hc28 hc28d h=>?_) fun hc28 hc28d h=>?_
 ·refine z1 hc28d ?_;exact e0 h
 refine z1 (k2 hw26 hc28d) ?_;first|refine ⟨(),?_,h⟩|refine ⟨hi24',(),?_,h⟩
 exact wF (k5 hc3 hc8 hc17 hc21 (k4 hx25 hi24' hw26 hc28d))
@[go_sem] def lU (N:Nat):FnS:=⟨[],true,fn1 Value.decA fun q0=>(gY N q0).map fun r=>vB r,false⟩
def mj (N:Nat):aA prog 61 (lU N):=om1 (J6 N)
@[go_sem] def JS (N d f:Nat):Option FnS:=aw [(8,61,lU N)] d f
def J8 (N:Nat) (a0:Value) (r:Bool) (h:my N a0=some r):Con prog 213 [] true [.agg (Value.row a0)] (vB r):=by
 refine fk (G:=(JS N)) func213 (gc 8 (mj N) gn) ?_;simp only [f213];unfold my at h;refine z0 ?_;refine iD h (fun hc1 hc1d h=>?_) fun hc1 hc1d h=>?_
 ·refine z1 hc1d ?_;exact e0 h
 obtain ⟨r1,hr2,h⟩:=bI h;refine z1 (k2 hc1d hr2) ?_;exact e0 h
@[go_sem] def BC (N:Nat):FnS:=⟨[],true,fn1 Value.decA fun q0=>(my N q0).map fun r=>vB r,false⟩
def FF (N:Nat):aA prog 213 (BC N):=om1 (J8 N)
@[go_sem] def tO (N d f:Nat):Option FnS:=aw [(16,213,BC N)] d f
def tF (N:Nat) (a0:List Value) (r:Int) (h:dy N a0=some r):Con prog 201 [] true [sF 5 (a0.map Value.row),.clo 213 []] (vI r):=by
 refine fk (G:=(tO N)) func201 (gc 16 (FF N) gn) ?_;simp only [f201];unfold dy at h;refine z0 ?_;refine z0 ?_;refine lT 0 (fun (v2:Nat) (b:Unit)=>⟨tab 19 (af (af (af (af au 0 (sF 5 (a0.map Value.row))) 1 (.clo 213 [])) 7 (vI (a0.length:Int))) 8 (vI (v2:Int))),RZ⟩) () h ?_ ?_
 ·rintro v2 ⟨⟩ hi3' h;simp only [bY] at h;refine z1 hi3' ?_;refine cf ?_;refine z0 ?_;exact e0 h
 rintro v2 ⟨⟩ x5 hi3' hx4 hw5 h;simp only [bY] at h;refine z1 hi3' ?_;refine ct ?_;refine z0 ?_;obtain ⟨r1,hr7,h⟩:=bI h;refine z1 (k3 hx4 hi3' hr7) ?_;refine cB h (fun hc8 h=>?_) fun hc8 h=>?_
 ·refine z1 hc8 ?_;exact e0 h
 refine z1 (k2 hw5 hc8) ?_;first|refine ⟨(),?_,h⟩|refine ⟨hi3',(),?_,h⟩
 exact wR
@[go_sem] def gg (N:Nat):FnS:={ own:=[],pure:=true,fn:=fun cs=>match cs with
 | [c0,.clo 213 []]=>((aJ 5 Value.dec) c0).bind fun qc0=>(dy N qc0).map fun r=>vI r
 | _=>none }
def rr (N:Nat):aA prog 201 (gg N):=by
 refine ⟨fun cs r h=>?_,fun h=>by cases h⟩;simp only [gg] at h;split at h
 ·simp only [acG,acF] at h;obtain ⟨q0,h0,r',hr,rfl⟩:=h;exact (ag (tF N q0 r' hr))
 ·cases h
@[go_sem] def rQ (N d f:Nat):Option FnS:=aw [(7,201,gg N)] d f
def rI (N:Nat) (a0:List Value) (r:Bool) (h:bw N a0=some r):Con prog 134 [] true [sF 5 (a0.map Value.row),.clo 213 []] (vB r):=by
 refine fk (G:=(rQ N)) func134 (gc 7 (rr N) gn) ?_;simp only [f134];unfold bw at h;refine z0 ?_;obtain ⟨r1,hr1,h⟩:=bI h;refine z1 hr1 ?_;exact e0 h
@[go_sem] def fu (N:Nat):FnS:={ own:=[],pure:=true,fn:=fun cs=>match cs with
 | [c0,.clo 213 []]=>((aJ 5 Value.dec) c0).bind fun qc0=>(bw N qc0).map fun r=>vB r
 | _=>none }
def pL (N:Nat):aA prog 134 (fu N):=by
 refine ⟨fun cs r h=>?_,fun h=>by cases h⟩;simp only [fu] at h;split at h
 ·simp only [acG,acF] at h;obtain ⟨q0,h0,r',hr,rfl⟩:=h;exact (ag (rI N q0 r' hr))
 ·cases h
@[go_sem] def M8 (N d f:Nat):Option FnS:=aw [(42,134,fu N)] d f
def MT (N:Nat) (a0:ah) (r:Bool) (h:qh N a0=some r):Con prog 172 [] true [.agg (ah.row a0)] (vB r):=by
 refine fk (G:=(M8 N)) func172 (gc 42 (pL N) gn) ?_;simp only [f172];unfold qh at h;refine z0 ?_;refine aK ?_;apply aQ (fun (c3:Bool)=>⟨tab 44 (af (af au 1 (pF 1)) 39 (vB c3)),(upd RZ 1 (vA 4 (ah.row a0)))⟩)
 ·intro hJ1;refine iD h (fun hc2 hc2d h=>?_) fun hc2 hc2d h=>?_
  ·refine z1 hc2d ?_;refine hJ1 _ true ?_ h;exact wR
  refine iD h (fun hc3 hc3d h=>?_) fun hc3 hc3d h=>?_
  ·refine z1 (k2 hc2d hc3d) ?_;refine hJ1 _ true ?_ h;exact wR
  refine iD h (fun hc4 hc4d h=>?_) fun hc4 hc4d h=>?_
  ·refine z1 (k3 hc2d hc3d hc4d) ?_;refine hJ1 _ true ?_ h;exact wR
  refine iD h (fun hc5 hc5d h=>?_) fun hc5 hc5d h=>?_
  ·refine z1 (k4 hc2d hc3d hc4d hc5d) ?_;refine hJ1 _ true ?_ h;exact wR
  refine iD h (fun hc6 hc6d h=>?_) fun hc6 hc6d h=>?_
  ·refine z1 (k5 hc2d hc3d hc4d hc5d hc6d) ?_;refine hJ1 _ true ?_ h;exact wR
  refine z1 (k5 hc2d hc3d hc4d hc5d hc6d) ?_;refine hJ1 _ (decide (4 < (a0.Args.length:Int))) ?_ h;exact wR
 intro c3 h;unfold iA at h;refine cB h (fun hc7 h=>?_) fun hc7 h=>?_
 ·refine z1 hc7 ?_;exact e0 h
 refine aW (pp ?_);unfold iF at h;obtain ⟨r4,hr8,h⟩:=bI h;refine z1 (k2 hc7 hr8) ?_;exact e0 h
@[go_sem] def Dj (N:Nat):FnS:=⟨[],true,fn1 ah.decA fun q0=>(qh N q0).map fun r=>vB r,false⟩
def H5 (N:Nat):aA prog 172 (Dj N):=om1 (MT N)
@[go_sem] def K2 (N d f:Nat):Option FnS:=aw [(4,172,Dj N)] d f
def KF (N:Nat) (a0:ah) (r:Bool) (h:oD N a0=some r):Con prog 171 [] true [.agg (ah.row a0)] (vB r):=by
 refine fk (G:=(K2 N)) func171 (gc 4 (H5 N) gn) ?_;simp only [f171];unfold oD at h;refine z0 ?_;obtain ⟨r1,hr1,h⟩:=bI h;refine z1 hr1 ?_;exact e0 h
@[go_sem] def Ck (N:Nat):FnS:=⟨[],true,fn1 ah.decA fun q0=>(oD N q0).map fun r=>vB r,false⟩
def Gu (N:Nat):aA prog 171 (Ck N):=om1 (KF N)
@[go_sem] def rK (N d f:Nat):Option FnS:=aw [(16,171,Ck N)] d f
def rR (N:Nat) (a0:List ah) (r:Int) (h:bZ N a0=some r):Con prog 203 [] true [sF 4 (a0.map ah.row),.clo 171 []] (vI r):=by
 refine fk (G:=(rK N)) func203 (gc 16 (Gu N) gn) ?_;simp only [f203];unfold bZ at h;refine z0 ?_;refine z0 ?_;refine lT 0 (fun (v2:Nat) (b:Unit)=>⟨tab 19 (af (af (af (af au 0 (sF 4 (a0.map ah.row))) 1 (.clo 171 [])) 7 (vI (a0.length:Int))) 8 (vI (v2:Int))),RZ⟩) () h ?_ ?_
 ·rintro v2 ⟨⟩ hi3' h;simp only [bF] at h;refine z1 hi3' ?_;refine cf ?_;refine z0 ?_;exact e0 h
 rintro v2 ⟨⟩ x5 hi3' hx4 hw5 h;simp only [bF] at h;refine z1 hi3' ?_;refine ct ?_;refine z0 ?_;obtain ⟨r1,hr7,h⟩:=bI h;refine z1 (k3 hx4 hi3' hr7) ?_;refine cB h (fun hc8 h=>?_) fun hc8 h=>?_
 ·refine z1 hc8 ?_;exact e0 h
 refine z1 (k2 hw5 hc8) ?_;first|refine ⟨(),?_,h⟩|refine ⟨hi3',(),?_,h⟩
 exact wR
@[go_sem] def fm (N:Nat):FnS:={ own:=[],pure:=true,fn:=fun cs=>match cs with
 | [c0,.clo 171 []]=>((aJ 4 ah.dec) c0).bind fun qc0=>(bZ N qc0).map fun r=>vI r
 | _=>none }
def pN (N:Nat):aA prog 203 (fm N):=by
 refine ⟨fun cs r h=>?_,fun h=>by cases h⟩;simp only [fm] at h;split at h
 ·simp only [acG,acF] at h;obtain ⟨q0,h0,r',hr,rfl⟩:=h;exact (ag (rR N q0 r' hr))
 ·cases h
@[go_sem] def pU (N d f:Nat):Option FnS:=aw [(7,203,fm N)] d f
def pQ (N:Nat) (a0:List ah) (r:Bool) (h:bn N a0=some r):Con prog 140 [] true [sF 4 (a0.map ah.row),.clo 171 []] (vB r):=by
 refine fk (G:=(pU N)) func140 (gc 7 (pN N) gn) ?_;simp only [f140];unfold bn at h;refine z0 ?_;obtain ⟨r1,hr1,h⟩:=bI h;refine z1 hr1 ?_;exact e0 h
@[go_sem] def eN (N:Nat):FnS:={ own:=[],pure:=true,fn:=fun cs=>match cs with
 | [c0,.clo 171 []]=>((aJ 4 ah.dec) c0).bind fun qc0=>(bn N qc0).map fun r=>vB r
 | _=>none }
def mZ (N:Nat):aA prog 140 (eN N):=by
 refine ⟨fun cs r h=>?_,fun h=>by cases h⟩;simp only [eN] at h;split at h
 ·simp only [acG,acF] at h;obtain ⟨q0,h0,r',hr,rfl⟩:=h;exact (ag (pQ N q0 r' hr))
 ·cases h
@[go_sem] def Nh (N d f:Nat):Option FnS:=aw [(69,61,lU N),(85,140,eN N)] d f
def NQ (N:Nat) (a0:Txn) (r:Bool) (h:pg N a0=some r):Con prog 98 [] true [.agg (Txn.row a0)] (vB r):=by
 refine fk (G:=(Nh N)) func98 (gc 69 (mj N) (gc 85 (mZ N) gn)) ?_;simp only [f98];unfold pg at h;refine z0 ?_;refine aK ?_;apply aQ (fun (c3:Bool)=>⟨tab 87 (af (af au 1 (pF 1)) 42 (vB c3)),(upd RZ 1 (vA 11 (Txn.row a0)))⟩)
 ·intro hJ1;refine iD h (fun hc2 hc2d h=>?_) fun hc2 hc2d h=>?_
  ·refine z1 hc2d ?_;refine hJ1 _ true ?_ h;exact wR
  refine iD h (fun hc3 hc3d h=>?_) fun hc3 hc3d h=>?_
  ·refine z1 (k2 hc2d hc3d) ?_;refine hJ1 _ true ?_ h;exact wR
  refine iD h (fun hc4 hc4d h=>?_) fun hc4 hc4d h=>?_
  ·refine z1 (k3 hc2d hc3d hc4d) ?_;refine hJ1 _ true ?_ h;exact wR
  refine iD h (fun hc5 hc5d h=>?_) fun hc5 hc5d h=>?_
  ·refine z1 (k4 hc2d hc3d hc4d hc5d) ?_;refine hJ1 _ true ?_ h;exact wR
  refine iD h (fun hc6 hc6d h=>?_) fun hc6 hc6d h=>?_
  ·refine z1 (k5 hc2d hc3d hc4d hc5d hc6d) ?_;refine hJ1 _ true ?_ h;exact wR
  refine iD h (fun hc7 hc7d h=>?_) fun hc7 hc7d h=>?_
  ·refine z1 (k5 hc2d hc3d hc4d hc5d (k2 hc6d hc7d)) ?_;refine hJ1 _ true ?_ h;exact wR
  refine iD h (fun hc8 hc8d h=>?_) fun hc8 hc8d h=>?_
  ·refine z1 (k5 hc2d hc3d hc4d hc5d (k3 hc6d hc7d hc8d)) ?_;refine hJ1 _ true ?_ h;exact wR
  refine z1 (k5 hc2d hc3d hc4d hc5d (k3 hc6d hc7d hc8d)) ?_;refine hJ1 _ (decide (1099511627776 < a0.Seq)) ?_ h;exact wR
 intro c3 h;unfold fX at h;refine cB h (fun hc9 h=>?_) fun hc9 h=>?_
 ·refine z1 hc9 ?_;exact e0 h
 refine aW (pp ?_);unfold fV at h;refine aK ?_;apply aQ (fun (c8:Bool)=>⟨tab 87 (af (af au 1 (pF 1)) 82 (vB c8)),(upd RZ 1 (vA 11 (Txn.row a0)))⟩)
 ·intro hJ10;refine iD h (fun hc11 hc11d h=>?_) fun hc11 hc11d h=>?_
  ·refine z1 (k2 hc9 hc11d) ?_;refine hJ10 _ true ?_ h;exact wR
  refine iD h (fun hc12 hc12d h=>?_) fun hc12 hc12d h=>?_
  ·refine z1 (k3 hc9 hc11d hc12d) ?_;refine hJ10 _ true ?_ h;exact wR
  refine iD h (fun hc13 hc13d h=>?_) fun hc13 hc13d h=>?_
  ·refine z1 (k4 hc9 hc11d hc12d hc13d) ?_;refine hJ10 _ true ?_ h;exact wR
  refine iD h (fun hc14 hc14d h=>?_) fun hc14 hc14d h=>?_
  ·refine z1 (k5 hc9 hc11d hc12d hc13d hc14d) ?_;refine hJ10 _ true ?_ h;exact wR
  obtain ⟨r9,hr15,h⟩:=bI h;refine iBs h (fun hc16 h=>?_) fun hc16 h=>?_
  ·refine z1 (k5 hc9 hc11d hc12d hc13d (k3 hc14d hr15 hc16)) ?_;refine hJ10 _ true ?_ h;exact wR
  refine iD h (fun hc17 hc17d h=>?_) fun hc17 hc17d h=>?_
  ·refine z1 (k5 hc9 hc11d hc12d hc13d (k4 hc14d hr15 hc16 hc17d)) ?_;refine hJ10 _ (!decide (a0.Last.Kind=0)) ?_ h;exact wR
  refine z1 (k5 hc9 hc11d hc12d hc13d (k4 hc14d hr15 hc16 hc17d)) ?_;refine hJ10 _ false ?_ h;exact wR
 intro c8 h;unfold ib at h;refine cB h (fun hc18 h=>?_) fun hc18 h=>?_
 ·refine z1 hc18 ?_;exact e0 h
 refine aW (pp ?_);unfold ia at h;obtain ⟨r10,hr19,h⟩:=bI h;refine z1 (k2 hc18 hr19) ?_;exact e0 h
@[go_sem] def zG (N:Nat):FnS:=⟨[],true,fn1 Txn.decA fun q0=>(pg N q0).map fun r=>vB r,false⟩
def BN (N:Nat):aA prog 98 (zG N):=om1 (NQ N)
@[go_sem] def LK (N d f:Nat):Option FnS:=aw [(14,98,zG N)] d f
def Mo (N:Nat) (a0:ae) (r:Bool) (h:tY N a0=some r):Con prog 52 [] true [.agg (ae.row a0)] (vB r):=by
 refine fk (G:=(LK N)) func52 (gc 14 (BN N) gn) ?_;simp only [f52];unfold tY at h;refine z0 ?_;refine z0 ?_;refine lT 6 (fun (v2:Nat) (b:Unit)=>⟨tab 37 (af (af (af (af au 1 (pF 1)) 6 (sF 11 (a0.Txns.map Txn.row))) 7 (vI (a0.Txns.length:Int))) 8 (vI (v2:Int))),(upd RZ 1 (vA 3 (ae.row a0)))⟩) () h ?_ ?_
 ·rintro v2 ⟨⟩ hi3' h;simp only [gD] at h;refine z1 hi3' ?_;refine cf ?_;refine z0 ?_;exact e0 h
 rintro v2 ⟨⟩ x5 hi3' hx4 hw5 h;simp only [gD] at h;refine z1 hi3' ?_;refine ct ?_;refine z1 (k2 hx4 hi3') ?_;apply aQ (fun (c3:Bool)=>⟨tab 37 (af (af (af (af (af au 1 (pF 1)) 6 (sF 11 (a0.Txns.map Txn.row))) 7 (vI (a0.Txns.length:Int))) 8 (vI (v2:Int))) 31 (vB c3)),(upd RZ 1 (vA 3 (ae.row a0)))⟩)
 ·intro hJ7;obtain ⟨r4,hr8,h⟩:=bI h;refine ki fun Z hZ=>?_;simp only [go_sem,seval,hr8];repeat with_reducible refine eL (by kernel_rfl) ?_
  refine lE rfl (fun hc9=>?_) (fun hc9=>?_)
  ·rw [if_neg (ne_true_of_eq_false hc9)] at h;simp only [go_sem,seval,hc9];refine hZ _ (by kernel_rfl) (pp (hJ7 _ true ?_ h));exact wR
  rw [if_pos hc9] at h;simp only [go_sem,seval,hc9];refine jr rfl (fun hc10=>?_) (fun hc10=>?_)
  ·have hc10d:=decide_eq_true hc10;rw [if_pos hc10] at h;obtain ⟨x6,hb11,hx12,h⟩:=aI h;simp only [go_sem,seval,hc10d,hb11,hx12];refine hZ _ (by kernel_rfl) (pp (hJ7 _ (decide (x5.ID<=x6.ID)) ?_ h));exact wR
  have hc10d:=decide_eq_false hc10;rw [if_neg hc10] at h;simp only [go_sem,seval,hc10d];refine hZ _ (by kernel_rfl) (pp (hJ7 _ false ?_ h));exact wR
 intro c3 h;unfold lh at h;refine cB h (fun hc13 h=>?_) fun hc13 h=>?_
 ·refine z1 hc13 ?_;exact e0 h
 refine z1 (k2 hw5 hc13) ?_;first|refine ⟨(),?_,h⟩|refine ⟨hi3',(),?_,h⟩
 exact wR
@[go_sem] def DA (N:Nat):FnS:=⟨[],true,fn1 ae.decA fun q0=>(tY N q0).map fun r=>vB r,false⟩
def HQ (N:Nat):aA prog 52 (DA N):=om1 (Mo N)
def Ja (N:Nat) (a0:Ref) (r:Bool) (h:iO N a0=some r):Con prog 124 [] true [.agg [vS a0.Type_,vS a0.Key]] (vB r):=by
 refine fk (G:=(aw [])) func124 gn ?_;simp only [f124];unfold iO at h;refine z0 ?_;refine iDs h (fun hc1 hc1d h=>?_) fun hc1 hc1d h=>?_
 ·refine z1 hc1d ?_;exact e0 h
 refine iD h (fun hc2 hc2d h=>?_) fun hc2 hc2d h=>?_
 ·refine z1 (k2 hc1d hc2d) ?_;exact e0 h
 refine z1 (k2 hc1d hc2d) ?_;exact e0 h
@[go_sem] def pG (N:Nat):FnS:=⟨[],true,fn1 Ref.decA fun q0=>(iO N q0).map fun r=>vB r,false⟩
def rh (N:Nat):aA prog 124 (pG N):=om1 (Ja N)
def K6 (N:Nat) (a0:Int) (r:Bool) (h:jS N a0=some r):Con prog 125 [] true [vI a0] (vB r):=by
 refine fk (G:=(aw [])) func125 gn ?_;simp only [f125];unfold jS at h;refine z0 ?_;refine iD h (fun hc1 hc1d h=>?_) fun hc1 hc1d h=>?_
 ·refine z1 hc1d ?_;exact e0 h
 refine z1 hc1d ?_;exact e0 h
@[go_sem] def rV (N:Nat):FnS:=⟨[],true,fn1 (aG .i64) fun q0=>(jS N q0).map fun r=>vB r,false⟩
def tg (N:Nat):aA prog 125 (rV N):=om1 (K6 N)
@[go_sem] def J9 (N d f:Nat):Option FnS:=aw [(7,124,pG N),(12,125,rV N)] d f
def Ka (N:Nat) (a0:ai) (r:Bool) (h:mu N a0=some r):Con prog 187 [] true [.agg (ai.row a0)] (vB r):=by
 refine fk (G:=(J9 N)) func187 (gc 7 (rh N) (gc 12 (tg N) gn)) ?_;simp only [f187];unfold mu at h;refine z0 ?_;refine aK ?_;apply aQ (fun (c7:Bool)=>⟨tab 52 (af (af au 1 (pF 1)) 20 (vB c7)),(upd RZ 1 (vA 4 (ai.row a0)))⟩)
 ·intro hJ1;obtain ⟨r8,hr2,h⟩:=bI h;refine iBs h (fun hc3 h=>?_) fun hc3 h=>?_
  ·refine z1 (k2 hr2 hc3) ?_;refine hJ1 _ true ?_ h;exact wR
  obtain ⟨r9,hr4,h⟩:=bI h;refine iBs h (fun hc5 h=>?_) fun hc5 h=>?_
  ·refine z1 (k4 hr2 hc3 hr4 hc5) ?_;refine hJ1 _ true ?_ h;exact wR
  refine z1 (k4 hr2 hc3 hr4 hc5) ?_;refine hJ1 _ (decide (32 < (a0.Waiters.length:Int))) ?_ h;exact wR
 intro c7 h;unfold lX at h;refine cB h (fun hc6 h=>?_) fun hc6 h=>?_
 ·refine z1 hc6 ?_;exact e0 h
 unfold lQ at h;refine z1 hc6 ?_;refine lT 22 (fun (v7:Nat) (b:Unit)=>⟨tab 52 (af (af (af (af au 1 (pF 1)) 22 (sF 1 (a0.Waiters.map (ay .i64)))) 23 (vI (a0.Waiters.length:Int))) 24 (vI (v7:Int))),(upd RZ 1 (vA 4 (ai.row a0)))⟩) () h ?_ ?_
 ·rintro v7 ⟨⟩ hi9' h;simp only [fh] at h;refine z1 hi9' ?_;refine cf ?_;refine z0 ?_;exact e0 h
 rintro v7 ⟨⟩ x10 hi9' hx10 hw11 h;simp only [fh] at h;refine z1 hi9' ?_;refine ct ?_;refine z1 (k2 hx10 hi9') ?_;apply aQ (fun (c12:Bool)=>⟨tab 52 (af (af (af (af (af au 1 (pF 1)) 22 (sF 1 (a0.Waiters.map (ay .i64)))) 23 (vI (a0.Waiters.length:Int))) 24 (vI (v7:Int))) 50 (vB c12)),(upd RZ 1 (vA 4 (ai.row a0)))⟩)
 ·intro hJ13;refine iD h (fun hc14 hc14d h=>?_) fun hc14 hc14d h=>?_
  ·refine z1 hc14d ?_;refine hJ13 _ true ?_ h;exact wR
  refine iD h (fun hc15 hc15d h=>?_) fun hc15 hc15d h=>?_
  ·refine z1 (k2 hc14d hc15d) ?_;refine hJ13 _ true ?_ h;exact wR
  refine iD h (fun hc16 hc16d h=>?_) fun hc16 hc16d h=>?_
  ·obtain ⟨x13,hb17,hx18,h⟩:=aI h;refine z1 (k5 hc14d hc15d hc16d hb17 hx18) ?_;refine hJ13 _ (decide (x10<=x13)) ?_ h;exact wR
  refine z1 (k3 hc14d hc15d hc16d) ?_;refine hJ13 _ false ?_ h;exact wR
 intro c12 h;unfold iM at h;refine cB h (fun hc19 h=>?_) fun hc19 h=>?_
 ·refine z1 hc19 ?_;exact e0 h
 refine z1 (k2 hw11 hc19) ?_;first|refine ⟨(),?_,h⟩|refine ⟨hi9',(),?_,h⟩
 exact wR
@[go_sem] def BH (N:Nat):FnS:=⟨[],true,fn1 ai.decA fun q0=>(mu N q0).map fun r=>vB r,false⟩
def Fx (N:Nat):aA prog 187 (BH N):=om1 (Ka N)
def Iu (N:Nat) (a0:ByteArray) (r:Bool) (h:lv N a0=some r):Con prog 183 [] true [vS a0] (vB r):=by
 refine fk (G:=(aw [])) func183 gn ?_;simp only [f183];unfold lv at h;refine z0 ?_;refine z0 ?_;exact e0 h
@[go_sem] def uR (N:Nat):FnS:=⟨[],true,fn1 bW fun q0=>(lv N q0).map fun r=>vB r,false⟩
def wV (N:Nat):aA prog 183 (uR N):=om1 (Iu N)
@[go_sem] def G2 (N d f:Nat):Option FnS:=aw [(8,183,uR N),(10,183,uR N)] d f
def Gx (N:Nat) (a0:ByteArray) (a1:ByteArray) (r:Int) (h:fc N a0 a1=some r):Con prog 104 [] true [vS a0,vS a1] (vI r):=by
 refine fk (G:=(G2 N)) func104 (gc 8 (wV N) (gc 10 (wV N) gn)) ?_;simp only [f104];unfold fc at h;refine z0 ?_;obtain ⟨r1,hr1,h⟩:=bI h;refine z1 hr1 ?_;obtain ⟨r2,hr2,h⟩:=bI h;refine z1 hr2 ?_;refine z0 ?_;refine oO rfl (fun hc3=>?_) (fun hc3=>?_)
 ·first|rw [if_pos hc3] at h|simp only [hc3,ady,adA,ado,adK,adz,adL,ads,adB,ac5,ac9,acO,if_true,if_false] at h
  refine z1 hc3 ?_;refine oO rfl (fun hc4=>?_) (fun hc4=>?_)
  ·first|rw [if_pos hc4] at h|simp only [hc4,hc3,ady,adA,ado,adK,adz,adL,ads,adB,ac5,ac9,acO,if_true,if_false] at h
   refine z1 hc4 ?_;exact e0 h
  first|rw [if_neg (ne_true_of_eq_false hc4)] at h|simp only [hc4,hc3,ady,adA,ado,adK,adz,adL,ads,adB,ac5,ac9,acO,if_true,if_false] at h
  refine z1 hc4 ?_;exact e0 h
 first|rw [if_neg (ne_true_of_eq_false hc3)] at h|simp only [hc3,ady,adA,ado,adK,adz,adL,ads,adB,ac5,ac9,acO,if_true,if_false] at h
 refine z1 hc3 ?_;refine oO rfl (fun hc5=>?_) (fun hc5=>?_)
 ·first|rw [if_pos hc5] at h|simp only [hc5,hc3,ady,adA,ado,adK,adz,adL,ads,adB,ac5,ac9,acO,if_true,if_false] at h
  refine z1 hc5 ?_;exact e0 h
 first|rw [if_neg (ne_true_of_eq_false hc5)] at h|simp only [hc5,hc3,ady,adA,ado,adK,adz,adL,ads,adB,ac5,ac9,acO,if_true,if_false] at h
 refine z1 hc5 ?_;refine oO rfl (fun hc6=>?_) (fun hc6=>?_)
 ·first|rw [if_pos hc6] at h|simp only [hc6,hc3,hc5,ady,adA,ado,adK,adz,adL,ads,adB,ac5,ac9,acO,if_true,if_false] at h
  refine z1 hc6 ?_;exact e0 h
 first|rw [if_neg (ne_true_of_eq_false hc6)] at h|simp only [hc6,hc3,hc5,ady,adA,ado,adK,adz,adL,ads,adB,ac5,ac9,acO,if_true,if_false] at h
 refine z1 hc6 ?_;refine qc rfl (fun hc7=>?_) (fun hc7=>?_)
 ·first|rw [if_neg (ne_true_of_eq_false hc7)] at h|simp only [hc7,hc6,ady,acO,if_false] at h
  refine z1 hc7 ?_;exact e0 h
 first|rw [if_pos hc7] at h|simp only [hc7,hc6,adA,if_true] at h
 refine z1 hc7 ?_;exact e0 h
@[go_sem] def jO (N:Nat):FnS:=⟨[],true,fn2 bW bW fun q0 q1=>(fc N q0 q1).map fun r=>vI r,false⟩
def j9 (N:Nat):aA prog 104 (jO N):=om2 (Gx N)
def QU (N:Nat) (a0:List Int) (r:Int) (h:tj N a0=some r):Con prog 103 [] true [sF 1 (a0.map (ay .i64))] (vI r):=by
 refine fk (G:=(aw [])) func103 gn ?_;simp only [f103];unfold tj at h;refine z0 ?_;refine z0 ?_;refine z0 ?_;refine lT 0 (fun (v2:Nat) (b:Unit)=>⟨tab 18 (af (af (af (af au 3 (vI 0)) 6 (sF 1 (a0.map (ay .i64)))) 7 (vI (a0.length:Int))) 8 (vI (v2:Int))),RZ⟩) () h ?_ ?_
 ·rintro v2 ⟨⟩ hi3' h;simp only [p8] at h;refine z1 hi3' ?_;refine cf ?_;refine z0 ?_;exact e0 h
 rintro v2 ⟨⟩ x5 hi3' hx4 hw5 h;simp only [p8] at h;refine z1 hi3' ?_;refine ct ?_;refine z1 (k2 hx4 hi3') ?_;refine z0 ?_;refine cN h (fun hc7 hc7d h=>?_) fun hc7 hc7d h=>?_
 ·refine z1 hc7d ?_;exact e0 h
 refine z1 (k2 hw5 hc7d) ?_;first|refine ⟨(),?_,h⟩|refine ⟨hi3',(),?_,h⟩
 exact wR
@[go_sem] def B7 (N:Nat):FnS:=⟨[],true,fn1 (aJ 1 (du (aG .i64))) fun q0=>(tj N q0).map fun r=>vI r,false⟩
def Dh (N:Nat):aA prog 103 (B7 N):=om1 (QU N)
@[go_sem] def Me (N d f:Nat):Option FnS:=aw [(9,104,jO N),(14,104,jO N),(16,103,B7 N)] d f
def LR (N:Nat) (a0:Ref) (a1:Ref) (r:Int) (h:mF N a0 a1=some r):Con prog 188 [] true [.agg [vS a0.Type_,vS a0.Key],.agg [vS a1.Type_,vS a1.Key]] (vI r):=by
 refine fk (G:=(Me N)) func188 (gc 9 (j9 N) (gc 14 (j9 N) (gc 16 (Dh N) gn))) ?_;simp only [f188];unfold mF at h;refine z0 ?_;obtain ⟨r1,hr1,h⟩:=bI h;obtain ⟨r2,hr2,h⟩:=bI h;obtain ⟨r3,hr3,h⟩:=bI h;refine d1 (k3 hr1 hr2 hr3) ?_;exact e0 h
@[go_sem] def yR (N:Nat):FnS:=⟨[],true,fn2 Ref.decA Ref.decA fun q0 q1=>(mF N q0 q1).map fun r=>vI r,false⟩
def Ai (N:Nat):aA prog 188 (yR N):=om2 (LR N)
@[go_sem] def OU (N d f:Nat):Option FnS:=aw [(16,187,BH N),(30,188,yR N)] d f
def OO (N:Nat) (a0:List ai) (r:Bool) (h:jo N a0=some r):Con prog 116 [] true [sF 4 (a0.map ai.row)] (vB r):=by
 refine fk (G:=(OU N)) func116 (gc 16 (Fx N) (gc 30 (Ai N) gn)) ?_;simp only [f116];unfold jo at h;refine z0 ?_;refine z0 ?_;refine cD h (fun hc1 hc1d h=>?_) fun hc1 hc1d h=>?_
 ·refine z1 hc1d ?_;exact e0 h
 refine z1 hc1d ?_;refine lT 0 (fun (v3:Nat) (b:Unit)=>⟨tab 35 (af (af (af (af au 0 (sF 4 (a0.map ai.row))) 8 (sF 4 (a0.map ai.row))) 9 (vI (a0.length:Int))) 10 (vI (v3:Int))),RZ⟩) () h ?_ ?_
 ·rintro v3 ⟨⟩ hi4' h;simp only [jT] at h;refine z1 hi4' ?_;refine cf ?_;refine z0 ?_;exact e0 h
 rintro v3 ⟨⟩ x6 hi4' hx5 hw6 h;simp only [jT] at h;refine z1 hi4' ?_;refine ct ?_;refine z1 (k2 hx5 hi4') ?_;apply aQ (fun (c4:Bool)=>⟨tab 35 (af (af (af (af (af au 0 (sF 4 (a0.map ai.row))) 8 (sF 4 (a0.map ai.row))) 9 (vI (a0.length:Int))) 10 (vI (v3:Int))) 33 (vB c4)),RZ⟩)
 ·intro hJ8;obtain ⟨r5,hr9,h⟩:=bI h;refine ki fun Z hZ=>?_;simp only [go_sem,seval,hr9];repeat with_reducible refine eL (by kernel_rfl) ?_
  refine lE rfl (fun hc10=>?_) (fun hc10=>?_)
  ·rw [if_neg (ne_true_of_eq_false hc10)] at h;simp only [go_sem,seval,hc10];refine hZ _ (by kernel_rfl) (pp (hJ8 _ true ?_ h));exact wR
  rw [if_pos hc10] at h;simp only [go_sem,seval,hc10];refine jr rfl (fun hc11=>?_) (fun hc11=>?_)
  ·have hc11d:=decide_eq_true hc11;rw [if_pos hc11] at h;obtain ⟨x7,hb12,hx13,h⟩:=aI h;obtain ⟨r8,hr14,h⟩:=bI h;simp only [go_sem,seval,hc11d,hb12,hx13,hr14];repeat with_reducible refine eL (by kernel_rfl) ?_
   refine hZ _ (by kernel_rfl) (pp (hJ8 _ (decide (0<=r8)) ?_ h));exact wR
  have hc11d:=decide_eq_false hc11;rw [if_neg hc11] at h;simp only [go_sem,seval,hc11d];refine hZ _ (by kernel_rfl) (pp (hJ8 _ false ?_ h));exact wR
 intro c4 h;unfold oB at h;refine cB h (fun hc15 h=>?_) fun hc15 h=>?_
 ·refine z1 hc15 ?_;exact e0 h
 refine z1 (k2 hw6 hc15) ?_;first|refine ⟨(),?_,h⟩|refine ⟨hi4',(),?_,h⟩
 exact wR
@[go_sem] def lF (N:Nat):FnS:=⟨[],true,fn1 (aJ 4 ai.dec) fun q0=>(jo N q0).map fun r=>vB r,false⟩
def kC (N:Nat):aA prog 116 (lF N):=om1 (OO N)
def O5 (N:Nat) (a0:Txn) (c0_0:Int) (r:Bool) (h:wU N a0 c0_0=some r):Con prog 99 [] true [.agg (Txn.row a0),.iref 1 [[vI c0_0]] 0 0] (vB r):=by
 refine fk (G:=(aw [])) func99 gn ?_;simp only [f99];unfold wU at h;refine z0 ?_;refine z0 ?_;exact e0 h
@[go_sem] def AJ (N:Nat):FnS:={ own:=[],pure:=true,fn:=fun cs=>match cs with
 | [c0,.iref 1 [[c1_0]] 0 0]=>(Txn.decA c0).bind fun qc0=>((aG .i64) c1_0).bind fun qc1_0=>(wU N qc0 qc1_0).map fun r=>vB r
 | _=>none }
def J4 (N:Nat):aA prog 99 (AJ N):=by
 refine ⟨fun cs r h=>?_,fun h=>by cases h⟩;simp only [AJ] at h;split at h
 ·simp only [acG,acF] at h;obtain ⟨q0,h0,q1,h1,r',hr,rfl⟩:=h;exact (ag (O5 N q0 q1 r' hr))
 ·cases h
@[go_sem] def wP (N d f:Nat):Option FnS:=aw [(16,99,AJ N)] d f
def wM (N:Nat) (a0:List Txn) (k1_0_0:Int) (r:Int) (h:eE N a0 k1_0_0=some r):Con prog 71 [] true [sF 11 (a0.map Txn.row),.clo 99 [.iref 1 [[vI k1_0_0]] 0 0]] (vI r):=by
 refine fk (G:=(wP N)) func71 (gc 16 (J4 N) gn) ?_;simp only [f71];unfold eE at h;refine z0 ?_;refine z0 ?_;refine lT 0 (fun (v2:Nat) (b:Unit)=>⟨tab 19 (af (af (af (af au 0 (sF 11 (a0.map Txn.row))) 1 (.clo 99 [.iref 1 [[vI k1_0_0]] 0 0])) 7 (vI (a0.length:Int))) 8 (vI (v2:Int))),RZ⟩) () h ?_ ?_
 ·rintro v2 ⟨⟩ hi3' h;simp only [dQ] at h;refine z1 hi3' ?_;refine cf ?_;refine z0 ?_;exact e0 h
 rintro v2 ⟨⟩ x5 hi3' hx4 hw5 h;simp only [dQ] at h;refine z1 hi3' ?_;refine ct ?_;refine z0 ?_;obtain ⟨r1,hr7,h⟩:=bI h;refine z1 (k3 hx4 hi3' hr7) ?_;refine cB h (fun hc8 h=>?_) fun hc8 h=>?_
 ·refine z1 hc8 ?_;exact e0 h
 refine z1 (k2 hw5 hc8) ?_;first|refine ⟨(),?_,h⟩|refine ⟨hi3',(),?_,h⟩
 exact wR
@[go_sem] def iQ (N:Nat):FnS:={ own:=[],pure:=true,fn:=fun cs=>match cs with
 | [c0,.clo 99 [.iref 1 [[k1_0_0]] 0 0]]=>((aJ 11 Txn.dec) c0).bind fun qc0=>((aG .i64) k1_0_0).bind fun qk1_0_0=>(eE N qc0 qk1_0_0).map fun r=>vI r
 | _=>none }
def uK (N:Nat):aA prog 71 (iQ N):=by
 refine ⟨fun cs r h=>?_,fun h=>by cases h⟩;simp only [iQ] at h;split at h
 ·simp only [acG,acF] at h;obtain ⟨q0,h0,q1,h1,r',hr,rfl⟩:=h;exact (ag (wM N q0 q1 r' hr))
 ·cases h
@[go_sem] def RS (N d f:Nat):Option FnS:=aw [(8,71,iQ N)] d f
def Sm (N:Nat) (a0:ae) (a1:Int) (r:Int) (h:fj N a0 a1=some r):Con prog 40 [] true [.agg (ae.row a0),vI a1] (vI r):=by
 refine fk (G:=(RS N)) func40 (gc 8 (uK N) gn) ?_;simp only [f40];unfold fj at h;refine z0 ?_;obtain ⟨r1,hr1,h⟩:=bI h;refine z1 hr1 ?_;exact e0 h
@[go_sem] def gG (N:Nat):FnS:=⟨[],true,fn2 ae.decA (aG .i64) fun q0 q1=>(fj N q0 q1).map fun r=>vI r,false⟩
def ff (N:Nat):aA prog 40 (gG N):=om2 (Sm N)
@[go_sem] def IQ (N d f:Nat):Option FnS:=aw [(6,40,gG N)] d f
def H9 (N:Nat) (a0:Int) (c0_0:List Txn) (c0_1:List ai) (c0_2:List aa) (r:Bool) (h:k9 N a0 c0_0 c0_1 c0_2=some r):Con prog 122 [] true [vI a0,.iref 3 [[sF 11 (c0_0.map Txn.row),sF 4 (c0_1.map ai.row),sF 3 (c0_2.map aa.row)]] 0 0] (vB r):=by
 refine fk (G:=(IQ N)) func122 (gc 6 (ff N) gn) ?_;simp only [f122];unfold k9 at h;refine z0 ?_;obtain ⟨r1,hr1,h⟩:=bI h;refine z1 hr1 ?_;exact e0 h
@[go_sem] def uL (N:Nat):FnS:={ own:=[],pure:=true,fn:=fun cs=>match cs with
 | [c0,.iref 3 [[c1_0,c1_1,c1_2]] 0 0]=>((aG .i64) c0).bind fun qc0=>((aJ 11 Txn.dec) c1_0).bind fun qc1_0=>((aJ 4 ai.dec) c1_1).bind fun qc1_1=>((aJ 3 aa.dec) c1_2).bind fun qc1_2=>(k9 N qc0 qc1_0 qc1_1 qc1_2).map fun r=>vB r
 | _=>none }
def E0 (N:Nat):aA prog 122 (uL N):=by
 refine ⟨fun cs r h=>?_,fun h=>by cases h⟩;simp only [uL] at h;split at h
 ·simp only [acG,acF] at h;obtain ⟨q0,h0,q1,h1,q2,h2,q3,h3,r',hr,rfl⟩:=h;exact (ag (H9 N q0 q1 q2 q3 r' hr))
 ·cases h
@[go_sem] def uf (N d f:Nat):Option FnS:=aw [(16,122,uL N)] d f
def uw (N:Nat) (a0:List Int) (k1_0_0:List Txn) (k1_0_1:List ai) (k1_0_2:List aa) (r:Int) (h:dG N a0 k1_0_0 k1_0_1 k1_0_2=some r):Con prog 189 [] true [sF 1 (a0.map (ay .i64)),.clo 122 [.iref 3 [[sF 11 (k1_0_0.map Txn.row),sF 4 (k1_0_1.map ai.row),sF 3 (k1_0_2.map aa.row)]] 0 0]] (vI r):=by
 refine fk (G:=(uf N)) func189 (gc 16 (E0 N) gn) ?_;simp only [f189];unfold dG at h;refine z0 ?_;refine z0 ?_;refine lT 0 (fun (v2:Nat) (b:Unit)=>⟨tab 19 (af (af (af (af au 0 (sF 1 (a0.map (ay .i64)))) 1 (.clo 122 [.iref 3 [[sF 11 (k1_0_0.map Txn.row),sF 4 (k1_0_1.map ai.row),sF 3 (k1_0_2.map aa.row)]] 0 0])) 7 (vI (a0.length:Int))) 8 (vI (v2:Int))),RZ⟩) () h ?_ ?_
 ·rintro v2 ⟨⟩ hi3' h;simp only [dc] at h;refine z1 hi3' ?_;refine cf ?_;refine z0 ?_;exact e0 h
 rintro v2 ⟨⟩ x5 hi3' hx4 hw5 h;simp only [dc] at h;refine z1 hi3' ?_;refine ct ?_;refine z0 ?_;obtain ⟨r1,hr7,h⟩:=bI h;refine z1 (k3 hx4 hi3' hr7) ?_;refine cB h (fun hc8 h=>?_) fun hc8 h=>?_
 ·refine z1 hc8 ?_;exact e0 h
 refine z1 (k2 hw5 hc8) ?_;first|refine ⟨(),?_,h⟩|refine ⟨hi3',(),?_,h⟩
 exact wR
@[go_sem] def gB (N:Nat):FnS:={ own:=[],pure:=true,fn:=fun cs=>match cs with
 | [c0,.clo 122 [.iref 3 [[k1_0_0,k1_0_1,k1_0_2]] 0 0]]=>((aJ 1 (du (aG .i64))) c0).bind fun qc0=>((aJ 11 Txn.dec) k1_0_0).bind fun qk1_0_0=>((aJ 4 ai.dec) k1_0_1).bind fun qk1_0_1=>((aJ 3 aa.dec) k1_0_2).bind fun qk1_0_2=>(dG N qc0 qk1_0_0 qk1_0_1 qk1_0_2).map fun r=>vI r
 | _=>none }
def rU (N:Nat):aA prog 189 (gB N):=by
 refine ⟨fun cs r h=>?_,fun h=>by cases h⟩;simp only [gB] at h;split at h
 ·simp only [acG,acF] at h;obtain ⟨q0,h0,q1,h1,q2,h2,q3,h3,r',hr,rfl⟩:=h;exact (ag (uw N q0 q1 q2 q3 r' hr))
 ·cases h
@[go_sem] def rZ (N d f:Nat):Option FnS:=aw [(7,189,gB N)] d f
def sM (N:Nat) (a0:List Int) (k1_0_0:List Txn) (k1_0_1:List ai) (k1_0_2:List aa) (r:Bool) (h:dj N a0 k1_0_0 k1_0_1 k1_0_2=some r):Con prog 121 [] true [sF 1 (a0.map (ay .i64)),.clo 122 [.iref 3 [[sF 11 (k1_0_0.map Txn.row),sF 4 (k1_0_1.map ai.row),sF 3 (k1_0_2.map aa.row)]] 0 0]] (vB r):=by
 refine fk (G:=(rZ N)) func121 (gc 7 (rU N) gn) ?_;simp only [f121];unfold dj at h;refine z0 ?_;obtain ⟨r1,hr1,h⟩:=bI h;refine z1 hr1 ?_;exact e0 h
@[go_sem] def fJ (N:Nat):FnS:={ own:=[],pure:=true,fn:=fun cs=>match cs with
 | [c0,.clo 122 [.iref 3 [[k1_0_0,k1_0_1,k1_0_2]] 0 0]]=>((aJ 1 (du (aG .i64))) c0).bind fun qc0=>((aJ 11 Txn.dec) k1_0_0).bind fun qk1_0_0=>((aJ 4 ai.dec) k1_0_1).bind fun qk1_0_1=>((aJ 3 aa.dec) k1_0_2).bind fun qk1_0_2=>(dj N qc0 qk1_0_0 qk1_0_1 qk1_0_2).map fun r=>vB r
 | _=>none }
def pX (N:Nat):aA prog 121 (fJ N):=by
 refine ⟨fun cs r h=>?_,fun h=>by cases h⟩;simp only [fJ] at h;split at h
 ·simp only [acG,acF] at h;obtain ⟨q0,h0,q1,h1,q2,h2,q3,h3,r',hr,rfl⟩:=h;exact (ag (sM N q0 q1 q2 q3 r' hr))
 ·cases h
@[go_sem] def KW (N d f:Nat):Option FnS:=aw [(7,116,lF N),(19,40,gG N),(25,121,fJ N)] d f
def Lp (N:Nat) (a0:ae) (r:Bool) (h:oE N a0=some r):Con prog 53 [] true [.agg (ae.row a0)] (vB r):=by
 refine fk (G:=(KW N)) func53 (gc 7 (kC N) (gc 19 (ff N) (gc 25 (pX N) gn))) ?_;simp only [f53];unfold oE at h;refine z0 ?_;obtain ⟨r1,hr1,h⟩:=bI h;refine z1 hr1 ?_;refine cM h (fun hc2 h=>?_) fun hc2 h=>?_
 ·refine z1 hc2 ?_;exact e0 h
 refine z1 hc2 ?_;refine lT 6 (fun (v4:Nat) (b:Unit)=>⟨tab 28 (af (af (af (af au 1 (pF 1)) 10 (sF 4 (a0.Locks.map ai.row))) 11 (vI (a0.Locks.length:Int))) 12 (vI (v4:Int))),(upd RZ 1 (vA 3 (ae.row a0)))⟩) () h ?_ ?_
 ·rintro v4 ⟨⟩ hi5' h;simp only [iW] at h;refine z1 hi5' ?_;refine cf ?_;refine z0 ?_;exact e0 h
 rintro v4 ⟨⟩ x7 hi5' hx6 hw7 h;simp only [iW] at h;refine z1 hi5' ?_;refine ct ?_;refine z1 (k2 hx6 hi5') ?_;apply aQ (fun (c4:Bool)=>⟨tab 28 (af (af (af (af (af au 1 (pF 1)) 10 (sF 4 (a0.Locks.map ai.row))) 11 (vI (a0.Locks.length:Int))) 12 (vI (v4:Int))) 26 (vB c4)),(upd RZ 1 (vA 3 (ae.row a0)))⟩)
 ·intro hJ9;obtain ⟨r5,hr10,h⟩:=bI h;refine iD h (fun hc11 hc11d h=>?_) fun hc11 hc11d h=>?_
  ·refine z1 (k2 hr10 hc11d) ?_;refine hJ9 _ true ?_ h;exact wR
  obtain ⟨r6,hr12,h⟩:=bI h;refine z1 (k3 hr10 hc11d hr12) ?_;refine hJ9 _ r6 ?_ h;exact wR
 intro c4 h;unfold wL at h;refine cB h (fun hc13 h=>?_) fun hc13 h=>?_
 ·refine z1 hc13 ?_;exact e0 h
 refine z1 (k2 hw7 hc13) ?_;first|refine ⟨(),?_,h⟩|refine ⟨hi5',(),?_,h⟩
 exact wR
@[go_sem] def Cy (N:Nat):FnS:=⟨[],true,fn1 ae.decA fun q0=>(oE N q0).map fun r=>vB r,false⟩
def Gh (N:Nat):aA prog 53 (Cy N):=om1 (Lp N)
@[go_sem] def HU (N d f:Nat):Option FnS:=aw [(4,61,lU N)] d f
def HK (N:Nat) (a0:Value) (r:Bool) (h:kB N a0=some r):Con prog 135 [] true [.agg (Value.row a0)] (vB r):=by
 refine fk (G:=(HU N)) func135 (gc 4 (mj N) gn) ?_;simp only [f135];unfold kB at h;refine z0 ?_;obtain ⟨r1,hr1,h⟩:=bI h;refine z1 hr1 ?_;exact e0 h
@[go_sem] def zm (N:Nat):FnS:=⟨[],true,fn1 Value.decA fun q0=>(kB N q0).map fun r=>vB r,false⟩
def DU (N:Nat):aA prog 135 (zm N):=om1 (HK N)
@[go_sem] def sU (N d f:Nat):Option FnS:=aw [(16,135,zm N)] d f
def sj (N:Nat) (a0:List Value) (r:Int) (h:dp N a0=some r):Con prog 201 [] true [sF 5 (a0.map Value.row),.clo 135 []] (vI r):=by
 refine fk (G:=(sU N)) func201 (gc 16 (DU N) gn) ?_;simp only [f201];unfold dp at h;refine z0 ?_;refine z0 ?_;refine lT 0 (fun (v2:Nat) (b:Unit)=>⟨tab 19 (af (af (af (af au 0 (sF 5 (a0.map Value.row))) 1 (.clo 135 [])) 7 (vI (a0.length:Int))) 8 (vI (v2:Int))),RZ⟩) () h ?_ ?_
 ·rintro v2 ⟨⟩ hi3' h;simp only [bN] at h;refine z1 hi3' ?_;refine cf ?_;refine z0 ?_;exact e0 h
 rintro v2 ⟨⟩ x5 hi3' hx4 hw5 h;simp only [bN] at h;refine z1 hi3' ?_;refine ct ?_;refine z0 ?_;obtain ⟨r1,hr7,h⟩:=bI h;refine z1 (k3 hx4 hi3' hr7) ?_;refine cB h (fun hc8 h=>?_) fun hc8 h=>?_
 ·refine z1 hc8 ?_;exact e0 h
 refine z1 (k2 hw5 hc8) ?_;first|refine ⟨(),?_,h⟩|refine ⟨hi3',(),?_,h⟩
 exact wR
@[go_sem] def fG (N:Nat):FnS:={ own:=[],pure:=true,fn:=fun cs=>match cs with
 | [c0,.clo 135 []]=>((aJ 5 Value.dec) c0).bind fun qc0=>(dp N qc0).map fun r=>vI r
 | _=>none }
def pS (N:Nat):aA prog 201 (fG N):=by
 refine ⟨fun cs r h=>?_,fun h=>by cases h⟩;simp only [fG] at h;split at h
 ·simp only [acG,acF] at h;obtain ⟨q0,h0,r',hr,rfl⟩:=h;exact (ag (sj N q0 r' hr))
 ·cases h
@[go_sem] def qO (N d f:Nat):Option FnS:=aw [(7,201,fG N)] d f
def qu (N:Nat) (a0:List Value) (r:Bool) (h:bL N a0=some r):Con prog 134 [] true [sF 5 (a0.map Value.row),.clo 135 []] (vB r):=by
 refine fk (G:=(qO N)) func134 (gc 7 (pS N) gn) ?_;simp only [f134];unfold bL at h;refine z0 ?_;obtain ⟨r1,hr1,h⟩:=bI h;refine z1 hr1 ?_;exact e0 h
@[go_sem] def eW (N:Nat):FnS:={ own:=[],pure:=true,fn:=fun cs=>match cs with
 | [c0,.clo 135 []]=>((aJ 5 Value.dec) c0).bind fun qc0=>(bL N qc0).map fun r=>vB r
 | _=>none }
def oH (N:Nat):aA prog 134 (eW N):=by
 refine ⟨fun cs r h=>?_,fun h=>by cases h⟩;simp only [eW] at h;split at h
 ·simp only [acG,acF] at h;obtain ⟨q0,h0,r',hr,rfl⟩:=h;exact (ag (qu N q0 r' hr))
 ·cases h
@[go_sem] def JR (N d f:Nat):Option FnS:=aw [(8,134,eW N)] d f
def J5 (N:Nat) (a0:List Value) (r:Bool) (h:j4 N a0=some r):Con prog 60 [] true [sF 5 (a0.map Value.row)] (vB r):=by
 refine fk (G:=(JR N)) func60 (gc 8 (oH N) gn) ?_;simp only [f60];unfold j4 at h;refine z0 ?_;refine iD h (fun hc1 hc1d h=>?_) fun hc1 hc1d h=>?_
 ·obtain ⟨r1,hr2,h⟩:=bI h;refine z1 (k2 hc1d hr2) ?_;exact e0 h
 refine z1 hc1d ?_;exact e0 h
@[go_sem] def vo (N:Nat):FnS:=⟨[],true,fn1 (aJ 5 Value.dec) fun q0=>(j4 N q0).map fun r=>vB r,false⟩
def zc (N:Nat):aA prog 60 (vo N):=om1 (J5 N)
def HR (N:Nat) (a0:al) (c0_0:Int) (c0_1:List Value) (c0_2:Bool) (r:Bool) (h:ky N a0 c0_0 c0_1 c0_2=some r):Con prog 192 [] true [.agg (al.row a0),.iref 3 [[vI c0_0,sF 5 (c0_1.map Value.row),vB c0_2]] 0 0] (vB r):=by
 refine fk (G:=(aw [])) func192 gn ?_;simp only [f192];unfold ky at h;refine z0 ?_;refine z0 ?_;exact e0 h
@[go_sem] def tl (N:Nat):FnS:={ own:=[],pure:=true,fn:=fun cs=>match cs with
 | [c0,.iref 3 [[c1_0,c1_1,c1_2]] 0 0]=>(al.decA c0).bind fun qc0=>((aG .i64) c1_0).bind fun qc1_0=>((aJ 5 Value.dec) c1_1).bind fun qc1_1=>(DM c1_2).bind fun qc1_2=>(ky N qc0 qc1_0 qc1_1 qc1_2).map fun r=>vB r
 | _=>none }
def DR (N:Nat):aA prog 192 (tl N):=by
 refine ⟨fun cs r h=>?_,fun h=>by cases h⟩;simp only [tl] at h;split at h
 ·simp only [acG,acF] at h;obtain ⟨q0,h0,q1,h1,q2,h2,q3,h3,r',hr,rfl⟩:=h;exact (ag (HR N q0 q1 q2 q3 r' hr))
 ·cases h
@[go_sem] def rY (N d f:Nat):Option FnS:=aw [(16,192,tl N)] d f
def sr (N:Nat) (a0:List al) (k1_0_0:Int) (k1_0_1:List Value) (k1_0_2:Bool) (r:Int) (h:dh N a0 k1_0_0 k1_0_1 k1_0_2=some r):Con prog 186 [] true [sF 3 (a0.map al.row),.clo 192 [.iref 3 [[vI k1_0_0,sF 5 (k1_0_1.map Value.row),vB k1_0_2]] 0 0]] (vI r):=by
 refine fk (G:=(rY N)) func186 (gc 16 (DR N) gn) ?_;simp only [f186];unfold dh at h;refine z0 ?_;refine z0 ?_;refine lT 0 (fun (v2:Nat) (b:Unit)=>⟨tab 19 (af (af (af (af au 0 (sF 3 (a0.map al.row))) 1 (.clo 192 [.iref 3 [[vI k1_0_0,sF 5 (k1_0_1.map Value.row),vB k1_0_2]] 0 0])) 7 (vI (a0.length:Int))) 8 (vI (v2:Int))),RZ⟩) () h ?_ ?_
 ·rintro v2 ⟨⟩ hi3' h;simp only [bQ] at h;refine z1 hi3' ?_;refine cf ?_;refine z0 ?_;exact e0 h
 rintro v2 ⟨⟩ x5 hi3' hx4 hw5 h;simp only [bQ] at h;refine z1 hi3' ?_;refine ct ?_;refine z0 ?_;obtain ⟨r1,hr7,h⟩:=bI h;refine z1 (k3 hx4 hi3' hr7) ?_;refine cB h (fun hc8 h=>?_) fun hc8 h=>?_
 ·refine z1 hc8 ?_;exact e0 h
 refine z1 (k2 hw5 hc8) ?_;first|refine ⟨(),?_,h⟩|refine ⟨hi3',(),?_,h⟩
 exact wR
@[go_sem] def fI (N:Nat):FnS:={ own:=[],pure:=true,fn:=fun cs=>match cs with
 | [c0,.clo 192 [.iref 3 [[k1_0_0,k1_0_1,k1_0_2]] 0 0]]=>((aJ 3 al.dec) c0).bind fun qc0=>((aG .i64) k1_0_0).bind fun qk1_0_0=>((aJ 5 Value.dec) k1_0_1).bind fun qk1_0_1=>(DM k1_0_2).bind fun qk1_0_2=>(dh N qc0 qk1_0_0 qk1_0_1 qk1_0_2).map fun r=>vI r
 | _=>none }
def pW (N:Nat):aA prog 186 (fI N):=by
 refine ⟨fun cs r h=>?_,fun h=>by cases h⟩;simp only [fI] at h;split at h
 ·simp only [acG,acF] at h;obtain ⟨q0,h0,q1,h1,q2,h2,q3,h3,r',hr,rfl⟩:=h;exact (ag (sr N q0 q1 q2 q3 r' hr))
 ·cases h
@[go_sem] def qy (N d f:Nat):Option FnS:=aw [(7,186,fI N)] d f
def qQ (N:Nat) (a0:List al) (k1_0_0:Int) (k1_0_1:List Value) (k1_0_2:Bool) (r:Bool) (h:aZ N a0 k1_0_0 k1_0_1 k1_0_2=some r):Con prog 191 [] true [sF 3 (a0.map al.row),.clo 192 [.iref 3 [[vI k1_0_0,sF 5 (k1_0_1.map Value.row),vB k1_0_2]] 0 0]] (vB r):=by
 refine fk (G:=(qy N)) func191 (gc 7 (pW N) gn) ?_;simp only [f191];unfold aZ at h;refine z0 ?_;obtain ⟨r1,hr1,h⟩:=bI h;refine z1 hr1 ?_;exact e0 h
@[go_sem] def eV (N:Nat):FnS:={ own:=[],pure:=true,fn:=fun cs=>match cs with
 | [c0,.clo 192 [.iref 3 [[k1_0_0,k1_0_1,k1_0_2]] 0 0]]=>((aJ 3 al.dec) c0).bind fun qc0=>((aG .i64) k1_0_0).bind fun qk1_0_0=>((aJ 5 Value.dec) k1_0_1).bind fun qk1_0_1=>(DM k1_0_2).bind fun qk1_0_2=>(aZ N qc0 qk1_0_0 qk1_0_1 qk1_0_2).map fun r=>vB r
 | _=>none }
def oF (N:Nat):aA prog 191 (eV N):=by
 refine ⟨fun cs r h=>?_,fun h=>by cases h⟩;simp only [eV] at h;split at h
 ·simp only [acG,acF] at h;obtain ⟨q0,h0,q1,h1,q2,h2,q3,h3,r',hr,rfl⟩:=h;exact (ag (qQ N q0 q1 q2 q3 r' hr))
 ·cases h
@[go_sem] def JZ (N d f:Nat):Option FnS:=aw [(17,40,gG N),(22,60,vo N),(42,191,eV N)] d f
def JV (N:Nat) (a0:ae) (a1:List al) (r:Bool) (h:ke N a0 a1=some r):Con prog 123 [] true [.agg (ae.row a0),sF 3 (a1.map al.row)] (vB r):=by
 refine fk (G:=(JZ N)) func123 (gc 17 (ff N) (gc 22 (zc N) (gc 42 (oF N) gn))) ?_;simp only [f123];unfold ke at h;refine z0 ?_;refine z0 ?_;refine aS (gr fun hreal2=>?_);have hl1:=hreal2.lenT 1 (by decide) (by simp only [go_sem,seval]; rfl);first|rw [acL] at hl1|rw [eK] at hl1|rw [<-ac2,acL] at hl1
 refine pA (fun (v2:Nat) (b:Unit)=>⟨tab 48 (af (af (af (af (af au 1 (sF 3 (a1.map al.row))) 2 (pF 2)) 7 (sF 3 (a1.map al.row))) 8 (vI (a1.length:Int))) 9 (vI (v2:Int))),(upd RZ 2 (vA 3 (ae.row a0)))⟩) () h ?_ ?_
 ·refine wr ?_ ?_<;>repeat' first|rfl|constructor|simp only [go_sem,seval,adD,ac7,adu,adl]
 rintro v2 ⟨⟩ hi3 h -;rcases (kq a1 v2 hi3).symm with ⟨hi3',_,hd6⟩|⟨x5,hi3',hx4,hd6⟩
 ·rw [hd6] at h;simp only [eA] at h;refine z1 hi3' ?_;refine cf ?_;refine z0 ?_;refine fb (pp ?_);cases h;simp (config := { maxSteps := 4000000 }) only [go_sem,seval];exact ⟨_,rfl,(by exact ROk.refl _),(by repeat' (first|exact bB.val _|refine bB.tup ?_|refine bB.agg ?_|exact vQ|refine jg ?_ ?_))⟩
 rw [hd6] at h;simp only [eA] at h;have hw5:=dX hi3' hl1;refine z1 hi3' ?_;refine ct ?_;refine z1 (k2 hx4 hi3') ?_;apply aQ (fun (c7:Bool)=>⟨tab 48 (af (af (af (af (af (af au 1 (sF 3 (a1.map al.row))) 2 (pF 2)) 7 (sF 3 (a1.map al.row))) 8 (vI (a1.length:Int))) 9 (vI (v2:Int))) 43 (vB c7)),(upd RZ 2 (vA 3 (ae.row a0)))⟩)
 ·intro hJ7;obtain ⟨r8,hr8,h⟩:=bI h;refine ic fun Z hZ=>?_;simp (config := { maxSteps := 4000000 }) only [go_sem,seval,hr8];refine jr rfl (fun hc9=>?_) (fun hc9=>?_)
  ·have hc9d:=decide_eq_true hc9;first|rw [if_pos hc9] at h|rw [if_pos hc9d] at h|simp only [hc9d,ac5,ac9,acO,if_true,if_false] at h
   simp (config := { maxSteps := 4000000 }) only [go_sem,seval,hc9d];refine hZ _ (pp (hJ7 _ true ?_ h));exact wF (k5 hx4 hi3' hw5 hr8 hc9d)
  have hc9d:=decide_eq_false hc9;first|rw [if_neg hc9] at h|rw [if_neg (ne_true_of_eq_false hc9d)] at h|simp only [hc9d,ac5,ac9,acO,if_true,if_false] at h
  obtain ⟨r9,hr10,h⟩:=bI h;simp (config := { maxSteps := 4000000 }) only [go_sem,seval,hc9d,hr10];refine lE rfl (fun hc11=>?_) (fun hc11=>?_)
  ·first|rw [if_neg (ne_true_of_eq_false hc11)] at h|simp only [hc11,ady,adA,ado,adK,adz,adL,ads,adB,ac5,ac9,acO,if_true,if_false] at h
   simp (config := { maxSteps := 4000000 }) only [go_sem,seval,hc11];refine hZ _ (pp (hJ7 _ true ?_ h));exact wF (k5 hx4 hi3' hw5 hr8 (k3 hc9d hr10 hc11))
  first|rw [if_pos hc11] at h|simp only [hc11,ady,adA,ado,adK,adz,adL,ads,adB,ac5,ac9,acO,if_true,if_false] at h
  simp (config := { maxSteps := 4000000 }) only [go_sem,seval,hc11];refine sw (lE rfl) (fun hc12=>?_) (fun hc12=>?_)
  ·first|rw [if_pos hc12] at h|simp only [hc12,hc11,ady,adA,ado,adK,adz,adL,ads,adB,ac5,ac9,acO,if_true,if_false] at h
   obtain ⟨hs16,h⟩:=jb h;try simp only [acX,aeA,adn,ad4] at hs16 h
   obtain ⟨r11,hr17,h⟩:=bI h;try simp only [hc12] at hr17
   simp (config := { maxSteps := 4000000 }) only [go_sem,seval,hc12,hs16,adn,hr17];refine hZ _ (pp (hJ7 _ r11 ?_ h));exact wF (k5 hx4 hi3' hw5 hr8 (k5 hc9d hr10 hc11 hc12 (k4 hs16 @adn @adt hr17)))
  first|rw [if_neg (ne_true_of_eq_false hc12)] at h|simp only [hc12,hc11,ady,adA,ado,adK,adz,adL,ads,adB,ac5,ac9,acO,if_true,if_false] at h
  simp (config := { maxSteps := 4000000 }) only [go_sem,seval,hc12];refine jr rfl (fun hc13=>?_) (fun hc13=>?_)
  ·have hc13d:=decide_eq_true hc13;first|rw [if_pos hc13] at h|rw [if_pos hc13d] at h|simp only [hc13d,ac5,ac9,acO,if_true,if_false] at h
   simp (config := { maxSteps := 4000000 }) only [go_sem,seval,hc13d];refine hZ _ (pp (hJ7 _ true ?_ h));exact wF (k5 hx4 hi3' hw5 hr8 (k5 hc9d hr10 hc11 hc12 hc13d))
  have hc13d:=decide_eq_false hc13;first|rw [if_neg hc13] at h|rw [if_neg (ne_true_of_eq_false hc13d)] at h|simp only [hc13d,ac5,ac9,acO,if_true,if_false] at h
  obtain ⟨hs14,h⟩:=jb h;try simp only [acX,aeA,adn,ad4] at hs14 h
  obtain ⟨r10,hr15,h⟩:=bI h;try simp only [hc12] at hr15
  simp (config := { maxSteps := 4000000 }) only [go_sem,seval,hc13d,hs14,adn,hr15];refine hZ _ (pp (hJ7 _ r10 ?_ h));exact wF (k5 hx4 hi3' hw5 hr8 (k5 hc9d hr10 hc11 hc12 (k5 hc13d hs14 @adn @adt hr15)))
 intro c7 h;unfold jN at h;refine oO rfl (fun hc18=>?_) (fun hc18=>?_)
 ·first|rw [if_pos hc18] at h|simp only [hc18,ady,adA,ado,adK,adz,adL,ads,adB,ac5,ac9,acO,if_true,if_false] at h
  refine z1 hc18 ?_;refine fb (pp ?_);cases h;simp (config := { maxSteps := 4000000 }) only [go_sem,seval];exact ⟨_,rfl,(by exact ROk.refl _),(by repeat' (first|exact bB.val _|refine bB.tup ?_|refine bB.agg ?_|exact vQ|refine jg ?_ ?_))⟩
 first|rw [if_neg (ne_true_of_eq_false hc18)] at h|simp only [hc18,ady,adA,ado,adK,adz,adL,ads,adB,ac5,ac9,acO,if_true,if_false] at h
 refine z1 (k2 hw5 hc18) ?_;first|refine ⟨(),?_,h⟩|refine ⟨hi3',(),?_,h⟩
 exact wF (k4 hx4 hi3' hw5 hc18)
@[go_sem] def BI (N:Nat):FnS:=⟨[],true,fn2 ae.decA (aJ 3 al.dec) fun q0 q1=>(ke N q0 q1).map fun r=>vB r,false⟩
def FT (N:Nat):aA prog 123 (BI N):=om2 (JV N)
@[go_sem] def NO (N d f:Nat):Option FnS:=aw [(8,188,yR N)] d f
def Ni (N:Nat) (a0:ai) (a1:Ref) (r:Int) (h:pn N a0 a1=some r):Con prog 194 [] true [.agg (ai.row a0),.agg [vS a1.Type_,vS a1.Key]] (vI r):=by
 refine fk (G:=(NO N)) func194 (gc 8 (Ai N) gn) ?_;simp only [f194];unfold pn at h;refine z0 ?_;obtain ⟨r1,hr1,h⟩:=bI h;refine z1 hr1 ?_;exact e0 h
@[go_sem] def zT (N:Nat):FnS:=⟨[],true,fn2 ai.decA Ref.decA fun q0 q1=>(pn N q0 q1).map fun r=>vI r,false⟩
def BO (N:Nat):aA prog 194 (zT N):=om2 (Ni N)
@[go_sem] def sa (N d f:Nat):Option FnS:=aw [(30,194,zT N),(46,194,zT N)] d f
def sV (N:Nat) (a0:List ai) (a1:Ref) (r:Int × Bool) (h:dg N a0 a1=some r):Con prog 193 [] true [sF 4 (a0.map ai.row),.agg [vS a1.Type_,vS a1.Key],.clo 194 []] (.tup [vI r.1,vB r.2]):=by
 refine fk (G:=(sa N)) func193 (gc 30 (BO N) (gc 46 (BO N) gn)) ?_;simp only [f193];unfold dg at h;refine z0 ?_;refine z0 ?_;refine z0 ?_;refine aK (aS (il (fun (b:Int × Int)=>⟨tab 49 (af (af (af (af (af (af au 0 (sF 4 (a0.map ai.row))) 2 (.clo 194 [])) 4 (pF 4)) 8 (vI (a0.length:Int))) 9 (vI b.1)) 10 (vI b.2)),(upd RZ 4 (vA 2 [vS a1.Type_,vS a1.Key]))⟩) (0,(a0.length:Int)) h ?_ ?_))
 ·exact wR
 rintro n ⟨v2,v3⟩ h -;cases n with
 | zero=>simp [aY] at h
 | succ n=>
 simp only [aY] at h;refine z0 ?_;refine cDs h (fun hc1 hc1d h=>?_) fun hc1 hc1d h=>?_
 ·refine fT (pp ?_);unfold dN at h;refine iD h (fun hc6 hc6d h=>?_) fun hc6 hc6d h=>?_
  ·obtain ⟨x11,hb7,hx8,h⟩:=aI h;obtain ⟨r12,hr9,h⟩:=bI h;refine d1 (k4 hc1d hb7 hx8 hr9) ?_;exact e0 h
  refine d1 (k2 hc1d hc6d) ?_;exact e0 h
 refine z1 hc1d ?_;obtain ⟨x9,hb2,hx3,h⟩:=aI h;obtain ⟨r10,hr4,h⟩:=bI h;refine d1 (k3 hb2 hx3 hr4) ?_;refine cD h (fun hc5 hc5d h=>?_) fun hc5 hc5d h=>?_
 ·refine z1 hc5d ?_;refine ⟨_,adk _,(IntKind.i64.wrap ((IntKind.i64.wrap (kt .u64 (IntKind.u64.wrap (IntKind.i64.wrap (v2+v3))) 1))+1),v3),?_,h⟩;exact wR
 refine z1 hc5d ?_;refine ⟨_,adk _,(v2,IntKind.i64.wrap (kt .u64 (IntKind.u64.wrap (IntKind.i64.wrap (v2+v3))) 1)),?_,h⟩;exact wR
@[go_sem] def fF (N:Nat):FnS:={ own:=[],pure:=true,fn:=fun cs=>match cs with
 | [c0,c1,.clo 194 []]=>((aJ 4 ai.dec) c0).bind fun qc0=>(Ref.decA c1).bind fun qc1=>(dg N qc0 qc1).map fun r=>.tup [vI r.1,vB r.2]
 | _=>none }
def pY (N:Nat):aA prog 193 (fF N):=by
 refine ⟨fun cs r h=>?_,fun h=>by cases h⟩;simp only [fF] at h;split at h
 ·simp only [acG,acF] at h;obtain ⟨q0,h0,q1,h1,r',hr,rfl⟩:=h;exact (ag (sV N q0 q1 r' hr))
 ·cases h
@[go_sem] def QC (N d f:Nat):Option FnS:=aw [(8,193,fF N)] d f
def QZ (N:Nat) (a0:List ai) (a1:Ref) (r:Int × Bool) (h:qn N a0 a1=some r):Con prog 126 [] true [sF 4 (a0.map ai.row),.agg [vS a1.Type_,vS a1.Key]] (.tup [vI r.1,vB r.2]):=by
 refine fk (G:=(QC N)) func126 (gc 8 (pY N) gn) ?_;simp only [f126];unfold qn at h;refine z0 ?_;obtain ⟨r1,hr1,h⟩:=bI h;refine z1 hr1 ?_;exact e0 h
@[go_sem] def yr (N:Nat):FnS:=⟨[],true,fn2 (aJ 4 ai.dec) Ref.decA fun q0 q1=>(qn N q0 q1).map fun r=>.tup [vI r.1,vB r.2],false⟩
def yE (N:Nat):aA prog 126 (yr N):=om2 (QZ N)
@[go_sem] def Pm (N d f:Nat):Option FnS:=aw [(8,116,lF N),(13,126,yr N)] d f
def OR (N:Nat) (a0:List ai) (a1:Ref) (r:Int) (h:m9 N a0 a1=some r):Con prog 62 [] true [sF 4 (a0.map ai.row),.agg [vS a1.Type_,vS a1.Key]] (vI r):=by
 refine fk (G:=(Pm N)) func62 (gc 8 (kC N) (gc 13 (yE N) gn)) ?_;simp only [f62];unfold m9 at h;refine z0 ?_;obtain ⟨r1,hr1,h⟩:=bI h;refine z1 hr1 ?_;refine cM h (fun hc2 h=>?_) fun hc2 h=>?_
 ·refine z1 hc2 ?_;exact e0 h
 obtain ⟨r2,hr3,h⟩:=bI h;refine z1 (k2 hc2 hr3) ?_;refine z0 ?_;refine cB h (fun hc4 h=>?_) fun hc4 h=>?_
 ·obtain ⟨x3,hb5,hx6,h⟩:=aI h;refine z1 (k3 hc4 hb5 hx6) ?_;exact e0 h
 refine z1 hc4 ?_;exact e0 h
@[go_sem] def Aq (N:Nat):FnS:=⟨[],true,fn2 (aJ 4 ai.dec) Ref.decA fun q0 q1=>(m9 N q0 q1).map fun r=>vI r,false⟩
def Cs (N:Nat):aA prog 62 (Aq N):=om2 (OR N)
def Ms (N:Nat) (a0:ah) (c0_0:ByteArray) (c0_1:ByteArray) (r:Bool) (h:ug N a0 c0_0 c0_1=some r):Con prog 141 [] true [.agg (ah.row a0),.iref 2 [[vS c0_0,vS c0_1]] 0 0] (vB r):=by
 refine fk (G:=(aw [])) func141 gn ?_;simp only [f141];unfold ug at h;refine z0 ?_;refine z0 ?_;exact e0 h
@[go_sem] def yD (N:Nat):FnS:={ own:=[],pure:=true,fn:=fun cs=>match cs with
 | [c0,.iref 2 [[c1_0,c1_1]] 0 0]=>(ah.decA c0).bind fun qc0=>(bW c1_0).bind fun qc1_0=>(bW c1_1).bind fun qc1_1=>(ug N qc0 qc1_0 qc1_1).map fun r=>vB r
 | _=>none }
def HX (N:Nat):aA prog 141 (yD N):=by
 refine ⟨fun cs r h=>?_,fun h=>by cases h⟩;simp only [yD] at h;split at h
 ·simp only [acG,acF] at h;obtain ⟨q0,h0,q1,h1,q2,h2,r',hr,rfl⟩:=h;exact (ag (Ms N q0 q1 q2 r' hr))
 ·cases h
@[go_sem] def sm (N d f:Nat):Option FnS:=aw [(16,141,yD N)] d f
def sx (N:Nat) (a0:List ah) (k1_0_0:ByteArray) (k1_0_1:ByteArray) (r:Int) (h:de N a0 k1_0_0 k1_0_1=some r):Con prog 203 [] true [sF 4 (a0.map ah.row),.clo 141 [.iref 2 [[vS k1_0_0,vS k1_0_1]] 0 0]] (vI r):=by
 refine fk (G:=(sm N)) func203 (gc 16 (HX N) gn) ?_;simp only [f203];unfold de at h;refine z0 ?_;refine z0 ?_;refine lT 0 (fun (v2:Nat) (b:Unit)=>⟨tab 19 (af (af (af (af au 0 (sF 4 (a0.map ah.row))) 1 (.clo 141 [.iref 2 [[vS k1_0_0,vS k1_0_1]] 0 0])) 7 (vI (a0.length:Int))) 8 (vI (v2:Int))),RZ⟩) () h ?_ ?_
 ·rintro v2 ⟨⟩ hi3' h;simp only [bO] at h;refine z1 hi3' ?_;refine cf ?_;refine z0 ?_;exact e0 h
 rintro v2 ⟨⟩ x5 hi3' hx4 hw5 h;simp only [bO] at h;refine z1 hi3' ?_;refine ct ?_;refine z0 ?_;obtain ⟨r1,hr7,h⟩:=bI h;refine z1 (k3 hx4 hi3' hr7) ?_;refine cB h (fun hc8 h=>?_) fun hc8 h=>?_
 ·refine z1 hc8 ?_;exact e0 h
 refine z1 (k2 hw5 hc8) ?_;first|refine ⟨(),?_,h⟩|refine ⟨hi3',(),?_,h⟩
 exact wR
@[go_sem] def fE (N:Nat):FnS:={ own:=[],pure:=true,fn:=fun cs=>match cs with
 | [c0,.clo 141 [.iref 2 [[k1_0_0,k1_0_1]] 0 0]]=>((aJ 4 ah.dec) c0).bind fun qc0=>(bW k1_0_0).bind fun qk1_0_0=>(bW k1_0_1).bind fun qk1_0_1=>(de N qc0 qk1_0_0 qk1_0_1).map fun r=>vI r
 | _=>none }
def p7 (N:Nat):aA prog 203 (fE N):=by
 refine ⟨fun cs r h=>?_,fun h=>by cases h⟩;simp only [fE] at h;split at h
 ·simp only [acG,acF] at h;obtain ⟨q0,h0,q1,h1,q2,h2,r',hr,rfl⟩:=h;exact (ag (sx N q0 q1 q2 r' hr))
 ·cases h
@[go_sem] def qB (N d f:Nat):Option FnS:=aw [(7,203,fE N)] d f
def qY (N:Nat) (a0:List ah) (k1_0_0:ByteArray) (k1_0_1:ByteArray) (r:Bool) (h:bM N a0 k1_0_0 k1_0_1=some r):Con prog 140 [] true [sF 4 (a0.map ah.row),.clo 141 [.iref 2 [[vS k1_0_0,vS k1_0_1]] 0 0]] (vB r):=by
 refine fk (G:=(qB N)) func140 (gc 7 (p7 N) gn) ?_;simp only [f140];unfold bM at h;refine z0 ?_;obtain ⟨r1,hr1,h⟩:=bI h;refine z1 hr1 ?_;exact e0 h
@[go_sem] def eT (N:Nat):FnS:={ own:=[],pure:=true,fn:=fun cs=>match cs with
 | [c0,.clo 141 [.iref 2 [[k1_0_0,k1_0_1]] 0 0]]=>((aJ 4 ah.dec) c0).bind fun qc0=>(bW k1_0_0).bind fun qk1_0_0=>(bW k1_0_1).bind fun qk1_0_1=>(bM N qc0 qk1_0_0 qk1_0_1).map fun r=>vB r
 | _=>none }
def ot (N:Nat):aA prog 140 (eT N):=by
 refine ⟨fun cs r h=>?_,fun h=>by cases h⟩;simp only [eT] at h;split at h
 ·simp only [acG,acF] at h;obtain ⟨q0,h0,q1,h1,q2,h2,r',hr,rfl⟩:=h;exact (ag (qY N q0 q1 q2 r' hr))
 ·cases h
@[go_sem] def Pa (N d f:Nat):Option FnS:=aw [(7,140,eT N)] d f
def Pj (N:Nat) (a0:List ah) (a1:Ref) (r:Bool) (h:oh N a0 a1=some r):Con prog 68 [] true [sF 4 (a0.map ah.row),.agg [vS a1.Type_,vS a1.Key]] (vB r):=by
 refine fk (G:=(Pa N)) func68 (gc 7 (ot N) gn) ?_;simp only [f68];unfold oh at h;refine z0 ?_;obtain ⟨r1,hr1,h⟩:=bI h;refine z1 hr1 ?_;exact e0 h
@[go_sem] def Au (N:Nat):FnS:=⟨[],true,fn2 (aJ 4 ah.dec) Ref.decA fun q0 q1=>(oh N q0 q1).map fun r=>vB r,false⟩
def Cu (N:Nat):aA prog 68 (Au N):=om2 (Pj N)
@[go_sem] def O6 (N d f:Nat):Option FnS:=aw [(9,104,jO N),(14,104,jO N),(16,103,B7 N)] d f
def Hy (N:Nat) (a0:Ref) (a1:Ref) (r:Int) (h:gI N a0 a1=some r):Con prog 43 [] true [.agg [vS a0.Type_,vS a0.Key],.agg [vS a1.Type_,vS a1.Key]] (vI r):=by
 refine fk (G:=(O6 N)) func43 (gc 9 (j9 N) (gc 14 (j9 N) (gc 16 (Dh N) gn))) ?_;simp only [f43];unfold gI at h;refine z0 ?_;obtain ⟨r1,hr1,h⟩:=bI h;obtain ⟨r2,hr2,h⟩:=bI h;obtain ⟨r3,hr3,h⟩:=bI h;refine d1 (k3 hr1 hr2 hr3) ?_;exact e0 h
@[go_sem] def wb (N:Nat):FnS:=⟨[],true,fn2 Ref.decA Ref.decA fun q0 q1=>(gI N q0 q1).map fun r=>vI r,false⟩
def wI (N:Nat):aA prog 43 (wb N):=om2 (Hy N)
@[go_sem] def Ke (N d f:Nat):Option FnS:=aw [(36,123,BI N),(55,62,Aq N),(72,40,gG N),(82,68,Au N),(29,43,wb N)] d f
def JQ (N:Nat) (a0:ae) (r:Bool) (h:mn N a0=some r):Con prog 54 [] true [.agg (ae.row a0)] (vB r):=by
 refine fk (G:=(Ke N)) func54 (gc 36 (FT N) (gc 55 (Cs N) (gc 72 (ff N) (gc 82 (Cu N) (gc 29 (wI N) gn))))) ?_;simp only [f54];unfold mn at h;refine z0 ?_;refine z0 ?_;refine lT 10 (fun (v2:Nat) (b:Unit)=>⟨tab 98 (af (af (af (af au 1 (pF 1)) 10 (sF 3 (a0.Stacks.map aa.row))) 11 (vI (a0.Stacks.length:Int))) 12 (vI (v2:Int))),(upd RZ 1 (vA 3 (ae.row a0)))⟩) () h ?_ ?_
 ·rintro v2 ⟨⟩ hi3' h;simp only [ew] at h;refine z1 hi3' ?_;refine cf ?_;refine z0 ?_;exact e0 h
 rintro v2 ⟨⟩ x5 hi3' hx4 hw5 h;simp only [ew] at h;refine z1 hi3' ?_;refine ct ?_;refine z1 (k2 hx4 hi3') ?_;refine aK ?_;apply aQ (fun (c11:Bool)=>⟨tab 98 (af (af (af (af (af (af au 1 (pF 1)) 4 (pF 4)) 10 (sF 3 (a0.Stacks.map aa.row))) 11 (vI (a0.Stacks.length:Int))) 12 (vI (v2:Int))) 38 (vB c11)),(upd (upd RZ 1 (vA 3 (ae.row a0))) 4 (vA 3 (aa.row x5)))⟩)
 ·intro hJ7;refine ki fun Z hZ=>?_;simp only [go_sem,seval];refine sw (jr rfl) (fun hc8=>?_) (fun hc8=>?_)
  ·have hc8d:=decide_eq_false hc8;rw [if_neg hc8] at h;obtain ⟨r15,hr14,h⟩:=bI h;simp only [go_sem,seval,hc8d,hr14];repeat with_reducible refine eL (by kernel_rfl) ?_
   refine hZ _ (by kernel_rfl) (pp (hJ7 _ (!r15) ?_ h));exact wR
  have hc8d:=decide_eq_true hc8;rw [if_pos hc8] at h;obtain ⟨x12,hb9,hx10,h⟩:=aI h;obtain ⟨r13,hr11,h⟩:=bI h;simp only [go_sem,seval,hc8d,hb9,hx10,hr11];repeat with_reducible refine eL (by kernel_rfl) ?_
  refine jr rfl (fun hc12=>?_) (fun hc12=>?_)
  ·have hc12d:=decide_eq_true hc12;rw [if_pos hc12] at h;simp only [go_sem,seval,hc12d];refine hZ _ (by kernel_rfl) (pp (hJ7 _ true ?_ h));exact wR
  have hc12d:=decide_eq_false hc12;rw [if_neg hc12] at h;obtain ⟨r14,hr13,h⟩:=bI h;simp only [go_sem,seval,hc12d,hr13];repeat with_reducible refine eL (by kernel_rfl) ?_
  refine hZ _ (by kernel_rfl) (pp (hJ7 _ (!r14) ?_ h));exact wR
 intro c11 h;unfold jH at h;refine cB h (fun hc15 h=>?_) fun hc15 h=>?_
 ·refine z1 hc15 ?_;exact e0 h
 refine aW (pp ?_);unfold jJ at h;obtain ⟨x16,hb16,hx17,h⟩:=aI h;refine z1 (k3 hc15 hb16 hx17) ?_;refine aK ?_;apply aQ (fun (c21:Bool)=>⟨tab 98 (af (af (af (af (af (af au 1 (pF 1)) 4 (pF 4)) 10 (sF 3 (a0.Stacks.map aa.row))) 11 (vI (a0.Stacks.length:Int))) 12 (vI (v2:Int))) 59 (vB c21)),(upd (upd RZ 1 (vA 3 (ae.row a0))) 4 (vA 3 (aa.row x5)))⟩)
 ·intro hJ18;refine iBs h (fun hc19 h=>?_) fun hc19 h=>?_
  ·obtain ⟨r22,hr20,h⟩:=bI h;refine d1 (k2 hc19 hr20) ?_;refine hJ18 _ (!decide (r22=x16.Txn_)) ?_ h;exact wR
  refine d1 hc19 ?_;refine hJ18 _ false ?_ h;exact wR
 intro c21 h;unfold lS at h;refine cB h (fun hc21 h=>?_) fun hc21 h=>?_
 ·refine z1 hc21 ?_;exact e0 h
 unfold lV at h;refine z1 hc21 ?_;refine lT 61 (fun (v20:Nat) (b:Unit)=>⟨tab 98 (af (af (af (af (af (af (af (af au 1 (pF 1)) 4 (pF 4)) 10 (sF 3 (a0.Stacks.map aa.row))) 11 (vI (a0.Stacks.length:Int))) 12 (vI (v2:Int))) 61 (sF 3 (x5.Layers.map al.row))) 62 (vI (x5.Layers.length:Int))) 63 (vI (v20:Int))),(upd (upd RZ 1 (vA 3 (ae.row a0))) 4 (vA 3 (aa.row x5)))⟩) () h ?_ ?_
 ·rintro v20 ⟨⟩ hi24' h;simp only [fg] at h;refine z1 hi24' ?_;refine cf ?_;refine z1 hw5 ?_;first|refine ⟨(),?_,h⟩|refine ⟨hi3',(),?_,h⟩
  exact wR
 rintro v20 ⟨⟩ x23 hi24' hx25 hw26 h;simp only [fg] at h;refine z1 hi24' ?_;refine ct ?_;refine z1 (k2 hx25 hi24') ?_;obtain ⟨r23,hr28,h⟩:=bI h;obtain ⟨x24,hb29,hx30,h⟩:=aI h;refine d1 (k3 hr28 hb29 hx30) ?_;apply aQ (fun (c27:Bool)=>⟨tab 98 (af (af (af (af (af (af (af (af (af au 1 (pF 1)) 4 (pF 4)) 10 (sF 3 (a0.Stacks.map aa.row))) 11 (vI (a0.Stacks.length:Int))) 12 (vI (v2:Int))) 61 (sF 3 (x5.Layers.map al.row))) 62 (vI (x5.Layers.length:Int))) 63 (vI (v20:Int))) 95 (vB c27)),(upd (upd RZ 1 (vA 3 (ae.row a0))) 4 (vA 3 (aa.row x5)))⟩)
 ·intro hJ31;obtain ⟨hs32,h⟩:=jb h;try simp only [aeA,adn,ad4] at hs32 h
  obtain ⟨r28,hr33,h⟩:=bI h;refine ki fun Z hZ=>?_;simp only [go_sem,seval,hs32,adn,hr33];repeat with_reducible refine eL (by kernel_rfl) ?_
  refine lE rfl (fun hc34=>?_) (fun hc34=>?_)
  ·rw [if_neg (ne_true_of_eq_false hc34)] at h;simp only [go_sem,seval,hc34];refine hZ _ (by kernel_rfl) (pp (hJ31 _ true ?_ h));exact wR
  rw [if_pos hc34] at h;simp only [go_sem,seval,hc34];refine Pn rfl (fun hc35=>?_) (fun hc35=>?_)
  ·rw [if_pos hc35] at h;simp only [go_sem,seval,hc35];repeat with_reducible refine eL (by kernel_rfl) ?_
   refine hZ _ (by kernel_rfl) (pp (hJ31 _ (decide (x24.Done < (x24.Calls.length:Int))) ?_ h));exact wR
  rw [if_neg (ne_true_of_eq_false hc35)] at h;simp only [go_sem,seval,hc35];refine hZ _ (by kernel_rfl) (pp (hJ31 _ false ?_ h));exact wR
 intro c27 h;unfold jL at h;refine cB h (fun hc36 h=>?_) fun hc36 h=>?_
 ·refine z1 hc36 ?_;exact e0 h
 refine z1 (k2 hw26 hc36) ?_;first|refine ⟨(),?_,h⟩|refine ⟨hi24',(),?_,h⟩
 exact wR
@[go_sem] def Bu (N:Nat):FnS:=⟨[],true,fn1 ae.decA fun q0=>(mn N q0).map fun r=>vB r,false⟩
def Fq (N:Nat):aA prog 54 (Bu N):=om1 (JQ N)
def Pe (N:Nat) (a0:aa) (c0_0:ByteArray) (c0_1:ByteArray) (r:Bool) (h:yp N a0 c0_0 c0_1=some r):Con prog 106 [] true [.agg (aa.row a0),.iref 2 [[vS c0_0,vS c0_1]] 0 0] (vB r):=by
 refine fk (G:=(aw [])) func106 gn ?_;simp only [f106];unfold yp at h;refine z0 ?_;refine z0 ?_;exact e0 h
@[go_sem] def Ar (N:Nat):FnS:={ own:=[],pure:=true,fn:=fun cs=>match cs with
 | [c0,.iref 2 [[c1_0,c1_1]] 0 0]=>(aa.decA c0).bind fun qc0=>(bW c1_0).bind fun qc1_0=>(bW c1_1).bind fun qc1_1=>(yp N qc0 qc1_0 qc1_1).map fun r=>vB r
 | _=>none }
def JX (N:Nat):aA prog 106 (Ar N):=by
 refine ⟨fun cs r h=>?_,fun h=>by cases h⟩;simp only [Ar] at h;split at h
 ·simp only [acG,acF] at h;obtain ⟨q0,h0,q1,h1,q2,h2,r',hr,rfl⟩:=h;exact (ag (Pe N q0 q1 q2 r' hr))
 ·cases h
@[go_sem] def sZ (N d f:Nat):Option FnS:=aw [(16,106,Ar N)] d f
def s3 (N:Nat) (a0:List aa) (k1_0_0:ByteArray) (k1_0_1:ByteArray) (r:Int) (h:dq N a0 k1_0_0 k1_0_1=some r):Con prog 105 [] true [sF 3 (a0.map aa.row),.clo 106 [.iref 2 [[vS k1_0_0,vS k1_0_1]] 0 0]] (vI r):=by
 refine fk (G:=(sZ N)) func105 (gc 16 (JX N) gn) ?_;simp only [f105];unfold dq at h;refine z0 ?_;refine z0 ?_;refine lT 0 (fun (v2:Nat) (b:Unit)=>⟨tab 19 (af (af (af (af au 0 (sF 3 (a0.map aa.row))) 1 (.clo 106 [.iref 2 [[vS k1_0_0,vS k1_0_1]] 0 0])) 7 (vI (a0.length:Int))) 8 (vI (v2:Int))),RZ⟩) () h ?_ ?_
 ·rintro v2 ⟨⟩ hi3' h;simp only [bS] at h;refine z1 hi3' ?_;refine cf ?_;refine z0 ?_;exact e0 h
 rintro v2 ⟨⟩ x5 hi3' hx4 hw5 h;simp only [bS] at h;refine z1 hi3' ?_;refine ct ?_;refine z0 ?_;obtain ⟨r1,hr7,h⟩:=bI h;refine z1 (k3 hx4 hi3' hr7) ?_;refine cB h (fun hc8 h=>?_) fun hc8 h=>?_
 ·refine z1 hc8 ?_;exact e0 h
 refine z1 (k2 hw5 hc8) ?_;first|refine ⟨(),?_,h⟩|refine ⟨hi3',(),?_,h⟩
 exact wR
@[go_sem] def fP (N:Nat):FnS:={ own:=[],pure:=true,fn:=fun cs=>match cs with
 | [c0,.clo 106 [.iref 2 [[k1_0_0,k1_0_1]] 0 0]]=>((aJ 3 aa.dec) c0).bind fun qc0=>(bW k1_0_0).bind fun qk1_0_0=>(bW k1_0_1).bind fun qk1_0_1=>(dq N qc0 qk1_0_0 qk1_0_1).map fun r=>vI r
 | _=>none }
def qp (N:Nat):aA prog 105 (fP N):=by
 refine ⟨fun cs r h=>?_,fun h=>by cases h⟩;simp only [fP] at h;split at h
 ·simp only [acG,acF] at h;obtain ⟨q0,h0,q1,h1,q2,h2,r',hr,rfl⟩:=h;exact (ag (s3 N q0 q1 q2 r' hr))
 ·cases h
@[go_sem] def Sk (N d f:Nat):Option FnS:=aw [(8,105,fP N)] d f
def SJ (N:Nat) (a0:ae) (a1:Ref) (r:Int) (h:lY N a0 a1=some r):Con prog 46 [] true [.agg (ae.row a0),.agg [vS a1.Type_,vS a1.Key]] (vI r):=by
 refine fk (G:=(Sk N)) func46 (gc 8 (qp N) gn) ?_;simp only [f46];unfold lY at h;refine z0 ?_;obtain ⟨r1,hr1,h⟩:=bI h;refine z1 hr1 ?_;exact e0 h
@[go_sem] def vD (N:Nat):FnS:=⟨[],true,fn2 ae.decA Ref.decA fun q0 q1=>(lY N q0 q1).map fun r=>vI r,false⟩
def uW (N:Nat):aA prog 46 (vD N):=om2 (SJ N)
@[go_sem] def Si (N d f:Nat):Option FnS:=aw [(13,46,vD N)] d f
def SK (N:Nat) (a0:ae) (a1:Ref) (a2:Int) (r:al × Bool) (h:jh N a0 a1 a2=some r):Con prog 69 [] false [.agg (ae.row a0),.agg [vS a1.Type_,vS a1.Key],vI a2] (.tup [.agg (al.row r.1),vB r.2]):=by
 refine fk (G:=(Si N)) func69 (gc 13 (uW N) gn) ?_;simp only [f69];unfold jh at h;refine z0 ?_;obtain ⟨r1,hr1,h⟩:=bI h;refine z1 hr1 ?_;refine z0 ?_;refine cDs h (fun hc2 hc2d h=>?_) fun hc2 hc2d h=>?_
 ·refine z1 hc2d ?_;exact f0 h
 obtain ⟨x2,hb3,hx4,h⟩:=aI h;refine z1 (k2 hb3 hx4) ?_;refine lT 21 (fun (v4:Nat) (b:Unit)=>⟨tab 34 (af (af (af (af (af au 2 (vI a2)) 6 (pF 6)) 21 (sF 3 (x2.Layers.map al.row))) 22 (vI (x2.Layers.length:Int))) 23 (vI (v4:Int))),(upd RZ 6 (vA 3 [vI 0,.val (.slice none 0 0),vB false]))⟩) () h ?_ ?_
 ·rintro v4 ⟨⟩ hi7' h;simp only [sg] at h;refine z1 hi7' ?_;refine cf ?_;refine z0 ?_;exact f0 h
 rintro v4 ⟨⟩ x7 hi7' hx8 hw9 h;simp only [sg] at h;refine z1 hi7' ?_;refine ct ?_;refine z1 (k2 hx8 hi7') ?_;refine z0 ?_;refine cD h (fun hc11 hc11d h=>?_) fun hc11 hc11d h=>?_
 ·refine z1 hc11d ?_;exact f0 h
 refine z1 (k2 hw9 hc11d) ?_;first|refine ⟨(),?_,h⟩|refine ⟨hi7',(),?_,h⟩
 exact wR
@[go_sem] def sW (N:Nat):FnS:=⟨[],false,fn3 ae.decA Ref.decA (aG .i64) fun q0 q1 q2=>(jh N q0 q1 q2).map fun r=>.tup [.agg (al.row r.1),vB r.2],false⟩
def qt (N:Nat):aA prog 69 (sW N):=om3 (SK N)
@[go_sem] def HJ (N d f:Nat):Option FnS:=aw [(41,69,sW N),(60,40,gG N),(69,69,sW N),(115,40,gG N)] d f
def HW (N:Nat) (a0:ae) (r:Bool) (h:kD N a0=some r):Con prog 55 [] true [.agg (ae.row a0)] (vB r):=by
 refine fk (G:=(HJ N)) func55 (gc 41 (qt N) (gc 60 (ff N) (gc 69 (qt N) (gc 115 (ff N) gn)))) ?_;simp only [f55];unfold kD at h;refine z0 ?_;refine z0 ?_;refine lTs 19 (fun (v2:Nat) (b:Unit)=>⟨tab 138 (af (af (af (af au 1 (pF 1)) 19 (sF 11 (a0.Txns.map Txn.row))) 20 (vI (a0.Txns.length:Int))) 21 (vI (v2:Int))),(upd RZ 1 (vA 3 (ae.row a0)))⟩) () h ?_ ?_
 ·rintro v2 ⟨⟩ x5 hi3' hx4 hw5 h;simp only [iP] at h;refine z1 hi3' ?_;refine ct ?_;refine z1 (k2 hx4 hi3') ?_;obtain ⟨hs7,h⟩:=jb h;try simp only [aeA,adn,ad4] at hs7 h
  refine z1 (k2 hs7 @adn) ?_;refine lT 29 (fun (v9:Nat) (b:Unit)=>⟨tab 138 (af (af (af (af (af (af (af (af au 1 (pF 1)) 4 (pF 4)) 19 (sF 11 (a0.Txns.map Txn.row))) 20 (vI (a0.Txns.length:Int))) 21 (vI (v2:Int))) 29 (sF 4 ((x5.Calls.take ((x5.Done).toNat)).map ah.row))) 30 (vI (((x5.Calls.take ((x5.Done).toNat)).length:Nat):Int))) 31 (vI (v9:Int))),(upd (upd RZ 1 (vA 3 (ae.row a0))) 4 (vA 11 (Txn.row x5)))⟩) () h ?_ ?_
  ·rintro v9 ⟨⟩ hi10' h;simp only [gE] at h;refine z1 hi10' ?_;refine cf ?_;refine z1 hw5 ?_;first|refine ⟨(),?_,h⟩|refine ⟨hi3',(),?_,h⟩
   exact wR
  rintro v9 ⟨⟩ x12 hi10' hx11 hw12 h;simp only [gE] at h;refine z1 hi10' ?_;refine ct ?_;refine z1 (k2 hx11 hi10') ?_;obtain ⟨r15,hr14,h⟩:=bI h;refine z1 hr14 ?_;refine z0 ?_;refine cM h (fun hc15 h=>?_) fun hc15 h=>?_
  ·refine z1 hc15 ?_;exact e0 h
  refine z1 (k2 hw12 hc15) ?_;first|refine ⟨(),?_,h⟩|refine ⟨hi10',(),?_,h⟩
  exact wR
 rintro v2 ⟨⟩ hi3' h;simp only [iP] at h;refine z1 hi3' ?_;refine cf ?_;unfold m7 at h;refine z0 ?_;refine lT 49 (fun (v17:Nat) (b:Unit)=>⟨tab 138 (af (af (af (af au 1 (pF 1)) 49 (sF 4 (a0.Locks.map ai.row))) 50 (vI (a0.Locks.length:Int))) 51 (vI (v17:Int))),(upd RZ 1 (vA 3 (ae.row a0)))⟩) () h ?_ ?_
 ·rintro v17 ⟨⟩ hi18' h;simp only [bH] at h;refine z1 hi18' ?_;refine cf ?_;refine z0 ?_;exact e0 h
 rintro v17 ⟨⟩ x20 hi18' hx19 hw20 h;simp only [bH] at h;refine z1 hi18' ?_;refine ct ?_;refine z1 (k2 hx19 hi18') ?_;obtain ⟨r16,hr22,h⟩:=bI h;obtain ⟨x17,hb23,hx24,h⟩:=aI h;refine d1 (k3 hr22 hb23 hx24) ?_;obtain ⟨r18,hr25,h⟩:=bI h;refine z1 hr25 ?_;refine z0 ?_;refine aK ?_;apply aQ (fun (c24:Bool)=>⟨tab 138 (af (af (af (af (af (af au 1 (pF 1)) 10 (pF 10)) 49 (sF 4 (a0.Locks.map ai.row))) 50 (vI (a0.Locks.length:Int))) 51 (vI (v17:Int))) 103 (vB c24)),(upd (upd RZ 1 (vA 3 (ae.row a0))) 10 (vA 4 (ai.row x20)))⟩)
 ·intro hJ26;refine iD h (fun hc27 hc27d h=>?_) fun hc27 hc27d h=>?_
  ·refine iBs h (fun hc30 h=>?_) fun hc30 h=>?_
   ·obtain ⟨x25,hb31,hx32,h⟩:=aI h;refine d1 (k4 hc27d hc30 hb31 hx32) ?_;refine hJ26 _ (!(sEq x25.Target.Type_ x20.Actor.Type_ && sEq x25.Target.Key x20.Actor.Key)) ?_ h;exact wR
   refine d1 (k2 hc27d hc30) ?_;refine hJ26 _ false ?_ h;exact wR
  refine iBs h (fun hc28 h=>?_) fun hc28 h=>?_
  ·refine d1 (k2 hc27d hc28) ?_;refine hJ26 _ true ?_ h;exact wR
  refine iB h (fun hc29 h=>?_) fun hc29 h=>?_
  ·refine d1 (k3 hc27d hc28 hc29) ?_;refine hJ26 _ true ?_ h;exact wR
  refine d1 (k3 hc27d hc28 hc29) ?_;refine hJ26 _ false ?_ h;exact wR
 intro c24 h;unfold eZ at h;refine cB h (fun hc33 h=>?_) fun hc33 h=>?_
 ·refine z1 hc33 ?_;exact e0 h
 unfold fe at h;refine z1 hc33 ?_;refine lT 105 (fun (v30:Nat) (b:Unit)=>⟨tab 138 (af (af (af (af (af (af (af (af au 1 (pF 1)) 10 (pF 10)) 49 (sF 4 (a0.Locks.map ai.row))) 50 (vI (a0.Locks.length:Int))) 51 (vI (v17:Int))) 105 (sF 1 (x20.Waiters.map (ay .i64)))) 106 (vI (x20.Waiters.length:Int))) 107 (vI (v30:Int))),(upd (upd RZ 1 (vA 3 (ae.row a0))) 10 (vA 4 (ai.row x20)))⟩) () h ?_ ?_
 ·rintro v30 ⟨⟩ hi36' h;simp only [eY] at h;refine z1 hi36' ?_;refine cf ?_;refine z1 hw20 ?_;first|refine ⟨(),?_,h⟩|refine ⟨hi18',(),?_,h⟩
  exact wR
 rintro v30 ⟨⟩ x33 hi36' hx37 hw38 h;simp only [eY] at h;refine z1 hi36' ?_;refine ct ?_;refine z1 (k2 hx37 hi36') ?_;obtain ⟨r26,hr40,h⟩:=bI h;obtain ⟨x27,hb41,hx42,h⟩:=aI h;refine d1 (k3 hr40 hb41 hx42) ?_;apply aQ (fun (c29:Bool)=>⟨tab 138 (af (af (af (af (af (af (af (af (af au 1 (pF 1)) 10 (pF 10)) 49 (sF 4 (a0.Locks.map ai.row))) 50 (vI (a0.Locks.length:Int))) 51 (vI (v17:Int))) 105 (sF 1 (x20.Waiters.map (ay .i64)))) 106 (vI (x20.Waiters.length:Int))) 107 (vI (v30:Int))) 135 (vB c29)),(upd (upd RZ 1 (vA 3 (ae.row a0))) 10 (vA 4 (ai.row x20)))⟩)
 ·intro hJ43;refine ki fun Z hZ=>?_;simp only [go_sem,seval];repeat with_reducible refine eL (by kernel_rfl) ?_
  refine jr rfl (fun hc44=>?_) (fun hc44=>?_)
  ·have hc44d:=decide_eq_true hc44;rw [if_pos hc44] at h;simp only [go_sem,seval,hc44d];refine hZ _ (by kernel_rfl) (pp (hJ43 _ true ?_ h));exact wR
  have hc44d:=decide_eq_false hc44;rw [if_neg hc44] at h;obtain ⟨x30,hb45,hx46,h⟩:=aI h;simp only [go_sem,seval,hc44d,hb45,hx46];refine hZ _ (by kernel_rfl) (pp (hJ43 _ (!(sEq x30.Target.Type_ x20.Actor.Type_ && sEq x30.Target.Key x20.Actor.Key)) ?_ h));exact wR
 intro c29 h;unfold mU at h;refine cB h (fun hc47 h=>?_) fun hc47 h=>?_
 ·refine z1 hc47 ?_;exact e0 h
 refine z1 (k2 hw38 hc47) ?_;first|refine ⟨(),?_,h⟩|refine ⟨hi36',(),?_,h⟩
 exact wR
@[go_sem] def zF (N:Nat):FnS:=⟨[],true,fn1 ae.decA fun q0=>(kD N q0).map fun r=>vB r,false⟩
def DW (N:Nat):aA prog 55 (zF N):=om1 (HW N)
def Iv (N:Nat) (a0:List Int) (a1:Int) (r:Int) (h:pe N a0 a1=some r):Con prog 184 [] true [sF 1 (a0.map (ay .i64)),vI a1] (vI r):=by
 refine fk (G:=(aw [])) func184 gn ?_;simp only [f184];unfold pe at h;refine z0 ?_;refine z0 ?_;refine lT 0 (fun (v2:Nat) (b:Unit)=>⟨tab 19 (af (af (af (af au 0 (sF 1 (a0.map (ay .i64)))) 1 (vI a1)) 7 (vI (a0.length:Int))) 8 (vI (v2:Int))),RZ⟩) () h ?_ ?_
 ·rintro v2 ⟨⟩ hi3' h;simp only [jm] at h;refine z1 hi3' ?_;refine cf ?_;refine z0 ?_;exact e0 h
 rintro v2 ⟨⟩ x5 hi3' hx4 hw5 h;simp only [jm] at h;refine z1 hi3' ?_;refine ct ?_;refine z0 ?_;refine z1 (k2 hx4 hi3') ?_;refine cD h (fun hc7 hc7d h=>?_) fun hc7 hc7d h=>?_
 ·refine z1 hc7d ?_;exact e0 h
 refine z1 (k2 hw5 hc7d) ?_;first|refine ⟨(),?_,h⟩|refine ⟨hi3',(),?_,h⟩
 exact wR
@[go_sem] def Ag (N:Nat):FnS:=⟨[],true,fn2 (aJ 1 (du (aG .i64))) (aG .i64) fun q0 q1=>(pe N q0 q1).map fun r=>vI r,false⟩
def EX (N:Nat):aA prog 184 (Ag N):=om2 (Iv N)
@[go_sem] def Fs (N d f:Nat):Option FnS:=aw [(7,184,Ag N)] d f
def Fy (N:Nat) (a0:List Int) (a1:Int) (r:Bool) (h:dt N a0 a1=some r):Con prog 108 [] true [sF 1 (a0.map (ay .i64)),vI a1] (vB r):=by
 refine fk (G:=(Fs N)) func108 (gc 7 (EX N) gn) ?_;simp only [f108];unfold dt at h;refine z0 ?_;obtain ⟨r1,hr1,h⟩:=bI h;refine z1 hr1 ?_;exact e0 h
@[go_sem] def fw (N:Nat):FnS:=⟨[],true,fn2 (aJ 1 (du (aG .i64))) (aG .i64) fun q0 q1=>(dt N q0 q1).map fun r=>vB r,false⟩
def fC (N:Nat):aA prog 108 (fw N):=om2 (Fy N)
@[go_sem] def Sj (N d f:Nat):Option FnS:=aw [(38,108,fw N)] d f
def R8 (N:Nat) (a0:ae) (a1:Int) (a2:List Int) (r:Bool) (h:vv N a0 a1 a2=some r):Con prog 74 [] true [.agg (ae.row a0),vI a1,sF 1 (a2.map (ay .i64))] (vB r):=by
 refine fk (G:=(Sj N)) func74 (gc 38 (fC N) gn) ?_;simp only [f74];unfold vv at h;refine z0 ?_;refine z0 ?_;refine lT 13 (fun (v2:Nat) (b:Unit)=>⟨tab 43 (af (af (af (af (af au 1 (vI a1)) 2 (sF 1 (a2.map (ay .i64)))) 13 (sF 3 (a0.Stacks.map aa.row))) 14 (vI (a0.Stacks.length:Int))) 15 (vI (v2:Int))),RZ⟩) () h ?_ ?_
 ·rintro v2 ⟨⟩ hi3' h;simp only [po] at h;refine z1 hi3' ?_;refine cf ?_;refine z0 ?_;exact e0 h
 rintro v2 ⟨⟩ x5 hi3' hx4 hw5 h;simp only [po] at h;refine z1 hi3' ?_;refine ct ?_;refine z1 (k2 hx4 hi3') ?_;refine z0 ?_;refine z0 ?_;refine lT 20 (fun (v9:Nat) (b:Bool)=>⟨tab 43 (af (af (af (af (af (af (af (af (af au 1 (vI a1)) 2 (sF 1 (a2.map (ay .i64)))) 9 (vB b)) 13 (sF 3 (a0.Stacks.map aa.row))) 14 (vI (a0.Stacks.length:Int))) 15 (vI (v2:Int))) 20 (sF 3 (x5.Layers.map al.row))) 21 (vI (x5.Layers.length:Int))) 22 (vI (v9:Int))),RZ⟩) false h ?_ ?_
 ·rintro v9 c8 hi9' h;simp only [kr] at h;refine z1 hi9' ?_;refine cf ?_;refine z1 hw5 ?_;first|refine ⟨(),?_,h⟩|refine ⟨hi3',(),?_,h⟩
  exact wR
 rintro v9 c8 x12 hi9' hx10 hw11 h;simp only [kr] at h;refine z1 hi9' ?_;refine ct ?_;refine z1 (k2 hx10 hi9') ?_;refine aK ?_;apply aQ (fun (c3:Bool)=>⟨tab 43 (af (af (af (af (af (af (af (af (af (af (af au 1 (vI a1)) 2 (sF 1 (a2.map (ay .i64)))) 9 (vB c8)) 11 (pF 11)) 13 (sF 3 (a0.Stacks.map aa.row))) 14 (vI (a0.Stacks.length:Int))) 15 (vI (v2:Int))) 20 (sF 3 (x5.Layers.map al.row))) 21 (vI (x5.Layers.length:Int))) 22 (vI (v9:Int))) 32 (vB c3)),(upd RZ 11 (vA 3 (al.row x12)))⟩)
 ·intro hJ13;refine iD h (fun hc14 hc14d h=>?_) fun hc14 hc14d h=>?_
  ·refine z1 hc14d ?_;refine hJ13 _ c8 ?_ h;exact wR
  refine z1 hc14d ?_;refine hJ13 _ false ?_ h;exact wR
 intro c3 h;unfold z7 at h;refine cB h (fun hc15 h=>?_) fun hc15 h=>?_
 ·refine z1 hc15 ?_;exact e0 h
 refine aW (pp ?_);unfold vh at h;refine iB h (fun hc16 h=>?_) fun hc16 h=>?_
 ·refine z1 (k2 hc15 hc16) ?_;refine z1 hw11 ?_;first|refine ⟨true,?_,h⟩|refine ⟨hi9',true,?_,h⟩
  exact wR
 obtain ⟨r4,hr17,h⟩:=bI h;refine z1 (k3 hc15 hc16 hr17) ?_;refine z1 hw11 ?_;first|refine ⟨(!r4),?_,h⟩|refine ⟨hi9',(!r4),?_,h⟩
 exact wR
@[go_sem] def DB (N:Nat):FnS:=⟨[],true,fn3 ae.decA (aG .i64) (aJ 1 (du (aG .i64))) fun q0 q1 q2=>(vv N q0 q1 q2).map fun r=>vB r,false⟩
def Eh (N:Nat):aA prog 74 (DB N):=om3 (R8 N)
@[go_sem] def O3 (N d f:Nat):Option FnS:=aw [(21,108,fw N),(28,74,DB N)] d f
def OT (N:Nat) (a0:ae) (r:Bool) (h:uy N a0=some r):Con prog 56 [] true [.agg (ae.row a0)] (vB r):=by
 refine fk (G:=(O3 N)) func56 (gc 21 (fC N) (gc 28 (Eh N) gn)) ?_;simp only [f56];unfold uy at h;refine z0 ?_;refine z0 ?_;refine z0 ?_;refine aS (gr fun hreal2=>?_);have hl1:=hreal2.lenT 7 (by decide) (by simp only [go_sem,seval]; rfl);first|rw [acL] at hl1|rw [eK] at hl1|rw [<-ac2,acL] at hl1
 refine oY (fun (v3:Nat) (b:List Int)=>⟨tab 43 (af (af (af (af au 1 (pF 1)) 3 (.pal 34 [] 0 b.length none)) 8 (vI (a0.Txns.length:Int))) 9 (vI (v3:Int))),(upd (upd RZ 1 (vA 3 (ae.row a0))) 34 (sO 1 (b.map (ay .i64))))⟩) [] h ?_ ?_
 ·refine aX.trans (j6 3 34 1 (by simp only [go_sem,seval]) (by simp only [go_sem,seval])) ?_;refine wr ?_ ?_<;>repeat' first|rfl|constructor|simp only [go_sem,seval,adD,ac7,adu,adl]
 rintro v3 l2 _ h -;rcases (jq a0.Txns.length v3).symm with ⟨hi3',hd6⟩|⟨hi3',hd6⟩
 ·rw [hd6] at h;simp only [lB] at h;refine z1 hi3' ?_;refine cf ?_;refine z0 ?_;exact e0 h
 rw [hd6] at h;simp only [lB] at h;have hw5:=dX hi3' hl1;refine z1 hi3' ?_;refine ct ?_;refine z0 ?_;refine lT 12 (fun (v9:Nat) (b:List Int)=>⟨tab 43 (af (af (af (af (af (af (af au 1 (pF 1)) 3 (.pal 34 [] 0 b.length none)) 8 (vI (a0.Txns.length:Int))) 9 (vI (v3:Int))) 12 (sF 11 (a0.Txns.map Txn.row))) 13 (vI (a0.Txns.length:Int))) 14 (vI (v9:Int))),(upd (upd RZ 1 (vA 3 (ae.row a0))) 34 (sO 1 (b.map (ay .i64))))⟩) l2 h ?_ ?_ (h0:=wF (k2 hi3' hw5))
 ·rintro v9 l8 hi9' h;simp only [jz] at h;refine z1 hi9' ?_;refine cf ?_;refine z1 hw5 ?_;first|refine ⟨l8,?_,h⟩|refine ⟨hi3',l8,?_,h⟩
  exact wF (k3 hi3' hw5 hi9')
 rintro v9 l8 x12 hi9' hx10 hw11 h;simp only [jz] at h;refine z1 hi9' ?_;refine ct ?_;refine z1 (k2 hx10 hi9') ?_;apply aQ (fun (c3:Bool)=>⟨tab 43 (af (af (af (af (af (af (af (af (af au 1 (pF 1)) 3 (.pal 34 [] 0 l8.length none)) 5 (pF 5)) 8 (vI (a0.Txns.length:Int))) 9 (vI (v3:Int))) 12 (sF 11 (a0.Txns.map Txn.row))) 13 (vI (a0.Txns.length:Int))) 14 (vI (v9:Int))) 29 (vB c3)),(upd (upd (upd RZ 1 (vA 3 (ae.row a0))) 5 (vA 11 (Txn.row x12))) 34 (sO 1 (l8.map (ay .i64))))⟩)
 ·intro hJ13;obtain ⟨r4,hr14,h⟩:=bI h;refine iBs h (fun hc15 h=>?_) fun hc15 h=>?_
  ·obtain ⟨r5,hr16,h⟩:=bI h;refine z1 (k3 hr14 hc15 hr16) ?_;refine hJ13 _ r5 ?_ h;exact wF (k5 hi3' hw5 hx10 hi9' (k4 hw11 hr14 hc15 hr16))
  refine z1 (k2 hr14 hc15) ?_;refine hJ13 _ false ?_ h;exact wF (k5 hi3' hw5 hx10 hi9' (k3 hw11 hr14 hc15))
 intro c3 h;unfold sD at h;refine cBs h (fun hc17 h=>?_) fun hc17 h=>?_
 ·refine z1 (k2 hw11 hc17) ?_;first|refine ⟨l8,?_,h⟩|refine ⟨hi9',l8,?_,h⟩
  exact wF (k5 hi3' hw5 hx10 hi9' (k2 hw11 hc17))
 obtain ⟨ha18,h⟩:=dE h;simp only [acT,adh,adm,Nat.reduceAdd] at ha18;refine z1 (k2 hc17 ha18) ?_;refine z1 hw11 ?_;first|refine ⟨(l8++[x12.ID]),?_,h⟩|refine ⟨hi9',(l8++[x12.ID]),?_,h⟩
 refine wr ?_ ?_<;>repeat' first|rfl|constructor|simp only [go_sem,seval]
@[go_sem] def F9 (N:Nat):FnS:=⟨[],true,fn1 ae.decA fun q0=>(uy N q0).map fun r=>vB r,false⟩
def Kd (N:Nat):aA prog 56 (F9 N):=om1 (OT N)
@[go_sem] def RM (N d f:Nat):Option FnS:=aw [(4,52,DA N),(7,53,Cy N),(11,54,Bu N),(15,55,zF N),(19,56,F9 N)] d f
def Sd (N:Nat) (a0:ae) (r:Bool) (h:jk N a0=some r):Con prog 23 [] true [.agg (ae.row a0)] (vB r):=by
 refine fk (G:=(RM N)) func23 (gc 4 (HQ N) (gc 7 (Gh N) (gc 11 (Fq N) (gc 15 (DW N) (gc 19 (Kd N) gn))))) ?_;simp only [f23];unfold jk at h;refine z0 ?_;refine aK ?_;obtain ⟨r1,hr1,h⟩:=bI h;refine iBs h (fun hc2 h=>?_) fun hc2 h=>?_
 ·refine z1 (k2 hr1 hc2) ?_;exact e0 h
 obtain ⟨r2,hr3,h⟩:=bI h;refine iBs h (fun hc4 h=>?_) fun hc4 h=>?_
 ·refine z1 (k4 hr1 hc2 hr3 hc4) ?_;exact e0 h
 obtain ⟨r3,hr5,h⟩:=bI h;refine iBs h (fun hc6 h=>?_) fun hc6 h=>?_
 ·refine z1 (k5 hr1 hc2 hr3 hc4 (k2 hr5 hc6)) ?_;exact e0 h
 obtain ⟨r4,hr7,h⟩:=bI h;refine iB h (fun hc8 h=>?_) fun hc8 h=>?_
 ·obtain ⟨r5,hr9,h⟩:=bI h;refine z1 (k5 hr1 hc2 hr3 hc4 (k5 hr5 hc6 hr7 hc8 hr9)) ?_;exact e0 h
 refine z1 (k5 hr1 hc2 hr3 hc4 (k4 hr5 hc6 hr7 hc8)) ?_;exact e0 h
@[go_sem] def kh (N:Nat):FnS:=⟨[],true,fn1 ae.decA fun q0=>(jk N q0).map fun r=>vB r,false⟩
def jf (N:Nat):aA prog 23 (kh N):=om1 (Sd N)
def FW (N:Nat) (a0:List Txn) (r:List Txn) (h:iG N a0=some r):Con prog 130 [] false [.sl false (some false) 11 none (a0.map Txn.row)] (sO 11 (r.map Txn.row)):=by
 refine fk (G:=(aw [])) func130 gn ?_;simp only [f130];unfold iG at h;refine z0 ?_;refine z0 ?_;refine cf ?_;first|rw [if_pos (rfl:true=true)] at h|rw [if_neg adx] at h|skip
 refine aW (pp (aK ?_));first|obtain ⟨ha1,h⟩:=pk h|(obtain ⟨ha1,h⟩:=dE h; rw [acV] at h)
 simp only [Nat.reduceAdd] at ha1;refine z1 ha1 ?_;exact f0 h
def EW (N:Nat)  (r:List Txn) (h:iG N []=some r):Con prog 130 [] false [.val (.slice none 0 0)] (sO 11 (r.map Txn.row)):=by
 refine fk (G:=(aw [])) func130 gn ?_;simp only [f130];unfold iG at h;refine z0 ?_;refine z0 ?_;refine ct ?_;first|rw [if_pos (rfl:true=true)] at h|rw [if_neg adx] at h|skip
 refine z0 ?_;refine fb (pp ?_);obtain rfl:r=[]:=by simpa [apn] using h.symm
 simp only [go_sem,seval];exact ⟨_,rfl,gT.h⟩
def Jm (N:Nat) (a0:List Txn) (r:List Txn) (h:iG N a0=some r):Con prog 130 [] false [sF 11 (a0.map Txn.row)] (sO 11 (r.map Txn.row)):=
 BS (fun e=>by obtain rfl:a0=[]:=aer.1 e; exact EW N r h) (FW N a0 r h)
@[go_sem] def zn (N:Nat):FnS:=⟨[],false,fn1 (aJ 11 Txn.dec) fun q0=>(iG N q0).map fun r=>sO 11 (r.map Txn.row),false⟩
def DQ (N:Nat):aA prog 130 (zn N):=om1 (Jm N)
def ER (N:Nat) (a0:List ai) (r:List ai) (h:eP N a0=some r):Con prog 131 [] false [.sl false (some false) 4 none (a0.map ai.row)] (sO 4 (r.map ai.row)):=by
 refine fk (G:=(aw [])) func131 gn ?_;simp only [f131];unfold eP at h;refine z0 ?_;refine z0 ?_;refine cf ?_;first|rw [if_pos (rfl:true=true)] at h|rw [if_neg adx] at h|skip
 refine aW (pp (aK ?_));first|obtain ⟨ha1,h⟩:=pk h|(obtain ⟨ha1,h⟩:=dE h; rw [acV] at h)
 simp only [Nat.reduceAdd] at ha1;refine z1 ha1 ?_;exact f0 h
def DV (N:Nat)  (r:List ai) (h:eP N []=some r):Con prog 131 [] false [.val (.slice none 0 0)] (sO 4 (r.map ai.row)):=by
 refine fk (G:=(aw [])) func131 gn ?_;simp only [f131];unfold eP at h;refine z0 ?_;refine z0 ?_;refine ct ?_;first|rw [if_pos (rfl:true=true)] at h|rw [if_neg adx] at h|skip
 refine z0 ?_;refine fb (pp ?_);obtain rfl:r=[]:=by simpa [apn] using h.symm
 simp only [go_sem,seval];exact ⟨_,rfl,gT.h⟩
def HO (N:Nat) (a0:List ai) (r:List ai) (h:eP N a0=some r):Con prog 131 [] false [sF 4 (a0.map ai.row)] (sO 4 (r.map ai.row)):=
 BS (fun e=>by obtain rfl:a0=[]:=aer.1 e; exact DV N r h) (ER N a0 r h)
@[go_sem] def sA (N:Nat):FnS:=⟨[],false,fn1 (aJ 4 ai.dec) fun q0=>(eP N q0).map fun r=>sO 4 (r.map ai.row),false⟩
def vn (N:Nat):aA prog 131 (sA N):=om1 (HO N)
def AL (N:Nat) (a0:List aa) (r:List aa) (h:dW N a0=some r):Con prog 132 [] false [.sl false (some false) 3 none (a0.map aa.row)] (sO 3 (r.map aa.row)):=by
 refine fk (G:=(aw [])) func132 gn ?_;simp only [f132];unfold dW at h;refine z0 ?_;refine z0 ?_;refine cf ?_;first|rw [if_pos (rfl:true=true)] at h|rw [if_neg adx] at h|skip
 refine aW (pp (aK ?_));first|obtain ⟨ha1,h⟩:=pk h|(obtain ⟨ha1,h⟩:=dE h; rw [acV] at h)
 simp only [Nat.reduceAdd] at ha1;refine z1 ha1 ?_;exact f0 h
def Ad (N:Nat)  (r:List aa) (h:dW N []=some r):Con prog 132 [] false [.val (.slice none 0 0)] (sO 3 (r.map aa.row)):=by
 refine fk (G:=(aw [])) func132 gn ?_;simp only [f132];unfold dW at h;refine z0 ?_;refine z0 ?_;refine ct ?_;first|rw [if_pos (rfl:true=true)] at h|rw [if_neg adx] at h|skip
 refine z0 ?_;refine fb (pp ?_);obtain rfl:r=[]:=by simpa [apn] using h.symm
 simp only [go_sem,seval];exact ⟨_,rfl,gT.h⟩
def CD (N:Nat) (a0:List aa) (r:List aa) (h:dW N a0=some r):Con prog 132 [] false [sF 3 (a0.map aa.row)] (sO 3 (r.map aa.row)):=
 BS (fun e=>by obtain rfl:a0=[]:=aer.1 e; exact Ad N r h) (AL N a0 r h)
@[go_sem] def s8 (N:Nat):FnS:=⟨[],false,fn1 (aJ 3 aa.dec) fun q0=>(dW N q0).map fun r=>sO 3 (r.map aa.row),false⟩
def zA (N:Nat):aA prog 132 (s8 N):=om1 (CD N)
def Bx (N:Nat) (a0:List ah) (r:List ah) (h:ey N a0=some r):Con prog 100 [] false [.sl false (some false) 4 none (a0.map ah.row)] (sO 4 (r.map ah.row)):=by
 refine fk (G:=(aw [])) func100 gn ?_;simp only [f100];unfold ey at h;refine z0 ?_;refine z0 ?_;refine cf ?_;first|rw [if_pos (rfl:true=true)] at h|rw [if_neg adx] at h|skip
 refine aW (pp (aK ?_));first|obtain ⟨ha1,h⟩:=pk h|(obtain ⟨ha1,h⟩:=dE h; rw [acV] at h)
 simp only [Nat.reduceAdd] at ha1;refine z1 ha1 ?_;exact f0 h
def AU (N:Nat)  (r:List ah) (h:ey N []=some r):Con prog 100 [] false [.val (.slice none 0 0)] (sO 4 (r.map ah.row)):=by
 refine fk (G:=(aw [])) func100 gn ?_;simp only [f100];unfold ey at h;refine z0 ?_;refine z0 ?_;refine ct ?_;first|rw [if_pos (rfl:true=true)] at h|rw [if_neg adx] at h|skip
 refine z0 ?_;refine fb (pp ?_);obtain rfl:r=[]:=by simpa [apn] using h.symm
 simp only [go_sem,seval];exact ⟨_,rfl,gT.h⟩
def DN (N:Nat) (a0:List ah) (r:List ah) (h:ey N a0=some r):Con prog 100 [] false [sF 4 (a0.map ah.row)] (sO 4 (r.map ah.row)):=
 BS (fun e=>by obtain rfl:a0=[]:=aer.1 e; exact AU N r h) (Bx N a0 r h)
@[go_sem] def uq (N:Nat):FnS:=⟨[],false,fn1 (aJ 4 ah.dec) fun q0=>(ey N q0).map fun r=>sO 4 (r.map ah.row),false⟩
def Ac (N:Nat):aA prog 100 (uq N):=om1 (DN N)
def D3 (N:Nat) (a0:List Value) (r:List Value) (h:gl N a0=some r):Con prog 139 [] false [.sl false (some false) 5 none (a0.map Value.row)] (sO 5 (r.map Value.row)):=by
 refine fk (G:=(aw [])) func139 gn ?_;simp only [f139];unfold gl at h;refine z0 ?_;refine z0 ?_;refine cf ?_;first|rw [if_pos (rfl:true=true)] at h|rw [if_neg adx] at h|skip
 refine aW (pp (aK ?_));first|obtain ⟨ha1,h⟩:=pk h|(obtain ⟨ha1,h⟩:=dE h; rw [acV] at h)
 simp only [Nat.reduceAdd] at ha1;refine z1 ha1 ?_;exact f0 h
def Dg (N:Nat)  (r:List Value) (h:gl N []=some r):Con prog 139 [] false [.val (.slice none 0 0)] (sO 5 (r.map Value.row)):=by
 refine fk (G:=(aw [])) func139 gn ?_;simp only [f139];unfold gl at h;refine z0 ?_;refine z0 ?_;refine ct ?_;first|rw [if_pos (rfl:true=true)] at h|rw [if_neg adx] at h|skip
 refine z0 ?_;refine fb (pp ?_);obtain rfl:r=[]:=by simpa [apn] using h.symm
 simp only [go_sem,seval];exact ⟨_,rfl,gT.h⟩
def G4 (N:Nat) (a0:List Value) (r:List Value) (h:gl N a0=some r):Con prog 139 [] false [sF 5 (a0.map Value.row)] (sO 5 (r.map Value.row)):=
 BS (fun e=>by obtain rfl:a0=[]:=aer.1 e; exact Dg N r h) (D3 N a0 r h)
@[go_sem] def w9 (N:Nat):FnS:=⟨[],false,fn1 (aJ 5 Value.dec) fun q0=>(gl N q0).map fun r=>sO 5 (r.map Value.row),false⟩
def CK (N:Nat):aA prog 139 (w9 N):=om1 (G4 N)
def Fz (N:Nat) (a0:List Int) (r:List Int) (h:dR N a0=some r):Con prog 133 [] true [.sl false (some false) 1 none (a0.map (ay .i64))] (sO 1 (r.map (ay .i64))):=by
 refine fk (G:=(aw [])) func133 gn ?_;simp only [f133];unfold dR at h;refine z0 ?_;refine z0 ?_;refine cf ?_;first|rw [if_pos (rfl:true=true)] at h|rw [if_neg adx] at h|skip
 refine aW (pp (aK ?_));first|obtain ⟨ha1,h⟩:=pk h|(obtain ⟨ha1,h⟩:=dE h; rw [acV] at h)
 simp only [Nat.reduceAdd] at ha1;refine z1 ha1 ?_;exact e0 h
def EV (N:Nat)  (r:List Int) (h:dR N []=some r):Con prog 133 [] true [.val (.slice none 0 0)] (sO 1 (r.map (ay .i64))):=by
 refine fk (G:=(aw [])) func133 gn ?_;simp only [f133];unfold dR at h;refine z0 ?_;refine z0 ?_;refine ct ?_;first|rw [if_pos (rfl:true=true)] at h|rw [if_neg adx] at h|skip
 refine z0 ?_;refine fb (pp ?_);obtain rfl:r=[]:=by simpa [apn] using h.symm
 simp only [go_sem,seval];exact ⟨_,rfl,gT.h,qT.h⟩
def Bz (N:Nat) (a0:List Int) (r:List Int) (h:dR N a0=some r):Con prog 133 [] true [sF 1 (a0.map (ay .i64))] (sO 1 (r.map (ay .i64))):=
 BS (fun e=>by obtain rfl:a0=[]:=aer.1 e; exact EV N r h) (Fz N a0 r h)
@[go_sem] def Ae (N:Nat):FnS:=⟨[],true,fn1 (aJ 1 (du (aG .i64))) fun q0=>(dR N q0).map fun r=>sF 1 (r.map (ay .i64)),false⟩
def E3 (N:Nat):aA prog 133 (Ae N):=om1 fun q0 r h=>rs (Bz N q0 r h)
@[go_sem] def tB (N:Nat):FnS:=⟨[],true,fn1 (aJ 1 (du (aG .i64))) fun q0=>(dR N q0).map fun r=>sO 1 (r.map (ay .i64)),false⟩
def wE (N:Nat):aA prog 133 (tB N):=om1 (Bz N)
def Da (N:Nat) (a0:List ByteArray) (r:List ByteArray) (h:fL N a0=some r):Con prog 136 [] true [.sl false (some false) 1 none (a0.map dT)] (sO 1 (r.map dT)):=by
 refine fk (G:=(aw [])) func136 gn ?_;simp only [f136];unfold fL at h;refine z0 ?_;refine z0 ?_;refine cf ?_;first|rw [if_pos (rfl:true=true)] at h|rw [if_neg adx] at h|skip
 refine aW (pp (aK ?_));first|obtain ⟨ha1,h⟩:=pk h|(obtain ⟨ha1,h⟩:=dE h; rw [acV] at h)
 simp only [Nat.reduceAdd] at ha1;refine z1 ha1 ?_;exact e0 h
def CB (N:Nat)  (r:List ByteArray) (h:fL N []=some r):Con prog 136 [] true [.val (.slice none 0 0)] (sO 1 (r.map dT)):=by
 refine fk (G:=(aw [])) func136 gn ?_;simp only [f136];unfold fL at h;refine z0 ?_;refine z0 ?_;refine ct ?_;first|rw [if_pos (rfl:true=true)] at h|rw [if_neg adx] at h|skip
 refine z0 ?_;refine fb (pp ?_);obtain rfl:r=[]:=by simpa [apn] using h.symm
 simp only [go_sem,seval];exact ⟨_,rfl,gT.h,qT.h⟩
def Fj (N:Nat) (a0:List ByteArray) (r:List ByteArray) (h:fL N a0=some r):Con prog 136 [] true [sF 1 (a0.map dT)] (sO 1 (r.map dT)):=
 BS (fun e=>by obtain rfl:a0=[]:=aer.1 e; exact CB N r h) (Da N a0 r h)
@[go_sem] def wG (N:Nat):FnS:=⟨[],true,fn1 (aJ 1 (du bW)) fun q0=>(fL N q0).map fun r=>sO 1 (r.map dT),false⟩
def Cb (N:Nat):aA prog 136 (wG N):=om1 (Fj N)
@[go_sem] def Ld (N d f:Nat):Option FnS:=aw [(5,133,tB N),(8,136,wG N)] d f
def C9 (N:Nat) (a0:Value) (r:Value) (h:gH N a0=some r):Con prog 63 [] true [.agg (Value.row a0)] (.agg [vI r.Kind,vI r.N,vS r.S,sO 1 (r.I.map (ay .i64)),sO 1 (r.L.map dT)]):=by
 refine fk (G:=(Ld N)) func63 (gc 5 (wE N) (gc 8 (Cb N) gn)) ?_;simp only [f63];unfold gH at h;refine z0 ?_;obtain ⟨r1,hr1,h⟩:=bI h;obtain ⟨r2,hr2,h⟩:=bI h;refine d1 (k2 hr1 hr2) ?_;refine z0 ?_;exact e0 h
@[go_sem] def rW (N:Nat):FnS:=⟨[],true,fn1 Value.decA fun q0=>(gH N q0).map fun r=>.agg (Value.row r),false⟩
def tE (N:Nat):aA prog 63 (rW N):=om1 fun q0 r h=>rs (C9 N q0 r h)
@[go_sem] def BW (N:Nat):FnS:=⟨[],true,fn1 Value.decA fun q0=>(gH N q0).map fun r=>.agg [vI r.Kind,vI r.N,vS r.S,sO 1 (r.I.map (ay .i64)),sO 1 (r.L.map dT)],false⟩
def FU (N:Nat):aA prog 63 (BW N):=om1 (C9 N)
@[go_sem] def JY (N d f:Nat):Option FnS:=aw [(6,139,w9 N),(18,63,rW N)] d f
def Co (N:Nat) (a0:List Value) (r:List Value) (h:eC N a0=some r):Con prog 67 [] false [sF 5 (a0.map Value.row)] (sO 5 (r.map Value.row)):=by
 refine fk (G:=(JY N)) func67 (gc 6 (CK N) (gc 18 (tE N) gn)) ?_;simp only [f67];unfold eC at h;refine z0 ?_;obtain ⟨r1,hr1,h⟩:=bI h;refine z1 hr1 ?_;refine z0 ?_;refine aS (gr fun hreal3=>?_);have hl2:=hreal3.lenX 6 (by simp only [go_sem,seval]; rfl);first|rw [acL] at hl2|rw [eK] at hl2|rw [<-ac2,acL] at hl2
 refine oY (fun (v4:Nat) (b:List Value)=>⟨tab 22 (af (af (af au 3 (.pal 6 [] 0 b.length none)) 8 (vI (r1.length:Int))) 9 (vI (v4:Int))),(upd RZ 6 (sO 5 (b.map Value.row)))⟩) r1 h ?_ ?_
 ·exact wF hr1
 rintro v4 l3 _ h -;rcases (jq r1.length v4).symm with ⟨hi4',hd7⟩|⟨hi4',hd7⟩
 ·rw [hd7] at h;simp only [iH] at h;refine z1 hi4' ?_;refine cf ?_;refine z0 ?_;exact f0 h
 rw [hd7] at h;simp only [iH] at h;have hw6:=dX hi4' hl2;refine z1 hi4' ?_;refine ct ?_;refine z0 ?_;obtain ⟨x2,hb8,hx9,h⟩:=aI h;try simp only [acX] at hx9
 try simp only [aey,adZ,true_and] at hb8
 obtain ⟨r3,hr10,h⟩:=bI h;have hx12:=kz (y:=r3) hx9;refine z1 (k4 hb8 hx9 hr10 (mm2 (row:=Value.row) (y:=r3) (rx:=[vI x2.Kind,vI x2.N,vS x2.S,sF 1 (x2.I.map (ay .i64)),sF 1 (x2.L.map dT)]) (ry:=[vI r3.Kind,vI r3.N,vS r3.S,sF 1 (r3.I.map (ay .i64)),sF 1 (r3.L.map dT)]) hx9 rfl rfl)) ?_;refine z1 hw6 ?_;first|refine ⟨(l3.set v4 r3),?_,h⟩|refine ⟨hi4',(l3.set v4 r3),?_,h⟩
 refine wr ?_ ?_<;>repeat' first|rfl|constructor|simp only [go_sem,seval,ac7]
@[go_sem] def qk (N:Nat):FnS:=⟨[],false,fn1 (aJ 5 Value.dec) fun q0=>(eC N q0).map fun r=>sF 5 (r.map Value.row),false⟩
def sI (N:Nat):aA prog 67 (qk N):=om1 fun q0 r h=>rs (Co N q0 r h)
@[go_sem] def pC (N:Nat):FnS:=⟨[],false,fn1 (aJ 5 Value.dec) fun q0=>(eC N q0).map fun r=>sO 5 (r.map Value.row),false⟩
def ru (N:Nat):aA prog 67 (pC N):=om1 (Co N)
@[go_sem] def Ml (N d f:Nat):Option FnS:=aw [(5,67,pC N)] d f
def Eu (N:Nat) (a0:ah) (r:ah) (h:kN N a0=some r):Con prog 57 [] false [.agg (ah.row a0)] (.agg [vS r.Target.Type_,vS r.Target.Key,vS r.Method,sO 5 (r.Args.map Value.row)]):=by
 refine fk (G:=(Ml N)) func57 (gc 5 (ru N) gn) ?_;simp only [f57];unfold kN at h;refine z0 ?_;obtain ⟨r1,hr1,h⟩:=bI h;refine z1 hr1 ?_;refine z0 ?_;exact f0 h
@[go_sem] def Dn (N:Nat):FnS:=⟨[],false,fn1 ah.decA fun q0=>(kN N q0).map fun r=>.agg (ah.row r),false⟩
def HT (N:Nat):aA prog 57 (Dn N):=om1 fun q0 r h=>rs (Eu N q0 r h)
@[go_sem] def Cw (N:Nat):FnS:=⟨[],false,fn1 ah.decA fun q0=>(kN N q0).map fun r=>.agg [vS r.Target.Type_,vS r.Target.Key,vS r.Method,sO 5 (r.Args.map Value.row)],false⟩
def Gv (N:Nat):aA prog 57 (Cw N):=om1 (Eu N)
@[go_sem] def Nj (N d f:Nat):Option FnS:=aw [(6,100,uq N),(22,57,Dn N),(27,63,BW N)] d f
def FQ (N:Nat) (a0:Txn) (r:Txn) (h:kv N a0=some r):Con prog 41 [] false [.agg (Txn.row a0)] (.agg [vI r.ID,vI r.Born,vS r.Client,vI r.Seq,sO 4 (r.Calls.map ah.row),vI r.Done,vI r.Last.Kind,vI r.Last.N,vS r.Last.S,sO 1 (r.Last.I.map (ay .i64)),sO 1 (r.Last.L.map dT)]):=by
 refine fk (G:=(Nj N)) func41 (gc 6 (Ac N) (gc 22 (HT N) (gc 27 (FU N) gn))) ?_;simp only [f41];unfold kv at h;refine z0 ?_;obtain ⟨r1,hr1,h⟩:=bI h;refine z1 hr1 ?_;refine z0 ?_;refine aS (gr fun hreal3=>?_);have hl2:=hreal3.cell 1 4 (by simp only [go_sem,seval]; rfl) rfl;first|rw [acL] at hl2|rw [eK] at hl2|rw [<-ac2,acL] at hl2
 refine oY (fun (v4:Nat) (b:List ah)=>⟨tab 30 (af (af (af (af au 1 (pF 1)) 2 (pF 2)) 10 (vI (r1.length:Int))) 11 (vI (v4:Int))),(upd (upd RZ 1 (vA 11 [vI a0.ID,vI a0.Born,vS a0.Client,vI a0.Seq,sO 4 (b.map ah.row),vI a0.Done,vI a0.Last.Kind,vI a0.Last.N,vS a0.Last.S,sF 1 (a0.Last.I.map (ay .i64)),sF 1 (a0.Last.L.map dT)])) 2 (vA 11 [vI 0,vI 0,vS (⟨#[]⟩),vI 0,.val (.slice none 0 0),vI 0,vI 0,vI 0,vS (⟨#[]⟩),.val (.slice none 0 0),.val (.slice none 0 0)]))⟩) r1 h ?_ ?_
 ·exact wR
 rintro v4 l3 _ h -;rcases (jq r1.length v4).symm with ⟨hi4',hd7⟩|⟨hi4',hd7⟩
 ·rw [hd7] at h;simp only [j7] at h;refine z1 hi4' ?_;refine cf ?_;refine fT (pp ?_);unfold u7 at h;obtain ⟨r12,hr13,h⟩:=bI h;refine z1 hr13 ?_;refine z0 ?_;exact f0 h
 rw [hd7] at h;simp only [j7] at h;have hw6:=dX hi4' hl2;refine z1 hi4' ?_;refine ct ?_;refine z0 ?_;obtain ⟨x10,hb8,hx9,h⟩:=aI h;try simp only [acX] at hx9
 try simp only [aey,adZ,true_and] at hb8
 obtain ⟨r11,hr10,h⟩:=bI h;have hx12:=kz (y:=r11) hx9;refine d1 (k4 hb8 hx9 hr10 (mm2 (row:=ah.row) (y:=r11) (rx:=[vS x10.Target.Type_,vS x10.Target.Key,vS x10.Method,sF 5 (x10.Args.map Value.row)]) (ry:=[vS r11.Target.Type_,vS r11.Target.Key,vS r11.Method,sF 5 (r11.Args.map Value.row)]) hx9 rfl rfl)) ?_;refine z1 hw6 ?_;first|refine ⟨(l3.set v4 r11),?_,h⟩|refine ⟨hi4',(l3.set v4 r11),?_,h⟩
 exact wR
@[go_sem] def zp (N:Nat):FnS:=⟨[],false,fn1 Txn.decA fun q0=>(kv N q0).map fun r=>.agg (Txn.row r),false⟩
def B3 (N:Nat):aA prog 41 (zp N):=om1 fun q0 r h=>rs (FQ N q0 r h)
@[go_sem] def DF (N:Nat):FnS:=⟨[],false,fn1 Txn.decA fun q0=>(kv N q0).map fun r=>.agg [vI r.ID,vI r.Born,vS r.Client,vI r.Seq,sO 4 (r.Calls.map ah.row),vI r.Done,vI r.Last.Kind,vI r.Last.N,vS r.Last.S,sO 1 (r.Last.I.map (ay .i64)),sO 1 (r.Last.L.map dT)],false⟩
def HS (N:Nat):aA prog 41 (DF N):=om1 (FQ N)
def DS (N:Nat) (a0:List al) (r:List al) (h:gm N a0=some r):Con prog 107 [] false [.sl false (some false) 3 none (a0.map al.row)] (sO 3 (r.map al.row)):=by
 refine fk (G:=(aw [])) func107 gn ?_;simp only [f107];unfold gm at h;refine z0 ?_;refine z0 ?_;refine cf ?_;first|rw [if_pos (rfl:true=true)] at h|rw [if_neg adx] at h|skip
 refine aW (pp (aK ?_));first|obtain ⟨ha1,h⟩:=pk h|(obtain ⟨ha1,h⟩:=dE h; rw [acV] at h)
 simp only [Nat.reduceAdd] at ha1;refine z1 ha1 ?_;exact f0 h
def Dd (N:Nat)  (r:List al) (h:gm N []=some r):Con prog 107 [] false [.val (.slice none 0 0)] (sO 3 (r.map al.row)):=by
 refine fk (G:=(aw [])) func107 gn ?_;simp only [f107];unfold gm at h;refine z0 ?_;refine z0 ?_;refine ct ?_;first|rw [if_pos (rfl:true=true)] at h|rw [if_neg adx] at h|skip
 refine z0 ?_;refine fb (pp ?_);obtain rfl:r=[]:=by simpa [apn] using h.symm
 simp only [go_sem,seval];exact ⟨_,rfl,gT.h⟩
def Hm (N:Nat) (a0:List al) (r:List al) (h:gm N a0=some r):Con prog 107 [] false [sF 3 (a0.map al.row)] (sO 3 (r.map al.row)):=
 BS (fun e=>by obtain rfl:a0=[]:=aer.1 e; exact Dd N r h) (DS N a0 r h)
@[go_sem] def wW (N:Nat):FnS:=⟨[],false,fn1 (aJ 3 al.dec) fun q0=>(gm N q0).map fun r=>sO 3 (r.map al.row),false⟩
def CA (N:Nat):aA prog 107 (wW N):=om1 (Hm N)
@[go_sem] def JP (N d f:Nat):Option FnS:=aw [(6,107,wW N),(19,67,qk N)] d f
def JT (N:Nat) (a0:List al) (r:List al) (h:kf N a0=some r):Con prog 47 [] false [sF 3 (a0.map al.row)] (sO 3 (r.map al.row)):=by
 refine fk (G:=(JP N)) func47 (gc 6 (CA N) (gc 19 (sI N) gn)) ?_;simp only [f47];unfold kf at h;refine z0 ?_;obtain ⟨r1,hr1,h⟩:=bI h;refine z1 hr1 ?_;refine z0 ?_;refine aS (gr fun hreal3=>?_);have hl2:=hreal3.lenX 6 (by simp only [go_sem,seval]; rfl);first|rw [acL] at hl2|rw [eK] at hl2|rw [<-ac2,acL] at hl2
 refine oY (fun (v4:Nat) (b:List al)=>⟨tab 24 (af (af (af au 3 (.pal 6 [] 0 b.length none)) 8 (vI (r1.length:Int))) 9 (vI (v4:Int))),(upd RZ 6 (sO 3 (b.map al.row)))⟩) r1 h ?_ ?_
 ·exact wF hr1
 rintro v4 l3 _ h -;rcases (jq r1.length v4).symm with ⟨hi4',hd7⟩|⟨hi4',hd7⟩
 ·rw [hd7] at h;simp only [iI] at h;refine z1 hi4' ?_;refine cf ?_;refine z0 ?_;exact f0 h
 rw [hd7] at h;simp only [iI] at h;have hw6:=dX hi4' hl2;refine z1 hi4' ?_;refine ct ?_;refine z0 ?_;obtain ⟨x2,hb8,hx9,h⟩:=aI h;try simp only [acX] at hx9
 try simp only [aey,adZ,true_and] at hb8
 obtain ⟨r3,hr10,h⟩:=bI h;have hx12:=kz (y:=(al.mk x2.Txn_ r3 x2.Prepared)) hx9;refine z1 (k4 hb8 hx9 hr10 (mm2 (row:=al.row) (y:=(al.mk x2.Txn_ r3 x2.Prepared)) (rx:=[vI x2.Txn_,sF 5 (x2.Fields.map Value.row),vB x2.Prepared]) (ry:=[vI x2.Txn_,sF 5 (r3.map Value.row),vB x2.Prepared]) hx9 rfl rfl)) ?_;refine z1 hw6 ?_;first|refine ⟨(l3.set v4 (al.mk x2.Txn_ r3 x2.Prepared)),?_,h⟩|refine ⟨hi4',(l3.set v4 (al.mk x2.Txn_ r3 x2.Prepared)),?_,h⟩
 refine wr ?_ ?_<;>repeat' first|rfl|constructor|simp only [go_sem,seval,ac7]
@[go_sem] def uM (N:Nat):FnS:=⟨[],false,fn1 (aJ 3 al.dec) fun q0=>(kf N q0).map fun r=>sO 3 (r.map al.row),false⟩
def yb (N:Nat):aA prog 47 (uM N):=om1 (JT N)
@[go_sem] def R9 (N d f:Nat):Option FnS:=aw [(9,130,zn N),(12,131,sA N),(15,132,s8 N),(31,41,zp N),(49,133,Ae N),(68,47,uM N)] d f
def Km (N:Nat) (a0:ae) (r:ae) (h:kJ N a0=some r):Con prog 59 [] false [.agg (ae.row a0)] (.agg [sO 11 (r.Txns.map Txn.row),sO 4 (r.Locks.map ai.row),sO 3 (r.Stacks.map aa.rowD)]):=by
 refine fk (G:=(R9 N)) func59 (gc 9 (DQ N) (gc 12 (vn N) (gc 15 (zA N) (gc 31 (B3 N) (gc 49 (E3 N) (gc 68 (yb N) gn)))))) ?_;simp only [f59];unfold kJ at h;refine z0 ?_;obtain ⟨r1,hr1,h⟩:=bI h;obtain ⟨r2,hr2,h⟩:=bI h;obtain ⟨r3,hr3,h⟩:=bI h;refine d1 (k3 hr1 hr2 hr3) ?_;refine z0 ?_;refine aS (gr fun hreal5=>?_);have hl4:=hreal5.cell 3 0 (by simp only [go_sem,seval]; rfl) rfl;first|rw [acL] at hl4|rw [eK] at hl4|rw [<-ac2,acL] at hl4
 refine oY (fun (v6:Nat) (b:List Txn)=>⟨tab 73 (af (af (af (af au 2 (pF 2)) 3 (pF 3)) 19 (vI (r1.length:Int))) 20 (vI (v6:Int))),(upd (upd RZ 2 (vA 3 [.val (.slice none 0 0),.val (.slice none 0 0),.val (.slice none 0 0)])) 3 (vA 3 [sO 11 (b.map Txn.row),sO 4 (r2.map ai.row),sO 3 (r3.map aa.row)]))⟩) r1 h ?_ ?_
 ·exact wR
 rintro v6 l5 _ h -;rcases (jq r1.length v6) with ⟨hi6',hd9⟩|⟨hi6',hd9⟩
 ·rw [hd9] at h;simp only [oK] at h;have hw8:=dX hi6' hl4;refine z1 hi6' ?_;refine ct ?_;refine z0 ?_;obtain ⟨x12,hb10,hx11,h⟩:=aI h;try simp only [acX] at hx11
  try simp only [aey,adZ,true_and] at hb10
  obtain ⟨r13,hr12,h⟩:=bI h;have hx14:=kz (y:=r13) hx11;refine d1 (k4 hb10 hx11 hr12 (mm2 (row:=Txn.row) (y:=r13) (rx:=[vI x12.ID,vI x12.Born,vS x12.Client,vI x12.Seq,sF 4 (x12.Calls.map ah.row),vI x12.Done,vI x12.Last.Kind,vI x12.Last.N,vS x12.Last.S,sF 1 (x12.Last.I.map (ay .i64)),sF 1 (x12.Last.L.map dT)]) (ry:=[vI r13.ID,vI r13.Born,vS r13.Client,vI r13.Seq,sF 4 (r13.Calls.map ah.row),vI r13.Done,vI r13.Last.Kind,vI r13.Last.N,vS r13.Last.S,sF 1 (r13.Last.I.map (ay .i64)),sF 1 (r13.Last.L.map dT)]) hx11 rfl rfl)) ?_;refine z1 hw8 ?_;first|refine ⟨(l5.set v6 r13),?_,h⟩|refine ⟨hi6',(l5.set v6 r13),?_,h⟩
  exact wR
 rw [hd9] at h;simp only [oK] at h;refine z1 hi6' ?_;refine cf ?_;unfold zo at h;refine z0 ?_;refine aS (gr fun hreal16=>?_);have hl15:=hreal16.cell 3 1 (by simp only [go_sem,seval]; rfl) rfl;first|rw [acL] at hl15|rw [eK] at hl15|rw [<-ac2,acL] at hl15
 refine oY (fun (v16:Nat) (b:List ai)=>⟨tab 73 (af (af (af (af au 2 (pF 2)) 3 (pF 3)) 36 (vI (r2.length:Int))) 37 (vI (v16:Int))),(upd (upd RZ 2 (vA 3 [.val (.slice none 0 0),.val (.slice none 0 0),.val (.slice none 0 0)])) 3 (vA 3 [sO 11 (l5.map Txn.row),sO 4 (b.map ai.row),sO 3 (r3.map aa.row)]))⟩) r2 h ?_ ?_
 ·exact wR
 rintro v16 l15 _ h -;rcases (jq r2.length v16) with ⟨hi17',hd20⟩|⟨hi17',hd20⟩
 ·rw [hd20] at h;simp only [pb] at h;have hw19:=dX hi17' hl15;refine z1 hi17' ?_;refine ct ?_;refine z0 ?_;obtain ⟨x22,hb21,hx22,h⟩:=aI h;try simp only [acX] at hx22
  try simp only [aey,adZ,true_and] at hb21
  obtain ⟨r23,hr23,h⟩:=bI h;have hx25:=kz (y:=(ai.mk x22.Actor x22.Owner r23)) hx22;refine d1 (k4 hb21 hx22 hr23 (mm2 (row:=ai.row) (y:=(ai.mk x22.Actor x22.Owner r23)) (rx:=[vS x22.Actor.Type_,vS x22.Actor.Key,vI x22.Owner,sF 1 (x22.Waiters.map (ay .i64))]) (ry:=[vS x22.Actor.Type_,vS x22.Actor.Key,vI x22.Owner,sF 1 (r23.map (ay .i64))]) hx22 rfl rfl)) ?_;refine z1 hw19 ?_;first|refine ⟨(l15.set v16 (ai.mk x22.Actor x22.Owner r23)),?_,h⟩|refine ⟨hi17',(l15.set v16 (ai.mk x22.Actor x22.Owner r23)),?_,h⟩
  exact wR
 rw [hd20] at h;simp only [pb] at h;refine z1 hi17' ?_;refine cf ?_;unfold zw at h;refine z0 ?_;refine aS (gr fun hreal27=>?_);have hl26:=hreal27.cell 3 2 (by simp only [go_sem,seval]; rfl) rfl;first|rw [acL] at hl26|rw [eK] at hl26|rw [<-ac2,acL] at hl26
 refine oY (fun (v26:Nat) (b:List aa)=>⟨tab 73 (af (af (af (af au 2 (pF 2)) 3 (pF 3)) 55 (vI (r3.length:Int))) 56 (vI (v26:Int))),(upd (upd RZ 2 (vA 3 [.val (.slice none 0 0),.val (.slice none 0 0),.val (.slice none 0 0)])) 3 (vA 3 [sO 11 (l5.map Txn.row),sO 4 (l15.map ai.row),sO 3 (mxR aa.rowD aa.row v26 b)]))⟩) r3 h ?_ ?_
 ·exact wR
 rintro v26 l25 _ h -;rcases (jq r3.length v26).symm with ⟨hi28',hd31⟩|⟨hi28',hd31⟩
 ·rw [hd31] at h;simp only [o9] at h;obtain ⟨hg35,h⟩:=Oa h;refine z1 (k2 hi28' (mi4 hg35)) ?_;refine cf ?_;refine z0 ?_;exact f0 h
 rw [hd31] at h;simp only [o9] at h;have hw30:=dX hi28' hl26;refine z1 hi28' ?_;refine ct ?_;refine z0 ?_;obtain ⟨x24,hb32,hx33,h⟩:=aI h;try simp only [acX] at hx33
 try simp only [aey,adZ,true_and] at hb32
 obtain ⟨r25,hr34,h⟩:=bI h;refine ki fun Z hZ=>?_;simp only [go_sem,seval,hb32,Nm (f:=aa.rowD) (g:=aa.row) hx33,eK,hr34,UR (f:=aa.rowD) (g:=aa.row) (rx:=[vS x24.Actor.Type_,vS x24.Actor.Key,sF 3 (x24.Layers.map al.row)]) hx33 rfl rfl];repeat with_reducible refine eL (by kernel_rfl) ?_
 refine hZ _ (by kernel_rfl) (z1 hw30 ?_);first|refine ⟨(l25.set v26 (aa.mk x24.Actor r25)),?_,h⟩|refine ⟨hi28',(l25.set v26 (aa.mk x24.Actor r25)),?_,h⟩
 refine aX.trans (y4 (n:=3) (c':=vA 3 [sO 11 (l5.map Txn.row),sO 4 (l15.map ai.row),sO 3 (mxR aa.rowD aa.row (v26+1) (l25.set v26 (aa.mk x24.Actor r25)))]) (by simp only [go_sem,seval]; rfl) (by first|(simp only [<-K5 (f:=_) (g:=_) hx33 (aa.mk x24.Actor r25)]; done)|(rw [<-K5 (f:=_) (g:=_) hx33 (aa.mk x24.Actor r25)]; rfl))) ?_;exact wR
@[go_sem] def Io (N:Nat):FnS:=⟨[],false,fn1 ae.decA fun q0=>(kJ N q0).map fun r=>.agg (ae.row r),false⟩
def MO (N:Nat):aA prog 59 (Io N):=om1 fun q0 r h=>rs (Km N q0 r h)
@[go_sem] def qf (N:Nat):FnS:=⟨[],false,fn1 ae.decA fun q0=>(kJ N q0).map fun r=>.agg [sO 11 (r.Txns.map Txn.row),sO 4 (r.Locks.map ai.row),sO 3 (r.Stacks.map aa.rowD)],false⟩
def oR (N:Nat):aA prog 59 (qf N):=om1 (Km N)
@[go_sem] def Sa (N d f:Nat):Option FnS:=aw [(24,23,kh N),(27,98,zG N),(56,59,qf N),(60,41,zp N)] d f
def Se (N:Nat) (a0:ae) (a1:Int) (a2:Int) (a3:ByteArray) (a4:Int) (a5:List ah) (r:ae × Int) (h:jV N a0 a1 a2 a3 a4 a5=some r):Con prog 38 [] false [.agg (ae.row a0),vI a1,vI a2,vS a3,vI a4,sF 4 (a5.map ah.row)] (.tup [.agg [sO 11 (r.1.Txns.map Txn.row),sO 4 (r.1.Locks.map ai.row),sO 3 (r.1.Stacks.map aa.row)],vI r.2]):=by
 refine fk (G:=(Sa N)) func38 (gc 24 (jf N) (gc 27 (BN N) (gc 56 (oR N) (gc 60 (B3 N) gn)))) ?_;simp only [f38];unfold jV at h;refine z0 ?_;refine z0 ?_;refine aK (aS ?_);apply aQ (fun (c10:Bool)=>⟨tab 65 (af (af (af (af (af au 1 (vI a1)) 6 (pF 6)) 12 (pF 12)) 14 (pF 14)) 22 (vB c10)),(upd (upd (upd RZ 6 (vA 3 (ae.row a0))) 12 (vA 3 [.val (.slice none 0 0),.val (.slice none 0 0),.val (.slice none 0 0)])) 14 (vA 11 [vI a1,vI a2,vS a3,vI a4,sF 4 (a5.map ah.row),vI 0,vI 0,vI 0,vS (⟨#[]⟩),.val (.slice none 0 0),.val (.slice none 0 0)]))⟩)
 ·intro hJ1;obtain ⟨r11,hr2,h⟩:=bI h;refine z1 hr2 ?_;refine cM h (fun hc3 h=>?_) fun hc3 h=>?_
  ·refine aW (pp (hJ1 _ true ?_ h));exact wF hc3
  obtain ⟨r12,hr4,h⟩:=bI h;refine z1 (k2 hc3 hr4) ?_;refine hJ1 _ (!r12) ?_ h;exact wF (k3 hr2 hc3 hr4)
 intro c10 h;unfold zN at h;refine cB h (fun hc5 h=>?_) fun hc5 h=>?_
 ·refine z1 hc5 ?_;exact f0 h
 apply aQ (fun (c14:Bool)=>⟨tab 65 (af (af (af (af au 6 (pF 6)) 12 (pF 12)) 14 (pF 14)) 30 (vB c14)),(upd (upd (upd RZ 6 (vA 3 (ae.row a0))) 12 (vA 3 [.val (.slice none 0 0),.val (.slice none 0 0),.val (.slice none 0 0)])) 14 (vA 11 [vI a1,vI a2,vS a3,vI a4,sF 4 (a5.map ah.row),vI 0,vI 0,vI 0,vS (⟨#[]⟩),.val (.slice none 0 0),.val (.slice none 0 0)]))⟩)
 ·intro hJ6;refine iD h (fun hc7 hc7d h=>?_) fun hc7 hc7d h=>?_
  ·obtain ⟨x15,hb8,hx9,h⟩:=aI h;refine z1 (k4 hc5 hc7d hb8 hx9) ?_;refine hJ6 _ (decide (a1<=x15.ID)) ?_ h;exact wF (k4 hc5 hc7d hb8 hx9)
  refine z1 (k2 hc5 hc7d) ?_;refine hJ6 _ false ?_ h;exact wF (k2 hc5 hc7d)
 intro c14 h;unfold pj at h;refine cB h (fun hc10 h=>?_) fun hc10 h=>?_
 ·refine z1 hc10 ?_;exact f0 h
 refine z1 hc10 ?_;refine cD h (fun hc11 hc11d h=>?_) fun hc11 hc11d h=>?_
 ·refine z1 hc11d ?_;exact f0 h
 refine aW (pp ?_);unfold oT at h;obtain ⟨r16,hr12,h⟩:=bI h;refine z1 (k2 hc11d hr12) ?_;obtain ⟨r17,hr13,h⟩:=bI h;obtain ⟨ha14,h⟩:=dE h;simp only [acT,adh,adm,Nat.reduceAdd] at ha14;refine d1 (k2 hr13 ha14) ?_;refine z0 ?_;exact f0 h
@[go_sem] def zs (N:Nat):FnS:=⟨[],false,fn6 ae.decA (aG .i64) (aG .i64) bW (aG .i64) (aJ 4 ah.dec) fun q0 q1 q2 q3 q4 q5=>(jV N q0 q1 q2 q3 q4 q5).map fun r=>.tup [.agg (ae.row r.1),vI r.2],false⟩
def zH (N:Nat):aA prog 38 (zs N):=om6 fun q0 q1 q2 q3 q4 q5 r h=>rs (Se N q0 q1 q2 q3 q4 q5 r h)
@[go_sem] def Tu (N d f:Nat):Option FnS:=aw [(9,40,gG N),(52,57,Cw N)] d f
def TA (N:Nat) (a0:ae) (a1:Int) (r:ah × Bool) (h:py N a0 a1=some r):Con prog 24 [] false [.agg (ae.row a0),vI a1] (.tup [.agg [vS r.1.Target.Type_,vS r.1.Target.Key,vS r.1.Method,sO 5 (r.1.Args.map Value.row)],vB r.2]):=by
 refine fk (G:=(Tu N)) func24 (gc 9 (ff N) (gc 52 (Gv N) gn)) ?_;simp only [f24];unfold py at h;refine z0 ?_;obtain ⟨r1,hr1,h⟩:=bI h;refine z1 hr1 ?_;refine aK ?_;apply aQ (fun (c6:Bool)=>⟨tab 53 (af (af (af (af au 2 (pF 2)) 4 (pF 4)) 6 (vI r1)) 36 (vB c6)),(upd (upd RZ 2 (vA 3 (ae.row a0))) 4 (vA 4 [vS (⟨#[]⟩),vS (⟨#[]⟩),vS (⟨#[]⟩),.val (.slice none 0 0)]))⟩)
 ·intro hJ2;refine iD h (fun hc3 hc3d h=>?_) fun hc3 hc3d h=>?_
  ·refine d1 hc3d ?_;refine hJ2 _ true ?_ h;exact wR
  obtain ⟨x7,hb4,hx5,h⟩:=aI h;refine iD h (fun hc6 hc6d h=>?_) fun hc6 hc6d h=>?_
  ·refine d1 (k4 hc3d hb4 hx5 hc6d) ?_;refine hJ2 _ true ?_ h;exact wR
  refine d1 (k4 hc3d hb4 hx5 hc6d) ?_;refine hJ2 _ (decide ((x7.Calls.length:Int)<=x7.Done)) ?_ h;exact wR
 intro c6 h;unfold rq at h;refine cB h (fun hc7 h=>?_) fun hc7 h=>?_
 ·refine z1 hc7 ?_;exact f0 h
 refine aW (pp ?_);unfold wZ at h;obtain ⟨x8,hb8,hx9,h⟩:=aI h;obtain ⟨x9,hb10,hx11,h⟩:=aI h;obtain ⟨r10,hr12,h⟩:=bI h;refine d1 (k5 hc7 hb8 hx9 hb10 (k2 hx11 hr12)) ?_;exact f0 h
@[go_sem] def EM (N:Nat):FnS:=⟨[],false,fn2 ae.decA (aG .i64) fun q0 q1=>(py N q0 q1).map fun r=>.tup [.agg (ah.row r.1),vB r.2],false⟩
def F6 (N:Nat):aA prog 24 (EM N):=om2 fun q0 q1 r h=>rs (TA N q0 q1 r h)
@[go_sem] def O0 (N d f:Nat):Option FnS:=aw [(6,131,sA N),(19,133,tB N)] d f
def Hv (N:Nat) (a0:List ai) (r:List ai) (h:gf N a0=some r):Con prog 117 [] false [sF 4 (a0.map ai.row)] (sO 4 (r.map ai.rowD)):=by
 refine fk (G:=(O0 N)) func117 (gc 6 (vn N) (gc 19 (wE N) gn)) ?_;simp only [f117];unfold gf at h;refine z0 ?_;obtain ⟨r1,hr1,h⟩:=bI h;refine z1 hr1 ?_;refine z0 ?_;refine aS (gr fun hreal3=>?_);have hl2:=hreal3.lenX 6 (by simp only [go_sem,seval]; rfl);first|rw [acL] at hl2|rw [eK] at hl2|rw [<-ac2,acL] at hl2
 refine oY (fun (v4:Nat) (b:List ai)=>⟨tab 24 (af (af (af au 3 (.pal 6 [] 0 b.length none)) 8 (vI (r1.length:Int))) 9 (vI (v4:Int))),(upd RZ 6 (sO 4 (mxR ai.rowD ai.row v4 b)))⟩) r1 h ?_ ?_
 ·exact wF hr1
 rintro v4 l3 _ h -;rcases (jq r1.length v4).symm with ⟨hi4',hd7⟩|⟨hi4',hd7⟩
 ·rw [hd7] at h;simp only [ly] at h;obtain ⟨hg11,h⟩:=Oa h;refine z1 (k2 hi4' (mi4 hg11)) ?_;refine cf ?_;refine z0 ?_;exact f0 h
 rw [hd7] at h;simp only [ly] at h;have hw6:=dX hi4' hl2;refine z1 hi4' ?_;refine ct ?_;refine z0 ?_;obtain ⟨x2,hb8,hx9,h⟩:=aI h;try simp only [acX] at hx9
 try simp only [aey,adZ,true_and] at hb8
 obtain ⟨r3,hr10,h⟩:=bI h;refine z1 (k4 hb8 (Nm (f:=ai.rowD) (g:=ai.row) hx9) hr10 (mi1 (f:=ai.rowD) (g:=ai.row) (rx:=[vS x2.Actor.Type_,vS x2.Actor.Key,vI x2.Owner,sF 1 (x2.Waiters.map (ay .i64))]) hx9 rfl)) ?_;refine z1 hw6 ?_;first|refine ⟨(l3.set v4 (ai.mk x2.Actor x2.Owner r3)),?_,h⟩|refine ⟨hi4',(l3.set v4 (ai.mk x2.Actor x2.Owner r3)),?_,h⟩
 refine aX.trans (TY (n:=6) (ai.mk x2.Actor x2.Owner r3) hx9 (by simp only [go_sem,seval]; rfl) rfl rfl) ?_;refine wr ?_ ?_<;>repeat' first|rfl|constructor|simp only [go_sem,seval,adD,ac7]
@[go_sem] def j5 (N:Nat):FnS:=⟨[],false,fn1 (aJ 4 ai.dec) fun q0=>(gf N q0).map fun r=>sO 4 (r.map ai.row),false⟩
def jU (N:Nat):aA prog 117 (j5 N):=om1 fun q0 r h=>rs (Hv N q0 r h)
@[go_sem] def zt (N:Nat):FnS:=⟨[],false,fn1 (aJ 4 ai.dec) fun q0=>(gf N q0).map fun r=>sO 4 (r.map ai.rowD),false⟩
def BR (N:Nat):aA prog 117 (zt N):=om1 (Hv N)
def dP:FnS:={ own:=[true,true],pure:=false,fn:=fun _=>none,peek:=true }
theorem wJ:dP.own=[true,true]:=rfl
theorem wj:dP.peek=true:=rfl
theorem BG:I6 prog 195:=
 NV (fn:=f195) (tS:=25) (tR:=4) (e:=100) (size:=4) func195 rfl rfl (by kernel_rfl) (by kernel_rfl) (by kernel_rfl) (by kernel_rfl)
def yn:aA prog 195 dP:=⟨(fun cs r h=>by simp [dP] at h),fun _=>BG⟩
def gF:Env:={ T:=eB prog,G:=fun d f=>if d=67/\f=195 then some dP else none }
theorem rp:gF.T=eB prog:=rfl
theorem E4 (d:Nat):gF.F d=none:=rfl
theorem EI (d f:Nat):gF.L d f=none:=rfl
theorem Ez:gF.G 67 195=some dP:=rfl
def DP:GOk prog { T:=eB prog,G:=gF.G }:=by
 refine ⟨?_,fun _ _ _ h=>by cases h⟩;intro d f fs hfs;simp only [gF] at hfs;split at hfs
 ·rename_i hc; obtain ⟨rfl,rfl⟩:=hc; obtain rfl:=adp hfs; exact yn
 cases hfs
theorem Fo:D7 prog 127 f127 f127.body.get! := ⟨func127,rfl,by decide,by kernel_rfl⟩
set_option maxHeartbeats 4000000 in
section
attribute [local go_sem] rp gh CU Option.map_some Nat.sub_zero Nat.le_refl dB tn List.isEmpty_nil
def F7 {α:Type} (row:α->List C) (ok:aF row) (l:List α) (i:Nat) (x:α) (k:Nat) (r:List α) (hr:r=l.take i++[x]++l.drop i) (hi:i<=l.length) (hsz:(l.length+1) * 64<=140737488355328) (hk1:l.length<=k) (hk2:k<=maxLen) :
  Con prog 127 [true,false,true] false [.sl true none 4 (some k) (l.map row),vI i,sO 4 ([x].map row)] (sO 4 (r.map row)):=by
 refine JE (E:=gF) (yY prog _) DP mix Fo (ac4 rfl) ?_;intro _;rw [vE (by simp)];rw [show gp [true,false,true] [C.sl true none 4 (some k) (l.map row),C.val (.int .i64 i),C.sl true none 4 none ([x].map row)]=(af (af (af au 0 (.pal 0 [] 0 l.length none)) 1 (vI i)) 2 (.pal 2 [] 0 1 none)) from by funext t; match t with|0=>simp [gp,ja,kd,af]|1=>rfl|2=>rfl|t+3=>rfl];rw [show R0 [true,false,true] [C.sl true none 4 (some k) (l.map row),C.val (.int .i64 i),C.sl true none 4 none ([x].map row)]=upd (upd RZ 0 (C.sl true none 4 (some k) (l.map row))) 2 (C.sl true none 4 none ([x].map row)) from by funext t; match t with|0=>rfl|1=>rfl|2=>rfl|t+3=>rfl];apply JF;simp only [f127,Option.get!];have hi1:(i:Int)<=(l.length:Int):=by omega
 have hi2:i<=l.length:=hi;have h10:(((1:Nat):Int)=0)=False:=by simp
 have hp:(row x).all Abs.plainCell=true:=ok.plain x;have hf:(row x).map C.frz=(row x):=ok.frz x;have hpD:(row x).all qz=true:=by have:=(aF.allD ok [x]); simpa using this
 have hw1:IntKind.i64.wrap ((l.length:Int)+((1:Nat):Int))=((l.length+1:Nat):Int):=by rw [lW (by omega) (by omega)]; rfl
 have hlt0:(l.take i).length=i:=by simp; omega
 have hes:(4 != 0)=true:=rfl;have hm1:min 1 (l.length+1 - i)=1:=by omega
 have hm2:min (l.length - i) (l.length+1 - (i+1))=l.length - i:=by omega
 have hm3:(l.drop i).take (l.length - i)=l.drop i:=ac3 (by simp);have hm4:i+1<=l.length+1:=by omega
 have hw2:IntKind.i64.wrap (((l.length+1:Nat):Int) - (i:Int))=((l.length+1 - i:Nat):Int):=by rw [lW (by omega) (by omega)]; omega
 have hw1b:IntKind.i64.wrap ((l.length:Int)+1)=((l.length+1:Nat):Int):=hw1;have hw3:IntKind.i64.wrap ((i:Int)+((1:Nat):Int))=((i+1:Nat):Int):=by rw [lW (by omega) (by omega)]; rfl
 have hw3b:IntKind.i64.wrap ((i:Int)+1)=((i+1:Nat):Int):=hw3;simp only [go_sem,seval,rp,hi2,acU,gh,acS,ae4];refine La rfl ?_;simp only [go_sem,seval,rp,ae4];refine tf rfl (fun hc=>?_) (fun hc=>?_)
 ·have e:i=l.length:=by omega
  subst e;simp only [go_sem,seval,E4,hp,hf,aF.allD ok,aeN,dS,hsz];refine su ok ?_;rw [hr];simp [ac3]
 ·have hc1:decide ((i:Int)=(l.length:Int))=false:=decide_eq_false hc;have hlt:i < l.length:=by omega
  simp only [go_sem,seval,Q2,tk,hw1b,hc1];refine tf rfl (fun hk=>?_) (fun hk=>?_)
  ·have hk1:decide (k < l.length+1)=true:=decide_eq_true hk;have hk2:k < i+(l.length+1 - i):=by omega
   have e1:i+(l.length+1 - i)=l.length+1:=by omega
   have hi3:(i:Int)<=((l.length+1:Nat):Int):=by omega
   have hi4:i<=l.length+1:=by omega
   obtain ⟨A,hA⟩:∃ A,List.map row (List.take i l)++List.replicate (l.length+1 - i) [C.val (Value.string ⟨#[]⟩),C.val (Value.string ⟨#[]⟩),C.val (Value.int .i64 0),C.val (Value.slice none 0 0)]=A:=⟨_,rfl⟩;have hAp:bK A:=by rw [<-hA]; exact jP (ga ok _) (zB _ [Value.string ⟨#[]⟩,Value.string ⟨#[]⟩,Value.int .i64 0,Value.slice none 0 0] (by simp [Value.oneCell']))
   have hAl:A.length=l.length+1:=by rw [<-hA,adi,acL,hlt0,ad1]; omega
   obtain ⟨B,hB⟩:∃ B,aL A i [(row x)]=B:=⟨_,rfl⟩;have hBp:bK B:=by rw [<-hB]; exact fY hAp ⟨by simp [frzRows,hf],by simp [hpD]⟩
   have hBl:B.length=l.length+1:=by rw [<-hB]; simp [aL,hAl]; omega
   obtain ⟨D,hD⟩:∃ D,aL B (i+1) (List.map row (List.drop i l))=D:=⟨_,rfl⟩;have hDp:bK D:=by rw [<-hD]; exact fY hBp (ga ok _)
   have hDl:D.length=l.length+1:=by rw [<-hD]; simp [aL,hBl]; omega
   have hDe:D=(l.take i++[x]++l.drop i).map row:=by
    rw [<-hD,<-hB,<-hA,ael,aea,NU (A:=l.map row) (n:=l.length) (by simp) hi2 (by simp)];simp
   simp only [go_sem,seval,hi2,hp,hf,aF.frzRows ok,aF.allPlain ok,CY,tk,GR,CM,gA,Ei,Ext.all,hw2,hw1b,hw3b,af0,adt,ad1,hlt0,hm1,hm3,hm4,hk,e1,hi4,hA,hAl,hAp.1,hAp.2,hB,hBp.1,hBp.2,hD,hsz];repeat' ((with_reducible refine eL ?_ ?_); kernel_rfl)
   simp only [go_sem,seval,dS];refine su ok ?_;rw [hr,<-hDe,<-hDl,aex]
  ·have hk1:decide (k < l.length+1)=false:=decide_eq_false hk;have hk2:¬ k < i+(l.length+1 - i):=by omega
   have hk3:l.length+1<=k:=by omega
   have e2:l.length+1 - l.length=1:=by omega
   have e3:l.length<=l.length+1:=by omega
   have hi3:(i:Int)<=((l.length+1:Nat):Int):=by omega
   have hi4:i<=l.length+1:=by omega
   have hne:¬ l.length+1 - (i+1)=0:=by omega
   have hne2:¬ l.length - i=0:=by omega
   obtain ⟨A,hA⟩:∃ A,List.map row l++[[C.dead,C.dead,C.dead,C.dead]]=A:=⟨_,rfl⟩;have hAp:bK A:=by rw [<-hA]; exact jP (ga ok _) (Di 1 4)
   have hAl:A.length=l.length+1:=by rw [<-hA]; simp
   have hm5:min (l.length+1 - i) (l.length+1 - (i+1))=l.length - i:=by omega
   have hm5b:min (l.length+1 - i) (l.length - i)=l.length - i:=by omega
   obtain ⟨A2,hA2⟩:∃ A2,(A.drop i).take (l.length - i)=A2:=⟨_,rfl⟩;have hA2e:A2=List.map row (l.drop i):=by
    rw [<-hA2,<-hA,aeT,acL,show i - l.length=0 by omega,ad4,aej,ac3 (by simp),show l.length - i - (List.drop i (List.map row l)).length=0 by simp];simp [aea]
   have hA2p:(A2.all fun r=>r.all Abs.plainCell)=true:=by rw [hA2e]; exact ok.allPlain _
   have hA2f:frzRows A2=A2:=by rw [hA2e]; exact ok.frzRows _
   have hA2d:bK A2:=by rw [hA2e]; exact ga ok _
   obtain ⟨B,hB⟩:∃ B,aL A (i+1) A2=B:=⟨_,rfl⟩;have hBp:bK B:=by rw [<-hB]; exact fY hAp hA2d
   have hBl:B.length=l.length+1:=by rw [<-hB]; simp [aL,hAl,hA2e]; omega
   obtain ⟨D,hD⟩:∃ D,aL B i [(row x)]=D:=⟨_,rfl⟩;have hDp:bK D:=by rw [<-hD]; exact fY hBp ⟨by simp [frzRows,hf],by simp [hpD]⟩
   have hDl:D.length=l.length+1:=by rw [<-hD]; simp [aL,hBl]; omega
   have hDe:D=(l.take i++[x]++l.drop i).map row:=by
    rw [<-hD,<-hB,<-hA2,<-hA,KU (A:=l.map row) (n:=l.length) (by simp) hi2];simp [ael,aea]
   simp only [go_sem,seval,EI,Ez,aF.frzRows ok,aF.allD ok,AX,Jz,qG,hw1b,hw3b,adt,hm4,wJ,wj,aeN,hk,hk3,e2,e3,hne2,hA,hes];refine Li rfl ?_;simp only [go_sem,seval,hp,hf,CY,GR,CM,hw3b,hm1,hm4,hi4,hAp.1,hAp.2,hA2,hA2p,hA2f,hB,hBp.1,hBp.2,hD,hm5b];repeat' ((with_reducible refine eL ?_ ?_); kernel_rfl)
   simp only [go_sem,seval,dS];refine su ok ?_;rw [hr,<-hDe,<-hDl,aex]
end
def Ge (N:Nat) (a0:List ai) (a1:Int) (a2:List ai) (r:List ai) (h:lO N a0 a1 a2=some r) :
  Con prog 127 [true,false,true] false [sO 4 (a0.map ai.row),vI a1,sO 4 (a2.map ai.row)] (sO 4 (r.map ai.row)):=by
 unfold lO at h;obtain ⟨n,x,rfl,rfl,h1,h2,h3⟩:=BZ h;exact JI fun k hk1 hk2=>F7 ai.row ai.row_ok a0 n x k r (adp h3).symm h1 h2 (by simpa using hk1) hk2
def fx (N:Nat):FnS:={ own:=[true,false,true],pure:=false,fn:=fun cs=>match cs with
 | [c0,c1,c2]=>(vO 4 ai.dec c0).bind fun q0=>(aG .i64 c1).bind fun q1=>(vO 4 ai.dec c2).bind fun q2=>(lO N q0 q1 q2).map fun r=>sO 4 (r.map ai.row)
 | _=>none }
theorem Ch (N:Nat):(fx N).own=[true,false,true]:=rfl
theorem B5 (N:Nat):(fx N).pure=false:=rfl
theorem Bm (N:Nat):(fx N).peek=false:=rfl
attribute [go_sem] fx Ch B5 Bm
def CP (N:Nat):aA prog 127 (fx N):=by
 refine ⟨fun cs r h=>?_,fun h=>by cases h⟩;simp only [fx] at h;split at h
 ·simp only [acG,acF] at h;obtain ⟨q0,h0,q1,h1,q2,h2,r',hr,rfl⟩:=h;exact (Ge N q0 q1 q2 r' hr).argsO rfl (jy (qi ai.row_ok ai.dec_le h0) (re (bz h1) (jy (qi ai.row_ok ai.dec_le h2) oa)))
 ·cases h
def MJ (N:Nat) (a0:Int) (r:Bool) (h:qb N a0=some r):Con prog 228 [] true [vI a0] (vB r):=by
 refine fk (G:=(aw [])) func228 gn ?_;simp only [f228];unfold qb at h;refine z0 ?_;refine z0 ?_;exact e0 h
@[go_sem] def yS (N:Nat):FnS:=⟨[],true,fn1 (aG .i64) fun q0=>(qb N q0).map fun r=>vB r,false⟩
def An (N:Nat):aA prog 228 (yS N):=om1 (MJ N)
@[go_sem] def Ng (N d f:Nat):Option FnS:=aw [(6,228,yS N),(9,228,yS N)] d f
def NZ (N:Nat) (a0:Int) (a1:Int) (r:Bool) (h:pq N a0 a1=some r):Con prog 197 [] true [vI a0,vI a1] (vB r):=by
 refine fk (G:=(Ng N)) func197 (gc 6 (An N) (gc 9 (An N) gn)) ?_;simp only [f197];unfold pq at h;refine z0 ?_;refine aK ?_;obtain ⟨r1,hr1,h⟩:=bI h;refine iBs h (fun hc2 h=>?_) fun hc2 h=>?_
 ·refine z1 (k2 hr1 hc2) ?_;exact e0 h
 obtain ⟨r2,hr3,h⟩:=bI h;refine iBs h (fun hc4 h=>?_) fun hc4 h=>?_
 ·refine z1 (k4 hr1 hc2 hr3 hc4) ?_;exact e0 h
 refine z1 (k4 hr1 hc2 hr3 hc4) ?_;exact e0 h
@[go_sem] def zU (N:Nat):FnS:=⟨[],true,fn2 (aG .i64) (aG .i64) fun q0 q1=>(pq N q0 q1).map fun r=>vB r,false⟩
def Bo (N:Nat):aA prog 197 (zU N):=om2 (NZ N)
def Ii (N:Nat) (a0:Int) (r:Bool) (h:kX N a0=some r):Con prog 198 [] true [vI a0] (vB r):=by
 refine fk (G:=(aw [])) func198 gn ?_;simp only [f198];unfold kX at h;refine z0 ?_;refine z0 ?_;exact e0 h
@[go_sem] def uJ (N:Nat):FnS:=⟨[],true,fn1 (aG .i64) fun q0=>(kX N q0).map fun r=>vB r,false⟩
def yh (N:Nat):aA prog 198 (uJ N):=om1 (Ii N)
@[go_sem] def CC (N d f:Nat):Option FnS:=aw [(27,197,zU N),(47,198,uJ N),(50,198,uJ N)] d f
def CO (N:Nat) (a0:List Int) (a1:Int) (r:Int × Bool) (h:gu N a0 a1=some r):Con prog 128 [] true [sF 1 (a0.map (ay .i64)),vI a1] (.tup [vI r.1,vB r.2]):=by
 refine fk (G:=(CC N)) func128 (gc 27 (Bo N) (gc 47 (yh N) (gc 50 (yh N) gn))) ?_;simp only [f128];unfold gu at h;refine z0 ?_;refine z0 ?_;refine z0 ?_;refine aK (aS (il (fun (b:Int × Int)=>⟨tab 54 (af (af (af (af (af au 0 (sF 1 (a0.map (ay .i64)))) 1 (vI a1)) 6 (vI (a0.length:Int))) 7 (vI b.1)) 8 (vI b.2)),RZ⟩) (0,(a0.length:Int)) h ?_ ?_))
 ·exact wR
 rintro n ⟨v2,v3⟩ h -;cases n with
 | zero=>simp [dU] at h
 | succ n=>
 simp only [dU] at h;refine z0 ?_;refine cD h (fun hc1 hc1d h=>?_) fun hc1 hc1d h=>?_
 ·refine z1 hc1d ?_;obtain ⟨x9,hb2,hx3,h⟩:=aI h;obtain ⟨r10,hr4,h⟩:=bI h;refine z1 (k3 hb2 hx3 hr4) ?_;refine cB h (fun hc5 h=>?_) fun hc5 h=>?_
  ·refine z1 hc5 ?_;refine ⟨_,adk _,(IntKind.i64.wrap ((IntKind.i64.wrap (kt .u64 (IntKind.u64.wrap (IntKind.i64.wrap (v2+v3))) 1))+1),v3),?_,h⟩;exact wR
  refine z1 hc5 ?_;refine ⟨_,adk _,(v2,IntKind.i64.wrap (kt .u64 (IntKind.u64.wrap (IntKind.i64.wrap (v2+v3))) 1)),?_,h⟩;exact wR
 refine fT (pp ?_);unfold js at h;refine iDs h (fun hc6 hc6d h=>?_) fun hc6 hc6d h=>?_
 ·refine z1 (k2 hc1d hc6d) ?_;exact e0 h
 obtain ⟨x11,hb7,hx8,h⟩:=aI h;refine iD h (fun hc9 hc9d h=>?_) fun hc9 hc9d h=>?_
 ·refine z1 (k4 hc1d hb7 hx8 hc9d) ?_;exact e0 h
 obtain ⟨r12,hr10,h⟩:=bI h;refine iB h (fun hc11 h=>?_) fun hc11 h=>?_
 ·obtain ⟨r13,hr12,h⟩:=bI h;refine z1 (k5 hc1d hb7 hx8 hc9d (k3 hr10 hc11 hr12)) ?_;exact e0 h
 refine z1 (k5 hc1d hb7 hx8 hc9d (k2 hr10 hc11)) ?_;exact e0 h
@[go_sem] def ui (N:Nat):FnS:=⟨[],true,fn2 (aJ 1 (du (aG .i64))) (aG .i64) fun q0 q1=>(gu N q0 q1).map fun r=>.tup [vI r.1,vB r.2],false⟩
def Aa (N:Nat):aA prog 128 (ui N):=om2 (CO N)
def ei:FnS:={ own:=[true,true],pure:=false,fn:=fun _=>none,peek:=true }
theorem yo:ei.own=[true,true]:=rfl
theorem wT:ei.peek=true:=rfl
theorem Cf:I6 prog 199:=
 NV (fn:=f199) (tS:=35) (tR:=4) (e:=3) (size:=1) func199 rfl rfl (by kernel_rfl) (by kernel_rfl) (by kernel_rfl) (by kernel_rfl)
def yK:aA prog 199 ei:=⟨(fun cs r h=>by simp [ei] at h),fun _=>Cf⟩
def gX:Env:={ T:=eB prog,G:=fun d f=>if d=67/\f=199 then some ei else none }
theorem sd:gX.T=eB prog:=rfl
theorem Fh (d:Nat):gX.F d=none:=rfl
theorem F1 (d f:Nat):gX.L d f=none:=rfl
theorem FY:gX.G 67 199=some ei:=rfl
def EF:GOk prog { T:=eB prog,G:=gX.G }:=by
 refine ⟨?_,fun _ _ _ h=>by cases h⟩;intro d f fs hfs;simp only [gX] at hfs;split at hfs
 ·rename_i hc; obtain ⟨rfl,rfl⟩:=hc; obtain rfl:=adp hfs; exact yK
 cases hfs
theorem Gi:D7 prog 129 f129 f129.body.get! := ⟨func129,rfl,by decide,by kernel_rfl⟩
set_option maxHeartbeats 4000000 in
section
attribute [local go_sem] sd gh CU Option.map_some Nat.sub_zero Nat.le_refl dB tn List.isEmpty_nil
def GY {α:Type} (row:α->List C) (ok:aF row) (l:List α) (i:Nat) (x:α) (k:Nat) (r:List α) (hr:r=l.take i++[x]++l.drop i) (hi:i<=l.length) (hsz:(l.length+1) * 8<=140737488355328) (hk1:l.length<=k) (hk2:k<=maxLen) :
  Con prog 129 [true,false,true] false [.sl true none 1 (some k) (l.map row),vI i,sO 1 ([x].map row)] (sO 1 (r.map row)):=by
 refine JE (E:=gX) (yY prog _) EF mix Gi (ac4 rfl) ?_;intro _;rw [vE (by simp)];rw [show gp [true,false,true] [C.sl true none 1 (some k) (l.map row),C.val (.int .i64 i),C.sl true none 1 none ([x].map row)]=(af (af (af au 0 (.pal 0 [] 0 l.length none)) 1 (vI i)) 2 (.pal 2 [] 0 1 none)) from by funext t; match t with|0=>simp [gp,ja,kd,af]|1=>rfl|2=>rfl|t+3=>rfl];rw [show R0 [true,false,true] [C.sl true none 1 (some k) (l.map row),C.val (.int .i64 i),C.sl true none 1 none ([x].map row)]=upd (upd RZ 0 (C.sl true none 1 (some k) (l.map row))) 2 (C.sl true none 1 none ([x].map row)) from by funext t; match t with|0=>rfl|1=>rfl|2=>rfl|t+3=>rfl];apply JF;simp only [f129,Option.get!];have hi1:(i:Int)<=(l.length:Int):=by omega
 have hi2:i<=l.length:=hi;have h10:(((1:Nat):Int)=0)=False:=by simp
 have hp:(row x).all Abs.plainCell=true:=ok.plain x;have hf:(row x).map C.frz=(row x):=ok.frz x;have hpD:(row x).all qz=true:=by have:=(aF.allD ok [x]); simpa using this
 have hw1:IntKind.i64.wrap ((l.length:Int)+((1:Nat):Int))=((l.length+1:Nat):Int):=by rw [lW (by omega) (by omega)]; rfl
 have hlt0:(l.take i).length=i:=by simp; omega
 have hes:(1 != 0)=true:=rfl;have hm1:min 1 (l.length+1 - i)=1:=by omega
 have hm2:min (l.length - i) (l.length+1 - (i+1))=l.length - i:=by omega
 have hm3:(l.drop i).take (l.length - i)=l.drop i:=ac3 (by simp);have hm4:i+1<=l.length+1:=by omega
 have hw2:IntKind.i64.wrap (((l.length+1:Nat):Int) - (i:Int))=((l.length+1 - i:Nat):Int):=by rw [lW (by omega) (by omega)]; omega
 have hw1b:IntKind.i64.wrap ((l.length:Int)+1)=((l.length+1:Nat):Int):=hw1;have hw3:IntKind.i64.wrap ((i:Int)+((1:Nat):Int))=((i+1:Nat):Int):=by rw [lW (by omega) (by omega)]; rfl
 have hw3b:IntKind.i64.wrap ((i:Int)+1)=((i+1:Nat):Int):=hw3;simp only [go_sem,seval,sd,hi2,acU,gh,acS,ae4];refine La rfl ?_;simp only [go_sem,seval,sd,ae4];refine tf rfl (fun hc=>?_) (fun hc=>?_)
 ·have e:i=l.length:=by omega
  subst e;simp only [go_sem,seval,Fh,hp,hf,aF.allD ok,aeN,dS,hsz];refine su ok ?_;rw [hr];simp [ac3]
 ·have hc1:decide ((i:Int)=(l.length:Int))=false:=decide_eq_false hc;have hlt:i < l.length:=by omega
  simp only [go_sem,seval,Q2,tk,hw1b,hc1];refine tf rfl (fun hk=>?_) (fun hk=>?_)
  ·have hk1:decide (k < l.length+1)=true:=decide_eq_true hk;have hk2:k < i+(l.length+1 - i):=by omega
   have e1:i+(l.length+1 - i)=l.length+1:=by omega
   have hi3:(i:Int)<=((l.length+1:Nat):Int):=by omega
   have hi4:i<=l.length+1:=by omega
   obtain ⟨A,hA⟩:∃ A,List.map row (List.take i l)++List.replicate (l.length+1 - i) [C.val (Value.int .i64 0)]=A:=⟨_,rfl⟩;have hAp:bK A:=by rw [<-hA]; exact jP (ga ok _) (zB _ [Value.int .i64 0] (by simp [Value.oneCell']))
   have hAl:A.length=l.length+1:=by rw [<-hA,adi,acL,hlt0,ad1]; omega
   obtain ⟨B,hB⟩:∃ B,aL A i [(row x)]=B:=⟨_,rfl⟩;have hBp:bK B:=by rw [<-hB]; exact fY hAp ⟨by simp [frzRows,hf],by simp [hpD]⟩
   have hBl:B.length=l.length+1:=by rw [<-hB]; simp [aL,hAl]; omega
   obtain ⟨D,hD⟩:∃ D,aL B (i+1) (List.map row (List.drop i l))=D:=⟨_,rfl⟩;have hDp:bK D:=by rw [<-hD]; exact fY hBp (ga ok _)
   have hDl:D.length=l.length+1:=by rw [<-hD]; simp [aL,hBl]; omega
   have hDe:D=(l.take i++[x]++l.drop i).map row:=by
    rw [<-hD,<-hB,<-hA,ael,aea,NU (A:=l.map row) (n:=l.length) (by simp) hi2 (by simp)];simp
   simp only [go_sem,seval,hi2,hp,hf,aF.frzRows ok,aF.allPlain ok,CY,tk,GR,CM,gA,Ei,Ext.all,hw2,hw1b,hw3b,af0,adt,ad1,hlt0,hm1,hm3,hm4,hk,e1,hi4,hA,hAl,hAp.1,hAp.2,hB,hBp.1,hBp.2,hD,hsz];repeat' ((with_reducible refine eL ?_ ?_); kernel_rfl)
   simp only [go_sem,seval,dS];refine su ok ?_;rw [hr,<-hDe,<-hDl,aex]
  ·have hk1:decide (k < l.length+1)=false:=decide_eq_false hk;have hk2:¬ k < i+(l.length+1 - i):=by omega
   have hk3:l.length+1<=k:=by omega
   have e2:l.length+1 - l.length=1:=by omega
   have e3:l.length<=l.length+1:=by omega
   have hi3:(i:Int)<=((l.length+1:Nat):Int):=by omega
   have hi4:i<=l.length+1:=by omega
   have hne:¬ l.length+1 - (i+1)=0:=by omega
   have hne2:¬ l.length - i=0:=by omega
   obtain ⟨A,hA⟩:∃ A,List.map row l++[[C.dead]]=A:=⟨_,rfl⟩;have hAp:bK A:=by rw [<-hA]; exact jP (ga ok _) (Di 1 1)
   have hAl:A.length=l.length+1:=by rw [<-hA]; simp
   have hm5:min (l.length+1 - i) (l.length+1 - (i+1))=l.length - i:=by omega
   have hm5b:min (l.length+1 - i) (l.length - i)=l.length - i:=by omega
   obtain ⟨A2,hA2⟩:∃ A2,(A.drop i).take (l.length - i)=A2:=⟨_,rfl⟩;have hA2e:A2=List.map row (l.drop i):=by
    rw [<-hA2,<-hA,aeT,acL,show i - l.length=0 by omega,ad4,aej,ac3 (by simp),show l.length - i - (List.drop i (List.map row l)).length=0 by simp];simp [aea]
   have hA2p:(A2.all fun r=>r.all Abs.plainCell)=true:=by rw [hA2e]; exact ok.allPlain _
   have hA2f:frzRows A2=A2:=by rw [hA2e]; exact ok.frzRows _
   have hA2d:bK A2:=by rw [hA2e]; exact ga ok _
   obtain ⟨B,hB⟩:∃ B,aL A (i+1) A2=B:=⟨_,rfl⟩;have hBp:bK B:=by rw [<-hB]; exact fY hAp hA2d
   have hBl:B.length=l.length+1:=by rw [<-hB]; simp [aL,hAl,hA2e]; omega
   obtain ⟨D,hD⟩:∃ D,aL B i [(row x)]=D:=⟨_,rfl⟩;have hDp:bK D:=by rw [<-hD]; exact fY hBp ⟨by simp [frzRows,hf],by simp [hpD]⟩
   have hDl:D.length=l.length+1:=by rw [<-hD]; simp [aL,hBl]; omega
   have hDe:D=(l.take i++[x]++l.drop i).map row:=by
    rw [<-hD,<-hB,<-hA2,<-hA,KU (A:=l.map row) (n:=l.length) (by simp) hi2];simp [ael,aea]
   simp only [go_sem,seval,F1,FY,aF.frzRows ok,aF.allD ok,AX,Jz,qG,hw1b,hw3b,adt,hm4,yo,wT,aeN,hk,hk3,e2,e3,hne2,hA,hes];refine Li rfl ?_;simp only [go_sem,seval,hp,hf,CY,GR,CM,hw3b,hm1,hm4,hi4,hAp.1,hAp.2,hA2,hA2p,hA2f,hB,hBp.1,hBp.2,hD,hm5b];repeat' ((with_reducible refine eL ?_ ?_); kernel_rfl)
   simp only [go_sem,seval,dS];refine su ok ?_;rw [hr,<-hDe,<-hDl,aex]
end
def HV (N:Nat) (a0:List Int) (a1:Int) (a2:List Int) (r:List Int) (h:mN N a0 a1 a2=some r) :
  Con prog 129 [true,false,true] false [sO 1 (a0.map (ay .i64)),vI a1,sO 1 (a2.map (ay .i64))] (sO 1 (r.map (ay .i64))):=by
 unfold mN at h;obtain ⟨n,x,rfl,rfl,h1,h2,h3⟩:=BZ h;exact JI fun k hk1 hk2=>GY (ay .i64) (mA .i64) a0 n x k r (adp h3).symm h1 h2 (by simpa using hk1) hk2
def fQ (N:Nat):FnS:={ own:=[true,false,true],pure:=false,fn:=fun cs=>match cs with
 | [c0,c1,c2]=>(vO 1 (du (aG .i64)) c0).bind fun q0=>(aG .i64 c1).bind fun q1=>(vO 1 (du (aG .i64)) c2).bind fun q2=>(mN N q0 q1 q2).map fun r=>sO 1 (r.map (ay .i64))
 | _=>none }
theorem CN (N:Nat):(fQ N).own=[true,false,true]:=rfl
theorem Ca (N:Nat):(fQ N).pure=false:=rfl
theorem Cj (N:Nat):(fQ N).peek=false:=rfl
attribute [go_sem] fQ CN Ca Cj
def Db (N:Nat):aA prog 129 (fQ N):=by
 refine ⟨fun cs r h=>?_,fun h=>by cases h⟩;simp only [fQ] at h;split at h
 ·simp only [acG,acF] at h;obtain ⟨q0,h0,q1,h1,q2,h2,r',hr,rfl⟩:=h;exact (HV N q0 q1 q2 r' hr).argsO rfl (jy (qi (mA .i64) (jw .i64) h0) (re (bz h1) (jy (qi (mA .i64) (jw .i64) h2) oa)))
 ·cases h
@[go_sem] def Md (N d f:Nat):Option FnS:=aw [(14,116,lF N),(18,124,pG N),(23,125,rV N),(29,126,yr N),(38,117,j5 N),(44,127,fx N),(52,128,ui N),(64,117,j5 N),(74,117,j5 N),(78,117,j5 N),(88,117,zt N),(99,129,fQ N)] d f
def LY (N:Nat) (a0:List ai) (a1:Ref) (a2:Int) (r:(List ai) × Int × Int) (h:qd N a0 a1 a2=some r):Con prog 58 [] false [sF 4 (a0.map ai.row),.agg [vS a1.Type_,vS a1.Key],vI a2] (.tup [sO 4 (r.1.map ai.row),vI r.2.1,vI r.2.2]):=by
 refine fk (G:=(Md N)) func58 (gc 14 (kC N) (gc 18 (rh N) (gc 23 (tg N) (gc 29 (yE N) (gc 38 (jU N) (gc 44 (CP N) (gc 52 (Aa N) (gc 64 (jU N) (gc 74 (jU N) (gc 78 (jU N) (gc 88 (BR N) (gc 99 (Db N) gn)))))))))))) ?_;simp only [f58];unfold qd at h;refine z0 ?_;refine aK ?_;apply aQ (fun (c9:Bool)=>⟨tab 103 (af (af (af (af au 0 (sF 4 (a0.map ai.row))) 2 (vI a2)) 4 (pF 4)) 25 (vB c9)),(upd RZ 4 (vA 2 [vS a1.Type_,vS a1.Key]))⟩)
 ·intro hJ1;obtain ⟨r10,hr2,h⟩:=bI h;refine iBs h (fun hc3 h=>?_) fun hc3 h=>?_
  ·refine z1 (k2 hr2 hc3) ?_;refine hJ1 _ true ?_ h;exact wR
  obtain ⟨r11,hr4,h⟩:=bI h;refine iBs h (fun hc5 h=>?_) fun hc5 h=>?_
  ·refine z1 (k4 hr2 hc3 hr4 hc5) ?_;refine hJ1 _ true ?_ h;exact wR
  obtain ⟨r12,hr6,h⟩:=bI h;refine z1 (k5 hr2 hc3 hr4 hc5 hr6) ?_;refine hJ1 _ (!r12) ?_ h;exact wR
 intro c9 h;unfold pw at h;refine cB h (fun hc7 h=>?_) fun hc7 h=>?_
 ·refine z1 hc7 ?_;exact f0 h
 refine aW (pp ?_);unfold oP at h;obtain ⟨r13,hr8,h⟩:=bI h;refine z1 (k2 hc7 hr8) ?_;refine z0 ?_;refine cM h (fun hc9 h=>?_) fun hc9 h=>?_
 ·refine z1 hc9 ?_;refine cD h (fun hc10 hc10d h=>?_) fun hc10 hc10d h=>?_
  ·refine z1 hc10d ?_;exact f0 h
  obtain ⟨r14,hr11,h⟩:=bI h;obtain ⟨r15,hr12,h⟩:=bI h;refine d1 (k3 hc10d hr11 hr12) ?_;exact f0 h
 obtain ⟨x16,hb13,hx14,h⟩:=aI h;obtain ⟨r17,hr15,h⟩:=bI h;refine z1 (k4 hc9 hb13 hx14 hr15) ?_;refine z1 (k2 hb13 hx14) ?_;refine cD h (fun hc16 hc16d h=>?_) fun hc16 hc16d h=>?_
 ·obtain ⟨r18,hr17,h⟩:=bI h;refine z1 (k2 hc16d hr17) ?_;exact f0 h
 refine z1 (k3 hb13 hx14 hc16d) ?_;refine cD h (fun hc18 hc18d h=>?_) fun hc18 hc18d h=>?_
 ·obtain ⟨r19,hr19,h⟩:=bI h;refine z1 (k2 hc18d hr19) ?_;exact f0 h
 refine z1 hc18d ?_;refine cB h (fun hc20 h=>?_) fun hc20 h=>?_
 ·obtain ⟨r20,hr21,h⟩:=bI h;refine z1 (k2 hc20 hr21) ?_;exact f0 h
 refine z1 (k3 hb13 hx14 hc20) ?_;refine cD h (fun hc22 hc22d h=>?_) fun hc22 hc22d h=>?_
 ·refine z1 hc22d ?_;exact f0 h
 obtain ⟨r21,hr23,h⟩:=bI h;refine z1 (k2 hc22d hr23) ?_;obtain ⟨x22,hb24,hx25,h⟩:=aI h;obtain ⟨r23,hr26,h⟩:=bI h;refine z1 (k5 hb13 hb24 hx25 (ov1 (row:=ai.rowD) (rx:=[vS x22.Actor.Type_,vS x22.Actor.Key,vI x22.Owner,sO 1 (x22.Waiters.map (ay .i64))]) hx25 rfl) (k3 (ov2 (row:=ai.rowD) hx25) (ov3 (row:=ai.rowD) hx25) hr26)) ?_;refine z0 ?_;exact f0 h
@[go_sem] def Cq (N:Nat):FnS:=⟨[],false,fn3 (aJ 4 ai.dec) Ref.decA (aG .i64) fun q0 q1 q2=>(qd N q0 q1 q2).map fun r=>.tup [sO 4 (r.1.map ai.row),vI r.2.1,vI r.2.2],false⟩
def Hn (N:Nat):aA prog 58 (Cq N):=om3 (LY N)
def JO (N:Nat) (a0:Int) (r:Int) (h:uX N a0=some r):Con prog 182 [] true [.val (.int .u64 a0)] (vI r):=by
 refine fk (G:=(aw [])) func182 gn ?_;simp only [f182];unfold uX at h;refine z0 ?_;apply Dw (fun (v1:Int) (v2:Int)=>⟨tab 25 (af (af au 0 (.val (.int .u64 v1))) 2 (vI v2)),RZ⟩)
 ·intro hJ1;refine z0 ?_;refine cD h (fun hc2 hc2d h=>?_) fun hc2 hc2d h=>?_
  ·refine z1 hc2d ?_;refine z0 ?_;refine hJ1 _ (kt .u64 a0 32) 32 ?_ h;exact wR
  refine aW (pp (hJ1 _ a0 0 ?_ h));exact wR
 intro v1 v2 h;unfold vF at h;apply Dw (fun (v3:Int) (v4:Int)=>⟨tab 25 (af (af au 0 (.val (.int .u64 v3))) 2 (vI v4)),RZ⟩)
 ·intro hJ3;refine z0 ?_;refine cD h (fun hc4 hc4d h=>?_) fun hc4 hc4d h=>?_
  ·refine z1 hc4d ?_;refine z0 ?_;refine hJ3 _ (kt .u64 v1 16) (IntKind.i64.wrap (v2+16)) ?_ h;exact wR
  refine aW (pp (hJ3 _ v1 v2 ?_ h));exact wR
 intro v3 v4 h;unfold vL at h;apply Dw (fun (v5:Int) (v6:Int)=>⟨tab 25 (af (af au 0 (.val (.int .u64 v5))) 2 (vI v6)),RZ⟩)
 ·intro hJ5;refine z0 ?_;refine cD h (fun hc6 hc6d h=>?_) fun hc6 hc6d h=>?_
  ·refine z1 hc6d ?_;refine z0 ?_;refine hJ5 _ (kt .u64 v3 8) (IntKind.i64.wrap (v4+8)) ?_ h;exact wR
  refine aW (pp (hJ5 _ v3 v4 ?_ h));exact wR
 intro v5 v6 h;unfold vi at h;obtain ⟨b7,hb7,hx8,h⟩:=WV h;refine z1 (k2 hb7 hx8) ?_;exact e0 h
@[go_sem] def BX (N:Nat):FnS:=⟨[],true,fn1 (aG .u64) fun q0=>(uX N q0).map fun r=>vI r,false⟩
def Gb (N:Nat):aA prog 182 (BX N):=om1 (JO N)
@[go_sem] def Mg (N d f:Nat):Option FnS:=aw [(7,182,BX N)] d f
def MM (N:Nat) (a0:Int) (r:Int) (h:tW N a0=some r):Con prog 102 [] true [.val (.int .u64 a0)] (vI r):=by
 refine fk (G:=(Mg N)) func102 (gc 7 (Gb N) gn) ?_;simp only [f102];unfold tW at h;refine z0 ?_;refine cf ?_;first|rw [if_pos (rfl:true=true)] at h|rw [if_neg adx] at h|skip
 obtain ⟨r1,hr1,h⟩:=bI h;refine z1 hr1 ?_;exact e0 h
@[go_sem] def yH (N:Nat):FnS:=⟨[],true,fn1 (aG .u64) fun q0=>(tW N q0).map fun r=>vI r,false⟩
def Aj (N:Nat):aA prog 102 (yH N):=om1 (MM N)
@[go_sem] def vc (N d f:Nat):Option FnS:=aw [(29,197,zU N)] d f
def kK (N:Nat) (a0:List Int) (a1:Int) (a2:Int) (r:List Int) (h:da N a0 a1 a2=some r):(r).length=a0.length:=by
 unfold da at h; exact (kH h).2
def ve (N:Nat) (a0:List Int) (a1:Int) (a2:Int) (r:List Int) (h:da N a0 a1 a2=some r):mI prog 219 1 [sO 1 (a0.map (ay .i64)),vI a1,vI a2] (.tup []) [sO 1 (r.map (ay .i64))]:=by
 unfold da at h;obtain ⟨h,hlen⟩:=kH h;refine zf (G:=(vc N)) (L:=noL) func219 rfl (by decide) (by kernel_rfl) 1 (by kernel_rfl) (gc 29 (Bo N) gn) (fun _ _ _ h=>by cases h) [] mix (ac4 rfl) (ac4 rfl) rfl (by simp [dI,hlen]) ?_;simp only [f219];refine z0 ?_;refine aS (il (fun (b:Int)=>⟨tab 49 (af (af (af (af au 0 (.pal 0 [] 0 a0.length none)) 1 (vI a1)) 2 (vI a2)) 6 (vI b)),(upd RZ 0 (sO 1 (a0.map (ay .i64))))⟩) (IntKind.i64.wrap (a1+1)) h ?_ ?_)
 ·exact wR
 rintro n v1 h -;cases n with
 | zero=>simp [eJ] at h
 | succ n=>
 simp only [eJ] at h;refine z0 ?_;refine cDs h (fun hc1 hc1d h=>?_) fun hc1 hc1d h=>?_
 ·refine fT (pp ?_);obtain rfl:=adp h;refine C4 (.inr rfl) (aX.refl _) (by simp only [go_sem,seval,hc1d]; rfl) (by simp only [go_sem,seval]; rfl) (by (try simp only [go_sem,seval]); first|exact Le.refl _|exact LeI.h) ?_;exact C0 (by simp only [go_sem,seval,hc1d]<;>rfl) (by simp only [go_sem,seval]<;>rfl) (F0)
 refine z1 hc1d ?_;refine aS (il (fun (b:Unit)=>⟨tab 49 (af (af (af (af (af au 0 (.pal 0 [] 0 a0.length none)) 1 (vI a1)) 2 (vI a2)) 6 (vI v1)) 7 (vI v1)),(upd RZ 0 (sO 1 (a0.map (ay .i64))))⟩) () h ?_ ?_)
 ·exact wR
 rintro n ⟨⟩ h -;cases n with
 | zero=>simp [gN] at h
 | succ n=>
 simp only [gN] at h;refine aK ?_;apply aQ (fun (c9:Bool)=>⟨tab 49 (af (af (af (af (af (af au 0 (.pal 0 [] 0 a0.length none)) 1 (vI a1)) 2 (vI a2)) 6 (vI v1)) 7 (vI v1)) 30 (vB c9)),(upd RZ 0 (sO 1 (a0.map (ay .i64))))⟩)
 ·intro hJ2;refine iDs h (fun hc3 hc3d h=>?_) fun hc3 hc3d h=>?_
  ·refine d1 hc3d ?_;refine hJ2 _ false ?_ h;exact wR
  obtain ⟨x10,hb4,hx5,h⟩:=aI h;obtain ⟨x11,hb6,hx7,h⟩:=aI h;obtain ⟨r12,hr8,h⟩:=bI h;refine d1 (k5 hc3d hb4 hx5 hb6 (k2 hx7 hr8)) ?_;refine hJ2 _ r12 ?_ h;exact wR
 intro c9 h;unfold gP at h;refine cB h (fun hc9 h=>?_) fun hc9 h=>?_
 ·refine aW (pp ?_);unfold gK at h;refine aK (aS ?_);obtain ⟨x13,hb10,hx11,h⟩:=aI h;obtain ⟨x14,hb12,hx13,h⟩:=aI h;cases h
 refine z1 hc9 ?_;refine ⟨_,adk _,(IntKind.i64.wrap (v1+1)),?_,h⟩;exact wR
@[go_sem] def gQ (N:Nat):FnL:=⟨1,fun cs rest=>match cs,rest with
 | [v0],[c1,c2]=>(Dx 1 (du (aG .i64)) v0).bind fun q0=>((aG .i64) c1).bind fun q1=>((aG .i64) c2).bind fun q2=>(da N q0 q1 q2).map fun r=>(.tup [],[sO 1 (r.map (ay .i64))])
 | _,_=>none,false⟩
def s6 (N:Nat):wQ prog 219 (gQ N):=by
 refine IX (aeG _) rfl ?_;intro cs rest r ls hlen h;simp only [gQ] at h;split at h
 ·simp only [acG,acF] at h;obtain ⟨q0,h0,q1,h1,q2,h2,r',hr,he⟩:=h;cases he;exact mI.told rfl rfl (y6 (za (mA .i64) (jw .i64) h0) (BJ)) (LeL.cons (bz h1) (LeL.cons (bz h2) (LeL.nil))) (ve N q0 q1 q2 r' hr)
 ·cases h
@[go_sem] def zg (N d f:Nat):Option FnL:=Bc [(27,219,gQ N)] d f
def m8 (N:Nat) (a0:List Int) (a1:Int) (a2:Int) (a3:Int) (r:List Int) (h:ee N a0 a1 a2 a3=some r):(r).length=a0.length:=by
 unfold ee at h; exact (kH h).2
def zh (N:Nat) (a0:List Int) (a1:Int) (a2:Int) (a3:Int) (r:List Int) (h:ee N a0 a1 a2 a3=some r):mI prog 185 1 [sO 1 (a0.map (ay .i64)),vI a1,vI a2,vI a3] (.tup []) [sO 1 (r.map (ay .i64))]:=by
 unfold ee at h;obtain ⟨h,hlen⟩:=kH h;refine zf (G:=(aw [])) (L:=(zg N)) func185 rfl (by decide) (by kernel_rfl) 1 (by kernel_rfl) gn (lc 27 (s6 N) ln) [] mix (ac4 rfl) (ac4 rfl) rfl (by simp [dI,hlen]) ?_;simp only [f185];refine z0 ?_;refine z0 ?_;refine aS (il (fun (b:Unit)=>⟨tab 134 (af (af (af (af (af (af au 0 (.pal 0 [] 0 a0.length none)) 1 (vI a1)) 2 (vI a2)) 3 (vI a3)) 8 (vB true)) 9 (vB true)),(upd RZ 0 (sO 1 (a0.map (ay .i64))))⟩) () h ?_ ?_)
 ·exact wR
 rintro n ⟨⟩ h -;cases n with
 | zero=>simp [jx] at h
 | succ n=>
 simp only [jx] at h;refine z0 ?_;refine z0 ?_;refine cDs h (fun hc1 hc1d h=>?_) fun hc1 hc1d h=>?_
 ·refine z1 hc1d ?_;refine cD h (fun hc3 hc3d h=>?_) fun hc3 hc3d h=>?_
  ·refine aK ?_;cases h
  refine z1 hc3d ?_;refine cf ?_;first|rw [if_pos (rfl:true=true)] at h|rw [if_neg adx] at h|skip
  refine aW (pp (aK ?_));cases h
 obtain ⟨r1,hr2,h⟩:=bI h;refine z1 (k3 hc1d hr2 (kK N a0 a1 a2 r1 hr2)) ?_;refine fb (pp ?_);obtain rfl:=adp h;refine C4 (.inl rfl) (aX.refl _) (by simp only [go_sem,seval]; rfl) (by simp only [go_sem,seval]; rfl) (by (try simp only [go_sem,seval]); first|exact Le.refl _|exact LeI.h) ?_;exact C0 (by simp only [go_sem,seval,kK N a0 a1 a2 r1 hr2]<;>rfl) (by simp only [go_sem,seval]<;>rfl) (F0)
@[go_sem] def jv (N:Nat):FnL:=⟨1,fun cs rest=>match cs,rest with
 | [v0],[c1,c2,c3]=>(Dx 1 (du (aG .i64)) v0).bind fun q0=>((aG .i64) c1).bind fun q1=>((aG .i64) c2).bind fun q2=>((aG .i64) c3).bind fun q3=>(ee N q0 q1 q2 q3).map fun r=>(.tup [],[sO 1 (r.map (ay .i64))])
 | _,_=>none,false⟩
def wx (N:Nat):wQ prog 185 (jv N):=by
 refine IX (aeG _) rfl ?_;intro cs rest r ls hlen h;simp only [jv] at h;split at h
 ·simp only [acG,acF] at h;obtain ⟨q0,h0,q1,h1,q2,h2,q3,h3,r',hr,he⟩:=h;cases he;exact mI.told rfl rfl (y6 (za (mA .i64) (jw .i64) h0) (BJ)) (LeL.cons (bz h1) (LeL.cons (bz h2) (LeL.cons (bz h3) (LeL.nil)))) (zh N q0 q1 q2 q3 r' hr)
 ·cases h
@[go_sem] def DT (N d f:Nat):Option FnS:=aw [(9,102,yH N)] d f
@[go_sem] def DY (N d f:Nat):Option FnL:=Bc [(10,185,jv N)] d f
def CH (N:Nat) (a0:List Int) (r:List Int) (h:ir N a0=some r):(r).length=a0.length:=by
 unfold ir at h; exact (kH h).2
def wD (N:Nat) (a0:List Int) (r:List Int) (h:ir N a0=some r):mI prog 109 1 [sO 1 (a0.map (ay .i64))] (.tup []) [sO 1 (r.map (ay .i64))]:=by
 unfold ir at h;obtain ⟨h,hlen⟩:=kH h;refine zf (G:=(DT N)) (L:=(DY N)) func109 rfl (by decide) (by kernel_rfl) 1 (by kernel_rfl) (gc 9 (Aj N) gn) (lc 10 (wx N) ln) [] mix (ac4 rfl) (ac4 rfl) rfl (by simp [dI,hlen]) ?_;simp only [f109];refine z0 ?_;obtain ⟨r1,hr1,h⟩:=bI h;obtain ⟨r2,hr2,h⟩:=bI h;refine z1 (k3 hr1 hr2 (m8 N a0 0 (a0.length:Int) r1 r2 hr2)) ?_;obtain rfl:=adp h;refine C4 (.inr rfl) (aX.refl _) (by simp only [go_sem,seval]; rfl) (by simp only [go_sem,seval]; rfl) (by (try simp only [go_sem,seval]); first|exact Le.refl _|exact LeI.h) ?_;exact C0 (by simp only [go_sem,seval,m8 N a0 0 (a0.length:Int) r1 r2 hr2]<;>rfl) (by simp only [go_sem,seval]<;>rfl) (F0)
@[go_sem] def vj (N:Nat):FnL:=⟨1,fun cs rest=>match cs,rest with
 | [v0],[]=>(Dx 1 (du (aG .i64)) v0).bind fun q0 =>  (ir N q0).map fun r=>(.tup [],[sO 1 (r.map (ay .i64))])
 | _,_=>none,false⟩
def Oz (N:Nat):wQ prog 109 (vj N):=by
 refine IX (aeG _) rfl ?_;intro cs rest r ls hlen h;simp only [vj] at h;split at h
 ·simp only [acG,acF] at h;obtain ⟨q0,h0,r',hr,he⟩:=h;cases he;exact mI.told rfl rfl (y6 (za (mA .i64) (jw .i64) h0) (BJ)) (LeL.nil) (wD N q0 r' hr)
 ·cases h
def H6:Go.Shelf.Ren:=⟨fun|125=>102|128=>181|129=>182|189=>109|215=>228|216=>197|257=>185|294=>219|295=>220|296=>221|297=>222|298=>223|299=>224|300=>225|301=>226|328=>232|329=>215|330=>216|331=>233|332=>234|343=>237|n=>n,fun|0=>0|3=>3|4=>4|5=>5|9=>9|28=>35|46=>136|51=>186|53=>188|131=>115|182=>179|183=>180|218=>207|222=>211|228=>219|229=>220|n=>n,fun n=>n⟩
def HZ:Go.Proofs.Lays.n189 prog H6 where
 mixed:=by kernel_rfl
 f125:=func102.trans (congrArg some (by kernel_rfl))
 f128:=func181.trans (congrArg some (by kernel_rfl))
 f129:=func182.trans (congrArg some (by kernel_rfl))
 f189:=func109.trans (congrArg some (by kernel_rfl))
 f215:=func228.trans (congrArg some (by kernel_rfl))
 f216:=func197.trans (congrArg some (by kernel_rfl))
 f257:=func185.trans (congrArg some (by kernel_rfl))
 f294:=func219.trans (congrArg some (by kernel_rfl))
 f295:=func220.trans (congrArg some (by kernel_rfl))
 f296:=func221.trans (congrArg some (by kernel_rfl))
 f297:=func222.trans (congrArg some (by kernel_rfl))
 f298:=func223.trans (congrArg some (by kernel_rfl))
 f299:=func224.trans (congrArg some (by kernel_rfl))
 f300:=func225.trans (congrArg some (by kernel_rfl))
 f301:=func226.trans (congrArg some (by kernel_rfl))
 f328:=func232.trans (congrArg some (by kernel_rfl))
 f329:=func215.trans (congrArg some (by kernel_rfl))
 f330:=func216.trans (congrArg some (by kernel_rfl))
 f331:=func233.trans (congrArg some (by kernel_rfl))
 f332:=func234.trans (congrArg some (by kernel_rfl))
 f343:=func237.trans (congrArg some (by kernel_rfl))
 t0:=underlying0
 a0:=Tryz.isAgg0
 z0:=Tryz.sizeOf0
 v0:=Tryz.zeroValue0
 t3:=underlying3
 a3:=Tryz.isAgg3
 z3:=Tryz.sizeOf3
 v3:=Tryz.zeroValue3
 t4:=underlying4
 a4:=Tryz.isAgg4
 z4:=Tryz.sizeOf4
 v4:=Tryz.zeroValue4
 t5:=underlying5
 a5:=Tryz.isAgg5
 z5:=Tryz.sizeOf5
 v5:=Tryz.zeroValue5
 t9:=underlying9
 a9:=Tryz.isAgg9
 z9:=Tryz.sizeOf9
 v9:=Tryz.zeroValue9
 t28:=underlying35
 a28:=Tryz.isAgg35
 z28:=Tryz.sizeOf35
 v28:=Tryz.zeroValue35
 t46:=underlying136
 a46:=Tryz.isAgg136
 z46:=Tryz.sizeOf136
 v46:=Tryz.zeroValue136
 t51:=underlying186
 a51:=Tryz.isAgg186
 z51:=Tryz.sizeOf186
 v51:=Tryz.zeroValue186
 t53:=underlying188
 a53:=Tryz.isAgg188
 z53:=Tryz.sizeOf188
 v53:=Tryz.zeroValue188
 t131:=underlying115
 a131:=Tryz.isAgg115
 z131:=Tryz.sizeOf115
 v131:=Tryz.zeroValue115
 t182:=underlying179
 a182:=Tryz.isAgg179
 z182:=Tryz.sizeOf179
 v182:=Tryz.zeroValue179
 t183:=underlying180
 a183:=Tryz.isAgg180
 z183:=Tryz.sizeOf180
 v183:=Tryz.zeroValue180
 t218:=underlying207
 a218:=Tryz.isAgg207
 z218:=Tryz.sizeOf207
 v218:=Tryz.zeroValue207
 t222:=underlying211
 a222:=Tryz.isAgg211
 z222:=Tryz.sizeOf211
 v222:=Tryz.zeroValue211
 t228:=underlying219
 a228:=Tryz.isAgg219
 z228:=Tryz.sizeOf219
 v228:=Tryz.zeroValue219
 t229:=underlying220
 a229:=Tryz.isAgg220
 z229:=Tryz.sizeOf220
 v229:=Tryz.zeroValue220
def Ah (N:Nat) (a0:List Int) (r:List Int) (h:slices_Sort_int N a0=some r):(r).length=a0.length:=by
 unfold slices_Sort_int at h;split at h
 ·exact CH N a0 r h
 ·exact Om h
def JW (N:Nat) (a0:List Int) (r:List Int) (h:slices_Sort_int N a0=some r):mI prog 109 1 [sO 1 (a0.map (ay .i64))] (.tup []) [sO 1 (r.map (ay .i64))]:=by
 unfold slices_Sort_int at h;split at h
 ·exact wD N a0 r h
 ·rename_i hne;exact VV HZ rfl (enters_of func109 (by kernel_rfl) rfl) (fun e=>hne (by rw [e]; rfl)) h
@[go_sem] def vM (N:Nat):FnL:=⟨1,fun cs rest=>match cs,rest with
 | [v0],[]=>(Dx 1 (du (aG .i64)) v0).bind fun q0 =>  (slices_Sort_int N q0).map fun r=>(.tup [],[sO 1 (r.map (ay .i64))])
 | _,_=>none,false⟩
def F8 (N:Nat):wQ prog 109 (vM N):=by
 refine IX (aeG _) rfl ?_;intro cs rest r ls hlen h;simp only [vM] at h;split at h
 ·simp only [acG,acF] at h;obtain ⟨q0,h0,r',hr,he⟩:=h;cases he;exact mI.told rfl rfl (y6 (za (mA .i64) (jw .i64) h0) (BJ)) (LeL.nil) (JW N q0 r' hr)
 ·cases h
@[go_sem] def K1 (N d f:Nat):Option FnS:=aw [(45,108,fw N),(32,108,fw N)] d f
@[go_sem] def LA (N d f:Nat):Option FnL:=Bc [(50,109,vM N)] d f
def LF (N:Nat) (a0:ae) (a1:Int) (r:List Int) (h:oI N a0 a1=some r):Con prog 48 [] true [.agg (ae.row a0),vI a1] (sO 1 (r.map (ay .i64))):=by
 refine SX (G:=(K1 N)) (L:=(LA N)) func48 rfl (by decide) (by kernel_rfl) (gc 45 (fC N) (gc 32 (fC N) gn)) (lc 50 (F8 N) ln) [] mix (ac4 rfl) ?_;simp only [f48];unfold oI at h;refine z0 ?_;refine z0 ?_;refine aK (Xr (pp (aS (il (fun (b:List Int)=>⟨tab 52 (af (af au 2 (pF 2)) 5 (.pal 39 [] 0 b.length none)),(upd (upd RZ 2 (vA 3 (ae.row a0))) 39 (sO 1 (b.map (ay .i64))))⟩) [a1] h ?_ ?_))))
 ·refine aX.trans (Sb 5 12 39 (by decide) (by decide) (by simp only [go_sem,seval]) (by simp only [go_sem,seval]; rfl) (by simp only [go_sem,seval]; rfl) (by first|(simp; done)|simp only [go_sem,seval,adD,ac7,adu,adl])) ?_;refine wr ?_ ?_<;>repeat' first|rfl|constructor|simp only [go_sem,seval,adD,ac7,adu,adl]
 rintro n l1 h -;cases n with
 | zero=>simp [kA] at h
 | succ n=>
 simp only [kA] at h;refine z0 ?_;refine aS (gr fun hreal2=>?_);have hl1:=hreal2.lenT 14 (by decide) (by simp only [go_sem,seval]; rfl);first|rw [acL] at hl1|rw [eK] at hl1|rw [<-ac2,acL] at hl1
 refine pA (fun (v4:Nat) (b:Unit)=>⟨tab 52 (af (af (af (af (af au 2 (pF 2)) 5 (.pal 39 [] 0 l1.length none)) 14 (sF 3 (a0.Stacks.map aa.row))) 15 (vI (a0.Stacks.length:Int))) 16 (vI (v4:Int))),(upd (upd RZ 2 (vA 3 (ae.row a0))) 39 (sO 1 (l1.map (ay .i64))))⟩) () h ?_ ?_
 ·refine wr ?_ ?_<;>repeat' first|rfl|constructor|simp only [go_sem,seval,adD,ac7,adu,adl]
 rintro v4 ⟨⟩ hi3 h -;rcases (kq a0.Stacks v4 hi3).symm with ⟨hi3',_,hd6⟩|⟨x7,hi3',hx4,hd6⟩
 ·rw [hd6] at h;simp only [iY] at h;refine z1 hi3' ?_;refine cf ?_;refine fT (pp ?_);unfold wN at h;obtain ⟨r33,hr20,h⟩:=bI h;refine z1 (k2 hr20 (Ah N l1 r33 hr20)) ?_;refine z0 ?_;refine fb (pp ?_);obtain rfl:=adp h;simp only [go_sem,seval,ac3 (afX (Ah N l1 r33 hr20))];exact ⟨_,rfl,gT.h,qT.h⟩
 rw [hd6] at h;simp only [iY] at h;have hw5:=dX hi3' hl1;refine z1 hi3' ?_;refine ct ?_;refine z1 (k2 hx4 hi3') ?_;refine z0 ?_;refine z0 ?_;refine lT 21 (fun (v11:Nat) (b:Bool)=>⟨tab 52 (af (af (af (af (af (af (af (af (af au 2 (pF 2)) 5 (.pal 39 [] 0 l1.length none)) 8 (vB b)) 14 (sF 3 (a0.Stacks.map aa.row))) 15 (vI (a0.Stacks.length:Int))) 16 (vI (v4:Int))) 21 (sF 3 (x7.Layers.map al.row))) 22 (vI (x7.Layers.length:Int))) 23 (vI (v11:Int))),(upd (upd RZ 2 (vA 3 (ae.row a0))) 39 (sO 1 (l1.map (ay .i64))))⟩) false h ?_ ?_ (h0:=wF (k3 hx4 hi3' hw5))
 ·rintro v11 c10 hi9' h;simp only [fN] at h;refine z1 hi9' ?_;refine cf ?_;refine z1 hw5 ?_;first|refine ⟨(),?_,h⟩|refine ⟨hi3',(),?_,h⟩
  exact wF (k4 hx4 hi3' hw5 hi9')
 rintro v11 c10 x14 hi9' hx10 hw11 h;simp only [fN] at h;refine z1 hi9' ?_;refine ct ?_;refine z1 (k2 hx10 hi9') ?_;refine aK ?_;apply Dw (fun (c29:Bool) (c30:Bool)=>⟨tab 52 (af (af (af (af (af (af (af (af (af (af (af au 2 (pF 2)) 5 (.pal 39 [] 0 l1.length none)) 8 (vB c29)) 10 (pF 10)) 14 (sF 3 (a0.Stacks.map aa.row))) 15 (vI (a0.Stacks.length:Int))) 16 (vI (v4:Int))) 21 (sF 3 (x7.Layers.map al.row))) 22 (vI (x7.Layers.length:Int))) 23 (vI (v11:Int))) 34 (vB c30)),(upd (upd (upd RZ 2 (vA 3 (ae.row a0))) 10 (vA 3 (al.row x14))) 39 (sO 1 (l1.map (ay .i64))))⟩)
 ·intro hJ13;refine iB h (fun hc14 h=>?_) fun hc14 h=>?_
  ·obtain ⟨r31,hr15,h⟩:=bI h;refine z1 (k2 hc14 hr15) ?_;refine hJ13 _ true (!r31) ?_ h;exact wF (k5 hx4 hi3' hw5 hx10 (k4 hi9' hw11 hc14 hr15))
  refine z1 hc14 ?_;refine hJ13 _ false false ?_ h;exact wF (k5 hx4 hi3' hw5 hx10 (k3 hi9' hw11 hc14))
 intro c29 c30 h;unfold mL at h;refine cB h (fun hc16 h=>?_) fun hc16 h=>?_
 ·obtain ⟨ha17,h⟩:=dE h;simp only [acT,adh,adm,Nat.reduceAdd] at ha17;refine z1 (k2 hc16 ha17) ?_;refine fT (pp (⟨_,adk _,(l1++[x14.Txn_]),?_,h⟩));refine wr ?_ ?_<;>repeat' first|rfl|constructor|simp only [go_sem,seval]
 refine aW (pp ?_);unfold mQ at h;refine iB h (fun hc18 h=>?_) fun hc18 h=>?_
 ·refine z1 (k2 hc16 hc18) ?_;refine z1 hw11 ?_;first|refine ⟨true,?_,h⟩|refine ⟨hi9',true,?_,h⟩
  exact wF (k5 hx4 hi3' hw5 hx10 (k4 hi9' hw11 hc16 hc18))
 obtain ⟨r32,hr19,h⟩:=bI h;refine z1 (k3 hc16 hc18 hr19) ?_;refine z1 hw11 ?_;first|refine ⟨r32,?_,h⟩|refine ⟨hi9',r32,?_,h⟩
 exact wF (k5 hx4 hi3' hw5 hx10 (k5 hi9' hw11 hc16 hc18 hr19))
@[go_sem] def Cp (N:Nat):FnS:=⟨[],true,fn2 ae.decA (aG .i64) fun q0 q1=>(oI N q0 q1).map fun r=>sF 1 (r.map (ay .i64)),false⟩
def GQ (N:Nat):aA prog 48 (Cp N):=om2 fun q0 q1 r h=>rs (LF N q0 q1 r h)
@[go_sem] def NC (N d f:Nat):Option FnS:=aw [(7,108,fw N)] d f
def N3 (N:Nat) (a0:Txn) (c0_0:List Int) (r:Bool) (h:pt N a0 c0_0=some r):Con prog 111 [] true [.agg (Txn.row a0),.iref 1 [[sF 1 (c0_0.map (ay .i64))]] 0 0] (vB r):=by
 refine fk (G:=(NC N)) func111 (gc 7 (fC N) gn) ?_;simp only [f111];unfold pt at h;refine z0 ?_;obtain ⟨r1,hr1,h⟩:=bI h;refine z1 hr1 ?_;exact e0 h
@[go_sem] def u9 (N:Nat):FnS:={ own:=[],pure:=true,fn:=fun cs=>match cs with
 | [c0,.iref 1 [[c1_0]] 0 0]=>(Txn.decA c0).bind fun qc0=>((aJ 1 (du (aG .i64))) c1_0).bind fun qc1_0=>(pt N qc0 qc1_0).map fun r=>vB r
 | _=>none }
def BV (N:Nat):aA prog 111 (u9 N):=by
 refine ⟨fun cs r h=>?_,fun h=>by cases h⟩;simp only [u9] at h;split at h
 ·simp only [acG,acF] at h;obtain ⟨q0,h0,q1,h1,r',hr,rfl⟩:=h;exact (ag (N3 N q0 q1 r' hr))
 ·cases h
@[go_sem] def wh (N d f:Nat):Option FnS:=aw [(16,111,u9 N)] d f
def wi (N:Nat) (a0:List Txn) (k1_0_0:List Int) (r:Int) (h:fZ N a0 k1_0_0=some r):Con prog 71 [] true [sF 11 (a0.map Txn.row),.clo 111 [.iref 1 [[sF 1 (k1_0_0.map (ay .i64))]] 0 0]] (vI r):=by
 refine fk (G:=(wh N)) func71 (gc 16 (BV N) gn) ?_;simp only [f71];unfold fZ at h;refine z0 ?_;refine z0 ?_;refine lT 0 (fun (v2:Nat) (b:Unit)=>⟨tab 19 (af (af (af (af au 0 (sF 11 (a0.map Txn.row))) 1 (.clo 111 [.iref 1 [[sF 1 (k1_0_0.map (ay .i64))]] 0 0])) 7 (vI (a0.length:Int))) 8 (vI (v2:Int))),RZ⟩) () h ?_ ?_
 ·rintro v2 ⟨⟩ hi3' h;simp only [dL] at h;refine z1 hi3' ?_;refine cf ?_;refine z0 ?_;exact e0 h
 rintro v2 ⟨⟩ x5 hi3' hx4 hw5 h;simp only [dL] at h;refine z1 hi3' ?_;refine ct ?_;refine z0 ?_;obtain ⟨r1,hr7,h⟩:=bI h;refine z1 (k3 hx4 hi3' hr7) ?_;refine cB h (fun hc8 h=>?_) fun hc8 h=>?_
 ·refine z1 hc8 ?_;exact e0 h
 refine z1 (k2 hw5 hc8) ?_;first|refine ⟨(),?_,h⟩|refine ⟨hi3',(),?_,h⟩
 exact wR
@[go_sem] def iK (N:Nat):FnS:={ own:=[],pure:=true,fn:=fun cs=>match cs with
 | [c0,.clo 111 [.iref 1 [[k1_0_0]] 0 0]]=>((aJ 11 Txn.dec) c0).bind fun qc0=>((aJ 1 (du (aG .i64))) k1_0_0).bind fun qk1_0_0=>(fZ N qc0 qk1_0_0).map fun r=>vI r
 | _=>none }
def tQ (N:Nat):aA prog 71 (iK N):=by
 refine ⟨fun cs r h=>?_,fun h=>by cases h⟩;simp only [iK] at h;split at h
 ·simp only [acG,acF] at h;obtain ⟨q0,h0,q1,h1,r',hr,rfl⟩:=h;exact (ag (wi N q0 q1 r' hr))
 ·cases h
@[go_sem] def vx (N d f:Nat):Option FnS:=aw [(10,71,iK N),(28,111,u9 N)] d f
def vk (N:Nat) (a0:List Txn) (k1_0_0:List Int) (r:List Txn) (h:eb N a0 k1_0_0=some r):Con prog 110 [true,false] false [sO 11 (a0.map Txn.row),.clo 111 [.iref 1 [[sF 1 (k1_0_0.map (ay .i64))]] 0 0]] (sO 11 (r.map Txn.row)):=by
 refine AW (G:=(vx N)) (L:=noL) func110 rfl (by decide) (by kernel_rfl) (gc 10 (tQ N) (gc 28 (BV N) gn)) (fun _ _ _ h=>by cases h) [] mix (ac4 rfl) ?_;rw [show gp [true,false] [sO 11 (a0.map Txn.row),.clo 111 [.iref 1 [[sF 1 (k1_0_0.map (ay .i64))]] 0 0]]=(af (af au 0 (.pal 0 [] 0 a0.length none)) 1 (.clo 111 [.iref 1 [[sF 1 (k1_0_0.map (ay .i64))]] 0 0])) from by funext t; match t with|0=>simp [gp,ja,kd,af]|1=>rfl|t+2=>rfl];rw [show R0 [true,false] [sO 11 (a0.map Txn.row),.clo 111 [.iref 1 [[sF 1 (k1_0_0.map (ay .i64))]] 0 0]]=upd RZ 0 (sO 11 (a0.map Txn.row)) from by funext t; match t with|0=>rfl|1=>rfl|t+2=>rfl];simp only [f110];unfold eb at h;refine z0 ?_;obtain ⟨r1,hr1,h⟩:=bI h;refine z1 hr1 ?_;refine z0 ?_;refine od rfl (fun hc2=>?_) (fun hc2=>?_)
 ·have hc2d:=decide_eq_true hc2;first|rw [if_pos hc2] at h|rw [if_pos hc2d] at h|simp only [hc2d,ac5,ac9,acO,if_true,if_false] at h
  refine z1 hc2d ?_;refine fb (pp ?_);cases h;simp (config := { maxSteps := 4000000 }) only [go_sem,seval,dS];exact ⟨_,rfl,gT.h,qW.h⟩
 have hc2d:=decide_eq_false hc2;first|rw [if_neg hc2] at h|rw [if_neg (ne_true_of_eq_false hc2d)] at h|simp only [hc2d,ac5,ac9,acO,if_true,if_false] at h
 refine z1 hc2d ?_;refine aS (il (fun (b:List Txn × Int × Int)=>⟨tab 42 (af (af (af (af au 0 (.pal 0 [] 0 b.1.length none)) 1 (.clo 111 [.iref 1 [[sF 1 (k1_0_0.map (ay .i64))]] 0 0])) 5 (vI b.2.1)) 6 (vI b.2.2)),(upd RZ 0 (sO 11 (b.1.map Txn.row)))⟩) (a0,r1,IntKind.i64.wrap (r1+1)) h ?_ ?_)
 ·exact wF (k2 hr1 hc2d)
 rintro n ⟨l4,v5,v6⟩ h -;cases n with
 | zero=>simp [bq] at h
 | succ n=>
 simp only [bq] at h;refine z0 ?_;refine sw (od rfl) (fun hc3=>?_) (fun hc3=>?_)
 ·have hc3d:=decide_eq_false hc3;first|rw [if_neg hc3] at h|rw [if_neg (ne_true_of_eq_false hc3d)] at h|simp only [hc3d,ac5,ac9,acO,if_true,if_false] at h
  refine fT (pp ?_);unfold eQ at h;refine aK ?_;obtain ⟨hs12,h⟩:=jb h;try simp only [acX] at hs12 h
  refine ic fun Z hZ=>?_;simp (config := { maxSteps := 4000000 }) only [go_sem,seval,hc3d,hs12,adt,Ny (row:=Txn.row) (rz:=[vI 0,vI 0,vS (⟨#[]⟩),vI 0,.val (.slice none 0 0),vI 0,vI 0,vI 0,vS (⟨#[]⟩),.val (.slice none 0 0),.val (.slice none 0 0)]) (k:=(v5).toNat) (l:=l4) (by have:=hs12; omega),gh,yl,dB,aF.allD Txn.row_ok];refine hZ _ (pp (mi (vR (n:=0) ((tL (Txn.mk 0 0 (⟨#[]⟩) 0 [] 0 (Value.mk 0 0 (⟨#[]⟩) [] [])) (v5).toNat l4).map Txn.row) rfl (by simp only [go_sem,seval]; rfl) (by simp only [je,gZ,go_sem,seval]; rfl) (hle:=QW (by repeat' (first|exact Le.refl _|exact LeL.nil|exact Le.nils|refine LeL.cons ?_ ?_)))) ?_));refine aK ?_;obtain ⟨hs13,h⟩:=jb h;try simp only [aeA] at hs13 h
  refine ic fun Z hZ=>?_;simp (config := { maxSteps := 4000000 }) only [go_sem,seval,hs12,adn,tn,hs13];refine hZ _ (pp (fb (pp ?_)));cases h;simp (config := { maxSteps := 4000000 }) only [go_sem,seval,dS];exact ⟨_,rfl,gT.h,qW.h⟩
 have hc3d:=decide_eq_true hc3;first|rw [if_pos hc3] at h|rw [if_pos hc3d] at h|simp only [hc3d,ac5,ac9,acO,if_true,if_false] at h
 obtain ⟨x13,hb4,hx5,h⟩:=aI h;refine z1 (k2 hb4 hx5) ?_;obtain ⟨r14,hr6,h⟩:=bI h;refine z1 hr6 ?_;refine sw (qc rfl) (fun hc7=>?_) (fun hc7=>?_)
 ·first|rw [if_pos hc7] at h|simp only [hc7,ady,adA,ado,adK,adz,adL,ads,adB,ac5,ac9,acO,if_true,if_false] at h
  refine z1 hc7 ?_;refine ⟨_,adk _,(l4,v5,IntKind.i64.wrap (v6+1)),?_,h⟩;exact wF (k5 hr1 hc2d hc3d hb4 (k3 hx5 hr6 hc7))
 first|rw [if_neg (ne_true_of_eq_false hc7)] at h|simp only [hc7,ady,adA,ado,adK,adz,adL,ads,adB,ac5,ac9,acO,if_true,if_false] at h
 obtain ⟨x15,hb8,hx9,h⟩:=aI h;have hx11:=kz (y:=x13) hx9;refine z1 (k4 hc7 hb8 hx9 (mm2 (row:=Txn.row) (y:=x13) (rx:=[vI x15.ID,vI x15.Born,vS x15.Client,vI x15.Seq,sF 4 (x15.Calls.map ah.row),vI x15.Done,vI x15.Last.Kind,vI x15.Last.N,vS x15.Last.S,sF 1 (x15.Last.I.map (ay .i64)),sF 1 (x15.Last.L.map dT)]) (ry:=[vI x13.ID,vI x13.Born,vS x13.Client,vI x13.Seq,sF 4 (x13.Calls.map ah.row),vI x13.Done,vI x13.Last.Kind,vI x13.Last.N,vS x13.Last.S,sF 1 (x13.Last.I.map (ay .i64)),sF 1 (x13.Last.L.map dT)]) hx9 rfl rfl)) ?_;refine z0 ?_;refine z0 ?_;refine ⟨_,adk _,((l4.set ((v5).toNat) x13),IntKind.i64.wrap (v5+1),IntKind.i64.wrap (v6+1)),?_,h⟩;refine wr ?_ ?_<;>repeat' first|rfl|constructor|simp only [go_sem,seval,ac7]
def bp (N:Nat):FnS:={ own:=[true,false],pure:=false,fn:=fun cs=>match cs with
 | [c0,.clo 111 [.iref 1 [[k1_0_0]] 0 0]]=>((vO 11 Txn.dec) c0).bind fun q0=>((aJ 1 (du (aG .i64))) k1_0_0).bind fun q1=>(eb N q0 q1).map fun r=>sO 11 (r.map Txn.row)
 | _=>none }
theorem sv (N:Nat):(bp N).own=[true,false]:=rfl
theorem rM (N:Nat):(bp N).pure=false:=rfl
theorem rS (N:Nat):(bp N).peek=false:=rfl
attribute [go_sem] bp sv rM rS
def s5 (N:Nat):aA prog 110 (bp N):=by
 refine ⟨fun cs r h=>?_,fun h=>by cases h⟩;simp only [bp] at h;split at h
 ·simp only [acG,acF] at h;obtain ⟨q0,h0,q1,h1,r',hr,rfl⟩:=h;exact (vk N q0 q1 r' hr).argsO rfl (jy (qi Txn.row_ok Txn.dec_le h0) (re (Le.clo (LeL.cons (Le.iref1 (LeL.cons (iq (jw .i64) h1) (LeL.nil))) (LeL.nil))) (oa)))
 ·cases h
@[go_sem] def Nv (N d f:Nat):Option FnS:=aw [(7,108,fw N)] d f
def Nc (N:Nat) (a0:al) (c0_0:List Int) (r:Bool) (h:oZ N a0 c0_0=some r):Con prog 113 [] true [.agg (al.row a0),.iref 1 [[sF 1 (c0_0.map (ay .i64))]] 0 0] (vB r):=by
 refine fk (G:=(Nv N)) func113 (gc 7 (fC N) gn) ?_;simp only [f113];unfold oZ at h;refine z0 ?_;obtain ⟨r1,hr1,h⟩:=bI h;refine z1 hr1 ?_;exact e0 h
@[go_sem] def uU (N:Nat):FnS:={ own:=[],pure:=true,fn:=fun cs=>match cs with
 | [c0,.iref 1 [[c1_0]] 0 0]=>(al.decA c0).bind fun qc0=>((aJ 1 (du (aG .i64))) c1_0).bind fun qc1_0=>(oZ N qc0 qc1_0).map fun r=>vB r
 | _=>none }
def BU (N:Nat):aA prog 113 (uU N):=by
 refine ⟨fun cs r h=>?_,fun h=>by cases h⟩;simp only [uU] at h;split at h
 ·simp only [acG,acF] at h;obtain ⟨q0,h0,q1,h1,r',hr,rfl⟩:=h;exact (ag (Nc N q0 q1 r' hr))
 ·cases h
@[go_sem] def vb (N d f:Nat):Option FnS:=aw [(16,113,uU N)] d f
def vd (N:Nat) (a0:List al) (k1_0_0:List Int) (r:Int) (h:fB N a0 k1_0_0=some r):Con prog 186 [] true [sF 3 (a0.map al.row),.clo 113 [.iref 1 [[sF 1 (k1_0_0.map (ay .i64))]] 0 0]] (vI r):=by
 refine fk (G:=(vb N)) func186 (gc 16 (BU N) gn) ?_;simp only [f186];unfold fB at h;refine z0 ?_;refine z0 ?_;refine lT 0 (fun (v2:Nat) (b:Unit)=>⟨tab 19 (af (af (af (af au 0 (sF 3 (a0.map al.row))) 1 (.clo 113 [.iref 1 [[sF 1 (k1_0_0.map (ay .i64))]] 0 0])) 7 (vI (a0.length:Int))) 8 (vI (v2:Int))),RZ⟩) () h ?_ ?_
 ·rintro v2 ⟨⟩ hi3' h;simp only [dA] at h;refine z1 hi3' ?_;refine cf ?_;refine z0 ?_;exact e0 h
 rintro v2 ⟨⟩ x5 hi3' hx4 hw5 h;simp only [dA] at h;refine z1 hi3' ?_;refine ct ?_;refine z0 ?_;obtain ⟨r1,hr7,h⟩:=bI h;refine z1 (k3 hx4 hi3' hr7) ?_;refine cB h (fun hc8 h=>?_) fun hc8 h=>?_
 ·refine z1 hc8 ?_;exact e0 h
 refine z1 (k2 hw5 hc8) ?_;first|refine ⟨(),?_,h⟩|refine ⟨hi3',(),?_,h⟩
 exact wR
@[go_sem] def gR (N:Nat):FnS:={ own:=[],pure:=true,fn:=fun cs=>match cs with
 | [c0,.clo 113 [.iref 1 [[k1_0_0]] 0 0]]=>((aJ 3 al.dec) c0).bind fun qc0=>((aJ 1 (du (aG .i64))) k1_0_0).bind fun qk1_0_0=>(fB N qc0 qk1_0_0).map fun r=>vI r
 | _=>none }
def s7 (N:Nat):aA prog 186 (gR N):=by
 refine ⟨fun cs r h=>?_,fun h=>by cases h⟩;simp only [gR] at h;split at h
 ·simp only [acG,acF] at h;obtain ⟨q0,h0,q1,h1,r',hr,rfl⟩:=h;exact (ag (vd N q0 q1 r' hr))
 ·cases h
@[go_sem] def uT (N d f:Nat):Option FnS:=aw [(10,186,gR N),(28,113,uU N)] d f
def uO (N:Nat) (a0:List al) (k1_0_0:List Int) (r:List al) (h:dM N a0 k1_0_0=some r):Con prog 112 [true,false] false [sO 3 (a0.map al.row),.clo 113 [.iref 1 [[sF 1 (k1_0_0.map (ay .i64))]] 0 0]] (sO 3 (r.map al.row)):=by
 refine AW (G:=(uT N)) (L:=noL) func112 rfl (by decide) (by kernel_rfl) (gc 10 (s7 N) (gc 28 (BU N) gn)) (fun _ _ _ h=>by cases h) [] mix (ac4 rfl) ?_;rw [show gp [true,false] [sO 3 (a0.map al.row),.clo 113 [.iref 1 [[sF 1 (k1_0_0.map (ay .i64))]] 0 0]]=(af (af au 0 (.pal 0 [] 0 a0.length none)) 1 (.clo 113 [.iref 1 [[sF 1 (k1_0_0.map (ay .i64))]] 0 0])) from by funext t; match t with|0=>simp [gp,ja,kd,af]|1=>rfl|t+2=>rfl];rw [show R0 [true,false] [sO 3 (a0.map al.row),.clo 113 [.iref 1 [[sF 1 (k1_0_0.map (ay .i64))]] 0 0]]=upd RZ 0 (sO 3 (a0.map al.row)) from by funext t; match t with|0=>rfl|1=>rfl|t+2=>rfl];simp only [f112];unfold dM at h;refine z0 ?_;obtain ⟨r1,hr1,h⟩:=bI h;refine z1 hr1 ?_;refine z0 ?_;refine od rfl (fun hc2=>?_) (fun hc2=>?_)
 ·have hc2d:=decide_eq_true hc2;first|rw [if_pos hc2] at h|rw [if_pos hc2d] at h|simp only [hc2d,ac5,ac9,acO,if_true,if_false] at h
  refine z1 hc2d ?_;refine fb (pp ?_);cases h;simp (config := { maxSteps := 4000000 }) only [go_sem,seval,dS];exact ⟨_,rfl,gT.h,qW.h⟩
 have hc2d:=decide_eq_false hc2;first|rw [if_neg hc2] at h|rw [if_neg (ne_true_of_eq_false hc2d)] at h|simp only [hc2d,ac5,ac9,acO,if_true,if_false] at h
 refine z1 hc2d ?_;refine aS (il (fun (b:List al × Int × Int)=>⟨tab 42 (af (af (af (af au 0 (.pal 0 [] 0 b.1.length none)) 1 (.clo 113 [.iref 1 [[sF 1 (k1_0_0.map (ay .i64))]] 0 0])) 5 (vI b.2.1)) 6 (vI b.2.2)),(upd RZ 0 (sO 3 (b.1.map al.row)))⟩) (a0,r1,IntKind.i64.wrap (r1+1)) h ?_ ?_)
 ·exact wF (k2 hr1 hc2d)
 rintro n ⟨l4,v5,v6⟩ h -;cases n with
 | zero=>simp [bk] at h
 | succ n=>
 simp only [bk] at h;refine z0 ?_;refine sw (od rfl) (fun hc3=>?_) (fun hc3=>?_)
 ·have hc3d:=decide_eq_false hc3;first|rw [if_neg hc3] at h|rw [if_neg (ne_true_of_eq_false hc3d)] at h|simp only [hc3d,ac5,ac9,acO,if_true,if_false] at h
  refine fT (pp ?_);unfold eD at h;refine aK ?_;obtain ⟨hs12,h⟩:=jb h;try simp only [acX] at hs12 h
  refine ic fun Z hZ=>?_;simp (config := { maxSteps := 4000000 }) only [go_sem,seval,hc3d,hs12,adt,Ny (row:=al.row) (rz:=[vI 0,.val (.slice none 0 0),vB false]) (k:=(v5).toNat) (l:=l4) (by have:=hs12; omega),gh,yl,dB,aF.allD al.row_ok];refine hZ _ (pp (mi (vR (n:=0) ((tL (al.mk 0 [] false) (v5).toNat l4).map al.row) rfl (by simp only [go_sem,seval]; rfl) (by simp only [je,gZ,go_sem,seval]; rfl) (hle:=QW (by repeat' (first|exact Le.refl _|exact LeL.nil|exact Le.nils|refine LeL.cons ?_ ?_)))) ?_));refine aK ?_;obtain ⟨hs13,h⟩:=jb h;try simp only [aeA] at hs13 h
  refine ic fun Z hZ=>?_;simp (config := { maxSteps := 4000000 }) only [go_sem,seval,hs12,adn,tn,hs13];refine hZ _ (pp (fb (pp ?_)));cases h;simp (config := { maxSteps := 4000000 }) only [go_sem,seval,dS];exact ⟨_,rfl,gT.h,qW.h⟩
 have hc3d:=decide_eq_true hc3;first|rw [if_pos hc3] at h|rw [if_pos hc3d] at h|simp only [hc3d,ac5,ac9,acO,if_true,if_false] at h
 obtain ⟨x13,hb4,hx5,h⟩:=aI h;refine z1 (k2 hb4 hx5) ?_;obtain ⟨r14,hr6,h⟩:=bI h;refine z1 hr6 ?_;refine sw (qc rfl) (fun hc7=>?_) (fun hc7=>?_)
 ·first|rw [if_pos hc7] at h|simp only [hc7,ady,adA,ado,adK,adz,adL,ads,adB,ac5,ac9,acO,if_true,if_false] at h
  refine z1 hc7 ?_;refine ⟨_,adk _,(l4,v5,IntKind.i64.wrap (v6+1)),?_,h⟩;exact wF (k5 hr1 hc2d hc3d hb4 (k3 hx5 hr6 hc7))
 first|rw [if_neg (ne_true_of_eq_false hc7)] at h|simp only [hc7,ady,adA,ado,adK,adz,adL,ads,adB,ac5,ac9,acO,if_true,if_false] at h
 obtain ⟨x15,hb8,hx9,h⟩:=aI h;have hx11:=kz (y:=x13) hx9;refine z1 (k4 hc7 hb8 hx9 (mm2 (row:=al.row) (y:=x13) (rx:=[vI x15.Txn_,sF 5 (x15.Fields.map Value.row),vB x15.Prepared]) (ry:=[vI x13.Txn_,sF 5 (x13.Fields.map Value.row),vB x13.Prepared]) hx9 rfl rfl)) ?_;refine z0 ?_;refine z0 ?_;refine ⟨_,adk _,((l4.set ((v5).toNat) x13),IntKind.i64.wrap (v5+1),IntKind.i64.wrap (v6+1)),?_,h⟩;refine wr ?_ ?_<;>repeat' first|rfl|constructor|simp only [go_sem,seval,ac7]
def bh (N:Nat):FnS:={ own:=[true,false],pure:=false,fn:=fun cs=>match cs with
 | [c0,.clo 113 [.iref 1 [[k1_0_0]] 0 0]]=>((vO 3 al.dec) c0).bind fun q0=>((aJ 1 (du (aG .i64))) k1_0_0).bind fun q1=>(dM N q0 q1).map fun r=>sO 3 (r.map al.row)
 | _=>none }
theorem rE (N:Nat):(bh N).own=[true,false]:=rfl
theorem qH (N:Nat):(bh N).pure=false:=rfl
theorem qF (N:Nat):(bh N).peek=false:=rfl
attribute [go_sem] bh rE qH qF
def rT (N:Nat):aA prog 112 (bh N):=by
 refine ⟨fun cs r h=>?_,fun h=>by cases h⟩;simp only [bh] at h;split at h
 ·simp only [acG,acF] at h;obtain ⟨q0,h0,q1,h1,r',hr,rfl⟩:=h;exact (uO N q0 q1 r' hr).argsO rfl (jy (qi al.row_ok al.dec_le h0) (re (Le.clo (LeL.cons (Le.iref1 (LeL.cons (iq (jw .i64) h1) (LeL.nil))) (LeL.nil))) (oa)))
 ·cases h
def NI (N:Nat) (a0:aa) (r:Bool) (h:oM N a0=some r):Con prog 115 [] true [.agg (aa.row a0)] (vB r):=by
 refine fk (G:=(aw [])) func115 gn ?_;simp only [f115];unfold oM at h;refine z0 ?_;refine z0 ?_;exact e0 h
@[go_sem] def zq (N:Nat):FnS:=⟨[],true,fn1 aa.decA fun q0=>(oM N q0).map fun r=>vB r,false⟩
def BT (N:Nat):aA prog 115 (zq N):=om1 (NI N)
@[go_sem] def sR (N d f:Nat):Option FnS:=aw [(16,115,zq N)] d f
def sQ (N:Nat) (a0:List aa) (r:Int) (h:ej N a0=some r):Con prog 105 [] true [sF 3 (a0.map aa.row),.clo 115 []] (vI r):=by
 refine fk (G:=(sR N)) func105 (gc 16 (BT N) gn) ?_;simp only [f105];unfold ej at h;refine z0 ?_;refine z0 ?_;refine lT 0 (fun (v2:Nat) (b:Unit)=>⟨tab 19 (af (af (af (af au 0 (sF 3 (a0.map aa.row))) 1 (.clo 115 [])) 7 (vI (a0.length:Int))) 8 (vI (v2:Int))),RZ⟩) () h ?_ ?_
 ·rintro v2 ⟨⟩ hi3' h;simp only [bP] at h;refine z1 hi3' ?_;refine cf ?_;refine z0 ?_;exact e0 h
 rintro v2 ⟨⟩ x5 hi3' hx4 hw5 h;simp only [bP] at h;refine z1 hi3' ?_;refine ct ?_;refine z0 ?_;obtain ⟨r1,hr7,h⟩:=bI h;refine z1 (k3 hx4 hi3' hr7) ?_;refine cB h (fun hc8 h=>?_) fun hc8 h=>?_
 ·refine z1 hc8 ?_;exact e0 h
 refine z1 (k2 hw5 hc8) ?_;first|refine ⟨(),?_,h⟩|refine ⟨hi3',(),?_,h⟩
 exact wR
@[go_sem] def fH (N:Nat):FnS:={ own:=[],pure:=true,fn:=fun cs=>match cs with
 | [c0,.clo 115 []]=>((aJ 3 aa.dec) c0).bind fun qc0=>(ej N qc0).map fun r=>vI r
 | _=>none }
def pZ (N:Nat):aA prog 105 (fH N):=by
 refine ⟨fun cs r h=>?_,fun h=>by cases h⟩;simp only [fH] at h;split at h
 ·simp only [acG,acF] at h;obtain ⟨q0,h0,r',hr,rfl⟩:=h;exact (ag (sQ N q0 r' hr))
 ·cases h
@[go_sem] def rN (N d f:Nat):Option FnS:=aw [(10,105,fH N),(28,115,zq N)] d f
def rG (N:Nat) (a0:List aa) (r:List aa) (h:b9 N a0=some r):Con prog 114 [true,false] false [sO 3 (a0.map aa.row),.clo 115 []] (sO 3 (r.map aa.row)):=by
 refine AW (G:=(rN N)) (L:=noL) func114 rfl (by decide) (by kernel_rfl) (gc 10 (pZ N) (gc 28 (BT N) gn)) (fun _ _ _ h=>by cases h) [] mix (ac4 rfl) ?_;rw [show gp [true,false] [sO 3 (a0.map aa.row),.clo 115 []]=(af (af au 0 (.pal 0 [] 0 a0.length none)) 1 (.clo 115 [])) from by funext t; match t with|0=>simp [gp,ja,kd,af]|1=>rfl|t+2=>rfl];rw [show R0 [true,false] [sO 3 (a0.map aa.row),.clo 115 []]=upd RZ 0 (sO 3 (a0.map aa.row)) from by funext t; match t with|0=>rfl|1=>rfl|t+2=>rfl];simp only [f114];unfold b9 at h;refine z0 ?_;obtain ⟨r1,hr1,h⟩:=bI h;refine z1 hr1 ?_;refine z0 ?_;refine od rfl (fun hc2=>?_) (fun hc2=>?_)
 ·have hc2d:=decide_eq_true hc2;first|rw [if_pos hc2] at h|rw [if_pos hc2d] at h|simp only [hc2d,ac5,ac9,acO,if_true,if_false] at h
  refine z1 hc2d ?_;refine fb (pp ?_);cases h;simp (config := { maxSteps := 4000000 }) only [go_sem,seval,dS];exact ⟨_,rfl,gT.h,qW.h⟩
 have hc2d:=decide_eq_false hc2;first|rw [if_neg hc2] at h|rw [if_neg (ne_true_of_eq_false hc2d)] at h|simp only [hc2d,ac5,ac9,acO,if_true,if_false] at h
 refine z1 hc2d ?_;refine aS (il (fun (b:List aa × Int × Int)=>⟨tab 42 (af (af (af (af au 0 (.pal 0 [] 0 b.1.length none)) 1 (.clo 115 [])) 5 (vI b.2.1)) 6 (vI b.2.2)),(upd RZ 0 (sO 3 (b.1.map aa.row)))⟩) (a0,r1,IntKind.i64.wrap (r1+1)) h ?_ ?_)
 ·exact wF (k2 hr1 hc2d)
 rintro n ⟨l4,v5,v6⟩ h -;cases n with
 | zero=>simp [aV] at h
 | succ n=>
 simp only [aV] at h;refine z0 ?_;refine sw (od rfl) (fun hc3=>?_) (fun hc3=>?_)
 ·have hc3d:=decide_eq_false hc3;first|rw [if_neg hc3] at h|rw [if_neg (ne_true_of_eq_false hc3d)] at h|simp only [hc3d,ac5,ac9,acO,if_true,if_false] at h
  refine fT (pp ?_);unfold dK at h;refine aK ?_;obtain ⟨hs12,h⟩:=jb h;try simp only [acX] at hs12 h
  refine ic fun Z hZ=>?_;simp (config := { maxSteps := 4000000 }) only [go_sem,seval,hc3d,hs12,adt,Ny (row:=aa.row) (rz:=[vS (⟨#[]⟩),vS (⟨#[]⟩),.val (.slice none 0 0)]) (k:=(v5).toNat) (l:=l4) (by have:=hs12; omega),gh,yl,dB,aF.allD aa.row_ok];refine hZ _ (pp (mi (vR (n:=0) ((tL (aa.mk (Ref.mk (⟨#[]⟩) (⟨#[]⟩)) []) (v5).toNat l4).map aa.row) rfl (by simp only [go_sem,seval]; rfl) (by simp only [je,gZ,go_sem,seval]; rfl) (hle:=QW (by repeat' (first|exact Le.refl _|exact LeL.nil|exact Le.nils|refine LeL.cons ?_ ?_)))) ?_));refine aK ?_;obtain ⟨hs13,h⟩:=jb h;try simp only [aeA] at hs13 h
  refine ic fun Z hZ=>?_;simp (config := { maxSteps := 4000000 }) only [go_sem,seval,hs12,adn,tn,hs13];refine hZ _ (pp (fb (pp ?_)));cases h;simp (config := { maxSteps := 4000000 }) only [go_sem,seval,dS];exact ⟨_,rfl,gT.h,qW.h⟩
 have hc3d:=decide_eq_true hc3;first|rw [if_pos hc3] at h|rw [if_pos hc3d] at h|simp only [hc3d,ac5,ac9,acO,if_true,if_false] at h
 obtain ⟨x13,hb4,hx5,h⟩:=aI h;refine z1 (k2 hb4 hx5) ?_;obtain ⟨r14,hr6,h⟩:=bI h;refine z1 hr6 ?_;refine sw (qc rfl) (fun hc7=>?_) (fun hc7=>?_)
 ·first|rw [if_pos hc7] at h|simp only [hc7,ady,adA,ado,adK,adz,adL,ads,adB,ac5,ac9,acO,if_true,if_false] at h
  refine z1 hc7 ?_;refine ⟨_,adk _,(l4,v5,IntKind.i64.wrap (v6+1)),?_,h⟩;exact wF (k5 hr1 hc2d hc3d hb4 (k3 hx5 hr6 hc7))
 first|rw [if_neg (ne_true_of_eq_false hc7)] at h|simp only [hc7,ady,adA,ado,adK,adz,adL,ads,adB,ac5,ac9,acO,if_true,if_false] at h
 obtain ⟨x15,hb8,hx9,h⟩:=aI h;have hx11:=kz (y:=x13) hx9;refine z1 (k4 hc7 hb8 hx9 (mm2 (row:=aa.row) (y:=x13) (rx:=[vS x15.Actor.Type_,vS x15.Actor.Key,sF 3 (x15.Layers.map al.row)]) (ry:=[vS x13.Actor.Type_,vS x13.Actor.Key,sF 3 (x13.Layers.map al.row)]) hx9 rfl rfl)) ?_;refine z0 ?_;refine z0 ?_;refine ⟨_,adk _,((l4.set ((v5).toNat) x13),IntKind.i64.wrap (v5+1),IntKind.i64.wrap (v6+1)),?_,h⟩;refine wr ?_ ?_<;>repeat' first|rfl|constructor|simp only [go_sem,seval,ac7]
def aU (N:Nat):FnS:={ own:=[true,false],pure:=false,fn:=fun cs=>match cs with
 | [c0,.clo 115 []]=>((vO 3 aa.dec) c0).bind fun q0=>(b9 N q0).map fun r=>sO 3 (r.map aa.row)
 | _=>none }
theorem ov (N:Nat):(aU N).own=[true,false]:=rfl
theorem mR (N:Nat):(aU N).pure=false:=rfl
theorem mV (N:Nat):(aU N).peek=false:=rfl
attribute [go_sem] aU ov mR mV
def ph (N:Nat):aA prog 114 (aU N):=by
 refine ⟨fun cs r h=>?_,fun h=>by cases h⟩;simp only [aU] at h;split at h
 ·simp only [acG,acF] at h;obtain ⟨q0,h0,r',hr,rfl⟩:=h;exact (rG N q0 r' hr).argsO rfl (jy (qi aa.row_ok aa.dec_le h0) (re (Le.clo (LeL.nil)) (oa)))
 ·cases h
@[go_sem] def RA (N d f:Nat):Option FnS:=aw [(8,59,qf N),(12,110,bp N),(30,112,bh N),(36,114,aU N)] d f
def Qq (N:Nat) (a0:ae) (a1:List Int) (r:ae) (h:tw N a0 a1=some r):Con prog 49 [] false [.agg (ae.row a0),sF 1 (a1.map (ay .i64))] (.agg [sO 11 (r.Txns.map Txn.row),sO 4 (r.Locks.map ai.row),sF 3 (r.Stacks.map aa.row)]):=by
 refine fk (G:=(RA N)) func49 (gc 8 (oR N) (gc 12 (s5 N) (gc 30 (rT N) (gc 36 (ph N) gn)))) ?_;simp only [f49];unfold tw at h;refine z0 ?_;obtain ⟨r1,hr1,h⟩:=bI h;refine z1 hr1 ?_;refine aK (mi (Wv (n:=3) (by simp only [go_sem,seval]; rfl) rfl (by simp only [je,gZ,Oq,MV,go_sem,seval]; rfl)) ?_);obtain ⟨r2,hr2,h⟩:=bI h;refine z1 hr2 ?_;refine z0 ?_;refine aS (gr fun hreal4=>?_);have hl3:=hreal4.cell 5 2 (by simp only [go_sem,seval]; rfl) rfl;first|rw [acL] at hl3|rw [eK] at hl3|rw [<-ac2,acL] at hl3
 refine oY (fun (v5:Nat) (b:List aa)=>⟨tab 39 (af (af (af (af (af au 3 (.iref 1 [[sF 1 (a1.map (ay .i64))]] 0 0)) 4 (pF 4)) 5 (pF 5)) 16 (vI (r1.Stacks.length:Int))) 17 (vI (v5:Int))),(upd (upd RZ 4 (vA 3 [.val (.slice none 0 0),.val (.slice none 0 0),.val (.slice none 0 0)])) 5 (vA 3 [sO 11 (r2.map Txn.row),sO 4 (r1.Locks.map ai.row),sO 3 (b.map aa.rowD)]))⟩) r1.Stacks h ?_ ?_
 ·exact wF (k2 hr1 hr2)
 rintro v5 l4 _ h -;rcases (jq r1.Stacks.length v5).symm with ⟨hi5',hd8⟩|⟨hi5',hd8⟩
 ·rw [hd8] at h;simp only [mH] at h;refine z1 hi5' ?_;refine cf ?_;refine fT (pp ?_);unfold yy at h;refine aK (mi (Sv aa.rowD aa.row 5 [(0,2)] l4 (by simp only [go_sem,seval]; rfl) (by simp only [je,gZ,go_sem,seval]; rfl) (by simp only [go_sem,seval]; rfl)) ?_);obtain ⟨r13,hr12,h⟩:=bI h;refine z1 hr12 ?_;refine z0 ?_;refine fb (pp ?_);cases h;simp (config := { maxSteps := 4000000 }) only [go_sem,seval];exact ⟨_,rfl,(by repeat' (first|exact ROk.refl _|exact ROk.nil _|((refine ROk.of _ ?_ ?_); (focus ((repeat' (first|exact Le.refl _|exact LeL.nil|exact Le.nils|exact dw.refl _|refine dw.mapAppend ?_ ?_|refine dw.cons ?_ ?_|refine Le.sl ?_|refine Le.tup ?_|refine Le.agg ?_|refine LeL.cons ?_ ?_)); done)); (focus ((repeat' (first|exact bV.val _|exact bV.sl _ _ _ _|refine bV.tup ?_|refine bV.agg ?_|exact D5|refine CR ?_ ?_)); done)))|((refine ROk.own ?_ ?_); (focus ((repeat' (first|exact Le.refl _|exact LeL.nil|exact Le.nils|exact dw.refl _|refine dw.mapAppend ?_ ?_|refine dw.cons ?_ ?_|refine Le.sl ?_|refine Le.tup ?_|refine Le.agg ?_|refine LeL.cons ?_ ?_)); done)); (focus ((first|exact aF.noOwn (mA .i64) _|exact aF.noOwn ah.row_ok _|exact aF.noOwn al.row_ok _|exact aF.noOwn aa.row_ok _|exact aF.noOwn ai.row_ok _|exact aF.noOwn Txn.row_ok _|exact aF.noOwn Value.row_ok _|exact aF.noOwn FP _); done)))|refine ROk.agg rfl ?_|refine ROk.tup rfl ?_|exact Nf|refine Lh ?_ ?_))⟩
 rw [hd8] at h;simp only [mH] at h;have hw7:=dX hi5' hl3;refine z1 hi5' ?_;refine ct ?_;refine z0 ?_;obtain ⟨x11,hb9,hx10,h⟩:=aI h;try simp only [acX] at hx10
 try simp only [aey,adZ,true_and] at hb9
 refine LV [0,1,2,3,4,5,6,7,8,9] [10] [] [11,12,13] [5] (by kernel_rfl) fun Z hZ Y hY=>?_;simp (config := { maxSteps := 4000000 }) only [go_sem,seval,hb9,hx10];refine hY _ (by kernel_rfl) (KJ (by simp only [go_sem,seval,DH,Option.isNone,adz]; try rfl) fun Y hY=>?_);obtain ⟨r12,hr11,h⟩:=bI h;simp (config := { maxSteps := 4000000 }) only [go_sem,seval,hx10,Fk (row:=aa.rowD) (rx:=[vS x11.Actor.Type_,vS x11.Actor.Key,sO 3 (x11.Layers.map al.row)]) hx10 rfl rfl,hr11];refine hY _ (by kernel_rfl) (Yq ?_);simp (config := { maxSteps := 4000000 }) only [go_sem,seval,hb9,yO (row:=aa.rowD) _ hx10,yF (row:=aa.rowD) hx10 rfl];refine hZ _ (z1 hw7 ?_);first|refine ⟨(l4.set v5 (aa.mk x11.Actor r12)),?_,h⟩|refine ⟨hi5',(l4.set v5 (aa.mk x11.Actor r12)),?_,h⟩
 refine aX.trans (y4 (n:=5) (c':=vA 3 [sO 11 (r2.map Txn.row),sO 4 (r1.Locks.map ai.row),sO 3 ((l4.set v5 (aa.mk x11.Actor r12)).map aa.rowD)]) (by simp only [go_sem,seval]; rfl) (by first|(simp only [oA (row:=aa.rowD) (l:=l4) (i:=v5) (y:=(aa.mk x11.Actor r12)) (rc:=[vS x11.Actor.Type_,vS x11.Actor.Key,sO 3 (r12.map al.row)]) rfl]; done)|(simp only [oA (row:=aa.rowD) (l:=l4) (i:=v5) (y:=(aa.mk x11.Actor r12)) (rc:=[vS x11.Actor.Type_,vS x11.Actor.Key,sO 3 (r12.map al.row)]) rfl,ac2,adP,aeD]<;>rfl)|(rw [<-oA (row:=aa.rowD) (l:=l4) (i:=v5) (y:=(aa.mk x11.Actor r12)) (rc:=[vS x11.Actor.Type_,vS x11.Actor.Key,sO 3 (r12.map al.row)]) rfl]; simp only [ac2,adP,aeD]<;>rfl))) ?_
 exact wF (k5 hr1 hr2 hi5' hw7 (k5 hb9 hx10 (ov1 (row:=aa.rowD) (rx:=[vS x11.Actor.Type_,vS x11.Actor.Key,sO 3 (x11.Layers.map al.row)]) hx10 rfl) (ov2 (row:=aa.rowD) hx10) (k2 (ov3 (row:=aa.rowD) hx10) hr11)))
@[go_sem] def B6 (N:Nat):FnS:=⟨[],false,fn2 ae.decA (aJ 1 (du (aG .i64))) fun q0 q1=>(tw N q0 q1).map fun r=>.agg (ae.row r),false⟩
def Du (N:Nat):aA prog 49 (B6 N):=ok2 (fun q0 q1 r h=>by
 obtain ⟨r',hr,rfl⟩:=acF.1 h;exact (Qq N q0 q1 r' hr).res (by first|((try simp only [go_sem]); exact gT.h)|(repeat' (first|exact ROk.refl _|exact ROk.nil _|((refine ROk.of _ ?_ ?_); (focus ((repeat' (first|exact Le.refl _|exact LeL.nil|exact Le.nils|exact dw.refl _|refine dw.mapAppend ?_ ?_|refine dw.cons ?_ ?_|refine Le.sl ?_|refine Le.tup ?_|refine Le.agg ?_|refine LeL.cons ?_ ?_)); done)); (focus ((repeat' (first|exact bV.val _|exact bV.sl _ _ _ _|refine bV.tup ?_|refine bV.agg ?_|exact D5|refine CR ?_ ?_)); done)))|((refine ROk.own ?_ ?_); (focus ((repeat' (first|exact Le.refl _|exact LeL.nil|exact Le.nils|exact dw.refl _|refine dw.mapAppend ?_ ?_|refine dw.cons ?_ ?_|refine Le.sl ?_|refine Le.tup ?_|refine Le.agg ?_|refine LeL.cons ?_ ?_)); done)); (focus ((first|exact aF.noOwn (mA .i64) _|exact aF.noOwn ah.row_ok _|exact aF.noOwn al.row_ok _|exact aF.noOwn aa.row_ok _|exact aF.noOwn ai.row_ok _|exact aF.noOwn Txn.row_ok _|exact aF.noOwn Value.row_ok _|exact aF.noOwn FP _); done)))|refine ROk.agg rfl ?_|refine ROk.tup rfl ?_|exact Nf|refine Lh ?_ ?_)))) (ae.decA_le) (fun h=>iq (jw .i64) h)
def Jh (N:Nat) (a0:Int) (c0_0:Int) (r:Bool) (h:ll N a0 c0_0=some r):Con prog 119 [] true [vI a0,.iref 1 [[vI c0_0]] 0 0] (vB r):=by
 refine fk (G:=(aw [])) func119 gn ?_;simp only [f119];unfold ll at h;refine z0 ?_;refine z0 ?_;exact e0 h
@[go_sem] def pH (N:Nat):FnS:={ own:=[],pure:=true,fn:=fun cs=>match cs with
 | [c0,.iref 1 [[c1_0]] 0 0]=>((aG .i64) c0).bind fun qc0=>((aG .i64) c1_0).bind fun qc1_0=>(ll N qc0 qc1_0).map fun r=>vB r
 | _=>none }
def w6 (N:Nat):aA prog 119 (pH N):=by
 refine ⟨fun cs r h=>?_,fun h=>by cases h⟩;simp only [pH] at h;split at h
 ·simp only [acG,acF] at h;obtain ⟨q0,h0,q1,h1,r',hr,rfl⟩:=h;exact (ag (Jh N q0 q1 r' hr))
 ·cases h
@[go_sem] def tV (N d f:Nat):Option FnS:=aw [(16,119,pH N)] d f
def tP (N:Nat) (a0:List Int) (k1_0_0:Int) (r:Int) (h:dJ N a0 k1_0_0=some r):Con prog 189 [] true [sF 1 (a0.map (ay .i64)),.clo 119 [.iref 1 [[vI k1_0_0]] 0 0]] (vI r):=by
 refine fk (G:=(tV N)) func189 (gc 16 (w6 N) gn) ?_;simp only [f189];unfold dJ at h;refine z0 ?_;refine z0 ?_;refine lT 0 (fun (v2:Nat) (b:Unit)=>⟨tab 19 (af (af (af (af au 0 (sF 1 (a0.map (ay .i64)))) 1 (.clo 119 [.iref 1 [[vI k1_0_0]] 0 0])) 7 (vI (a0.length:Int))) 8 (vI (v2:Int))),RZ⟩) () h ?_ ?_
 ·rintro v2 ⟨⟩ hi3' h;simp only [bj] at h;refine z1 hi3' ?_;refine cf ?_;refine z0 ?_;exact e0 h
 rintro v2 ⟨⟩ x5 hi3' hx4 hw5 h;simp only [bj] at h;refine z1 hi3' ?_;refine ct ?_;refine z0 ?_;obtain ⟨r1,hr7,h⟩:=bI h;refine z1 (k3 hx4 hi3' hr7) ?_;refine cB h (fun hc8 h=>?_) fun hc8 h=>?_
 ·refine z1 hc8 ?_;exact e0 h
 refine z1 (k2 hw5 hc8) ?_;first|refine ⟨(),?_,h⟩|refine ⟨hi3',(),?_,h⟩
 exact wR
@[go_sem] def gC (N:Nat):FnS:={ own:=[],pure:=true,fn:=fun cs=>match cs with
 | [c0,.clo 119 [.iref 1 [[k1_0_0]] 0 0]]=>((aJ 1 (du (aG .i64))) c0).bind fun qc0=>((aG .i64) k1_0_0).bind fun qk1_0_0=>(dJ N qc0 qk1_0_0).map fun r=>vI r
 | _=>none }
def rH (N:Nat):aA prog 189 (gC N):=by
 refine ⟨fun cs r h=>?_,fun h=>by cases h⟩;simp only [gC] at h;split at h
 ·simp only [acG,acF] at h;obtain ⟨q0,h0,q1,h1,r',hr,rfl⟩:=h;exact (ag (tP N q0 q1 r' hr))
 ·cases h
@[go_sem] def tG (N d f:Nat):Option FnS:=aw [(10,189,gC N),(28,119,pH N)] d f
def tJ (N:Nat) (a0:List Int) (k1_0_0:Int) (r:List Int) (h:bA N a0 k1_0_0=some r):Con prog 118 [true,false] true [sO 1 (a0.map (ay .i64)),.clo 119 [.iref 1 [[vI k1_0_0]] 0 0]] (sO 1 (r.map (ay .i64))):=by
 refine AW (G:=(tG N)) (L:=noL) func118 rfl (by decide) (by kernel_rfl) (gc 10 (rH N) (gc 28 (w6 N) gn)) (fun _ _ _ h=>by cases h) [] mix (ac4 rfl) ?_;rw [show gp [true,false] [sO 1 (a0.map (ay .i64)),.clo 119 [.iref 1 [[vI k1_0_0]] 0 0]]=(af (af au 0 (.pal 0 [] 0 a0.length none)) 1 (.clo 119 [.iref 1 [[vI k1_0_0]] 0 0])) from by funext t; match t with|0=>simp [gp,ja,kd,af]|1=>rfl|t+2=>rfl];rw [show R0 [true,false] [sO 1 (a0.map (ay .i64)),.clo 119 [.iref 1 [[vI k1_0_0]] 0 0]]=upd RZ 0 (sO 1 (a0.map (ay .i64))) from by funext t; match t with|0=>rfl|1=>rfl|t+2=>rfl];simp only [f118];unfold bA at h;refine z0 ?_;obtain ⟨r1,hr1,h⟩:=bI h;refine z1 hr1 ?_;refine z0 ?_;refine cD h (fun hc2 hc2d h=>?_) fun hc2 hc2d h=>?_
 ·refine z1 hc2d ?_;refine fb (pp ?_);cases h;simp only [go_sem,seval,dS];exact ⟨_,rfl,gT.h,qW.h,qT.h⟩
 refine z1 hc2d ?_;refine aS (il (fun (b:List Int × Int × Int)=>⟨tab 42 (af (af (af (af au 0 (.pal 0 [] 0 b.1.length none)) 1 (.clo 119 [.iref 1 [[vI k1_0_0]] 0 0])) 5 (vI b.2.1)) 6 (vI b.2.2)),(upd RZ 0 (sO 1 (b.1.map (ay .i64))))⟩) (a0,r1,IntKind.i64.wrap (r1+1)) h ?_ ?_)
 ·exact wF (k2 hr1 hc2d)
 rintro n ⟨l4,v5,v6⟩ h -;cases n with
 | zero=>simp [bg] at h
 | succ n=>
 simp only [bg] at h;refine z0 ?_;refine cDs h (fun hc3 hc3d h=>?_) fun hc3 hc3d h=>?_
 ·refine fT (pp ?_);unfold dY at h;refine aK ?_;obtain ⟨hs12,h⟩:=jb h;try simp only [acX] at hs12 h
  refine ic fun Z hZ=>?_;simp only [go_sem,seval,hc3d,hs12,adt,Rx (row:=(ay .i64)) (z:=0) (rz:=[vI 0]) (k:=(v5).toNat) (l:=l4) (by have:=hs12; omega) rfl,gh,yl,dB,aF.allD (mA .i64)];refine hZ _ (pp (aK ?_));obtain ⟨hs13,h⟩:=jb h;try simp only [aeA] at hs13 h
  refine ic fun Z hZ=>?_;simp only [go_sem,seval,hs12,adn,tn,hs13];refine hZ _ (pp (fb (pp ?_)));cases h;simp only [go_sem,seval,dS];exact ⟨_,rfl,gT.h,qW.h,qT.h⟩
 obtain ⟨x13,hb4,hx5,h⟩:=aI h;refine z1 (k2 hb4 hx5) ?_;obtain ⟨r14,hr6,h⟩:=bI h;refine z1 hr6 ?_;refine cMs h (fun hc7 h=>?_) fun hc7 h=>?_
 ·refine z1 hc7 ?_;refine ⟨_,adk _,(l4,v5,IntKind.i64.wrap (v6+1)),?_,h⟩;exact wF (k5 hr1 hc2d hc3d hb4 (k3 hx5 hr6 hc7))
 obtain ⟨x15,hb8,hx9,h⟩:=aI h;have hx11:=kz (y:=x13) hx9;refine z1 (k4 hc7 hb8 hx9 (mm2 (row:=(ay .i64)) (y:=x13) (rx:=[vI x15]) (ry:=[vI x13]) hx9 rfl rfl)) ?_;refine z0 ?_;refine z0 ?_;refine ⟨_,adk _,((l4.set ((v5).toNat) x13),IntKind.i64.wrap (v5+1),IntKind.i64.wrap (v6+1)),?_,h⟩;refine wr ?_ ?_<;>repeat' first|rfl|constructor|simp only [go_sem,seval,ac7]
def bc (N:Nat):FnS:={ own:=[true,false],pure:=true,fn:=fun cs=>match cs with
 | [c0,.clo 119 [.iref 1 [[k1_0_0]] 0 0]]=>((vO 1 (du (aG .i64))) c0).bind fun q0=>((aG .i64) k1_0_0).bind fun q1=>(bA N q0 q1).map fun r=>sO 1 (r.map (ay .i64))
 | _=>none }
theorem pV (N:Nat):(bc N).own=[true,false]:=rfl
theorem pM (N:Nat):(bc N).pure=true:=rfl
theorem pK (N:Nat):(bc N).peek=false:=rfl
attribute [go_sem] bc pV pM pK
def qK (N:Nat):aA prog 118 (bc N):=by
 refine ⟨fun cs r h=>?_,fun h=>by cases h⟩;simp only [bc] at h;split at h
 ·simp only [acG,acF] at h;obtain ⟨q0,h0,q1,h1,r',hr,rfl⟩:=h;exact (tJ N q0 q1 r' hr).argsO rfl (jy (qi (mA .i64) (jw .i64) h0) (re (Le.clo (LeL.cons (Le.iref1 (LeL.cons (bz h1) (LeL.nil))) (LeL.nil))) (oa)))
 ·cases h
@[go_sem] def Lw (N d f:Nat):Option FnS:=aw [(8,116,lF N),(11,117,zt N),(25,118,bc N)] d f
def KS (N:Nat) (a0:List ai) (a1:Int) (r:List ai) (h:oz N a0 a1=some r):Con prog 50 [] false [sF 4 (a0.map ai.row),vI a1] (sO 4 (r.map ai.rowD)):=by
 refine fk (G:=(Lw N)) func50 (gc 8 (kC N) (gc 11 (BR N) (gc 25 (qK N) gn))) ?_;simp only [f50];unfold oz at h;refine z0 ?_;obtain ⟨r1,hr1,h⟩:=bI h;refine z1 hr1 ?_;refine cM h (fun hc2 h=>?_) fun hc2 h=>?_
 ·refine z1 hc2 ?_;exact f0 h
 obtain ⟨r2,hr3,h⟩:=bI h;refine z1 (k2 hc2 hr3) ?_;refine z0 ?_;refine aS (gr fun hreal5=>?_);have hl4:=hreal5.lenX 11 (by simp only [go_sem,seval]; rfl);first|rw [acL] at hl4|rw [eK] at hl4|rw [<-ac2,acL] at hl4
 refine oY (fun (v6:Nat) (b:List ai)=>⟨tab 30 (af (af (af (af au 3 (pF 3)) 5 (.pal 11 [] 0 b.length none)) 13 (vI (r2.length:Int))) 14 (vI (v6:Int))),(upd (upd RZ 3 (vA 1 [vI a1])) 11 (sO 4 (b.map ai.rowD)))⟩) r2 h ?_ ?_
 ·exact wF (k3 hr1 hc2 hr3)
 rintro v6 l5 _ h -;rcases (jq r2.length v6).symm with ⟨hi6',hd9⟩|⟨hi6',hd9⟩
 ·rw [hd9] at h;simp only [iX] at h;refine z1 hi6' ?_;refine cf ?_;refine z0 ?_;exact f0 h
 rw [hd9] at h;simp only [iX] at h;have hw8:=dX hi6' hl4;refine z1 hi6' ?_;refine ct ?_;refine z0 ?_;obtain ⟨x3,hb10,hx11,h⟩:=aI h;try simp only [acX] at hx11
 try simp only [aey,adZ,true_and] at hb10
 obtain ⟨r4,hr12,h⟩:=bI h;refine z1 (k5 hb10 hx11 (ov1 (row:=ai.rowD) (rx:=[vS x3.Actor.Type_,vS x3.Actor.Key,vI x3.Owner,sO 1 (x3.Waiters.map (ay .i64))]) hx11 rfl) (ov2 (row:=ai.rowD) hx11) (k2 (ov3 (row:=ai.rowD) hx11) hr12)) ?_;refine z1 hw8 ?_;first|refine ⟨(l5.set v6 (ai.mk x3.Actor x3.Owner r4)),?_,h⟩|refine ⟨hi6',(l5.set v6 (ai.mk x3.Actor x3.Owner r4)),?_,h⟩
 refine aX.trans (UB (n:=11) (ai.mk x3.Actor x3.Owner r4) (by simp only [go_sem,seval]; rfl) rfl rfl) ?_;refine wr ?_ ?_<;>repeat' first|rfl|constructor|simp only [go_sem,seval,adD,ac7]
@[go_sem] def Cm (N:Nat):FnS:=⟨[],false,fn2 (aJ 4 ai.dec) (aG .i64) fun q0 q1=>(oz N q0 q1).map fun r=>sF 4 (r.map ai.row),false⟩
def Ho (N:Nat):aA prog 50 (Cm N):=om2 fun q0 q1 r h=>rs (KS N q0 q1 r h)
def mY:Env:={ T:=eB prog,G:=fun d f=>none }
theorem EU:mY.T=eB prog:=rfl
theorem yj (d:Nat):mY.F d=none:=rfl
def DX:GOk prog { T:=eB prog,G:=mY.G }:=by
 refine ⟨?_,fun _ _ _ h=>by cases h⟩;intro d f fs hfs;cases hfs
theorem FH:D7 prog 190 f190 f190.body.get! := ⟨func190,rfl,by decide,by kernel_rfl⟩
set_option maxHeartbeats 4000000 in
section
attribute [local go_sem] EU Nat.le_refl gh Option.map_some List.isEmpty_nil
def F2 {α:Type} (row:α->List C) (ok:aF row) (l:List α) (i j:Nat) (r:List α) (hr:r=l.take i++l.drop j) (hij:i<=j) (hj:j<=l.length) :
  Con prog 190 [true,false,false] false [sO 4 (l.map row),vI i,vI j] (sO 4 (r.map row)):=by
 refine JE (E:=mY) (yY prog _) DX mix FH (ac4 rfl) ?_;intro _;rw [vE (by simp)];rw [show gp [true,false,false] [C.sl true none 4 none (l.map row),C.val (.int .i64 i),C.val (.int .i64 j)]=(af (af (af au 0 (.pal 0 [] 0 l.length none)) 1 (vI i)) 2 (vI j)) from by funext t; match t with|0=>simp [gp,ja,kd,af]|1=>rfl|2=>rfl|t+3=>rfl];rw [show R0 [true,false,false] [C.sl true none 4 none (l.map row),C.val (.int .i64 i),C.val (.int .i64 j)]=upd RZ 0 (C.sl true none 4 none (l.map row)) from by funext t; match t with|0=>rfl|1=>rfl|2=>rfl|t+3=>rfl];apply JF;simp only [f190,Option.get!];have hi1:(i:Int)<=(j:Int):=by omega
 have hj1:(j:Int)<=(l.length:Int):=by omega
 have hj0:i<=l.length:=by omega
 simp only [go_sem,seval,hij,hj];refine tf rfl (fun hc=>?_) (fun hc=>?_)
 ·have e:i=j:=by omega
  subst e;simp only [go_sem,seval,dS];refine su ok ?_;rw [hr];simp []
 ·have hc1:decide ((i:Int)=(j:Int))=false:=decide_eq_false hc;have hlt:i < j:=by omega
  have hlt2:i < l.length:=by omega
  have hm3:(l.drop j).take (l.length - j)=l.drop j:=ac3 (by simp);have hd:(l.drop j).length=l.length - j:=by simp
  have hle:i+(l.length - j)<=l.length:=by omega
  have hnle:¬ l.length<=i+(l.length - j):=by omega
  obtain ⟨A,hA⟩:∃ A,aL (List.map row l) i (List.map row (List.drop j l))=A:=⟨_,rfl⟩;have hAp:bK A:=by rw [<-hA]; exact fY (ga ok _) (ga ok _)
  have hAl:A.length=l.length:=by rw [<-hA]; simp [aL]; omega
  obtain ⟨B,hB⟩:∃ B,aL A (i+(l.length - j)) (List.replicate (l.length - (i+(l.length - j))) [C.val (Value.string ⟨#[]⟩),C.val (Value.string ⟨#[]⟩),C.val (Value.int .i64 0),C.val (Value.slice none 0 0)])=B:=⟨_,rfl⟩;have hBp:bK B:=by rw [<-hB]; exact fY hAp (zB _ [Value.string ⟨#[]⟩,Value.string ⟨#[]⟩,Value.int .i64 0,Value.slice none 0 0] (by simp [Value.oneCell']))
  have hBe:B.take (i+(l.length - j))=r.map row:=by
   have:=WS (L:=l.map row) (List.replicate (l.length - (i+(l.length - j))) [C.val (Value.string ⟨#[]⟩),C.val (Value.string ⟨#[]⟩),C.val (Value.int .i64 0),C.val (Value.slice none 0 0)]) hij (by simpa using hj);rw [acL,<-aea,hA,hB] at this;rw [this,hr]; simp
  simp only [go_sem,seval,yj,hj,hj0,aF.frzRows ok,aF.allPlain ok,aF.allD ok,dB,RJ,tk,CU,B4,yl,Ky,adt,adn,tn,hc1,hlt2,hm3,hd,hle,hnle,hA,hAl,hAp.1,hAp.2];repeat' ((with_reducible refine eL ?_ ?_); kernel_rfl)
  simp only [go_sem,seval,hB,dS];repeat' ((with_reducible refine eL ?_ ?_); kernel_rfl)
  try simp only [go_sem,seval,yj,hi1,hj1,hij,hj,hj0,aF.frzRows ok,aF.all ok,aF.allPlain ok,aF.allD ok,dB,RJ,tk,CU,B4,yl,Ky,Sc,adt,adn,tn,decide_not,ad1,dS,E9,hBp.1,hBp.2]
  refine su ok ?_;rw [<-hBe]
end
def Gt (N:Nat) (a0:List ai) (a1:Int) (a2:Int) (r:List ai) (h:mf N a0 a1 a2=some r) :
  Con prog 190 [true,false,false] false [sO 4 (a0.map ai.row),vI a1,vI a2] (sO 4 (r.map ai.row)):=by
 unfold mf at h;obtain ⟨n,m,rfl,rfl,h1,h2,h3⟩:=U3 h;exact F2 ai.row ai.row_ok a0 n m r (adp h3).symm h1 h2
def fo (N:Nat):FnS:={ own:=[true,false,false],pure:=false,fn:=fun cs=>match cs with
 | [c0,c1,c2]=>(vO 4 ai.dec c0).bind fun q0=>(aG .i64 c1).bind fun q1=>(aG .i64 c2).bind fun q2=>(mf N q0 q1 q2).map fun r=>sO 4 (r.map ai.row)
 | _=>none }
theorem B8 (N:Nat):(fo N).own=[true,false,false]:=rfl
theorem Bt (N:Nat):(fo N).pure=false:=rfl
theorem BB (N:Nat):(fo N).peek=false:=rfl
attribute [go_sem] fo B8 Bt BB
def CG (N:Nat):aA prog 190 (fo N):=by
 refine ⟨fun cs r h=>?_,fun h=>by cases h⟩;simp only [fo] at h;split at h
 ·simp only [acG,acF] at h;obtain ⟨q0,h0,q1,h1,q2,h2,r',hr,rfl⟩:=h;exact (Gt N q0 q1 q2 r' hr).argsO rfl (jy (qi ai.row_ok ai.dec_le h0) (re (bz h1) (re (bz h2) oa)))
 ·cases h
end
end Go.Proofs.YtmacaidmhchpgaaGreat
