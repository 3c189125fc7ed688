/- Walks: each function computes its model. No condition. -/
import Derived.Test.YtmacaidmhchpgaaGreatB
/- Each Go function computes its model: proofs laid by a program of ours. -/
set_option linter.defProp false
set_option maxHeartbeats 40000000
set_option synthInstance.maxHeartbeats 2000000
set_option synthInstance.maxSize 4000
set_option linter.unusedSimpArgs false
set_option linter.unusedVariables false
set_option maxRecDepth 100000
namespace Go.Proofs.YtmacaidmhchpgaaGreat
open Go Go.Proofs Go.Abs Tryz
noncomputable section
def JI (N:Nat) (a0:Value) (r:Bool) (h:iL N a0=some r):Con prog 61 [] true [.agg (Value.row a0)] (vB r):=by
 refine fk (G:=(ay [])) func61 gn ?_;simp only [f61];unfold iL at h;refine z0 ?_;refine aM ?_;apply aW (fun (c3:Bool)=>⟨tab 86 (af (af av 1 (pF 1)) 12 (vB c3)),(upd RZ 1 (vA 5 (Value.row a0)))⟩)
 ·intro hJ1;refine iD h (fun hc2 hc2d h=>?_) fun hc2 hc2d h=>?_
  ·refine z1 hc2d ?_;refine hJ1 _ true ?_ h;exact wF hc2d
  refine z1 hc2d ?_;refine hJ1 _ (decide (5 < a0.Kind)) ?_ h;exact wF hc2d
 intro c3 h;unfold rG at h;refine cB h (fun hc3 h=>?_) fun hc3 h=>?_
 ·refine z1 hc3 ?_;exact e0 h
 refine bc (pp ?_);unfold rb at h;refine aM (aX ?_);apply aW (fun (c12:Bool)=>⟨tab 86 (af (af av 1 (pF 1)) 13 (vB c12)),(upd RZ 1 (vA 5 (Value.row a0)))⟩)
 ·intro hJ4;refine iD h (fun hc5 hc5d h=>?_) fun hc5 hc5d h=>?_
  ·refine z1 (k2 hc3 hc5d) ?_;refine hJ4 _ false ?_ h;exact wF (k2 hc3 hc5d)
  refine iD h (fun hc6 hc6d h=>?_) fun hc6 hc6d h=>?_
  ·refine z1 (k3 hc3 hc5d hc6d) ?_;refine hJ4 _ false ?_ h;exact wF (k3 hc3 hc5d hc6d)
  refine iDs h (fun hc7 hc7d h=>?_) fun hc7 hc7d h=>?_
  ·refine z1 (k4 hc3 hc5d hc6d hc7d) ?_;refine hJ4 _ true ?_ h;exact wF (k4 hc3 hc5d hc6d hc7d)
  refine z1 (k4 hc3 hc5d hc6d hc7d) ?_;refine hJ4 _ (!decide (a0.N=1)) ?_ h;exact wF (k4 hc3 hc5d hc6d hc7d)
 intro c12 h;unfold jY at h;refine cB h (fun hc8 h=>?_) fun hc8 h=>?_
 ·refine z1 hc8 ?_;exact e0 h
 apply aW (fun (c17:Bool)=>⟨tab 86 (af (af av 1 (pF 1)) 32 (vB c17)),(upd RZ 1 (vA 5 (Value.row a0)))⟩)
 ·intro hJ9;apply aW (fun (c18:Bool)=>⟨tab 86 (af (af av 1 (pF 1)) 32 (vB c18)),(upd RZ 1 (vA 5 (Value.row a0)))⟩)
  ·intro hJ10;refine iBs h (fun hc11 h=>?_) fun hc11 h=>?_
   ·refine z1 (k2 hc8 hc11) ?_;refine hJ10 _ (!decide (a0.Kind=3)) ?_ h;exact wF (k3 hc3 hc8 hc11)
   refine z1 (k2 hc8 hc11) ?_;refine hJ10 _ false ?_ h;exact wF (k3 hc3 hc8 hc11)
  intro c18 h;unfold rC at h;refine cB h (fun hc12 h=>?_) fun hc12 h=>?_
  ·refine bc (pp (hJ9 _ true ?_ h));exact wF hc12
  apply aW (fun (c19:Bool)=>⟨tab 86 (af (af av 1 (pF 1)) 32 (vB c19)),(upd RZ 1 (vA 5 (Value.row a0)))⟩)
  ·intro hJ13;refine iD h (fun hc14 hc14d h=>?_) fun hc14 hc14d h=>?_
   ·refine z1 (k2 hc12 hc14d) ?_;refine hJ13 _ (!decide (a0.Kind=4)) ?_ h;exact wF (k4 hc3 hc8 hc12 hc14d)
   refine z1 (k2 hc12 hc14d) ?_;refine hJ13 _ false ?_ h;exact wF (k4 hc3 hc8 hc12 hc14d)
  intro c19 h;unfold rr at h;refine cB h (fun hc15 h=>?_) fun hc15 h=>?_
  ·refine bc (pp (hJ9 _ true ?_ h));exact wF hc15
  refine iD h (fun hc16 hc16d h=>?_) fun hc16 hc16d h=>?_
  ·refine z1 (k2 hc15 hc16d) ?_;refine hJ9 _ (!decide (a0.Kind=5)) ?_ h;exact wF (k5 hc3 hc8 hc12 hc15 hc16d)
  refine z1 (k2 hc15 hc16d) ?_;refine hJ9 _ false ?_ h;exact wF (k5 hc3 hc8 hc12 hc15 hc16d)
 intro c17 h;unfold qQ at h;refine cB h (fun hc17 h=>?_) fun hc17 h=>?_
 ·refine z1 hc17 ?_;exact e0 h
 refine bc (pp ?_);unfold kn at h;refine aM ?_;apply aW (fun (c22:Bool)=>⟨tab 86 (af (af av 1 (pF 1)) 74 (vB c22)),(upd RZ 1 (vA 5 (Value.row a0)))⟩)
 ·intro hJ18;refine iD h (fun hc19 hc19d h=>?_) fun hc19 hc19d h=>?_
  ·refine z1 (k2 hc17 hc19d) ?_;refine hJ18 _ true ?_ h;exact wF (k4 hc3 hc8 hc17 hc19d)
  refine iD h (fun hc20 hc20d h=>?_) fun hc20 hc20d h=>?_
  ·refine z1 (k3 hc17 hc19d hc20d) ?_;refine hJ18 _ true ?_ h;exact wF (k5 hc3 hc8 hc17 hc19d hc20d)
  refine z1 (k3 hc17 hc19d hc20d) ?_;refine hJ18 _ (decide (16 < (a0.L.length:Int))) ?_ h;exact wF (k5 hc3 hc8 hc17 hc19d hc20d)
 intro c22 h;unfold mJ at h;refine cB h (fun hc21 h=>?_) fun hc21 h=>?_
 ·refine z1 hc21 ?_;exact e0 h
 unfold mD at h;refine z1 hc21 ?_;refine lT 76 (fun (v17:Nat) (b:Unit)=>⟨tab 86 (af (af (af av 76 (sF 1 (a0.L.map eD))) 77 (vI (a0.L.length:Int))) 78 (vI (v17:Int))),RZ⟩) () h ?_ ?_ (h0:=wF (k4 hc3 hc8 hc17 hc21))
 ·rintro v17 ⟨⟩ hi24' h;simp only [ki] at h;refine z1 hi24' ?_;refine cf ?_;refine z0 ?_;exact e0 h
 rintro v17 ⟨⟩ x20 hi24' hx25 hw26 h;simp only [ki] at h;refine z1 hi24' ?_;refine ct ?_;refine z1 (k2 hx25 hi24') ?_;refine z0 ?_;refine cD h (fun hc28 hc28d h=>?_) fun hc28 hc28d h=>?_
 ·refine z1 hc28d ?_;exact e0 h
 refine z1 (k2 hw26 hc28d) ?_;first|refine ⟨(),?_,h⟩|refine ⟨hi24',(),?_,h⟩
 exact wF (k5 hc3 hc8 hc17 hc21 (k4 hx25 hi24' hw26 hc28d))
@[go_sem] def mC (N:Nat):FnS:=⟨[],true,fn1 Value.decA fun q0=>(iL N q0).map fun r=>vB r,false⟩
def mQ (N:Nat):aC prog 61 (mC N):=om1 (JI N)
@[go_sem] def JN (N d f:Nat):Option FnS:=ay [(8,61,mC N)] d f
def Jt (N:Nat) (a0:Value) (r:Bool) (h:mU N a0=some r):Con prog 213 [] true [.agg (Value.row a0)] (vB r):=by
 refine fk (G:=(JN N)) func213 (gc 8 (mQ N) gn) ?_;simp only [f213];unfold mU at h;refine z0 ?_;refine iD h (fun hc1 hc1d h=>?_) fun hc1 hc1d h=>?_
 ·refine z1 hc1d ?_;exact e0 h
 obtain ⟨r1,hr2,h⟩:=bI h;refine z1 (k2 hc1d hr2) ?_;exact e0 h
@[go_sem] def Bq (N:Nat):FnS:=⟨[],true,fn1 Value.decA fun q0=>(mU N q0).map fun r=>vB r,false⟩
def E7 (N:Nat):aC prog 213 (Bq N):=om1 (Jt N)
@[go_sem] def tT (N d f:Nat):Option FnS:=ay [(16,213,Bq N)] d f
def tJ (N:Nat) (a0:List Value) (r:Int) (h:dM N a0=some r):Con prog 201 [] true [sF 5 (a0.map Value.row),.clo 213 []] (vI r):=by
 refine fk (G:=(tT N)) func201 (gc 16 (E7 N) gn) ?_;simp only [f201];unfold dM at h;refine z0 ?_;refine z0 ?_;refine lT 0 (fun (v2:Nat) (b:Unit)=>⟨tab 19 (af (af (af (af av 0 (sF 5 (a0.map Value.row))) 1 (.clo 213 [])) 7 (vI (a0.length:Int))) 8 (vI (v2:Int))),RZ⟩) () h ?_ ?_
 ·rintro v2 ⟨⟩ hi3' h;simp only [dy] at h;refine z1 hi3' ?_;refine cf ?_;refine z0 ?_;exact e0 h
 rintro v2 ⟨⟩ x5 hi3' hx4 hw5 h;simp only [dy] at h;refine z1 hi3' ?_;refine ct ?_;refine z0 ?_;obtain ⟨r1,hr7,h⟩:=bI h;refine z1 (k3 hx4 hi3' hr7) ?_;refine cB h (fun hc8 h=>?_) fun hc8 h=>?_
 ·refine z1 hc8 ?_;exact e0 h
 refine z1 (k2 hw5 hc8) ?_;first|refine ⟨(),?_,h⟩|refine ⟨hi3',(),?_,h⟩
 exact wR
@[go_sem] def gM (N:Nat):FnS:={ own:=[],pure:=true,fn:=fun cs=>match cs with
 | [c0,.clo 213 []]=>((aJ 5 Value.dec) c0).bind fun qc0=>(dM N qc0).map fun r=>vI r
 | _=>none }
def rU (N:Nat):aC prog 201 (gM N):=by
 refine ⟨fun cs r h=>?_,fun h=>by cases h⟩;simp only [gM] at h;split at h
 ·simp only [abZ,abY] at h;obtain ⟨q0,h0,r',hr,rfl⟩:=h;exact (ag (tJ N q0 r' hr))
 ·cases h
@[go_sem] def sj (N d f:Nat):Option FnS:=ay [(7,201,gM N)] d f
def sx (N:Nat) (a0:List Value) (r:Bool) (h:bF N a0=some r):Con prog 134 [] true [sF 5 (a0.map Value.row),.clo 213 []] (vB r):=by
 refine fk (G:=(sj N)) func134 (gc 7 (rU N) gn) ?_;simp only [f134];unfold bF at h;refine z0 ?_;obtain ⟨r1,hr1,h⟩:=bI h;refine z1 hr1 ?_;exact e0 h
@[go_sem] def fW (N:Nat):FnS:={ own:=[],pure:=true,fn:=fun cs=>match cs with
 | [c0,.clo 213 []]=>((aJ 5 Value.dec) c0).bind fun qc0=>(bF N qc0).map fun r=>vB r
 | _=>none }
def qg (N:Nat):aC prog 134 (fW N):=by
 refine ⟨fun cs r h=>?_,fun h=>by cases h⟩;simp only [fW] at h;split at h
 ·simp only [abZ,abY] at h;obtain ⟨q0,h0,r',hr,rfl⟩:=h;exact (ag (sx N q0 r' hr))
 ·cases h
@[go_sem] def Li (N d f:Nat):Option FnS:=ay [(42,134,fW N)] d f
def My (N:Nat) (a0:ah) (r:Bool) (h:qu N a0=some r):Con prog 172 [] true [.agg (ah.row a0)] (vB r):=by
 refine fk (G:=(Li N)) func172 (gc 42 (qg N) gn) ?_;simp only [f172];unfold qu at h;refine z0 ?_;refine aM ?_;apply aW (fun (c3:Bool)=>⟨tab 44 (af (af av 1 (pF 1)) 39 (vB c3)),(upd RZ 1 (vA 4 (ah.row a0)))⟩)
 ·intro hJ1;refine iD h (fun hc2 hc2d h=>?_) fun hc2 hc2d h=>?_
  ·refine z1 hc2d ?_;refine hJ1 _ true ?_ h;exact wR
  refine iD h (fun hc3 hc3d h=>?_) fun hc3 hc3d h=>?_
  ·refine z1 (k2 hc2d hc3d) ?_;refine hJ1 _ true ?_ h;exact wR
  refine iD h (fun hc4 hc4d h=>?_) fun hc4 hc4d h=>?_
  ·refine z1 (k3 hc2d hc3d hc4d) ?_;refine hJ1 _ true ?_ h;exact wR
  refine iD h (fun hc5 hc5d h=>?_) fun hc5 hc5d h=>?_
  ·refine z1 (k4 hc2d hc3d hc4d hc5d) ?_;refine hJ1 _ true ?_ h;exact wR
  refine iD h (fun hc6 hc6d h=>?_) fun hc6 hc6d h=>?_
  ·refine z1 (k5 hc2d hc3d hc4d hc5d hc6d) ?_;refine hJ1 _ true ?_ h;exact wR
  refine z1 (k5 hc2d hc3d hc4d hc5d hc6d) ?_;refine hJ1 _ (decide (4 < (a0.Args.length:Int))) ?_ h;exact wR
 intro c3 h;unfold iY at h;refine cB h (fun hc7 h=>?_) fun hc7 h=>?_
 ·refine z1 hc7 ?_;exact e0 h
 refine bc (pp ?_);unfold jf at h;obtain ⟨r4,hr8,h⟩:=bI h;refine z1 (k2 hc7 hr8) ?_;exact e0 h
@[go_sem] def C0 (N:Nat):FnS:=⟨[],true,fn1 ah.decA fun q0=>(qu N q0).map fun r=>vB r,false⟩
def HC (N:Nat):aC prog 172 (C0 N):=om1 (My N)
@[go_sem] def KV (N d f:Nat):Option FnS:=ay [(4,172,C0 N)] d f
def Kv (N:Nat) (a0:ah) (r:Bool) (h:oU N a0=some r):Con prog 171 [] true [.agg (ah.row a0)] (vB r):=by
 refine fk (G:=(KV N)) func171 (gc 4 (HC N) gn) ?_;simp only [f171];unfold oU at h;refine z0 ?_;obtain ⟨r1,hr1,h⟩:=bI h;refine z1 hr1 ?_;exact e0 h
@[go_sem] def Cu (N:Nat):FnS:=⟨[],true,fn1 ah.decA fun q0=>(oU N q0).map fun r=>vB r,false⟩
def GC (N:Nat):aC prog 171 (Cu N):=om1 (Kv N)
@[go_sem] def si (N d f:Nat):Option FnS:=ay [(16,171,Cu N)] d f
def sa (N:Nat) (a0:List ah) (r:Int) (h:dw N a0=some r):Con prog 203 [] true [sF 4 (a0.map ah.row),.clo 171 []] (vI r):=by
 refine fk (G:=(si N)) func203 (gc 16 (GC N) gn) ?_;simp only [f203];unfold dw at h;refine z0 ?_;refine z0 ?_;refine lT 0 (fun (v2:Nat) (b:Unit)=>⟨tab 19 (af (af (af (af av 0 (sF 4 (a0.map ah.row))) 1 (.clo 171 [])) 7 (vI (a0.length:Int))) 8 (vI (v2:Int))),RZ⟩) () h ?_ ?_
 ·rintro v2 ⟨⟩ hi3' h;simp only [bR] at h;refine z1 hi3' ?_;refine cf ?_;refine z0 ?_;exact e0 h
 rintro v2 ⟨⟩ x5 hi3' hx4 hw5 h;simp only [bR] at h;refine z1 hi3' ?_;refine ct ?_;refine z0 ?_;obtain ⟨r1,hr7,h⟩:=bI h;refine z1 (k3 hx4 hi3' hr7) ?_;refine cB h (fun hc8 h=>?_) fun hc8 h=>?_
 ·refine z1 hc8 ?_;exact e0 h
 refine z1 (k2 hw5 hc8) ?_;first|refine ⟨(),?_,h⟩|refine ⟨hi3',(),?_,h⟩
 exact wR
@[go_sem] def fP (N:Nat):FnS:={ own:=[],pure:=true,fn:=fun cs=>match cs with
 | [c0,.clo 171 []]=>((aJ 4 ah.dec) c0).bind fun qc0=>(dw N qc0).map fun r=>vI r
 | _=>none }
def qc (N:Nat):aC prog 203 (fP N):=by
 refine ⟨fun cs r h=>?_,fun h=>by cases h⟩;simp only [fP] at h;split at h
 ·simp only [abZ,abY] at h;obtain ⟨q0,h0,r',hr,rfl⟩:=h;exact (ag (sa N q0 r' hr))
 ·cases h
@[go_sem] def qq (N d f:Nat):Option FnS:=ay [(7,203,fP N)] d f
def qj (N:Nat) (a0:List ah) (r:Bool) (h:bx N a0=some r):Con prog 140 [] true [sF 4 (a0.map ah.row),.clo 171 []] (vB r):=by
 refine fk (G:=(qq N)) func140 (gc 7 (qc N) gn) ?_;simp only [f140];unfold bx at h;refine z0 ?_;obtain ⟨r1,hr1,h⟩:=bI h;refine z1 hr1 ?_;exact e0 h
@[go_sem] def fo (N:Nat):FnS:={ own:=[],pure:=true,fn:=fun cs=>match cs with
 | [c0,.clo 171 []]=>((aJ 4 ah.dec) c0).bind fun qc0=>(bx N qc0).map fun r=>vB r
 | _=>none }
def oF (N:Nat):aC prog 140 (fo N):=by
 refine ⟨fun cs r h=>?_,fun h=>by cases h⟩;simp only [fo] at h;split at h
 ·simp only [abZ,abY] at h;obtain ⟨q0,h0,r',hr,rfl⟩:=h;exact (ag (qj N q0 r' hr))
 ·cases h
@[go_sem] def MU (N d f:Nat):Option FnS:=ay [(69,61,mC N),(85,140,fo N)] d f
def Nc (N:Nat) (a0:Txn) (r:Bool) (h:pJ N a0=some r):Con prog 98 [] true [.agg (Txn.row a0)] (vB r):=by
 refine fk (G:=(MU N)) func98 (gc 69 (mQ N) (gc 85 (oF N) gn)) ?_;simp only [f98];unfold pJ at h;refine z0 ?_;refine aM ?_;apply aW (fun (c3:Bool)=>⟨tab 87 (af (af av 1 (pF 1)) 42 (vB c3)),(upd RZ 1 (vA 11 (Txn.row a0)))⟩)
 ·intro hJ1;refine iD h (fun hc2 hc2d h=>?_) fun hc2 hc2d h=>?_
  ·refine z1 hc2d ?_;refine hJ1 _ true ?_ h;exact wR
  refine iD h (fun hc3 hc3d h=>?_) fun hc3 hc3d h=>?_
  ·refine z1 (k2 hc2d hc3d) ?_;refine hJ1 _ true ?_ h;exact wR
  refine iD h (fun hc4 hc4d h=>?_) fun hc4 hc4d h=>?_
  ·refine z1 (k3 hc2d hc3d hc4d) ?_;refine hJ1 _ true ?_ h;exact wR
  refine iD h (fun hc5 hc5d h=>?_) fun hc5 hc5d h=>?_
  ·refine z1 (k4 hc2d hc3d hc4d hc5d) ?_;refine hJ1 _ true ?_ h;exact wR
  refine iD h (fun hc6 hc6d h=>?_) fun hc6 hc6d h=>?_
  ·refine z1 (k5 hc2d hc3d hc4d hc5d hc6d) ?_;refine hJ1 _ true ?_ h;exact wR
  refine iD h (fun hc7 hc7d h=>?_) fun hc7 hc7d h=>?_
  ·refine z1 (k5 hc2d hc3d hc4d hc5d (k2 hc6d hc7d)) ?_;refine hJ1 _ true ?_ h;exact wR
  refine iD h (fun hc8 hc8d h=>?_) fun hc8 hc8d h=>?_
  ·refine z1 (k5 hc2d hc3d hc4d hc5d (k3 hc6d hc7d hc8d)) ?_;refine hJ1 _ true ?_ h;exact wR
  refine z1 (k5 hc2d hc3d hc4d hc5d (k3 hc6d hc7d hc8d)) ?_;refine hJ1 _ (decide (1099511627776 < a0.Seq)) ?_ h;exact wR
 intro c3 h;unfold gJ at h;refine cB h (fun hc9 h=>?_) fun hc9 h=>?_
 ·refine z1 hc9 ?_;exact e0 h
 refine bc (pp ?_);unfold gF at h;refine aM ?_;apply aW (fun (c8:Bool)=>⟨tab 87 (af (af av 1 (pF 1)) 82 (vB c8)),(upd RZ 1 (vA 11 (Txn.row a0)))⟩)
 ·intro hJ10;refine iD h (fun hc11 hc11d h=>?_) fun hc11 hc11d h=>?_
  ·refine z1 (k2 hc9 hc11d) ?_;refine hJ10 _ true ?_ h;exact wR
  refine iD h (fun hc12 hc12d h=>?_) fun hc12 hc12d h=>?_
  ·refine z1 (k3 hc9 hc11d hc12d) ?_;refine hJ10 _ true ?_ h;exact wR
  refine iD h (fun hc13 hc13d h=>?_) fun hc13 hc13d h=>?_
  ·refine z1 (k4 hc9 hc11d hc12d hc13d) ?_;refine hJ10 _ true ?_ h;exact wR
  refine iD h (fun hc14 hc14d h=>?_) fun hc14 hc14d h=>?_
  ·refine z1 (k5 hc9 hc11d hc12d hc13d hc14d) ?_;refine hJ10 _ true ?_ h;exact wR
  obtain ⟨r9,hr15,h⟩:=bI h;refine iBs h (fun hc16 h=>?_) fun hc16 h=>?_
  ·refine z1 (k5 hc9 hc11d hc12d hc13d (k3 hc14d hr15 hc16)) ?_;refine hJ10 _ true ?_ h;exact wR
  refine iD h (fun hc17 hc17d h=>?_) fun hc17 hc17d h=>?_
  ·refine z1 (k5 hc9 hc11d hc12d hc13d (k4 hc14d hr15 hc16 hc17d)) ?_;refine hJ10 _ (!decide (a0.Last.Kind=0)) ?_ h;exact wR
  refine z1 (k5 hc9 hc11d hc12d hc13d (k4 hc14d hr15 hc16 hc17d)) ?_;refine hJ10 _ false ?_ h;exact wR
 intro c8 h;unfold iM at h;refine cB h (fun hc18 h=>?_) fun hc18 h=>?_
 ·refine z1 hc18 ?_;exact e0 h
 refine bc (pp ?_);unfold iK at h;obtain ⟨r10,hr19,h⟩:=bI h;refine z1 (k2 hc18 hr19) ?_;exact e0 h
@[go_sem] def zA (N:Nat):FnS:=⟨[],true,fn1 Txn.decA fun q0=>(pJ N q0).map fun r=>vB r,false⟩
def BF (N:Nat):aC prog 98 (zA N):=om1 (Nc N)
@[go_sem] def Lu (N d f:Nat):Option FnS:=ay [(14,98,zA N)] d f
def Mt (N:Nat) (a0:ae) (r:Bool) (h:uE N a0=some r):Con prog 52 [] true [.agg (ae.row a0)] (vB r):=by
 refine fk (G:=(Lu N)) func52 (gc 14 (BF N) gn) ?_;simp only [f52];unfold uE at h;refine z0 ?_;refine z0 ?_;refine lT 6 (fun (v2:Nat) (b:Unit)=>⟨tab 37 (af (af (af (af av 1 (pF 1)) 6 (sF 11 (a0.Txns.map Txn.row))) 7 (vI (a0.Txns.length:Int))) 8 (vI (v2:Int))),(upd RZ 1 (vA 3 (ae.row a0)))⟩) () h ?_ ?_
 ·rintro v2 ⟨⟩ hi3' h;simp only [gY] at h;refine z1 hi3' ?_;refine cf ?_;refine z0 ?_;exact e0 h
 rintro v2 ⟨⟩ x5 hi3' hx4 hw5 h;simp only [gY] at h;refine z1 hi3' ?_;refine ct ?_;refine z1 (k2 hx4 hi3') ?_;apply aW (fun (c3:Bool)=>⟨tab 37 (af (af (af (af (af av 1 (pF 1)) 6 (sF 11 (a0.Txns.map Txn.row))) 7 (vI (a0.Txns.length:Int))) 8 (vI (v2:Int))) 31 (vB c3)),(upd RZ 1 (vA 3 (ae.row a0)))⟩)
 ·intro hJ7;obtain ⟨r4,hr8,h⟩:=bI h;refine kQ fun Z hZ=>?_;simp only [go_sem,seval,hr8];repeat with_reducible refine fZ (by kernel_rfl) ?_
  refine pc rfl (fun hc9=>?_) (fun hc9=>?_)
  ·rw [if_neg (ne_true_of_eq_false hc9)] at h;simp only [go_sem,seval,hc9];refine hZ _ (by kernel_rfl) (pp (hJ7 _ true ?_ h));exact wR
  rw [if_pos hc9] at h;simp only [go_sem,seval,hc9];refine mB rfl (fun hc10=>?_) (fun hc10=>?_)
  ·have hc10d:=decide_eq_true hc10;rw [if_pos hc10] at h;obtain ⟨x6,hb11,hx12,h⟩:=aI h;simp only [go_sem,seval,hc10d,hb11,hx12];refine hZ _ (by kernel_rfl) (pp (hJ7 _ (decide (x5.ID<=x6.ID)) ?_ h));exact wR
  have hc10d:=decide_eq_false hc10;rw [if_neg hc10] at h;simp only [go_sem,seval,hc10d];refine hZ _ (by kernel_rfl) (pp (hJ7 _ false ?_ h));exact wR
 intro c3 h;unfold lV at h;refine cB h (fun hc13 h=>?_) fun hc13 h=>?_
 ·refine z1 hc13 ?_;exact e0 h
 refine z1 (k2 hw5 hc13) ?_;first|refine ⟨(),?_,h⟩|refine ⟨hi3',(),?_,h⟩
 exact wR
@[go_sem] def Dv (N:Nat):FnS:=⟨[],true,fn1 ae.decA fun q0=>(uE N q0).map fun r=>vB r,false⟩
def Hz (N:Nat):aC prog 52 (Dv N):=om1 (Mt N)
def II (N:Nat) (a0:Ref) (r:Bool) (h:jb N a0=some r):Con prog 124 [] true [.agg [vS a0.Type_,vS a0.Key]] (vB r):=by
 refine fk (G:=(ay [])) func124 gn ?_;simp only [f124];unfold jb at h;refine z0 ?_;refine iDs h (fun hc1 hc1d h=>?_) fun hc1 hc1d h=>?_
 ·refine z1 hc1d ?_;exact e0 h
 refine iD h (fun hc2 hc2d h=>?_) fun hc2 hc2d h=>?_
 ·refine z1 (k2 hc1d hc2d) ?_;exact e0 h
 refine z1 (k2 hc1d hc2d) ?_;exact e0 h
@[go_sem] def pZ (N:Nat):FnS:=⟨[],true,fn1 Ref.decA fun q0=>(jb N q0).map fun r=>vB r,false⟩
def rY (N:Nat):aC prog 124 (pZ N):=om1 (II N)
def Ld (N:Nat) (a0:Int) (r:Bool) (h:kt N a0=some r):Con prog 125 [] true [vI a0] (vB r):=by
 refine fk (G:=(ay [])) func125 gn ?_;simp only [f125];unfold kt at h;refine z0 ?_;refine iD h (fun hc1 hc1d h=>?_) fun hc1 hc1d h=>?_
 ·refine z1 hc1d ?_;exact e0 h
 refine z1 hc1d ?_;exact e0 h
@[go_sem] def sB (N:Nat):FnS:=⟨[],true,fn1 (aG .i64) fun q0=>(kt N q0).map fun r=>vB r,false⟩
def tK (N:Nat):aC prog 125 (sB N):=om1 (Ld N)
@[go_sem] def JJ (N d f:Nat):Option FnS:=ay [(7,124,pZ N),(12,125,sB N)] d f
def Jz (N:Nat) (a0:ai) (r:Bool) (h:mY N a0=some r):Con prog 187 [] true [.agg (ai.row a0)] (vB r):=by
 refine fk (G:=(JJ N)) func187 (gc 7 (rY N) (gc 12 (tK N) gn)) ?_;simp only [f187];unfold mY at h;refine z0 ?_;refine aM ?_;apply aW (fun (c7:Bool)=>⟨tab 52 (af (af av 1 (pF 1)) 20 (vB c7)),(upd RZ 1 (vA 4 (ai.row a0)))⟩)
 ·intro hJ1;obtain ⟨r8,hr2,h⟩:=bI h;refine iBs h (fun hc3 h=>?_) fun hc3 h=>?_
  ·refine z1 (k2 hr2 hc3) ?_;refine hJ1 _ true ?_ h;exact wR
  obtain ⟨r9,hr4,h⟩:=bI h;refine iBs h (fun hc5 h=>?_) fun hc5 h=>?_
  ·refine z1 (k4 hr2 hc3 hr4 hc5) ?_;refine hJ1 _ true ?_ h;exact wR
  refine z1 (k4 hr2 hc3 hr4 hc5) ?_;refine hJ1 _ (decide (32 < (a0.Waiters.length:Int))) ?_ h;exact wR
 intro c7 h;unfold mK at h;refine cB h (fun hc6 h=>?_) fun hc6 h=>?_
 ·refine z1 hc6 ?_;exact e0 h
 unfold mF at h;refine z1 hc6 ?_;refine lT 22 (fun (v7:Nat) (b:Unit)=>⟨tab 52 (af (af (af (af av 1 (pF 1)) 22 (sF 1 (a0.Waiters.map (aA .i64)))) 23 (vI (a0.Waiters.length:Int))) 24 (vI (v7:Int))),(upd RZ 1 (vA 4 (ai.row a0)))⟩) () h ?_ ?_
 ·rintro v7 ⟨⟩ hi9' h;simp only [fJ] at h;refine z1 hi9' ?_;refine cf ?_;refine z0 ?_;exact e0 h
 rintro v7 ⟨⟩ x10 hi9' hx10 hw11 h;simp only [fJ] at h;refine z1 hi9' ?_;refine ct ?_;refine z1 (k2 hx10 hi9') ?_;apply aW (fun (c12:Bool)=>⟨tab 52 (af (af (af (af (af av 1 (pF 1)) 22 (sF 1 (a0.Waiters.map (aA .i64)))) 23 (vI (a0.Waiters.length:Int))) 24 (vI (v7:Int))) 50 (vB c12)),(upd RZ 1 (vA 4 (ai.row a0)))⟩)
 ·intro hJ13;refine iD h (fun hc14 hc14d h=>?_) fun hc14 hc14d h=>?_
  ·refine z1 hc14d ?_;refine hJ13 _ true ?_ h;exact wR
  refine iD h (fun hc15 hc15d h=>?_) fun hc15 hc15d h=>?_
  ·refine z1 (k2 hc14d hc15d) ?_;refine hJ13 _ true ?_ h;exact wR
  refine iD h (fun hc16 hc16d h=>?_) fun hc16 hc16d h=>?_
  ·obtain ⟨x13,hb17,hx18,h⟩:=aI h;refine z1 (k5 hc14d hc15d hc16d hb17 hx18) ?_;refine hJ13 _ (decide (x10<=x13)) ?_ h;exact wR
  refine z1 (k3 hc14d hc15d hc16d) ?_;refine hJ13 _ false ?_ h;exact wR
 intro c12 h;unfold jc at h;refine cB h (fun hc19 h=>?_) fun hc19 h=>?_
 ·refine z1 hc19 ?_;exact e0 h
 refine z1 (k2 hw11 hc19) ?_;first|refine ⟨(),?_,h⟩|refine ⟨hi9',(),?_,h⟩
 exact wR
@[go_sem] def BR (N:Nat):FnS:=⟨[],true,fn1 ai.decA fun q0=>(mY N q0).map fun r=>vB r,false⟩
def Fa (N:Nat):aC prog 187 (BR N):=om1 (Jz N)
def H5 (N:Nat) (a0:ByteArray) (r:Bool) (h:lM N a0=some r):Con prog 183 [] true [vS a0] (vB r):=by
 refine fk (G:=(ay [])) func183 gn ?_;simp only [f183];unfold lM at h;refine z0 ?_;refine z0 ?_;exact e0 h
@[go_sem] def vb (N:Nat):FnS:=⟨[],true,fn1 du fun q0=>(lM N q0).map fun r=>vB r,false⟩
def yy (N:Nat):aC prog 183 (vb N):=om1 (H5 N)
@[go_sem] def GD (N d f:Nat):Option FnS:=ay [(8,183,vb N),(10,183,vb N)] d f
def Gy (N:Nat) (a0:ByteArray) (a1:ByteArray) (r:Int) (h:fI N a0 a1=some r):Con prog 104 [] true [vS a0,vS a1] (vI r):=by
 refine fk (G:=(GD N)) func104 (gc 8 (yy N) (gc 10 (yy N) gn)) ?_;simp only [f104];unfold fI at h;refine z0 ?_;obtain ⟨r1,hr1,h⟩:=bI h;refine z1 hr1 ?_;obtain ⟨r2,hr2,h⟩:=bI h;refine z1 hr2 ?_;refine z0 ?_;refine pk rfl (fun hc3=>?_) (fun hc3=>?_)
 ·first|rw [if_pos hc3] at h|simp only [hc3,acW,acZ,acR,ac9,acY,ada,acQ,ac0,acw,acA,aca,if_true,if_false] at h
  refine z1 hc3 ?_;refine pk rfl (fun hc4=>?_) (fun hc4=>?_)
  ·first|rw [if_pos hc4] at h|simp only [hc4,hc3,acW,acZ,acR,ac9,acY,ada,acQ,ac0,acw,acA,aca,if_true,if_false] at h
   refine z1 hc4 ?_;exact e0 h
  first|rw [if_neg (ne_true_of_eq_false hc4)] at h|simp only [hc4,hc3,acW,acZ,acR,ac9,acY,ada,acQ,ac0,acw,acA,aca,if_true,if_false] at h
  refine z1 hc4 ?_;exact e0 h
 first|rw [if_neg (ne_true_of_eq_false hc3)] at h|simp only [hc3,acW,acZ,acR,ac9,acY,ada,acQ,ac0,acw,acA,aca,if_true,if_false] at h
 refine z1 hc3 ?_;refine pk rfl (fun hc5=>?_) (fun hc5=>?_)
 ·first|rw [if_pos hc5] at h|simp only [hc5,hc3,acW,acZ,acR,ac9,acY,ada,acQ,ac0,acw,acA,aca,if_true,if_false] at h
  refine z1 hc5 ?_;exact e0 h
 first|rw [if_neg (ne_true_of_eq_false hc5)] at h|simp only [hc5,hc3,acW,acZ,acR,ac9,acY,ada,acQ,ac0,acw,acA,aca,if_true,if_false] at h
 refine z1 hc5 ?_;refine pk rfl (fun hc6=>?_) (fun hc6=>?_)
 ·first|rw [if_pos hc6] at h|simp only [hc6,hc3,hc5,acW,acZ,acR,ac9,acY,ada,acQ,ac0,acw,acA,aca,if_true,if_false] at h
  refine z1 hc6 ?_;exact e0 h
 first|rw [if_neg (ne_true_of_eq_false hc6)] at h|simp only [hc6,hc3,hc5,acW,acZ,acR,ac9,acY,ada,acQ,ac0,acw,acA,aca,if_true,if_false] at h
 refine z1 hc6 ?_;refine qA rfl (fun hc7=>?_) (fun hc7=>?_)
 ·first|rw [if_neg (ne_true_of_eq_false hc7)] at h|simp only [hc7,hc6,acW,aca,if_false] at h
  refine z1 hc7 ?_;exact e0 h
 first|rw [if_pos hc7] at h|simp only [hc7,hc6,acZ,if_true] at h
 refine z1 hc7 ?_;exact e0 h
@[go_sem] def kd (N:Nat):FnS:=⟨[],true,fn2 du du fun q0 q1=>(fI N q0 q1).map fun r=>vI r,false⟩
def kI (N:Nat):aC prog 104 (kd N):=om2 (Gy N)
def Qw (N:Nat) (a0:List Int) (r:Int) (h:tY N a0=some r):Con prog 103 [] true [sF 1 (a0.map (aA .i64))] (vI r):=by
 refine fk (G:=(ay [])) func103 gn ?_;simp only [f103];unfold tY at h;refine z0 ?_;refine z0 ?_;refine z0 ?_;refine lT 0 (fun (v2:Nat) (b:Unit)=>⟨tab 18 (af (af (af (af av 3 (vI 0)) 6 (sF 1 (a0.map (aA .i64)))) 7 (vI (a0.length:Int))) 8 (vI (v2:Int))),RZ⟩) () h ?_ ?_
 ·rintro v2 ⟨⟩ hi3' h;simp only [qx] at h;refine z1 hi3' ?_;refine cf ?_;refine z0 ?_;exact e0 h
 rintro v2 ⟨⟩ x5 hi3' hx4 hw5 h;simp only [qx] at h;refine z1 hi3' ?_;refine ct ?_;refine z1 (k2 hx4 hi3') ?_;refine z0 ?_;refine cN h (fun hc7 hc7d h=>?_) fun hc7 hc7d h=>?_
 ·refine z1 hc7d ?_;exact e0 h
 refine z1 (k2 hw5 hc7d) ?_;first|refine ⟨(),?_,h⟩|refine ⟨hi3',(),?_,h⟩
 exact wR
@[go_sem] def Ca (N:Nat):FnS:=⟨[],true,fn1 (aJ 1 (dP (aG .i64))) fun q0=>(tY N q0).map fun r=>vI r,false⟩
def Db (N:Nat):aC prog 103 (Ca N):=om1 (Qw N)
@[go_sem] def MD (N d f:Nat):Option FnS:=ay [(9,104,kd N),(14,104,kd N),(16,103,Ca N)] d f
def L7 (N:Nat) (a0:Ref) (a1:Ref) (r:Int) (h:mZ N a0 a1=some r):Con prog 188 [] true [.agg [vS a0.Type_,vS a0.Key],.agg [vS a1.Type_,vS a1.Key]] (vI r):=by
 refine fk (G:=(MD N)) func188 (gc 9 (kI N) (gc 14 (kI N) (gc 16 (Db N) gn))) ?_;simp only [f188];unfold mZ at h;refine z0 ?_;obtain ⟨r1,hr1,h⟩:=bI h;obtain ⟨r2,hr2,h⟩:=bI h;obtain ⟨r3,hr3,h⟩:=bI h;refine d1 (k3 hr1 hr2 hr3) ?_;exact e0 h
@[go_sem] def yS (N:Nat):FnS:=⟨[],true,fn2 Ref.decA Ref.decA fun q0 q1=>(mZ N q0 q1).map fun r=>vI r,false⟩
def Ax (N:Nat):aC prog 188 (yS N):=om2 (L7 N)
@[go_sem] def Oz (N d f:Nat):Option FnS:=ay [(16,187,BR N),(30,188,yS N)] d f
def Ol (N:Nat) (a0:List ai) (r:Bool) (h:jN N a0=some r):Con prog 116 [] true [sF 4 (a0.map ai.row)] (vB r):=by
 refine fk (G:=(Oz N)) func116 (gc 16 (Fa N) (gc 30 (Ax N) gn)) ?_;simp only [f116];unfold jN at h;refine z0 ?_;refine z0 ?_;refine cD h (fun hc1 hc1d h=>?_) fun hc1 hc1d h=>?_
 ·refine z1 hc1d ?_;exact e0 h
 refine z1 hc1d ?_;refine lT 0 (fun (v3:Nat) (b:Unit)=>⟨tab 35 (af (af (af (af av 0 (sF 4 (a0.map ai.row))) 8 (sF 4 (a0.map ai.row))) 9 (vI (a0.length:Int))) 10 (vI (v3:Int))),RZ⟩) () h ?_ ?_
 ·rintro v3 ⟨⟩ hi4' h;simp only [kh] at h;refine z1 hi4' ?_;refine cf ?_;refine z0 ?_;exact e0 h
 rintro v3 ⟨⟩ x6 hi4' hx5 hw6 h;simp only [kh] at h;refine z1 hi4' ?_;refine ct ?_;refine z1 (k2 hx5 hi4') ?_;apply aW (fun (c4:Bool)=>⟨tab 35 (af (af (af (af (af av 0 (sF 4 (a0.map ai.row))) 8 (sF 4 (a0.map ai.row))) 9 (vI (a0.length:Int))) 10 (vI (v3:Int))) 33 (vB c4)),RZ⟩)
 ·intro hJ8;obtain ⟨r5,hr9,h⟩:=bI h;refine kQ fun Z hZ=>?_;simp only [go_sem,seval,hr9];repeat with_reducible refine fZ (by kernel_rfl) ?_
  refine pc rfl (fun hc10=>?_) (fun hc10=>?_)
  ·rw [if_neg (ne_true_of_eq_false hc10)] at h;simp only [go_sem,seval,hc10];refine hZ _ (by kernel_rfl) (pp (hJ8 _ true ?_ h));exact wR
  rw [if_pos hc10] at h;simp only [go_sem,seval,hc10];refine mB rfl (fun hc11=>?_) (fun hc11=>?_)
  ·have hc11d:=decide_eq_true hc11;rw [if_pos hc11] at h;obtain ⟨x7,hb12,hx13,h⟩:=aI h;obtain ⟨r8,hr14,h⟩:=bI h;simp only [go_sem,seval,hc11d,hb12,hx13,hr14];repeat with_reducible refine fZ (by kernel_rfl) ?_
   refine hZ _ (by kernel_rfl) (pp (hJ8 _ (decide (0<=r8)) ?_ h));exact wR
  have hc11d:=decide_eq_false hc11;rw [if_neg hc11] at h;simp only [go_sem,seval,hc11d];refine hZ _ (by kernel_rfl) (pp (hJ8 _ false ?_ h));exact wR
 intro c4 h;unfold oT at h;refine cB h (fun hc15 h=>?_) fun hc15 h=>?_
 ·refine z1 hc15 ?_;exact e0 h
 refine z1 (k2 hw6 hc15) ?_;first|refine ⟨(),?_,h⟩|refine ⟨hi4',(),?_,h⟩
 exact wR
@[go_sem] def mh (N:Nat):FnS:=⟨[],true,fn1 (aJ 4 ai.dec) fun q0=>(jN N q0).map fun r=>vB r,false⟩
def kZ (N:Nat):aC prog 116 (mh N):=om1 (Ol N)
def OK (N:Nat) (a0:Txn) (c0_0:Int) (r:Bool) (h:yx N a0 c0_0=some r):Con prog 99 [] true [.agg (Txn.row a0),.iref 1 [[vI c0_0]] 0 0] (vB r):=by
 refine fk (G:=(ay [])) func99 gn ?_;simp only [f99];unfold yx at h;refine z0 ?_;refine z0 ?_;exact e0 h
@[go_sem] def AU (N:Nat):FnS:={ own:=[],pure:=true,fn:=fun cs=>match cs with
 | [c0,.iref 1 [[c1_0]] 0 0]=>(Txn.decA c0).bind fun qc0=>((aG .i64) c1_0).bind fun qc1_0=>(yx N qc0 qc1_0).map fun r=>vB r
 | _=>none }
def JM (N:Nat):aC prog 99 (AU N):=by
 refine ⟨fun cs r h=>?_,fun h=>by cases h⟩;simp only [AU] at h;split at h
 ·simp only [abZ,abY] at h;obtain ⟨q0,h0,q1,h1,r',hr,rfl⟩:=h;exact (ag (OK N q0 q1 r' hr))
 ·cases h
@[go_sem] def wT (N d f:Nat):Option FnS:=ay [(16,99,AU N)] d f
def wU (N:Nat) (a0:List Txn) (k1_0_0:Int) (r:Int) (h:ff N a0 k1_0_0=some r):Con prog 71 [] true [sF 11 (a0.map Txn.row),.clo 99 [.iref 1 [[vI k1_0_0]] 0 0]] (vI r):=by
 refine fk (G:=(wT N)) func71 (gc 16 (JM N) gn) ?_;simp only [f71];unfold ff at h;refine z0 ?_;refine z0 ?_;refine lT 0 (fun (v2:Nat) (b:Unit)=>⟨tab 19 (af (af (af (af av 0 (sF 11 (a0.map Txn.row))) 1 (.clo 99 [.iref 1 [[vI k1_0_0]] 0 0])) 7 (vI (a0.length:Int))) 8 (vI (v2:Int))),RZ⟩) () h ?_ ?_
 ·rintro v2 ⟨⟩ hi3' h;simp only [eu] at h;refine z1 hi3' ?_;refine cf ?_;refine z0 ?_;exact e0 h
 rintro v2 ⟨⟩ x5 hi3' hx4 hw5 h;simp only [eu] at h;refine z1 hi3' ?_;refine ct ?_;refine z0 ?_;obtain ⟨r1,hr7,h⟩:=bI h;refine z1 (k3 hx4 hi3' hr7) ?_;refine cB h (fun hc8 h=>?_) fun hc8 h=>?_
 ·refine z1 hc8 ?_;exact e0 h
 refine z1 (k2 hw5 hc8) ?_;first|refine ⟨(),?_,h⟩|refine ⟨hi3',(),?_,h⟩
 exact wR
@[go_sem] def jn (N:Nat):FnS:={ own:=[],pure:=true,fn:=fun cs=>match cs with
 | [c0,.clo 99 [.iref 1 [[k1_0_0]] 0 0]]=>((aJ 11 Txn.dec) c0).bind fun qc0=>((aG .i64) k1_0_0).bind fun qk1_0_0=>(ff N qc0 qk1_0_0).map fun r=>vI r
 | _=>none }
def u7 (N:Nat):aC prog 71 (jn N):=by
 refine ⟨fun cs r h=>?_,fun h=>by cases h⟩;simp only [jn] at h;split at h
 ·simp only [abZ,abY] at h;obtain ⟨q0,h0,q1,h1,r',hr,rfl⟩:=h;exact (ag (wU N q0 q1 r' hr))
 ·cases h
@[go_sem] def Rt (N d f:Nat):Option FnS:=ay [(8,71,jn N)] d f
def Rq (N:Nat) (a0:ae) (a1:Int) (r:Int) (h:fF N a0 a1=some r):Con prog 40 [] true [.agg (ae.row a0),vI a1] (vI r):=by
 refine fk (G:=(Rt N)) func40 (gc 8 (u7 N) gn) ?_;simp only [f40];unfold fF at h;refine z0 ?_;obtain ⟨r1,hr1,h⟩:=bI h;refine z1 hr1 ?_;exact e0 h
@[go_sem] def gZ (N:Nat):FnS:=⟨[],true,fn2 ae.decA (aG .i64) fun q0 q1=>(fF N q0 q1).map fun r=>vI r,false⟩
def fH (N:Nat):aC prog 40 (gZ N):=om2 (Rq N)
@[go_sem] def Ii (N d f:Nat):Option FnS:=ay [(6,40,gZ N)] d f
def Il (N:Nat) (a0:Int) (c0_0:List Txn) (c0_1:List ai) (c0_2:List aa) (r:Bool) (h:lU N a0 c0_0 c0_1 c0_2=some r):Con prog 122 [] true [vI a0,.iref 3 [[sF 11 (c0_0.map Txn.row),sF 4 (c0_1.map ai.row),sF 3 (c0_2.map aa.row)]] 0 0] (vB r):=by
 refine fk (G:=(Ii N)) func122 (gc 6 (fH N) gn) ?_;simp only [f122];unfold lU at h;refine z0 ?_;obtain ⟨r1,hr1,h⟩:=bI h;refine z1 hr1 ?_;exact e0 h
@[go_sem] def uZ (N:Nat):FnS:={ own:=[],pure:=true,fn:=fun cs=>match cs with
 | [c0,.iref 3 [[c1_0,c1_1,c1_2]] 0 0]=>((aG .i64) c0).bind fun qc0=>((aJ 11 Txn.dec) c1_0).bind fun qc1_0=>((aJ 4 ai.dec) c1_1).bind fun qc1_1=>((aJ 3 aa.dec) c1_2).bind fun qc1_2=>(lU N qc0 qc1_0 qc1_1 qc1_2).map fun r=>vB r
 | _=>none }
def Ez (N:Nat):aC prog 122 (uZ N):=by
 refine ⟨fun cs r h=>?_,fun h=>by cases h⟩;simp only [uZ] at h;split at h
 ·simp only [abZ,abY] at h;obtain ⟨q0,h0,q1,h1,q2,h2,q3,h3,r',hr,rfl⟩:=h;exact (ag (Il N q0 q1 q2 q3 r' hr))
 ·cases h
@[go_sem] def uN (N d f:Nat):Option FnS:=ay [(16,122,uZ N)] d f
def uP (N:Nat) (a0:List Int) (k1_0_0:List Txn) (k1_0_1:List ai) (k1_0_2:List aa) (r:Int) (h:dV N a0 k1_0_0 k1_0_1 k1_0_2=some r):Con prog 189 [] true [sF 1 (a0.map (aA .i64)),.clo 122 [.iref 3 [[sF 11 (k1_0_0.map Txn.row),sF 4 (k1_0_1.map ai.row),sF 3 (k1_0_2.map aa.row)]] 0 0]] (vI r):=by
 refine fk (G:=(uN N)) func189 (gc 16 (Ez N) gn) ?_;simp only [f189];unfold dV at h;refine z0 ?_;refine z0 ?_;refine lT 0 (fun (v2:Nat) (b:Unit)=>⟨tab 19 (af (af (af (af av 0 (sF 1 (a0.map (aA .i64)))) 1 (.clo 122 [.iref 3 [[sF 11 (k1_0_0.map Txn.row),sF 4 (k1_0_1.map ai.row),sF 3 (k1_0_2.map aa.row)]] 0 0])) 7 (vI (a0.length:Int))) 8 (vI (v2:Int))),RZ⟩) () h ?_ ?_
 ·rintro v2 ⟨⟩ hi3' h;simp only [dJ] at h;refine z1 hi3' ?_;refine cf ?_;refine z0 ?_;exact e0 h
 rintro v2 ⟨⟩ x5 hi3' hx4 hw5 h;simp only [dJ] at h;refine z1 hi3' ?_;refine ct ?_;refine z0 ?_;obtain ⟨r1,hr7,h⟩:=bI h;refine z1 (k3 hx4 hi3' hr7) ?_;refine cB h (fun hc8 h=>?_) fun hc8 h=>?_
 ·refine z1 hc8 ?_;exact e0 h
 refine z1 (k2 hw5 hc8) ?_;first|refine ⟨(),?_,h⟩|refine ⟨hi3',(),?_,h⟩
 exact wR
@[go_sem] def gX (N:Nat):FnS:={ own:=[],pure:=true,fn:=fun cs=>match cs with
 | [c0,.clo 122 [.iref 3 [[k1_0_0,k1_0_1,k1_0_2]] 0 0]]=>((aJ 1 (dP (aG .i64))) c0).bind fun qc0=>((aJ 11 Txn.dec) k1_0_0).bind fun qk1_0_0=>((aJ 4 ai.dec) k1_0_1).bind fun qk1_0_1=>((aJ 3 aa.dec) k1_0_2).bind fun qk1_0_2=>(dV N qc0 qk1_0_0 qk1_0_1 qk1_0_2).map fun r=>vI r
 | _=>none }
def sy (N:Nat):aC prog 189 (gX N):=by
 refine ⟨fun cs r h=>?_,fun h=>by cases h⟩;simp only [gX] at h;split at h
 ·simp only [abZ,abY] at h;obtain ⟨q0,h0,q1,h1,q2,h2,q3,h3,r',hr,rfl⟩:=h;exact (ag (uP N q0 q1 q2 q3 r' hr))
 ·cases h
@[go_sem] def sG (N d f:Nat):Option FnS:=ay [(7,189,gX N)] d f
def sD (N:Nat) (a0:List Int) (k1_0_0:List Txn) (k1_0_1:List ai) (k1_0_2:List aa) (r:Bool) (h:dI N a0 k1_0_0 k1_0_1 k1_0_2=some r):Con prog 121 [] true [sF 1 (a0.map (aA .i64)),.clo 122 [.iref 3 [[sF 11 (k1_0_0.map Txn.row),sF 4 (k1_0_1.map ai.row),sF 3 (k1_0_2.map aa.row)]] 0 0]] (vB r):=by
 refine fk (G:=(sG N)) func121 (gc 7 (sy N) gn) ?_;simp only [f121];unfold dI at h;refine z0 ?_;obtain ⟨r1,hr1,h⟩:=bI h;refine z1 hr1 ?_;exact e0 h
@[go_sem] def gi (N:Nat):FnS:={ own:=[],pure:=true,fn:=fun cs=>match cs with
 | [c0,.clo 122 [.iref 3 [[k1_0_0,k1_0_1,k1_0_2]] 0 0]]=>((aJ 1 (dP (aG .i64))) c0).bind fun qc0=>((aJ 11 Txn.dec) k1_0_0).bind fun qk1_0_0=>((aJ 4 ai.dec) k1_0_1).bind fun qk1_0_1=>((aJ 3 aa.dec) k1_0_2).bind fun qk1_0_2=>(dI N qc0 qk1_0_0 qk1_0_1 qk1_0_2).map fun r=>vB r
 | _=>none }
def qt (N:Nat):aC prog 121 (gi N):=by
 refine ⟨fun cs r h=>?_,fun h=>by cases h⟩;simp only [gi] at h;split at h
 ·simp only [abZ,abY] at h;obtain ⟨q0,h0,q1,h1,q2,h2,q3,h3,r',hr,rfl⟩:=h;exact (ag (sD N q0 q1 q2 q3 r' hr))
 ·cases h
@[go_sem] def Kk (N d f:Nat):Option FnS:=ay [(7,116,mh N),(19,40,gZ N),(25,121,gi N)] d f
def La (N:Nat) (a0:ae) (r:Bool) (h:o5 N a0=some r):Con prog 53 [] true [.agg (ae.row a0)] (vB r):=by
 refine fk (G:=(Kk N)) func53 (gc 7 (kZ N) (gc 19 (fH N) (gc 25 (qt N) gn))) ?_;simp only [f53];unfold o5 at h;refine z0 ?_;obtain ⟨r1,hr1,h⟩:=bI h;refine z1 hr1 ?_;refine cM h (fun hc2 h=>?_) fun hc2 h=>?_
 ·refine z1 hc2 ?_;exact e0 h
 refine z1 hc2 ?_;refine lT 6 (fun (v4:Nat) (b:Unit)=>⟨tab 28 (af (af (af (af av 1 (pF 1)) 10 (sF 4 (a0.Locks.map ai.row))) 11 (vI (a0.Locks.length:Int))) 12 (vI (v4:Int))),(upd RZ 1 (vA 3 (ae.row a0)))⟩) () h ?_ ?_
 ·rintro v4 ⟨⟩ hi5' h;simp only [jt] at h;refine z1 hi5' ?_;refine cf ?_;refine z0 ?_;exact e0 h
 rintro v4 ⟨⟩ x7 hi5' hx6 hw7 h;simp only [jt] at h;refine z1 hi5' ?_;refine ct ?_;refine z1 (k2 hx6 hi5') ?_;apply aW (fun (c4:Bool)=>⟨tab 28 (af (af (af (af (af av 1 (pF 1)) 10 (sF 4 (a0.Locks.map ai.row))) 11 (vI (a0.Locks.length:Int))) 12 (vI (v4:Int))) 26 (vB c4)),(upd RZ 1 (vA 3 (ae.row a0)))⟩)
 ·intro hJ9;obtain ⟨r5,hr10,h⟩:=bI h;refine iD h (fun hc11 hc11d h=>?_) fun hc11 hc11d h=>?_
  ·refine z1 (k2 hr10 hc11d) ?_;refine hJ9 _ true ?_ h;exact wR
  obtain ⟨r6,hr12,h⟩:=bI h;refine z1 (k3 hr10 hc11d hr12) ?_;refine hJ9 _ r6 ?_ h;exact wR
 intro c4 h;unfold w6 at h;refine cB h (fun hc13 h=>?_) fun hc13 h=>?_
 ·refine z1 hc13 ?_;exact e0 h
 refine z1 (k2 hw7 hc13) ?_;first|refine ⟨(),?_,h⟩|refine ⟨hi5',(),?_,h⟩
 exact wR
@[go_sem] def Cq (N:Nat):FnS:=⟨[],true,fn1 ae.decA fun q0=>(o5 N q0).map fun r=>vB r,false⟩
def Gl (N:Nat):aC prog 53 (Cq N):=om1 (La N)
@[go_sem] def Hx (N d f:Nat):Option FnS:=ay [(4,61,mC N)] d f
def HD (N:Nat) (a0:Value) (r:Bool) (h:kV N a0=some r):Con prog 135 [] true [.agg (Value.row a0)] (vB r):=by
 refine fk (G:=(Hx N)) func135 (gc 4 (mQ N) gn) ?_;simp only [f135];unfold kV at h;refine z0 ?_;obtain ⟨r1,hr1,h⟩:=bI h;refine z1 hr1 ?_;exact e0 h
@[go_sem] def z7 (N:Nat):FnS:=⟨[],true,fn1 Value.decA fun q0=>(kV N q0).map fun r=>vB r,false⟩
def DK (N:Nat):aC prog 135 (z7 N):=om1 (HD N)
@[go_sem] def s7 (N d f:Nat):Option FnS:=ay [(16,135,z7 N)] d f
def sJ (N:Nat) (a0:List Value) (r:Int) (h:dF N a0=some r):Con prog 201 [] true [sF 5 (a0.map Value.row),.clo 135 []] (vI r):=by
 refine fk (G:=(s7 N)) func201 (gc 16 (DK N) gn) ?_;simp only [f201];unfold dF at h;refine z0 ?_;refine z0 ?_;refine lT 0 (fun (v2:Nat) (b:Unit)=>⟨tab 19 (af (af (af (af av 0 (sF 5 (a0.map Value.row))) 1 (.clo 135 [])) 7 (vI (a0.length:Int))) 8 (vI (v2:Int))),RZ⟩) () h ?_ ?_
 ·rintro v2 ⟨⟩ hi3' h;simp only [bZ] at h;refine z1 hi3' ?_;refine cf ?_;refine z0 ?_;exact e0 h
 rintro v2 ⟨⟩ x5 hi3' hx4 hw5 h;simp only [bZ] at h;refine z1 hi3' ?_;refine ct ?_;refine z0 ?_;obtain ⟨r1,hr7,h⟩:=bI h;refine z1 (k3 hx4 hi3' hr7) ?_;refine cB h (fun hc8 h=>?_) fun hc8 h=>?_
 ·refine z1 hc8 ?_;exact e0 h
 refine z1 (k2 hw5 hc8) ?_;first|refine ⟨(),?_,h⟩|refine ⟨hi3',(),?_,h⟩
 exact wR
@[go_sem] def gh (N:Nat):FnS:={ own:=[],pure:=true,fn:=fun cs=>match cs with
 | [c0,.clo 135 []]=>((aJ 5 Value.dec) c0).bind fun qc0=>(dF N qc0).map fun r=>vI r
 | _=>none }
def ql (N:Nat):aC prog 201 (gh N):=by
 refine ⟨fun cs r h=>?_,fun h=>by cases h⟩;simp only [gh] at h;split at h
 ·simp only [abZ,abY] at h;obtain ⟨q0,h0,r',hr,rfl⟩:=h;exact (ag (sJ N q0 r' hr))
 ·cases h
@[go_sem] def qX (N d f:Nat):Option FnS:=ay [(7,201,gh N)] d f
def qN (N:Nat) (a0:List Value) (r:Bool) (h:b9 N a0=some r):Con prog 134 [] true [sF 5 (a0.map Value.row),.clo 135 []] (vB r):=by
 refine fk (G:=(qX N)) func134 (gc 7 (ql N) gn) ?_;simp only [f134];unfold b9 at h;refine z0 ?_;obtain ⟨r1,hr1,h⟩:=bI h;refine z1 hr1 ?_;exact e0 h
@[go_sem] def fw (N:Nat):FnS:={ own:=[],pure:=true,fn:=fun cs=>match cs with
 | [c0,.clo 135 []]=>((aJ 5 Value.dec) c0).bind fun qc0=>(b9 N qc0).map fun r=>vB r
 | _=>none }
def oQ (N:Nat):aC prog 134 (fw N):=by
 refine ⟨fun cs r h=>?_,fun h=>by cases h⟩;simp only [fw] at h;split at h
 ·simp only [abZ,abY] at h;obtain ⟨q0,h0,r',hr,rfl⟩:=h;exact (ag (qN N q0 r' hr))
 ·cases h
@[go_sem] def JC (N d f:Nat):Option FnS:=ay [(8,134,fw N)] d f
def Jv (N:Nat) (a0:List Value) (r:Bool) (h:kL N a0=some r):Con prog 60 [] true [sF 5 (a0.map Value.row)] (vB r):=by
 refine fk (G:=(JC N)) func60 (gc 8 (oQ N) gn) ?_;simp only [f60];unfold kL at h;refine z0 ?_;refine iD h (fun hc1 hc1d h=>?_) fun hc1 hc1d h=>?_
 ·obtain ⟨r1,hr2,h⟩:=bI h;refine z1 (k2 hc1d hr2) ?_;exact e0 h
 refine z1 hc1d ?_;exact e0 h
@[go_sem] def wb (N:Nat):FnS:=⟨[],true,fn1 (aJ 5 Value.dec) fun q0=>(kL N q0).map fun r=>vB r,false⟩
def zj (N:Nat):aC prog 60 (wb N):=om1 (Jv N)
def Hu (N:Nat) (a0:al) (c0_0:Int) (c0_1:List Value) (c0_2:Bool) (r:Bool) (h:k8 N a0 c0_0 c0_1 c0_2=some r):Con prog 192 [] true [.agg (al.row a0),.iref 3 [[vI c0_0,sF 5 (c0_1.map Value.row),vB c0_2]] 0 0] (vB r):=by
 refine fk (G:=(ay [])) func192 gn ?_;simp only [f192];unfold k8 at h;refine z0 ?_;refine z0 ?_;exact e0 h
@[go_sem] def tQ (N:Nat):FnS:={ own:=[],pure:=true,fn:=fun cs=>match cs with
 | [c0,.iref 3 [[c1_0,c1_1,c1_2]] 0 0]=>(al.decA c0).bind fun qc0=>((aG .i64) c1_0).bind fun qc1_0=>((aJ 5 Value.dec) c1_1).bind fun qc1_1=>(CZ c1_2).bind fun qc1_2=>(k8 N qc0 qc1_0 qc1_1 qc1_2).map fun r=>vB r
 | _=>none }
def DM (N:Nat):aC prog 192 (tQ N):=by
 refine ⟨fun cs r h=>?_,fun h=>by cases h⟩;simp only [tQ] at h;split at h
 ·simp only [abZ,abY] at h;obtain ⟨q0,h0,q1,h1,q2,h2,q3,h3,r',hr,rfl⟩:=h;exact (ag (Hu N q0 q1 q2 q3 r' hr))
 ·cases h
@[go_sem] def s8 (N d f:Nat):Option FnS:=ay [(16,192,tQ N)] d f
def sS (N:Nat) (a0:List al) (k1_0_0:Int) (k1_0_1:List Value) (k1_0_2:Bool) (r:Int) (h:dE N a0 k1_0_0 k1_0_1 k1_0_2=some r):Con prog 186 [] true [sF 3 (a0.map al.row),.clo 192 [.iref 3 [[vI k1_0_0,sF 5 (k1_0_1.map Value.row),vB k1_0_2]] 0 0]] (vI r):=by
 refine fk (G:=(s8 N)) func186 (gc 16 (DM N) gn) ?_;simp only [f186];unfold dE at h;refine z0 ?_;refine z0 ?_;refine lT 0 (fun (v2:Nat) (b:Unit)=>⟨tab 19 (af (af (af (af av 0 (sF 3 (a0.map al.row))) 1 (.clo 192 [.iref 3 [[vI k1_0_0,sF 5 (k1_0_1.map Value.row),vB k1_0_2]] 0 0])) 7 (vI (a0.length:Int))) 8 (vI (v2:Int))),RZ⟩) () h ?_ ?_
 ·rintro v2 ⟨⟩ hi3' h;simp only [da] at h;refine z1 hi3' ?_;refine cf ?_;refine z0 ?_;exact e0 h
 rintro v2 ⟨⟩ x5 hi3' hx4 hw5 h;simp only [da] at h;refine z1 hi3' ?_;refine ct ?_;refine z0 ?_;obtain ⟨r1,hr7,h⟩:=bI h;refine z1 (k3 hx4 hi3' hr7) ?_;refine cB h (fun hc8 h=>?_) fun hc8 h=>?_
 ·refine z1 hc8 ?_;exact e0 h
 refine z1 (k2 hw5 hc8) ?_;first|refine ⟨(),?_,h⟩|refine ⟨hi3',(),?_,h⟩
 exact wR
@[go_sem] def gf (N:Nat):FnS:={ own:=[],pure:=true,fn:=fun cs=>match cs with
 | [c0,.clo 192 [.iref 3 [[k1_0_0,k1_0_1,k1_0_2]] 0 0]]=>((aJ 3 al.dec) c0).bind fun qc0=>((aG .i64) k1_0_0).bind fun qk1_0_0=>((aJ 5 Value.dec) k1_0_1).bind fun qk1_0_1=>(CZ k1_0_2).bind fun qk1_0_2=>(dE N qc0 qk1_0_0 qk1_0_1 qk1_0_2).map fun r=>vI r
 | _=>none }
def qp (N:Nat):aC prog 186 (gf N):=by
 refine ⟨fun cs r h=>?_,fun h=>by cases h⟩;simp only [gf] at h;split at h
 ·simp only [abZ,abY] at h;obtain ⟨q0,h0,q1,h1,q2,h2,q3,h3,r',hr,rfl⟩:=h;exact (ag (sS N q0 q1 q2 q3 r' hr))
 ·cases h
@[go_sem] def ra (N d f:Nat):Option FnS:=ay [(7,186,gf N)] d f
def qK (N:Nat) (a0:List al) (k1_0_0:Int) (k1_0_1:List Value) (k1_0_2:Bool) (r:Bool) (h:be N a0 k1_0_0 k1_0_1 k1_0_2=some r):Con prog 191 [] true [sF 3 (a0.map al.row),.clo 192 [.iref 3 [[vI k1_0_0,sF 5 (k1_0_1.map Value.row),vB k1_0_2]] 0 0]] (vB r):=by
 refine fk (G:=(ra N)) func191 (gc 7 (qp N) gn) ?_;simp only [f191];unfold be at h;refine z0 ?_;obtain ⟨r1,hr1,h⟩:=bI h;refine z1 hr1 ?_;exact e0 h
@[go_sem] def fA (N:Nat):FnS:={ own:=[],pure:=true,fn:=fun cs=>match cs with
 | [c0,.clo 192 [.iref 3 [[k1_0_0,k1_0_1,k1_0_2]] 0 0]]=>((aJ 3 al.dec) c0).bind fun qc0=>((aG .i64) k1_0_0).bind fun qk1_0_0=>((aJ 5 Value.dec) k1_0_1).bind fun qk1_0_1=>(CZ k1_0_2).bind fun qk1_0_2=>(be N qc0 qk1_0_0 qk1_0_1 qk1_0_2).map fun r=>vB r
 | _=>none }
def o9 (N:Nat):aC prog 191 (fA N):=by
 refine ⟨fun cs r h=>?_,fun h=>by cases h⟩;simp only [fA] at h;split at h
 ·simp only [abZ,abY] at h;obtain ⟨q0,h0,q1,h1,q2,h2,q3,h3,r',hr,rfl⟩:=h;exact (ag (qK N q0 q1 q2 q3 r' hr))
 ·cases h
@[go_sem] def JL (N d f:Nat):Option FnS:=ay [(17,40,gZ N),(22,60,wb N),(42,191,fA N)] d f
def JO (N:Nat) (a0:ae) (a1:List al) (r:Bool) (h:kU N a0 a1=some r):Con prog 123 [] true [.agg (ae.row a0),sF 3 (a1.map al.row)] (vB r):=by
 refine fk (G:=(JL N)) func123 (gc 17 (fH N) (gc 22 (zj N) (gc 42 (o9 N) gn))) ?_;simp only [f123];unfold kU at h;refine z0 ?_;refine z0 ?_;refine aX (ic fun hreal2=>?_);have hl1:=hreal2.lenT 1 (by decide) (by simp only [go_sem,seval]; rfl);first|rw [ab5] at hl1|rw [fC] at hl1|rw [<-acs,ab5] at hl1
 refine rO (fun (v2:Nat) (b:Unit)=>⟨tab 48 (af (af (af (af (af av 1 (sF 3 (a1.map al.row))) 2 (pF 2)) 7 (sF 3 (a1.map al.row))) 8 (vI (a1.length:Int))) 9 (vI (v2:Int))),(upd RZ 2 (vA 3 (ae.row a0)))⟩) () h ?_ ?_
 ·refine wr ?_ ?_<;>repeat' first|rfl|constructor|simp only [go_sem,seval,ac2,acy,acS,acL]
 rintro v2 ⟨⟩ hi3 h -;rcases (ml a1 v2 hi3).symm with ⟨hi3',_,hd6⟩|⟨x5,hi3',hx4,hd6⟩
 ·rw [hd6] at h;simp only [eX] at h;refine z1 hi3' ?_;refine cf ?_;refine z0 ?_;refine fD (pp ?_);cases h;simp (config := { maxSteps := 4000000 }) only [go_sem,seval];exact ⟨_,rfl,(by exact ROk.refl _),(by repeat' (first|exact bQ.val _|refine bQ.tup ?_|refine bQ.agg ?_|exact vZ|refine jG ?_ ?_))⟩
 rw [hd6] at h;simp only [eX] at h;have hw5:=eW hi3' hl1;refine z1 hi3' ?_;refine ct ?_;refine z1 (k2 hx4 hi3') ?_;apply aW (fun (c7:Bool)=>⟨tab 48 (af (af (af (af (af (af av 1 (sF 3 (a1.map al.row))) 2 (pF 2)) 7 (sF 3 (a1.map al.row))) 8 (vI (a1.length:Int))) 9 (vI (v2:Int))) 43 (vB c7)),(upd RZ 2 (vA 3 (ae.row a0)))⟩)
 ·intro hJ7;obtain ⟨r8,hr8,h⟩:=bI h;refine iJ fun Z hZ=>?_;simp (config := { maxSteps := 4000000 }) only [go_sem,seval,hr8];refine mB rfl (fun hc9=>?_) (fun hc9=>?_)
  ·have hc9d:=decide_eq_true hc9;first|rw [if_pos hc9] at h|rw [if_pos hc9d] at h|simp only [hc9d,acw,acA,aca,if_true,if_false] at h
   simp (config := { maxSteps := 4000000 }) only [go_sem,seval,hc9d];refine hZ _ (pp (hJ7 _ true ?_ h));exact wF (k5 hx4 hi3' hw5 hr8 hc9d)
  have hc9d:=decide_eq_false hc9;first|rw [if_neg hc9] at h|rw [if_neg (ne_true_of_eq_false hc9d)] at h|simp only [hc9d,acw,acA,aca,if_true,if_false] at h
  obtain ⟨r9,hr10,h⟩:=bI h;simp (config := { maxSteps := 4000000 }) only [go_sem,seval,hc9d,hr10];refine pc rfl (fun hc11=>?_) (fun hc11=>?_)
  ·first|rw [if_neg (ne_true_of_eq_false hc11)] at h|simp only [hc11,acW,acZ,acR,ac9,acY,ada,acQ,ac0,acw,acA,aca,if_true,if_false] at h
   simp (config := { maxSteps := 4000000 }) only [go_sem,seval,hc11];refine hZ _ (pp (hJ7 _ true ?_ h));exact wF (k5 hx4 hi3' hw5 hr8 (k3 hc9d hr10 hc11))
  first|rw [if_pos hc11] at h|simp only [hc11,acW,acZ,acR,ac9,acY,ada,acQ,ac0,acw,acA,aca,if_true,if_false] at h
  simp (config := { maxSteps := 4000000 }) only [go_sem,seval,hc11];refine sw (pc rfl) (fun hc12=>?_) (fun hc12=>?_)
  ·first|rw [if_pos hc12] at h|simp only [hc12,hc11,acW,acZ,acR,ac9,acY,ada,acQ,ac0,acw,acA,aca,if_true,if_false] at h
   obtain ⟨hs16,h⟩:=jy h;try simp only [acm,adZ,acj,ady] at hs16 h
   obtain ⟨r11,hr17,h⟩:=bI h;try simp only [hc12] at hr17
   simp (config := { maxSteps := 4000000 }) only [go_sem,seval,hc12,hs16,acj,hr17];refine hZ _ (pp (hJ7 _ r11 ?_ h));exact wF (k5 hx4 hi3' hw5 hr8 (k5 hc9d hr10 hc11 hc12 (k4 hs16 @acj @acp hr17)))
  first|rw [if_neg (ne_true_of_eq_false hc12)] at h|simp only [hc12,hc11,acW,acZ,acR,ac9,acY,ada,acQ,ac0,acw,acA,aca,if_true,if_false] at h
  simp (config := { maxSteps := 4000000 }) only [go_sem,seval,hc12];refine mB rfl (fun hc13=>?_) (fun hc13=>?_)
  ·have hc13d:=decide_eq_true hc13;first|rw [if_pos hc13] at h|rw [if_pos hc13d] at h|simp only [hc13d,acw,acA,aca,if_true,if_false] at h
   simp (config := { maxSteps := 4000000 }) only [go_sem,seval,hc13d];refine hZ _ (pp (hJ7 _ true ?_ h));exact wF (k5 hx4 hi3' hw5 hr8 (k5 hc9d hr10 hc11 hc12 hc13d))
  have hc13d:=decide_eq_false hc13;first|rw [if_neg hc13] at h|rw [if_neg (ne_true_of_eq_false hc13d)] at h|simp only [hc13d,acw,acA,aca,if_true,if_false] at h
  obtain ⟨hs14,h⟩:=jy h;try simp only [acm,adZ,acj,ady] at hs14 h
  obtain ⟨r10,hr15,h⟩:=bI h;try simp only [hc12] at hr15
  simp (config := { maxSteps := 4000000 }) only [go_sem,seval,hc13d,hs14,acj,hr15];refine hZ _ (pp (hJ7 _ r10 ?_ h));exact wF (k5 hx4 hi3' hw5 hr8 (k5 hc9d hr10 hc11 hc12 (k5 hc13d hs14 @acj @acp hr15)))
 intro c7 h;unfold kv at h;refine pk rfl (fun hc18=>?_) (fun hc18=>?_)
 ·first|rw [if_pos hc18] at h|simp only [hc18,acW,acZ,acR,ac9,acY,ada,acQ,ac0,acw,acA,aca,if_true,if_false] at h
  refine z1 hc18 ?_;refine fD (pp ?_);cases h;simp (config := { maxSteps := 4000000 }) only [go_sem,seval];exact ⟨_,rfl,(by exact ROk.refl _),(by repeat' (first|exact bQ.val _|refine bQ.tup ?_|refine bQ.agg ?_|exact vZ|refine jG ?_ ?_))⟩
 first|rw [if_neg (ne_true_of_eq_false hc18)] at h|simp only [hc18,acW,acZ,acR,ac9,acY,ada,acQ,ac0,acw,acA,aca,if_true,if_false] at h
 refine z1 (k2 hw5 hc18) ?_;first|refine ⟨(),?_,h⟩|refine ⟨hi3',(),?_,h⟩
 exact wF (k4 hx4 hi3' hw5 hc18)
@[go_sem] def BA (N:Nat):FnS:=⟨[],true,fn2 ae.decA (aJ 3 al.dec) fun q0 q1=>(kU N q0 q1).map fun r=>vB r,false⟩
def FJ (N:Nat):aC prog 123 (BA N):=om2 (JO N)
@[go_sem] def MR (N d f:Nat):Option FnS:=ay [(8,188,yS N)] d f
def M9 (N:Nat) (a0:ai) (a1:Ref) (r:Int) (h:pO N a0 a1=some r):Con prog 194 [] true [.agg (ai.row a0),.agg [vS a1.Type_,vS a1.Key]] (vI r):=by
 refine fk (G:=(MR N)) func194 (gc 8 (Ax N) gn) ?_;simp only [f194];unfold pO at h;refine z0 ?_;obtain ⟨r1,hr1,h⟩:=bI h;refine z1 hr1 ?_;exact e0 h
@[go_sem] def zZ (N:Nat):FnS:=⟨[],true,fn2 ai.decA Ref.decA fun q0 q1=>(pO N q0 q1).map fun r=>vI r,false⟩
def Bz (N:Nat):aC prog 194 (zZ N):=om2 (M9 N)
@[go_sem] def tq (N d f:Nat):Option FnS:=ay [(30,194,zZ N),(46,194,zZ N)] d f
def s4 (N:Nat) (a0:List ai) (a1:Ref) (r:Int × Bool) (h:dH N a0 a1=some r):Con prog 193 [] true [sF 4 (a0.map ai.row),.agg [vS a1.Type_,vS a1.Key],.clo 194 []] (.tup [vI r.1,vB r.2]):=by
 refine fk (G:=(tq N)) func193 (gc 30 (Bz N) (gc 46 (Bz N) gn)) ?_;simp only [f193];unfold dH at h;refine z0 ?_;refine z0 ?_;refine z0 ?_;refine aM (aX (iS (fun (b:Int × Int)=>⟨tab 49 (af (af (af (af (af (af av 0 (sF 4 (a0.map ai.row))) 2 (.clo 194 [])) 4 (pF 4)) 8 (vI (a0.length:Int))) 9 (vI b.1)) 10 (vI b.2)),(upd RZ 4 (vA 2 [vS a1.Type_,vS a1.Key]))⟩) (0,(a0.length:Int)) h ?_ ?_))
 ·exact wR
 rintro n ⟨v2,v3⟩ h -;cases n with
 | zero=>simp [bf] at h
 | succ n=>
 simp only [bf] at h;refine z0 ?_;refine cDs h (fun hc1 hc1d h=>?_) fun hc1 hc1d h=>?_
 ·refine iQ (pp ?_);unfold ei at h;refine iD h (fun hc6 hc6d h=>?_) fun hc6 hc6d h=>?_
  ·obtain ⟨x11,hb7,hx8,h⟩:=aI h;obtain ⟨r12,hr9,h⟩:=bI h;refine d1 (k4 hc1d hb7 hx8 hr9) ?_;exact e0 h
  refine d1 (k2 hc1d hc6d) ?_;exact e0 h
 refine z1 hc1d ?_;obtain ⟨x9,hb2,hx3,h⟩:=aI h;obtain ⟨r10,hr4,h⟩:=bI h;refine d1 (k3 hb2 hx3 hr4) ?_;refine cD h (fun hc5 hc5d h=>?_) fun hc5 hc5d h=>?_
 ·refine z1 hc5d ?_;refine ⟨_,acK _,(IntKind.i64.wrap ((IntKind.i64.wrap (kR .u64 (IntKind.u64.wrap (IntKind.i64.wrap (v2+v3))) 1))+1),v3),?_,h⟩;exact wR
 refine z1 hc5d ?_;refine ⟨_,acK _,(v2,IntKind.i64.wrap (kR .u64 (IntKind.u64.wrap (IntKind.i64.wrap (v2+v3))) 1)),?_,h⟩;exact wR
@[go_sem] def gg (N:Nat):FnS:={ own:=[],pure:=true,fn:=fun cs=>match cs with
 | [c0,c1,.clo 194 []]=>((aJ 4 ai.dec) c0).bind fun qc0=>(Ref.decA c1).bind fun qc1=>(dH N qc0 qc1).map fun r=>.tup [vI r.1,vB r.2]
 | _=>none }
def qn (N:Nat):aC prog 193 (gg N):=by
 refine ⟨fun cs r h=>?_,fun h=>by cases h⟩;simp only [gg] at h;split at h
 ·simp only [abZ,abY] at h;obtain ⟨q0,h0,q1,h1,r',hr,rfl⟩:=h;exact (ag (s4 N q0 q1 r' hr))
 ·cases h
@[go_sem] def Pj (N d f:Nat):Option FnS:=ay [(8,193,gg N)] d f
def QK (N:Nat) (a0:List ai) (a1:Ref) (r:Int × Bool) (h:qS N a0 a1=some r):Con prog 126 [] true [sF 4 (a0.map ai.row),.agg [vS a1.Type_,vS a1.Key]] (.tup [vI r.1,vB r.2]):=by
 refine fk (G:=(Pj N)) func126 (gc 8 (qn N) gn) ?_;simp only [f126];unfold qS at h;refine z0 ?_;obtain ⟨r1,hr1,h⟩:=bI h;refine z1 hr1 ?_;exact e0 h
@[go_sem] def yK (N:Nat):FnS:=⟨[],true,fn2 (aJ 4 ai.dec) Ref.decA fun q0 q1=>(qS N q0 q1).map fun r=>.tup [vI r.1,vB r.2],false⟩
def yO (N:Nat):aC prog 126 (yK N):=om2 (QK N)
@[go_sem] def OJ (N d f:Nat):Option FnS:=ay [(8,116,mh N),(13,126,yK N)] d f
def OM (N:Nat) (a0:List ai) (a1:Ref) (r:Int) (h:oM N a0 a1=some r):Con prog 62 [] true [sF 4 (a0.map ai.row),.agg [vS a1.Type_,vS a1.Key]] (vI r):=by
 refine fk (G:=(OJ N)) func62 (gc 8 (kZ N) (gc 13 (yO N) gn)) ?_;simp only [f62];unfold oM at h;refine z0 ?_;obtain ⟨r1,hr1,h⟩:=bI h;refine z1 hr1 ?_;refine cM h (fun hc2 h=>?_) fun hc2 h=>?_
 ·refine z1 hc2 ?_;exact e0 h
 obtain ⟨r2,hr3,h⟩:=bI h;refine z1 (k2 hc2 hr3) ?_;refine z0 ?_;refine cB h (fun hc4 h=>?_) fun hc4 h=>?_
 ·obtain ⟨x3,hb5,hx6,h⟩:=aI h;refine z1 (k3 hc4 hb5 hx6) ?_;exact e0 h
 refine z1 hc4 ?_;exact e0 h
@[go_sem] def A8 (N:Nat):FnS:=⟨[],true,fn2 (aJ 4 ai.dec) Ref.decA fun q0 q1=>(oM N q0 q1).map fun r=>vI r,false⟩
def Cv (N:Nat):aC prog 62 (A8 N):=om2 (OM N)
def LF (N:Nat) (a0:ah) (c0_0:ByteArray) (c0_1:ByteArray) (r:Bool) (h:uJ N a0 c0_0 c0_1=some r):Con prog 141 [] true [.agg (ah.row a0),.iref 2 [[vS c0_0,vS c0_1]] 0 0] (vB r):=by
 refine fk (G:=(ay [])) func141 gn ?_;simp only [f141];unfold uJ at h;refine z0 ?_;refine z0 ?_;exact e0 h
@[go_sem] def yY (N:Nat):FnS:={ own:=[],pure:=true,fn:=fun cs=>match cs with
 | [c0,.iref 2 [[c1_0,c1_1]] 0 0]=>(ah.decA c0).bind fun qc0=>(du c1_0).bind fun qc1_0=>(du c1_1).bind fun qc1_1=>(uJ N qc0 qc1_0 qc1_1).map fun r=>vB r
 | _=>none }
def HA (N:Nat):aC prog 141 (yY N):=by
 refine ⟨fun cs r h=>?_,fun h=>by cases h⟩;simp only [yY] at h;split at h
 ·simp only [abZ,abY] at h;obtain ⟨q0,h0,q1,h1,q2,h2,r',hr,rfl⟩:=h;exact (ag (LF N q0 q1 q2 r' hr))
 ·cases h
@[go_sem] def sQ (N d f:Nat):Option FnS:=ay [(16,141,yY N)] d f
def sW (N:Nat) (a0:List ah) (k1_0_0:ByteArray) (k1_0_1:ByteArray) (r:Int) (h:dG N a0 k1_0_0 k1_0_1=some r):Con prog 203 [] true [sF 4 (a0.map ah.row),.clo 141 [.iref 2 [[vS k1_0_0,vS k1_0_1]] 0 0]] (vI r):=by
 refine fk (G:=(sQ N)) func203 (gc 16 (HA N) gn) ?_;simp only [f203];unfold dG at h;refine z0 ?_;refine z0 ?_;refine lT 0 (fun (v2:Nat) (b:Unit)=>⟨tab 19 (af (af (af (af av 0 (sF 4 (a0.map ah.row))) 1 (.clo 141 [.iref 2 [[vS k1_0_0,vS k1_0_1]] 0 0])) 7 (vI (a0.length:Int))) 8 (vI (v2:Int))),RZ⟩) () h ?_ ?_
 ·rintro v2 ⟨⟩ hi3' h;simp only [db] at h;refine z1 hi3' ?_;refine cf ?_;refine z0 ?_;exact e0 h
 rintro v2 ⟨⟩ x5 hi3' hx4 hw5 h;simp only [db] at h;refine z1 hi3' ?_;refine ct ?_;refine z0 ?_;obtain ⟨r1,hr7,h⟩:=bI h;refine z1 (k3 hx4 hi3' hr7) ?_;refine cB h (fun hc8 h=>?_) fun hc8 h=>?_
 ·refine z1 hc8 ?_;exact e0 h
 refine z1 (k2 hw5 hc8) ?_;first|refine ⟨(),?_,h⟩|refine ⟨hi3',(),?_,h⟩
 exact wR
@[go_sem] def gj (N:Nat):FnS:={ own:=[],pure:=true,fn:=fun cs=>match cs with
 | [c0,.clo 141 [.iref 2 [[k1_0_0,k1_0_1]] 0 0]]=>((aJ 4 ah.dec) c0).bind fun qc0=>(du k1_0_0).bind fun qk1_0_0=>(du k1_0_1).bind fun qk1_0_1=>(dG N qc0 qk1_0_0 qk1_0_1).map fun r=>vI r
 | _=>none }
def qm (N:Nat):aC prog 203 (gj N):=by
 refine ⟨fun cs r h=>?_,fun h=>by cases h⟩;simp only [gj] at h;split at h
 ·simp only [abZ,abY] at h;obtain ⟨q0,h0,q1,h1,q2,h2,r',hr,rfl⟩:=h;exact (ag (sW N q0 q1 q2 r' hr))
 ·cases h
@[go_sem] def rf (N d f:Nat):Option FnS:=ay [(7,203,gj N)] d f
def qZ (N:Nat) (a0:List ah) (k1_0_0:ByteArray) (k1_0_1:ByteArray) (r:Bool) (h:dc N a0 k1_0_0 k1_0_1=some r):Con prog 140 [] true [sF 4 (a0.map ah.row),.clo 141 [.iref 2 [[vS k1_0_0,vS k1_0_1]] 0 0]] (vB r):=by
 refine fk (G:=(rf N)) func140 (gc 7 (qm N) gn) ?_;simp only [f140];unfold dc at h;refine z0 ?_;obtain ⟨r1,hr1,h⟩:=bI h;refine z1 hr1 ?_;exact e0 h
@[go_sem] def fy (N:Nat):FnS:={ own:=[],pure:=true,fn:=fun cs=>match cs with
 | [c0,.clo 141 [.iref 2 [[k1_0_0,k1_0_1]] 0 0]]=>((aJ 4 ah.dec) c0).bind fun qc0=>(du k1_0_0).bind fun qk1_0_0=>(du k1_0_1).bind fun qk1_0_1=>(dc N qc0 qk1_0_0 qk1_0_1).map fun r=>vB r
 | _=>none }
def o7 (N:Nat):aC prog 140 (fy N):=by
 refine ⟨fun cs r h=>?_,fun h=>by cases h⟩;simp only [fy] at h;split at h
 ·simp only [abZ,abY] at h;obtain ⟨q0,h0,q1,h1,q2,h2,r',hr,rfl⟩:=h;exact (ag (qZ N q0 q1 q2 r' hr))
 ·cases h
@[go_sem] def Ov (N d f:Nat):Option FnS:=ay [(7,140,fy N)] d f
def OP (N:Nat) (a0:List ah) (a1:Ref) (r:Bool) (h:oI N a0 a1=some r):Con prog 68 [] true [sF 4 (a0.map ah.row),.agg [vS a1.Type_,vS a1.Key]] (vB r):=by
 refine fk (G:=(Ov N)) func68 (gc 7 (o7 N) gn) ?_;simp only [f68];unfold oI at h;refine z0 ?_;obtain ⟨r1,hr1,h⟩:=bI h;refine z1 hr1 ?_;exact e0 h
@[go_sem] def Az (N:Nat):FnS:=⟨[],true,fn2 (aJ 4 ah.dec) Ref.decA fun q0 q1=>(oI N q0 q1).map fun r=>vB r,false⟩
def Ct (N:Nat):aC prog 68 (Az N):=om2 (OP N)
@[go_sem] def OH (N d f:Nat):Option FnS:=ay [(9,104,kd N),(14,104,kd N),(16,103,Ca N)] d f
def G9 (N:Nat) (a0:Ref) (a1:Ref) (r:Int) (h:il N a0 a1=some r):Con prog 43 [] true [.agg [vS a0.Type_,vS a0.Key],.agg [vS a1.Type_,vS a1.Key]] (vI r):=by
 refine fk (G:=(OH N)) func43 (gc 9 (kI N) (gc 14 (kI N) (gc 16 (Db N) gn))) ?_;simp only [f43];unfold il at h;refine z0 ?_;obtain ⟨r1,hr1,h⟩:=bI h;obtain ⟨r2,hr2,h⟩:=bI h;obtain ⟨r3,hr3,h⟩:=bI h;refine d1 (k3 hr1 hr2 hr3) ?_;exact e0 h
@[go_sem] def wM (N:Nat):FnS:=⟨[],true,fn2 Ref.decA Ref.decA fun q0 q1=>(il N q0 q1).map fun r=>vI r,false⟩
def wX (N:Nat):aC prog 43 (wM N):=om2 (G9 N)
@[go_sem] def Ju (N d f:Nat):Option FnS:=ay [(36,123,BA N),(55,62,A8 N),(72,40,gZ N),(82,68,Az N),(29,43,wM N)] d f
def JD (N:Nat) (a0:ae) (r:Bool) (h:mW N a0=some r):Con prog 54 [] true [.agg (ae.row a0)] (vB r):=by
 refine fk (G:=(Ju N)) func54 (gc 36 (FJ N) (gc 55 (Cv N) (gc 72 (fH N) (gc 82 (Ct N) (gc 29 (wX N) gn))))) ?_;simp only [f54];unfold mW at h;refine z0 ?_;refine z0 ?_;refine lT 10 (fun (v2:Nat) (b:Unit)=>⟨tab 98 (af (af (af (af av 1 (pF 1)) 10 (sF 3 (a0.Stacks.map aa.row))) 11 (vI (a0.Stacks.length:Int))) 12 (vI (v2:Int))),(upd RZ 1 (vA 3 (ae.row a0)))⟩) () h ?_ ?_
 ·rintro v2 ⟨⟩ hi3' h;simp only [eY] at h;refine z1 hi3' ?_;refine cf ?_;refine z0 ?_;exact e0 h
 rintro v2 ⟨⟩ x5 hi3' hx4 hw5 h;simp only [eY] at h;refine z1 hi3' ?_;refine ct ?_;refine z1 (k2 hx4 hi3') ?_;refine aM ?_;apply aW (fun (c11:Bool)=>⟨tab 98 (af (af (af (af (af (af av 1 (pF 1)) 4 (pF 4)) 10 (sF 3 (a0.Stacks.map aa.row))) 11 (vI (a0.Stacks.length:Int))) 12 (vI (v2:Int))) 38 (vB c11)),(upd (upd RZ 1 (vA 3 (ae.row a0))) 4 (vA 3 (aa.row x5)))⟩)
 ·intro hJ7;refine kQ fun Z hZ=>?_;simp only [go_sem,seval];refine sw (mB rfl) (fun hc8=>?_) (fun hc8=>?_)
  ·have hc8d:=decide_eq_false hc8;rw [if_neg hc8] at h;obtain ⟨r15,hr14,h⟩:=bI h;simp only [go_sem,seval,hc8d,hr14];repeat with_reducible refine fZ (by kernel_rfl) ?_
   refine hZ _ (by kernel_rfl) (pp (hJ7 _ (!r15) ?_ h));exact wR
  have hc8d:=decide_eq_true hc8;rw [if_pos hc8] at h;obtain ⟨x12,hb9,hx10,h⟩:=aI h;obtain ⟨r13,hr11,h⟩:=bI h;simp only [go_sem,seval,hc8d,hb9,hx10,hr11];repeat with_reducible refine fZ (by kernel_rfl) ?_
  refine mB rfl (fun hc12=>?_) (fun hc12=>?_)
  ·have hc12d:=decide_eq_true hc12;rw [if_pos hc12] at h;simp only [go_sem,seval,hc12d];refine hZ _ (by kernel_rfl) (pp (hJ7 _ true ?_ h));exact wR
  have hc12d:=decide_eq_false hc12;rw [if_neg hc12] at h;obtain ⟨r14,hr13,h⟩:=bI h;simp only [go_sem,seval,hc12d,hr13];repeat with_reducible refine fZ (by kernel_rfl) ?_
  refine hZ _ (by kernel_rfl) (pp (hJ7 _ (!r14) ?_ h));exact wR
 intro c11 h;unfold kz at h;refine cB h (fun hc15 h=>?_) fun hc15 h=>?_
 ·refine z1 hc15 ?_;exact e0 h
 refine bc (pp ?_);unfold kg at h;obtain ⟨x16,hb16,hx17,h⟩:=aI h;refine z1 (k3 hc15 hb16 hx17) ?_;refine aM ?_;apply aW (fun (c21:Bool)=>⟨tab 98 (af (af (af (af (af (af av 1 (pF 1)) 4 (pF 4)) 10 (sF 3 (a0.Stacks.map aa.row))) 11 (vI (a0.Stacks.length:Int))) 12 (vI (v2:Int))) 59 (vB c21)),(upd (upd RZ 1 (vA 3 (ae.row a0))) 4 (vA 3 (aa.row x5)))⟩)
 ·intro hJ18;refine iBs h (fun hc19 h=>?_) fun hc19 h=>?_
  ·obtain ⟨r22,hr20,h⟩:=bI h;refine d1 (k2 hc19 hr20) ?_;refine hJ18 _ (!decide (r22=x16.Txn_)) ?_ h;exact wR
  refine d1 hc19 ?_;refine hJ18 _ false ?_ h;exact wR
 intro c21 h;unfold mH at h;refine cB h (fun hc21 h=>?_) fun hc21 h=>?_
 ·refine z1 hc21 ?_;exact e0 h
 unfold mu at h;refine z1 hc21 ?_;refine lT 61 (fun (v20:Nat) (b:Unit)=>⟨tab 98 (af (af (af (af (af (af (af (af av 1 (pF 1)) 4 (pF 4)) 10 (sF 3 (a0.Stacks.map aa.row))) 11 (vI (a0.Stacks.length:Int))) 12 (vI (v2:Int))) 61 (sF 3 (x5.Layers.map al.row))) 62 (vI (x5.Layers.length:Int))) 63 (vI (v20:Int))),(upd (upd RZ 1 (vA 3 (ae.row a0))) 4 (vA 3 (aa.row x5)))⟩) () h ?_ ?_
 ·rintro v20 ⟨⟩ hi24' h;simp only [fG] at h;refine z1 hi24' ?_;refine cf ?_;refine z1 hw5 ?_;first|refine ⟨(),?_,h⟩|refine ⟨hi3',(),?_,h⟩
  exact wR
 rintro v20 ⟨⟩ x23 hi24' hx25 hw26 h;simp only [fG] at h;refine z1 hi24' ?_;refine ct ?_;refine z1 (k2 hx25 hi24') ?_;obtain ⟨r23,hr28,h⟩:=bI h;obtain ⟨x24,hb29,hx30,h⟩:=aI h;refine d1 (k3 hr28 hb29 hx30) ?_;apply aW (fun (c27:Bool)=>⟨tab 98 (af (af (af (af (af (af (af (af (af av 1 (pF 1)) 4 (pF 4)) 10 (sF 3 (a0.Stacks.map aa.row))) 11 (vI (a0.Stacks.length:Int))) 12 (vI (v2:Int))) 61 (sF 3 (x5.Layers.map al.row))) 62 (vI (x5.Layers.length:Int))) 63 (vI (v20:Int))) 95 (vB c27)),(upd (upd RZ 1 (vA 3 (ae.row a0))) 4 (vA 3 (aa.row x5)))⟩)
 ·intro hJ31;obtain ⟨hs32,h⟩:=jy h;try simp only [adZ,acj,ady] at hs32 h
  obtain ⟨r28,hr33,h⟩:=bI h;refine kQ fun Z hZ=>?_;simp only [go_sem,seval,hs32,acj,hr33];repeat with_reducible refine fZ (by kernel_rfl) ?_
  refine pc rfl (fun hc34=>?_) (fun hc34=>?_)
  ·rw [if_neg (ne_true_of_eq_false hc34)] at h;simp only [go_sem,seval,hc34];refine hZ _ (by kernel_rfl) (pp (hJ31 _ true ?_ h));exact wR
  rw [if_pos hc34] at h;simp only [go_sem,seval,hc34];refine On rfl (fun hc35=>?_) (fun hc35=>?_)
  ·rw [if_pos hc35] at h;simp only [go_sem,seval,hc35];repeat with_reducible refine fZ (by kernel_rfl) ?_
   refine hZ _ (by kernel_rfl) (pp (hJ31 _ (decide (x24.Done < (x24.Calls.length:Int))) ?_ h));exact wR
  rw [if_neg (ne_true_of_eq_false hc35)] at h;simp only [go_sem,seval,hc35];refine hZ _ (by kernel_rfl) (pp (hJ31 _ false ?_ h));exact wR
 intro c27 h;unfold j7 at h;refine cB h (fun hc36 h=>?_) fun hc36 h=>?_
 ·refine z1 hc36 ?_;exact e0 h
 refine z1 (k2 hw26 hc36) ?_;first|refine ⟨(),?_,h⟩|refine ⟨hi24',(),?_,h⟩
 exact wR
@[go_sem] def BW (N:Nat):FnS:=⟨[],true,fn1 ae.decA fun q0=>(mW N q0).map fun r=>vB r,false⟩
def FI (N:Nat):aC prog 54 (BW N):=om1 (JD N)
def OI (N:Nat) (a0:aa) (c0_0:ByteArray) (c0_1:ByteArray) (r:Bool) (h:yr N a0 c0_0 c0_1=some r):Con prog 106 [] true [.agg (aa.row a0),.iref 2 [[vS c0_0,vS c0_1]] 0 0] (vB r):=by
 refine fk (G:=(ay [])) func106 gn ?_;simp only [f106];unfold yr at h;refine z0 ?_;refine z0 ?_;exact e0 h
@[go_sem] def AS (N:Nat):FnS:={ own:=[],pure:=true,fn:=fun cs=>match cs with
 | [c0,.iref 2 [[c1_0,c1_1]] 0 0]=>(aa.decA c0).bind fun qc0=>(du c1_0).bind fun qc1_0=>(du c1_1).bind fun qc1_1=>(yr N qc0 qc1_0 qc1_1).map fun r=>vB r
 | _=>none }
def JE (N:Nat):aC prog 106 (AS N):=by
 refine ⟨fun cs r h=>?_,fun h=>by cases h⟩;simp only [AS] at h;split at h
 ·simp only [abZ,abY] at h;obtain ⟨q0,h0,q1,h1,q2,h2,r',hr,rfl⟩:=h;exact (ag (OI N q0 q1 q2 r' hr))
 ·cases h
@[go_sem] def tA (N d f:Nat):Option FnS:=ay [(16,106,AS N)] d f
def tv (N:Nat) (a0:List aa) (k1_0_0:ByteArray) (k1_0_1:ByteArray) (r:Int) (h:dK N a0 k1_0_0 k1_0_1=some r):Con prog 105 [] true [sF 3 (a0.map aa.row),.clo 106 [.iref 2 [[vS k1_0_0,vS k1_0_1]] 0 0]] (vI r):=by
 refine fk (G:=(tA N)) func105 (gc 16 (JE N) gn) ?_;simp only [f105];unfold dK at h;refine z0 ?_;refine z0 ?_;refine lT 0 (fun (v2:Nat) (b:Unit)=>⟨tab 19 (af (af (af (af av 0 (sF 3 (a0.map aa.row))) 1 (.clo 106 [.iref 2 [[vS k1_0_0,vS k1_0_1]] 0 0])) 7 (vI (a0.length:Int))) 8 (vI (v2:Int))),RZ⟩) () h ?_ ?_
 ·rintro v2 ⟨⟩ hi3' h;simp only [dg] at h;refine z1 hi3' ?_;refine cf ?_;refine z0 ?_;exact e0 h
 rintro v2 ⟨⟩ x5 hi3' hx4 hw5 h;simp only [dg] at h;refine z1 hi3' ?_;refine ct ?_;refine z0 ?_;obtain ⟨r1,hr7,h⟩:=bI h;refine z1 (k3 hx4 hi3' hr7) ?_;refine cB h (fun hc8 h=>?_) fun hc8 h=>?_
 ·refine z1 hc8 ?_;exact e0 h
 refine z1 (k2 hw5 hc8) ?_;first|refine ⟨(),?_,h⟩|refine ⟨hi3',(),?_,h⟩
 exact wR
@[go_sem] def gv (N:Nat):FnS:={ own:=[],pure:=true,fn:=fun cs=>match cs with
 | [c0,.clo 106 [.iref 2 [[k1_0_0,k1_0_1]] 0 0]]=>((aJ 3 aa.dec) c0).bind fun qc0=>(du k1_0_0).bind fun qk1_0_0=>(du k1_0_1).bind fun qk1_0_1=>(dK N qc0 qk1_0_0 qk1_0_1).map fun r=>vI r
 | _=>none }
def rE (N:Nat):aC prog 105 (gv N):=by
 refine ⟨fun cs r h=>?_,fun h=>by cases h⟩;simp only [gv] at h;split at h
 ·simp only [abZ,abY] at h;obtain ⟨q0,h0,q1,h1,q2,h2,r',hr,rfl⟩:=h;exact (ag (tv N q0 q1 q2 r' hr))
 ·cases h
@[go_sem] def Rr (N d f:Nat):Option FnS:=ay [(8,105,gv N)] d f
def R8 (N:Nat) (a0:ae) (a1:Ref) (r:Int) (h:mw N a0 a1=some r):Con prog 46 [] true [.agg (ae.row a0),.agg [vS a1.Type_,vS a1.Key]] (vI r):=by
 refine fk (G:=(Rr N)) func46 (gc 8 (rE N) gn) ?_;simp only [f46];unfold mw at h;refine z0 ?_;obtain ⟨r1,hr1,h⟩:=bI h;refine z1 hr1 ?_;exact e0 h
@[go_sem] def vU (N:Nat):FnS:=⟨[],true,fn2 ae.decA Ref.decA fun q0 q1=>(mw N q0 q1).map fun r=>vI r,false⟩
def vi (N:Nat):aC prog 46 (vU N):=om2 (R8 N)
@[go_sem] def RL (N d f:Nat):Option FnS:=ay [(13,46,vU N)] d f
def RP (N:Nat) (a0:ae) (a1:Ref) (a2:Int) (r:al × Bool) (h:jE N a0 a1 a2=some r):Con prog 69 [] false [.agg (ae.row a0),.agg [vS a1.Type_,vS a1.Key],vI a2] (.tup [.agg (al.row r.1),vB r.2]):=by
 refine fk (G:=(RL N)) func69 (gc 13 (vi N) gn) ?_;simp only [f69];unfold jE at h;refine z0 ?_;obtain ⟨r1,hr1,h⟩:=bI h;refine z1 hr1 ?_;refine z0 ?_;refine cDs h (fun hc2 hc2d h=>?_) fun hc2 hc2d h=>?_
 ·refine z1 hc2d ?_;exact f0 h
 obtain ⟨x2,hb3,hx4,h⟩:=aI h;refine z1 (k2 hb3 hx4) ?_;refine lT 21 (fun (v4:Nat) (b:Unit)=>⟨tab 34 (af (af (af (af (af av 2 (vI a2)) 6 (pF 6)) 21 (sF 3 (x2.Layers.map al.row))) 22 (vI (x2.Layers.length:Int))) 23 (vI (v4:Int))),(upd RZ 6 (vA 3 [vI 0,.val (.slice none 0 0),vB false]))⟩) () h ?_ ?_
 ·rintro v4 ⟨⟩ hi7' h;simp only [sV] at h;refine z1 hi7' ?_;refine cf ?_;refine z0 ?_;exact f0 h
 rintro v4 ⟨⟩ x7 hi7' hx8 hw9 h;simp only [sV] at h;refine z1 hi7' ?_;refine ct ?_;refine z1 (k2 hx8 hi7') ?_;refine z0 ?_;refine cD h (fun hc11 hc11d h=>?_) fun hc11 hc11d h=>?_
 ·refine z1 hc11d ?_;exact f0 h
 refine z1 (k2 hw9 hc11d) ?_;first|refine ⟨(),?_,h⟩|refine ⟨hi7',(),?_,h⟩
 exact wR
@[go_sem] def sZ (N:Nat):FnS:=⟨[],false,fn3 ae.decA Ref.decA (aG .i64) fun q0 q1 q2=>(jE N q0 q1 q2).map fun r=>.tup [.agg (al.row r.1),vB r.2],false⟩
def qM (N:Nat):aC prog 69 (sZ N):=om3 (RP N)
@[go_sem] def Hn (N d f:Nat):Option FnS:=ay [(41,69,sZ N),(60,40,gZ N),(69,69,sZ N),(115,40,gZ N)] d f
def HE (N:Nat) (a0:ae) (r:Bool) (h:lf N a0=some r):Con prog 55 [] true [.agg (ae.row a0)] (vB r):=by
 refine fk (G:=(Hn N)) func55 (gc 41 (qM N) (gc 60 (fH N) (gc 69 (qM N) (gc 115 (fH N) gn)))) ?_;simp only [f55];unfold lf at h;refine z0 ?_;refine z0 ?_;refine lTs 19 (fun (v2:Nat) (b:Unit)=>⟨tab 138 (af (af (af (af av 1 (pF 1)) 19 (sF 11 (a0.Txns.map Txn.row))) 20 (vI (a0.Txns.length:Int))) 21 (vI (v2:Int))),(upd RZ 1 (vA 3 (ae.row a0)))⟩) () h ?_ ?_
 ·rintro v2 ⟨⟩ x5 hi3' hx4 hw5 h;simp only [jo] at h;refine z1 hi3' ?_;refine ct ?_;refine z1 (k2 hx4 hi3') ?_;obtain ⟨hs7,h⟩:=jy h;try simp only [adZ,acj,ady] at hs7 h
  refine z1 (k2 hs7 @acj) ?_;refine lT 29 (fun (v9:Nat) (b:Unit)=>⟨tab 138 (af (af (af (af (af (af (af (af av 1 (pF 1)) 4 (pF 4)) 19 (sF 11 (a0.Txns.map Txn.row))) 20 (vI (a0.Txns.length:Int))) 21 (vI (v2:Int))) 29 (sF 4 ((x5.Calls.take ((x5.Done).toNat)).map ah.row))) 30 (vI (((x5.Calls.take ((x5.Done).toNat)).length:Nat):Int))) 31 (vI (v9:Int))),(upd (upd RZ 1 (vA 3 (ae.row a0))) 4 (vA 11 (Txn.row x5)))⟩) () h ?_ ?_
  ·rintro v9 ⟨⟩ hi10' h;simp only [gV] at h;refine z1 hi10' ?_;refine cf ?_;refine z1 hw5 ?_;first|refine ⟨(),?_,h⟩|refine ⟨hi3',(),?_,h⟩
   exact wR
  rintro v9 ⟨⟩ x12 hi10' hx11 hw12 h;simp only [gV] at h;refine z1 hi10' ?_;refine ct ?_;refine z1 (k2 hx11 hi10') ?_;obtain ⟨r15,hr14,h⟩:=bI h;refine z1 hr14 ?_;refine z0 ?_;refine cM h (fun hc15 h=>?_) fun hc15 h=>?_
  ·refine z1 hc15 ?_;exact e0 h
  refine z1 (k2 hw12 hc15) ?_;first|refine ⟨(),?_,h⟩|refine ⟨hi10',(),?_,h⟩
  exact wR
 rintro v2 ⟨⟩ hi3' h;simp only [jo] at h;refine z1 hi3' ?_;refine cf ?_;unfold oE at h;refine z0 ?_;refine lT 49 (fun (v17:Nat) (b:Unit)=>⟨tab 138 (af (af (af (af av 1 (pF 1)) 49 (sF 4 (a0.Locks.map ai.row))) 50 (vI (a0.Locks.length:Int))) 51 (vI (v17:Int))),(upd RZ 1 (vA 3 (ae.row a0)))⟩) () h ?_ ?_
 ·rintro v17 ⟨⟩ hi18' h;simp only [bW] at h;refine z1 hi18' ?_;refine cf ?_;refine z0 ?_;exact e0 h
 rintro v17 ⟨⟩ x20 hi18' hx19 hw20 h;simp only [bW] at h;refine z1 hi18' ?_;refine ct ?_;refine z1 (k2 hx19 hi18') ?_;obtain ⟨r16,hr22,h⟩:=bI h;obtain ⟨x17,hb23,hx24,h⟩:=aI h;refine d1 (k3 hr22 hb23 hx24) ?_;obtain ⟨r18,hr25,h⟩:=bI h;refine z1 hr25 ?_;refine z0 ?_;refine aM ?_;apply aW (fun (c24:Bool)=>⟨tab 138 (af (af (af (af (af (af av 1 (pF 1)) 10 (pF 10)) 49 (sF 4 (a0.Locks.map ai.row))) 50 (vI (a0.Locks.length:Int))) 51 (vI (v17:Int))) 103 (vB c24)),(upd (upd RZ 1 (vA 3 (ae.row a0))) 10 (vA 4 (ai.row x20)))⟩)
 ·intro hJ26;refine iD h (fun hc27 hc27d h=>?_) fun hc27 hc27d h=>?_
  ·refine iBs h (fun hc30 h=>?_) fun hc30 h=>?_
   ·obtain ⟨x25,hb31,hx32,h⟩:=aI h;refine d1 (k4 hc27d hc30 hb31 hx32) ?_;refine hJ26 _ (!(sEq x25.Target.Type_ x20.Actor.Type_ && sEq x25.Target.Key x20.Actor.Key)) ?_ h;exact wR
   refine d1 (k2 hc27d hc30) ?_;refine hJ26 _ false ?_ h;exact wR
  refine iBs h (fun hc28 h=>?_) fun hc28 h=>?_
  ·refine d1 (k2 hc27d hc28) ?_;refine hJ26 _ true ?_ h;exact wR
  refine iB h (fun hc29 h=>?_) fun hc29 h=>?_
  ·refine d1 (k3 hc27d hc28 hc29) ?_;refine hJ26 _ true ?_ h;exact wR
  refine d1 (k3 hc27d hc28 hc29) ?_;refine hJ26 _ false ?_ h;exact wR
 intro c24 h;unfold fL at h;refine cB h (fun hc33 h=>?_) fun hc33 h=>?_
 ·refine z1 hc33 ?_;exact e0 h
 unfold fM at h;refine z1 hc33 ?_;refine lT 105 (fun (v30:Nat) (b:Unit)=>⟨tab 138 (af (af (af (af (af (af (af (af av 1 (pF 1)) 10 (pF 10)) 49 (sF 4 (a0.Locks.map ai.row))) 50 (vI (a0.Locks.length:Int))) 51 (vI (v17:Int))) 105 (sF 1 (x20.Waiters.map (aA .i64)))) 106 (vI (x20.Waiters.length:Int))) 107 (vI (v30:Int))),(upd (upd RZ 1 (vA 3 (ae.row a0))) 10 (vA 4 (ai.row x20)))⟩) () h ?_ ?_
 ·rintro v30 ⟨⟩ hi36' h;simp only [fK] at h;refine z1 hi36' ?_;refine cf ?_;refine z1 hw20 ?_;first|refine ⟨(),?_,h⟩|refine ⟨hi18',(),?_,h⟩
  exact wR
 rintro v30 ⟨⟩ x33 hi36' hx37 hw38 h;simp only [fK] at h;refine z1 hi36' ?_;refine ct ?_;refine z1 (k2 hx37 hi36') ?_;obtain ⟨r26,hr40,h⟩:=bI h;obtain ⟨x27,hb41,hx42,h⟩:=aI h;refine d1 (k3 hr40 hb41 hx42) ?_;apply aW (fun (c29:Bool)=>⟨tab 138 (af (af (af (af (af (af (af (af (af av 1 (pF 1)) 10 (pF 10)) 49 (sF 4 (a0.Locks.map ai.row))) 50 (vI (a0.Locks.length:Int))) 51 (vI (v17:Int))) 105 (sF 1 (x20.Waiters.map (aA .i64)))) 106 (vI (x20.Waiters.length:Int))) 107 (vI (v30:Int))) 135 (vB c29)),(upd (upd RZ 1 (vA 3 (ae.row a0))) 10 (vA 4 (ai.row x20)))⟩)
 ·intro hJ43;refine kQ fun Z hZ=>?_;simp only [go_sem,seval];repeat with_reducible refine fZ (by kernel_rfl) ?_
  refine mB rfl (fun hc44=>?_) (fun hc44=>?_)
  ·have hc44d:=decide_eq_true hc44;rw [if_pos hc44] at h;simp only [go_sem,seval,hc44d];refine hZ _ (by kernel_rfl) (pp (hJ43 _ true ?_ h));exact wR
  have hc44d:=decide_eq_false hc44;rw [if_neg hc44] at h;obtain ⟨x30,hb45,hx46,h⟩:=aI h;simp only [go_sem,seval,hc44d,hb45,hx46];refine hZ _ (by kernel_rfl) (pp (hJ43 _ (!(sEq x30.Target.Type_ x20.Actor.Type_ && sEq x30.Target.Key x20.Actor.Key)) ?_ h));exact wR
 intro c29 h;unfold ot at h;refine cB h (fun hc47 h=>?_) fun hc47 h=>?_
 ·refine z1 hc47 ?_;exact e0 h
 refine z1 (k2 hw38 hc47) ?_;first|refine ⟨(),?_,h⟩|refine ⟨hi36',(),?_,h⟩
 exact wR
@[go_sem] def z8 (N:Nat):FnS:=⟨[],true,fn1 ae.decA fun q0=>(lf N q0).map fun r=>vB r,false⟩
def DL (N:Nat):aC prog 55 (z8 N):=om1 (HE N)
def H7 (N:Nat) (a0:List Int) (a1:Int) (r:Int) (h:pX N a0 a1=some r):Con prog 184 [] true [sF 1 (a0.map (aA .i64)),vI a1] (vI r):=by
 refine fk (G:=(ay [])) func184 gn ?_;simp only [f184];unfold pX at h;refine z0 ?_;refine z0 ?_;refine lT 0 (fun (v2:Nat) (b:Unit)=>⟨tab 19 (af (af (af (af av 0 (sF 1 (a0.map (aA .i64)))) 1 (vI a1)) 7 (vI (a0.length:Int))) 8 (vI (v2:Int))),RZ⟩) () h ?_ ?_
 ·rintro v2 ⟨⟩ hi3' h;simp only [jK] at h;refine z1 hi3' ?_;refine cf ?_;refine z0 ?_;exact e0 h
 rintro v2 ⟨⟩ x5 hi3' hx4 hw5 h;simp only [jK] at h;refine z1 hi3' ?_;refine ct ?_;refine z0 ?_;refine z1 (k2 hx4 hi3') ?_;refine cD h (fun hc7 hc7d h=>?_) fun hc7 hc7d h=>?_
 ·refine z1 hc7d ?_;exact e0 h
 refine z1 (k2 hw5 hc7d) ?_;first|refine ⟨(),?_,h⟩|refine ⟨hi3',(),?_,h⟩
 exact wR
@[go_sem] def Aq (N:Nat):FnS:=⟨[],true,fn2 (aJ 1 (dP (aG .i64))) (aG .i64) fun q0 q1=>(pX N q0 q1).map fun r=>vI r,false⟩
def EY (N:Nat):aC prog 184 (Aq N):=om2 (H7 N)
@[go_sem] def Fe (N d f:Nat):Option FnS:=ay [(7,184,Aq N)] d f
def FQ (N:Nat) (a0:List Int) (a1:Int) (r:Bool) (h:dL N a0 a1=some r):Con prog 108 [] true [sF 1 (a0.map (aA .i64)),vI a1] (vB r):=by
 refine fk (G:=(Fe N)) func108 (gc 7 (EY N) gn) ?_;simp only [f108];unfold dL at h;refine z0 ?_;obtain ⟨r1,hr1,h⟩:=bI h;refine z1 hr1 ?_;exact e0 h
@[go_sem] def fN (N:Nat):FnS:=⟨[],true,fn2 (aJ 1 (dP (aG .i64))) (aG .i64) fun q0 q1=>(dL N q0 q1).map fun r=>vB r,false⟩
def fY (N:Nat):aC prog 108 (fN N):=om2 (FQ N)
@[go_sem] def RQ (N d f:Nat):Option FnS:=ay [(38,108,fN N)] d f
def RI (N:Nat) (a0:ae) (a1:Int) (a2:List Int) (r:Bool) (h:vC N a0 a1 a2=some r):Con prog 74 [] true [.agg (ae.row a0),vI a1,sF 1 (a2.map (aA .i64))] (vB r):=by
 refine fk (G:=(RQ N)) func74 (gc 38 (fY N) gn) ?_;simp only [f74];unfold vC at h;refine z0 ?_;refine z0 ?_;refine lT 13 (fun (v2:Nat) (b:Unit)=>⟨tab 43 (af (af (af (af (af av 1 (vI a1)) 2 (sF 1 (a2.map (aA .i64)))) 13 (sF 3 (a0.Stacks.map aa.row))) 14 (vI (a0.Stacks.length:Int))) 15 (vI (v2:Int))),RZ⟩) () h ?_ ?_
 ·rintro v2 ⟨⟩ hi3' h;simp only [pN] at h;refine z1 hi3' ?_;refine cf ?_;refine z0 ?_;exact e0 h
 rintro v2 ⟨⟩ x5 hi3' hx4 hw5 h;simp only [pN] at h;refine z1 hi3' ?_;refine ct ?_;refine z1 (k2 hx4 hi3') ?_;refine z0 ?_;refine z0 ?_;refine lT 20 (fun (v9:Nat) (b:Bool)=>⟨tab 43 (af (af (af (af (af (af (af (af (af av 1 (vI a1)) 2 (sF 1 (a2.map (aA .i64)))) 9 (vB b)) 13 (sF 3 (a0.Stacks.map aa.row))) 14 (vI (a0.Stacks.length:Int))) 15 (vI (v2:Int))) 20 (sF 3 (x5.Layers.map al.row))) 21 (vI (x5.Layers.length:Int))) 22 (vI (v9:Int))),RZ⟩) false h ?_ ?_
 ·rintro v9 c8 hi9' h;simp only [kP] at h;refine z1 hi9' ?_;refine cf ?_;refine z1 hw5 ?_;first|refine ⟨(),?_,h⟩|refine ⟨hi3',(),?_,h⟩
  exact wR
 rintro v9 c8 x12 hi9' hx10 hw11 h;simp only [kP] at h;refine z1 hi9' ?_;refine ct ?_;refine z1 (k2 hx10 hi9') ?_;refine aM ?_;apply aW (fun (c3:Bool)=>⟨tab 43 (af (af (af (af (af (af (af (af (af (af (af av 1 (vI a1)) 2 (sF 1 (a2.map (aA .i64)))) 9 (vB c8)) 11 (pF 11)) 13 (sF 3 (a0.Stacks.map aa.row))) 14 (vI (a0.Stacks.length:Int))) 15 (vI (v2:Int))) 20 (sF 3 (x5.Layers.map al.row))) 21 (vI (x5.Layers.length:Int))) 22 (vI (v9:Int))) 32 (vB c3)),(upd RZ 11 (vA 3 (al.row x12)))⟩)
 ·intro hJ13;refine iD h (fun hc14 hc14d h=>?_) fun hc14 hc14d h=>?_
  ·refine z1 hc14d ?_;refine hJ13 _ c8 ?_ h;exact wR
  refine z1 hc14d ?_;refine hJ13 _ false ?_ h;exact wR
 intro c3 h;unfold Ai at h;refine cB h (fun hc15 h=>?_) fun hc15 h=>?_
 ·refine z1 hc15 ?_;exact e0 h
 refine bc (pp ?_);unfold vQ at h;refine iB h (fun hc16 h=>?_) fun hc16 h=>?_
 ·refine z1 (k2 hc15 hc16) ?_;refine z1 hw11 ?_;first|refine ⟨true,?_,h⟩|refine ⟨hi9',true,?_,h⟩
  exact wR
 obtain ⟨r4,hr17,h⟩:=bI h;refine z1 (k3 hc15 hc16 hr17) ?_;refine z1 hw11 ?_;first|refine ⟨(!r4),?_,h⟩|refine ⟨hi9',(!r4),?_,h⟩
 exact wR
@[go_sem] def Dq (N:Nat):FnS:=⟨[],true,fn3 ae.decA (aG .i64) (aJ 1 (dP (aG .i64))) fun q0 q1 q2=>(vC N q0 q1 q2).map fun r=>vB r,false⟩
def En (N:Nat):aC prog 74 (Dq N):=om3 (RI N)
@[go_sem] def Oy (N d f:Nat):Option FnS:=ay [(21,108,fN N),(28,74,Dq N)] d f
def OO (N:Nat) (a0:ae) (r:Bool) (h:uS N a0=some r):Con prog 56 [] true [.agg (ae.row a0)] (vB r):=by
 refine fk (G:=(Oy N)) func56 (gc 21 (fY N) (gc 28 (En N) gn)) ?_;simp only [f56];unfold uS at h;refine z0 ?_;refine z0 ?_;refine z0 ?_;refine aX (ic fun hreal2=>?_);have hl1:=hreal2.lenT 7 (by decide) (by simp only [go_sem,seval]; rfl);first|rw [ab5] at hl1|rw [fC] at hl1|rw [<-acs,ab5] at hl1
 refine pS (fun (v3:Nat) (b:List Int)=>⟨tab 43 (af (af (af (af av 1 (pF 1)) 3 (.pal 34 [] 0 b.length none)) 8 (vI (a0.Txns.length:Int))) 9 (vI (v3:Int))),(upd (upd RZ 1 (vA 3 (ae.row a0))) 34 (sO 1 (b.map (aA .i64))))⟩) [] h ?_ ?_
 ·refine bh.trans (oD 3 34 1 (by simp only [go_sem,seval]) (by simp only [go_sem,seval])) ?_;refine wr ?_ ?_<;>repeat' first|rfl|constructor|simp only [go_sem,seval,ac2,acy,acS,acL]
 rintro v3 l2 _ h -;rcases (jL a0.Txns.length v3).symm with ⟨hi3',hd6⟩|⟨hi3',hd6⟩
 ·rw [hd6] at h;simp only [lK] at h;refine z1 hi3' ?_;refine cf ?_;refine z0 ?_;exact e0 h
 rw [hd6] at h;simp only [lK] at h;have hw5:=eW hi3' hl1;refine z1 hi3' ?_;refine ct ?_;refine z0 ?_;refine lT 12 (fun (v9:Nat) (b:List Int)=>⟨tab 43 (af (af (af (af (af (af (af av 1 (pF 1)) 3 (.pal 34 [] 0 b.length none)) 8 (vI (a0.Txns.length:Int))) 9 (vI (v3:Int))) 12 (sF 11 (a0.Txns.map Txn.row))) 13 (vI (a0.Txns.length:Int))) 14 (vI (v9:Int))),(upd (upd RZ 1 (vA 3 (ae.row a0))) 34 (sO 1 (b.map (aA .i64))))⟩) l2 h ?_ ?_ (h0:=wF (k2 hi3' hw5))
 ·rintro v9 l8 hi9' h;simp only [ke] at h;refine z1 hi9' ?_;refine cf ?_;refine z1 hw5 ?_;first|refine ⟨l8,?_,h⟩|refine ⟨hi3',l8,?_,h⟩
  exact wF (k3 hi3' hw5 hi9')
 rintro v9 l8 x12 hi9' hx10 hw11 h;simp only [ke] at h;refine z1 hi9' ?_;refine ct ?_;refine z1 (k2 hx10 hi9') ?_;apply aW (fun (c3:Bool)=>⟨tab 43 (af (af (af (af (af (af (af (af (af av 1 (pF 1)) 3 (.pal 34 [] 0 l8.length none)) 5 (pF 5)) 8 (vI (a0.Txns.length:Int))) 9 (vI (v3:Int))) 12 (sF 11 (a0.Txns.map Txn.row))) 13 (vI (a0.Txns.length:Int))) 14 (vI (v9:Int))) 29 (vB c3)),(upd (upd (upd RZ 1 (vA 3 (ae.row a0))) 5 (vA 11 (Txn.row x12))) 34 (sO 1 (l8.map (aA .i64))))⟩)
 ·intro hJ13;obtain ⟨r4,hr14,h⟩:=bI h;refine iBs h (fun hc15 h=>?_) fun hc15 h=>?_
  ·obtain ⟨r5,hr16,h⟩:=bI h;refine z1 (k3 hr14 hc15 hr16) ?_;refine hJ13 _ r5 ?_ h;exact wF (k5 hi3' hw5 hx10 hi9' (k4 hw11 hr14 hc15 hr16))
  refine z1 (k2 hr14 hc15) ?_;refine hJ13 _ false ?_ h;exact wF (k5 hi3' hw5 hx10 hi9' (k3 hw11 hr14 hc15))
 intro c3 h;unfold sE at h;refine cBs h (fun hc17 h=>?_) fun hc17 h=>?_
 ·refine z1 (k2 hw11 hc17) ?_;first|refine ⟨l8,?_,h⟩|refine ⟨hi9',l8,?_,h⟩
  exact wF (k5 hi3' hw5 hx10 hi9' (k2 hw11 hc17))
 obtain ⟨ha18,h⟩:=ey h;simp only [acf,acJ,acP,Nat.reduceAdd] at ha18;refine z1 (k2 hc17 ha18) ?_;refine z1 hw11 ?_;first|refine ⟨(l8++[x12.ID]),?_,h⟩|refine ⟨hi9',(l8++[x12.ID]),?_,h⟩
 refine wr ?_ ?_<;>repeat' first|rfl|constructor|simp only [go_sem,seval]
@[go_sem] def Fx (N:Nat):FnS:=⟨[],true,fn1 ae.decA fun q0=>(uS N q0).map fun r=>vB r,false⟩
def JK (N:Nat):aC prog 56 (Fx N):=om1 (OO N)
@[go_sem] def R4 (N d f:Nat):Option FnS:=ay [(4,52,Dv N),(7,53,Cq N),(11,54,BW N),(15,55,z8 N),(19,56,Fx N)] d f
def RF (N:Nat) (a0:ae) (r:Bool) (h:jW N a0=some r):Con prog 23 [] true [.agg (ae.row a0)] (vB r):=by
 refine fk (G:=(R4 N)) func23 (gc 4 (Hz N) (gc 7 (Gl N) (gc 11 (FI N) (gc 15 (DL N) (gc 19 (JK N) gn))))) ?_;simp only [f23];unfold jW at h;refine z0 ?_;refine aM ?_;obtain ⟨r1,hr1,h⟩:=bI h;refine iBs h (fun hc2 h=>?_) fun hc2 h=>?_
 ·refine z1 (k2 hr1 hc2) ?_;exact e0 h
 obtain ⟨r2,hr3,h⟩:=bI h;refine iBs h (fun hc4 h=>?_) fun hc4 h=>?_
 ·refine z1 (k4 hr1 hc2 hr3 hc4) ?_;exact e0 h
 obtain ⟨r3,hr5,h⟩:=bI h;refine iBs h (fun hc6 h=>?_) fun hc6 h=>?_
 ·refine z1 (k5 hr1 hc2 hr3 hc4 (k2 hr5 hc6)) ?_;exact e0 h
 obtain ⟨r4,hr7,h⟩:=bI h;refine iB h (fun hc8 h=>?_) fun hc8 h=>?_
 ·obtain ⟨r5,hr9,h⟩:=bI h;refine z1 (k5 hr1 hc2 hr3 hc4 (k5 hr5 hc6 hr7 hc8 hr9)) ?_;exact e0 h
 refine z1 (k5 hr1 hc2 hr3 hc4 (k4 hr5 hc6 hr7 hc8)) ?_;exact e0 h
@[go_sem] def mv (N:Nat):FnS:=⟨[],true,fn1 ae.decA fun q0=>(jW N q0).map fun r=>vB r,false⟩
def kG (N:Nat):aC prog 23 (mv N):=om1 (RF N)
def E0 (N:Nat) (a0:List Txn) (r:List Txn) (h:jd N a0=some r):Con prog 130 [] false [.sl false (some false) 11 none (a0.map Txn.row)] (sO 11 (r.map Txn.row)):=by
 refine fk (G:=(ay [])) func130 gn ?_;simp only [f130];unfold jd at h;refine z0 ?_;refine z0 ?_;refine cf ?_;first|rw [if_pos (rfl:true=true)] at h|rw [if_neg acV] at h|skip
 refine bc (pp (aM ?_));first|obtain ⟨ha1,h⟩:=pU h|(obtain ⟨ha1,h⟩:=ey h; rw [ach] at h)
 simp only [Nat.reduceAdd] at ha1;refine z1 ha1 ?_;exact f0 h
def Ey (N:Nat)  (r:List Txn) (h:jd N []=some r):Con prog 130 [] false [.val (.slice none 0 0)] (sO 11 (r.map Txn.row)):=by
 refine fk (G:=(ay [])) func130 gn ?_;simp only [f130];unfold jd at h;refine z0 ?_;refine z0 ?_;refine ct ?_;first|rw [if_pos (rfl:true=true)] at h|rw [if_neg acV] at h|skip
 refine z0 ?_;refine fD (pp ?_);obtain rfl:r=[]:=by simpa [apn] using h.symm
 simp only [go_sem,seval];exact ⟨_,rfl,iz.h⟩
def Ib (N:Nat) (a0:List Txn) (r:List Txn) (h:jd N a0=some r):Con prog 130 [] false [sF 11 (a0.map Txn.row)] (sO 11 (r.map Txn.row)):=
 B5 (fun e=>by obtain rfl:a0=[]:=adR.1 e; exact Ey N r h) (E0 N a0 r h)
@[go_sem] def zG (N:Nat):FnS:=⟨[],false,fn1 (aJ 11 Txn.dec) fun q0=>(jd N q0).map fun r=>sO 11 (r.map Txn.row),false⟩
def DP (N:Nat):aC prog 130 (zG N):=om1 (Ib N)
def EM (N:Nat) (a0:List ai) (r:List ai) (h:fp N a0=some r):Con prog 131 [] false [.sl false (some false) 4 none (a0.map ai.row)] (sO 4 (r.map ai.row)):=by
 refine fk (G:=(ay [])) func131 gn ?_;simp only [f131];unfold fp at h;refine z0 ?_;refine z0 ?_;refine cf ?_;first|rw [if_pos (rfl:true=true)] at h|rw [if_neg acV] at h|skip
 refine bc (pp (aM ?_));first|obtain ⟨ha1,h⟩:=pU h|(obtain ⟨ha1,h⟩:=ey h; rw [ach] at h)
 simp only [Nat.reduceAdd] at ha1;refine z1 ha1 ?_;exact f0 h
def DT (N:Nat)  (r:List ai) (h:fp N []=some r):Con prog 131 [] false [.val (.slice none 0 0)] (sO 4 (r.map ai.row)):=by
 refine fk (G:=(ay [])) func131 gn ?_;simp only [f131];unfold fp at h;refine z0 ?_;refine z0 ?_;refine ct ?_;first|rw [if_pos (rfl:true=true)] at h|rw [if_neg acV] at h|skip
 refine z0 ?_;refine fD (pp ?_);obtain rfl:r=[]:=by simpa [apn] using h.symm
 simp only [go_sem,seval];exact ⟨_,rfl,iz.h⟩
def Hr (N:Nat) (a0:List ai) (r:List ai) (h:fp N a0=some r):Con prog 131 [] false [sF 4 (a0.map ai.row)] (sO 4 (r.map ai.row)):=
 B5 (fun e=>by obtain rfl:a0=[]:=adR.1 e; exact DT N r h) (EM N a0 r h)
@[go_sem] def sX (N:Nat):FnS:=⟨[],false,fn1 (aJ 4 ai.dec) fun q0=>(fp N q0).map fun r=>sO 4 (r.map ai.row),false⟩
def vD (N:Nat):aC prog 131 (sX N):=om1 (Hr N)
def AG (N:Nat) (a0:List aa) (r:List aa) (h:eF N a0=some r):Con prog 132 [] false [.sl false (some false) 3 none (a0.map aa.row)] (sO 3 (r.map aa.row)):=by
 refine fk (G:=(ay [])) func132 gn ?_;simp only [f132];unfold eF at h;refine z0 ?_;refine z0 ?_;refine cf ?_;first|rw [if_pos (rfl:true=true)] at h|rw [if_neg acV] at h|skip
 refine bc (pp (aM ?_));first|obtain ⟨ha1,h⟩:=pU h|(obtain ⟨ha1,h⟩:=ey h; rw [ach] at h)
 simp only [Nat.reduceAdd] at ha1;refine z1 ha1 ?_;exact f0 h
def Ak (N:Nat)  (r:List aa) (h:eF N []=some r):Con prog 132 [] false [.val (.slice none 0 0)] (sO 3 (r.map aa.row)):=by
 refine fk (G:=(ay [])) func132 gn ?_;simp only [f132];unfold eF at h;refine z0 ?_;refine z0 ?_;refine ct ?_;first|rw [if_pos (rfl:true=true)] at h|rw [if_neg acV] at h|skip
 refine z0 ?_;refine fD (pp ?_);obtain rfl:r=[]:=by simpa [apn] using h.symm
 simp only [go_sem,seval];exact ⟨_,rfl,iz.h⟩
def CB (N:Nat) (a0:List aa) (r:List aa) (h:eF N a0=some r):Con prog 132 [] false [sF 3 (a0.map aa.row)] (sO 3 (r.map aa.row)):=
 B5 (fun e=>by obtain rfl:a0=[]:=adR.1 e; exact Ak N r h) (AG N a0 r h)
@[go_sem] def tF (N:Nat):FnS:=⟨[],false,fn1 (aJ 3 aa.dec) fun q0=>(eF N q0).map fun r=>sO 3 (r.map aa.row),false⟩
def zN (N:Nat):aC prog 132 (tF N):=om1 (CB N)
def Bt (N:Nat) (a0:List ah) (r:List ah) (h:eZ N a0=some r):Con prog 100 [] false [.sl false (some false) 4 none (a0.map ah.row)] (sO 4 (r.map ah.row)):=by
 refine fk (G:=(ay [])) func100 gn ?_;simp only [f100];unfold eZ at h;refine z0 ?_;refine z0 ?_;refine cf ?_;first|rw [if_pos (rfl:true=true)] at h|rw [if_neg acV] at h|skip
 refine bc (pp (aM ?_));first|obtain ⟨ha1,h⟩:=pU h|(obtain ⟨ha1,h⟩:=ey h; rw [ach] at h)
 simp only [Nat.reduceAdd] at ha1;refine z1 ha1 ?_;exact f0 h
def AY (N:Nat)  (r:List ah) (h:eZ N []=some r):Con prog 100 [] false [.val (.slice none 0 0)] (sO 4 (r.map ah.row)):=by
 refine fk (G:=(ay [])) func100 gn ?_;simp only [f100];unfold eZ at h;refine z0 ?_;refine z0 ?_;refine ct ?_;first|rw [if_pos (rfl:true=true)] at h|rw [if_neg acV] at h|skip
 refine z0 ?_;refine fD (pp ?_);obtain rfl:r=[]:=by simpa [apn] using h.symm
 simp only [go_sem,seval];exact ⟨_,rfl,iz.h⟩
def C9 (N:Nat) (a0:List ah) (r:List ah) (h:eZ N a0=some r):Con prog 100 [] false [sF 4 (a0.map ah.row)] (sO 4 (r.map ah.row)):=
 B5 (fun e=>by obtain rfl:a0=[]:=adR.1 e; exact AY N r h) (Bt N a0 r h)
@[go_sem] def uy (N:Nat):FnS:=⟨[],false,fn1 (aJ 4 ah.dec) fun q0=>(eZ N q0).map fun r=>sO 4 (r.map ah.row),false⟩
def Al (N:Nat):aC prog 100 (uy N):=om1 (C9 N)
def DS (N:Nat) (a0:List Value) (r:List Value) (h:gO N a0=some r):Con prog 139 [] false [.sl false (some false) 5 none (a0.map Value.row)] (sO 5 (r.map Value.row)):=by
 refine fk (G:=(ay [])) func139 gn ?_;simp only [f139];unfold gO at h;refine z0 ?_;refine z0 ?_;refine cf ?_;first|rw [if_pos (rfl:true=true)] at h|rw [if_neg acV] at h|skip
 refine bc (pp (aM ?_));first|obtain ⟨ha1,h⟩:=pU h|(obtain ⟨ha1,h⟩:=ey h; rw [ach] at h)
 simp only [Nat.reduceAdd] at ha1;refine z1 ha1 ?_;exact f0 h
def Da (N:Nat)  (r:List Value) (h:gO N []=some r):Con prog 139 [] false [.val (.slice none 0 0)] (sO 5 (r.map Value.row)):=by
 refine fk (G:=(ay [])) func139 gn ?_;simp only [f139];unfold gO at h;refine z0 ?_;refine z0 ?_;refine ct ?_;first|rw [if_pos (rfl:true=true)] at h|rw [if_neg acV] at h|skip
 refine z0 ?_;refine fD (pp ?_);obtain rfl:r=[]:=by simpa [apn] using h.symm
 simp only [go_sem,seval];exact ⟨_,rfl,iz.h⟩
def Gq (N:Nat) (a0:List Value) (r:List Value) (h:gO N a0=some r):Con prog 139 [] false [sF 5 (a0.map Value.row)] (sO 5 (r.map Value.row)):=
 B5 (fun e=>by obtain rfl:a0=[]:=adR.1 e; exact Da N r h) (DS N a0 r h)
@[go_sem] def w8 (N:Nat):FnS:=⟨[],false,fn1 (aJ 5 Value.dec) fun q0=>(gO N q0).map fun r=>sO 5 (r.map Value.row),false⟩
def CF (N:Nat):aC prog 139 (w8 N):=om1 (Gq N)
def Fh (N:Nat) (a0:List Int) (r:List Int) (h:eB N a0=some r):Con prog 133 [] true [.sl false (some false) 1 none (a0.map (aA .i64))] (sO 1 (r.map (aA .i64))):=by
 refine fk (G:=(ay [])) func133 gn ?_;simp only [f133];unfold eB at h;refine z0 ?_;refine z0 ?_;refine cf ?_;first|rw [if_pos (rfl:true=true)] at h|rw [if_neg acV] at h|skip
 refine bc (pp (aM ?_));first|obtain ⟨ha1,h⟩:=pU h|(obtain ⟨ha1,h⟩:=ey h; rw [ach] at h)
 simp only [Nat.reduceAdd] at ha1;refine z1 ha1 ?_;exact e0 h
def ES (N:Nat)  (r:List Int) (h:eB N []=some r):Con prog 133 [] true [.val (.slice none 0 0)] (sO 1 (r.map (aA .i64))):=by
 refine fk (G:=(ay [])) func133 gn ?_;simp only [f133];unfold eB at h;refine z0 ?_;refine z0 ?_;refine ct ?_;first|rw [if_pos (rfl:true=true)] at h|rw [if_neg acV] at h|skip
 refine z0 ?_;refine fD (pp ?_);obtain rfl:r=[]:=by simpa [apn] using h.symm
 simp only [go_sem,seval];exact ⟨_,rfl,iz.h,qI.h⟩
def Bv (N:Nat) (a0:List Int) (r:List Int) (h:eB N a0=some r):Con prog 133 [] true [sF 1 (a0.map (aA .i64))] (sO 1 (r.map (aA .i64))):=
 B5 (fun e=>by obtain rfl:a0=[]:=adR.1 e; exact ES N r h) (Fh N a0 r h)
@[go_sem] def An (N:Nat):FnS:=⟨[],true,fn1 (aJ 1 (dP (aG .i64))) fun q0=>(eB N q0).map fun r=>sF 1 (r.map (aA .i64)),false⟩
def ED (N:Nat):aC prog 133 (An N):=om1 fun q0 r h=>rs (Bv N q0 r h)
@[go_sem] def uk (N:Nat):FnS:=⟨[],true,fn1 (aJ 1 (dP (aG .i64))) fun q0=>(eB N q0).map fun r=>sO 1 (r.map (aA .i64)),false⟩
def wS (N:Nat):aC prog 133 (uk N):=om1 (Bv N)
def C6 (N:Nat) (a0:List ByteArray) (r:List ByteArray) (h:gl N a0=some r):Con prog 136 [] true [.sl false (some false) 1 none (a0.map eD)] (sO 1 (r.map eD)):=by
 refine fk (G:=(ay [])) func136 gn ?_;simp only [f136];unfold gl at h;refine z0 ?_;refine z0 ?_;refine cf ?_;first|rw [if_pos (rfl:true=true)] at h|rw [if_neg acV] at h|skip
 refine bc (pp (aM ?_));first|obtain ⟨ha1,h⟩:=pU h|(obtain ⟨ha1,h⟩:=ey h; rw [ach] at h)
 simp only [Nat.reduceAdd] at ha1;refine z1 ha1 ?_;exact e0 h
def CR (N:Nat)  (r:List ByteArray) (h:gl N []=some r):Con prog 136 [] true [.val (.slice none 0 0)] (sO 1 (r.map eD)):=by
 refine fk (G:=(ay [])) func136 gn ?_;simp only [f136];unfold gl at h;refine z0 ?_;refine z0 ?_;refine ct ?_;first|rw [if_pos (rfl:true=true)] at h|rw [if_neg acV] at h|skip
 refine z0 ?_;refine fD (pp ?_);obtain rfl:r=[]:=by simpa [apn] using h.symm
 simp only [go_sem,seval];exact ⟨_,rfl,iz.h,qI.h⟩
def FM (N:Nat) (a0:List ByteArray) (r:List ByteArray) (h:gl N a0=some r):Con prog 136 [] true [sF 1 (a0.map eD)] (sO 1 (r.map eD)):=
 B5 (fun e=>by obtain rfl:a0=[]:=adR.1 e; exact CR N r h) (C6 N a0 r h)
@[go_sem] def wP (N:Nat):FnS:=⟨[],true,fn1 (aJ 1 (dP du)) fun q0=>(gl N q0).map fun r=>sO 1 (r.map eD),false⟩
def B7 (N:Nat):aC prog 136 (wP N):=om1 (FM N)
@[go_sem] def K3 (N d f:Nat):Option FnS:=ay [(5,133,uk N),(8,136,wP N)] d f
def Dy (N:Nat) (a0:Value) (r:Value) (h:ig N a0=some r):Con prog 63 [] true [.agg (Value.row a0)] (.agg [vI r.Kind,vI r.N,vS r.S,sO 1 (r.I.map (aA .i64)),sO 1 (r.L.map eD)]):=by
 refine fk (G:=(K3 N)) func63 (gc 5 (wS N) (gc 8 (B7 N) gn)) ?_;simp only [f63];unfold ig at h;refine z0 ?_;obtain ⟨r1,hr1,h⟩:=bI h;obtain ⟨r2,hr2,h⟩:=bI h;refine d1 (k2 hr1 hr2) ?_;refine z0 ?_;exact e0 h
@[go_sem] def sA (N:Nat):FnS:=⟨[],true,fn1 Value.decA fun q0=>(ig N q0).map fun r=>.agg (Value.row r),false⟩
def uj (N:Nat):aC prog 63 (sA N):=om1 fun q0 r h=>rs (Dy N q0 r h)
@[go_sem] def BK (N:Nat):FnS:=⟨[],true,fn1 Value.decA fun q0=>(ig N q0).map fun r=>.agg [vI r.Kind,vI r.N,vS r.S,sO 1 (r.I.map (aA .i64)),sO 1 (r.L.map eD)],false⟩
def FO (N:Nat):aC prog 63 (BK N):=om1 (Dy N)
@[go_sem] def JF (N d f:Nat):Option FnS:=ay [(6,139,w8 N),(18,63,sA N)] d f
def Cw (N:Nat) (a0:List Value) (r:List Value) (h:fc N a0=some r):Con prog 67 [] false [sF 5 (a0.map Value.row)] (sO 5 (r.map Value.row)):=by
 refine fk (G:=(JF N)) func67 (gc 6 (CF N) (gc 18 (uj N) gn)) ?_;simp only [f67];unfold fc at h;refine z0 ?_;obtain ⟨r1,hr1,h⟩:=bI h;refine z1 hr1 ?_;refine z0 ?_;refine aX (ic fun hreal3=>?_);have hl2:=hreal3.lenX 6 (by simp only [go_sem,seval]; rfl);first|rw [ab5] at hl2|rw [fC] at hl2|rw [<-acs,ab5] at hl2
 refine pS (fun (v4:Nat) (b:List Value)=>⟨tab 22 (af (af (af av 3 (.pal 6 [] 0 b.length none)) 8 (vI (r1.length:Int))) 9 (vI (v4:Int))),(upd RZ 6 (sO 5 (b.map Value.row)))⟩) r1 h ?_ ?_
 ·exact wF hr1
 rintro v4 l3 _ h -;rcases (jL r1.length v4).symm with ⟨hi4',hd7⟩|⟨hi4',hd7⟩
 ·rw [hd7] at h;simp only [jk] at h;refine z1 hi4' ?_;refine cf ?_;refine z0 ?_;exact f0 h
 rw [hd7] at h;simp only [jk] at h;have hw6:=eW hi4' hl2;refine z1 hi4' ?_;refine ct ?_;refine z0 ?_;obtain ⟨x2,hb8,hx9,h⟩:=aI h;try simp only [acm] at hx9
 try simp only [ad4,adt,true_and] at hb8
 obtain ⟨r3,hr10,h⟩:=bI h;have hx12:=ld (y:=r3) hx9;refine z1 (k4 hb8 hx9 hr10 (mm2 (row:=Value.row) (y:=r3) (rx:=[vI x2.Kind,vI x2.N,vS x2.S,sF 1 (x2.I.map (aA .i64)),sF 1 (x2.L.map eD)]) (ry:=[vI r3.Kind,vI r3.N,vS r3.S,sF 1 (r3.I.map (aA .i64)),sF 1 (r3.L.map eD)]) hx9 rfl rfl)) ?_;refine z1 hw6 ?_;first|refine ⟨(l3.set v4 r3),?_,h⟩|refine ⟨hi4',(l3.set v4 r3),?_,h⟩
 refine wr ?_ ?_<;>repeat' first|rfl|constructor|simp only [go_sem,seval,acy]
@[go_sem] def ru (N:Nat):FnS:=⟨[],false,fn1 (aJ 5 Value.dec) fun q0=>(fc N q0).map fun r=>sF 5 (r.map Value.row),false⟩
def s9 (N:Nat):aC prog 67 (ru N):=om1 fun q0 r h=>rs (Cw N q0 r h)
@[go_sem] def p7 (N:Nat):FnS:=⟨[],false,fn1 (aJ 5 Value.dec) fun q0=>(fc N q0).map fun r=>sO 5 (r.map Value.row),false⟩
def rS (N:Nat):aC prog 67 (p7 N):=om1 (Cw N)
@[go_sem] def Lr (N d f:Nat):Option FnS:=ay [(5,67,p7 N)] d f
def Eo (N:Nat) (a0:ah) (r:ah) (h:lv N a0=some r):Con prog 57 [] false [.agg (ah.row a0)] (.agg [vS r.Target.Type_,vS r.Target.Key,vS r.Method,sO 5 (r.Args.map Value.row)]):=by
 refine fk (G:=(Lr N)) func57 (gc 5 (rS N) gn) ?_;simp only [f57];unfold lv at h;refine z0 ?_;obtain ⟨r1,hr1,h⟩:=bI h;refine z1 hr1 ?_;refine z0 ?_;exact f0 h
@[go_sem] def DD (N:Nat):FnS:=⟨[],false,fn1 ah.decA fun q0=>(lv N q0).map fun r=>.agg (ah.row r),false⟩
def HB (N:Nat):aC prog 57 (DD N):=om1 fun q0 r h=>rs (Eo N q0 r h)
@[go_sem] def Cx (N:Nat):FnS:=⟨[],false,fn1 ah.decA fun q0=>(lv N q0).map fun r=>.agg [vS r.Target.Type_,vS r.Target.Key,vS r.Method,sO 5 (r.Args.map Value.row)],false⟩
def F9 (N:Nat):aC prog 57 (Cx N):=om1 (Eo N)
@[go_sem] def NC (N d f:Nat):Option FnS:=ay [(6,100,uy N),(22,57,DD N),(27,63,BK N)] d f
def E1 (N:Nat) (a0:Txn) (r:Txn) (h:kN N a0=some r):Con prog 41 [] false [.agg (Txn.row a0)] (.agg [vI r.ID,vI r.Born,vS r.Client,vI r.Seq,sO 4 (r.Calls.map ah.row),vI r.Done,vI r.Last.Kind,vI r.Last.N,vS r.Last.S,sO 1 (r.Last.I.map (aA .i64)),sO 1 (r.Last.L.map eD)]):=by
 refine fk (G:=(NC N)) func41 (gc 6 (Al N) (gc 22 (HB N) (gc 27 (FO N) gn))) ?_;simp only [f41];unfold kN at h;refine z0 ?_;obtain ⟨r1,hr1,h⟩:=bI h;refine z1 hr1 ?_;refine z0 ?_;refine aX (ic fun hreal3=>?_);have hl2:=hreal3.cell 1 4 (by simp only [go_sem,seval]; rfl) rfl;first|rw [ab5] at hl2|rw [fC] at hl2|rw [<-acs,ab5] at hl2
 refine pS (fun (v4:Nat) (b:List ah)=>⟨tab 30 (af (af (af (af av 1 (pF 1)) 2 (pF 2)) 10 (vI (r1.length:Int))) 11 (vI (v4:Int))),(upd (upd RZ 1 (vA 11 [vI a0.ID,vI a0.Born,vS a0.Client,vI a0.Seq,sO 4 (b.map ah.row),vI a0.Done,vI a0.Last.Kind,vI a0.Last.N,vS a0.Last.S,sF 1 (a0.Last.I.map (aA .i64)),sF 1 (a0.Last.L.map eD)])) 2 (vA 11 [vI 0,vI 0,vS (⟨#[]⟩),vI 0,.val (.slice none 0 0),vI 0,vI 0,vI 0,vS (⟨#[]⟩),.val (.slice none 0 0),.val (.slice none 0 0)]))⟩) r1 h ?_ ?_
 ·exact wR
 rintro v4 l3 _ h -;rcases (jL r1.length v4).symm with ⟨hi4',hd7⟩|⟨hi4',hd7⟩
 ·rw [hd7] at h;simp only [kT] at h;refine z1 hi4' ?_;refine cf ?_;refine iQ (pp ?_);unfold vm at h;obtain ⟨r12,hr13,h⟩:=bI h;refine z1 hr13 ?_;refine z0 ?_;exact f0 h
 rw [hd7] at h;simp only [kT] at h;have hw6:=eW hi4' hl2;refine z1 hi4' ?_;refine ct ?_;refine z0 ?_;obtain ⟨x10,hb8,hx9,h⟩:=aI h;try simp only [acm] at hx9
 try simp only [ad4,adt,true_and] at hb8
 obtain ⟨r11,hr10,h⟩:=bI h;have hx12:=ld (y:=r11) hx9;refine d1 (k4 hb8 hx9 hr10 (mm2 (row:=ah.row) (y:=r11) (rx:=[vS x10.Target.Type_,vS x10.Target.Key,vS x10.Method,sF 5 (x10.Args.map Value.row)]) (ry:=[vS r11.Target.Type_,vS r11.Target.Key,vS r11.Method,sF 5 (r11.Args.map Value.row)]) hx9 rfl rfl)) ?_;refine z1 hw6 ?_;first|refine ⟨(l3.set v4 r11),?_,h⟩|refine ⟨hi4',(l3.set v4 r11),?_,h⟩
 exact wR
@[go_sem] def zK (N:Nat):FnS:=⟨[],false,fn1 Txn.decA fun q0=>(kN N q0).map fun r=>.agg (Txn.row r),false⟩
def BL (N:Nat):aC prog 41 (zK N):=om1 fun q0 r h=>rs (E1 N q0 r h)
@[go_sem] def DG (N:Nat):FnS:=⟨[],false,fn1 Txn.decA fun q0=>(kN N q0).map fun r=>.agg [vI r.ID,vI r.Born,vS r.Client,vI r.Seq,sO 4 (r.Calls.map ah.row),vI r.Done,vI r.Last.Kind,vI r.Last.N,vS r.Last.S,sO 1 (r.Last.I.map (aA .i64)),sO 1 (r.Last.L.map eD)],false⟩
def Ht (N:Nat):aC prog 41 (DG N):=om1 (E1 N)
def DU (N:Nat) (a0:List al) (r:List al) (h:gN N a0=some r):Con prog 107 [] false [.sl false (some false) 3 none (a0.map al.row)] (sO 3 (r.map al.row)):=by
 refine fk (G:=(ay [])) func107 gn ?_;simp only [f107];unfold gN at h;refine z0 ?_;refine z0 ?_;refine cf ?_;first|rw [if_pos (rfl:true=true)] at h|rw [if_neg acV] at h|skip
 refine bc (pp (aM ?_));first|obtain ⟨ha1,h⟩:=pU h|(obtain ⟨ha1,h⟩:=ey h; rw [ach] at h)
 simp only [Nat.reduceAdd] at ha1;refine z1 ha1 ?_;exact f0 h
def DC (N:Nat)  (r:List al) (h:gN N []=some r):Con prog 107 [] false [.val (.slice none 0 0)] (sO 3 (r.map al.row)):=by
 refine fk (G:=(ay [])) func107 gn ?_;simp only [f107];unfold gN at h;refine z0 ?_;refine z0 ?_;refine ct ?_;first|rw [if_pos (rfl:true=true)] at h|rw [if_neg acV] at h|skip
 refine z0 ?_;refine fD (pp ?_);obtain rfl:r=[]:=by simpa [apn] using h.symm
 simp only [go_sem,seval];exact ⟨_,rfl,iz.h⟩
def F7 (N:Nat) (a0:List al) (r:List al) (h:gN N a0=some r):Con prog 107 [] false [sF 3 (a0.map al.row)] (sO 3 (r.map al.row)):=
 B5 (fun e=>by obtain rfl:a0=[]:=adR.1 e; exact DC N r h) (DU N a0 r h)
@[go_sem] def yf (N:Nat):FnS:=⟨[],false,fn1 (aJ 3 al.dec) fun q0=>(gN N q0).map fun r=>sO 3 (r.map al.row),false⟩
def CE (N:Nat):aC prog 107 (yf N):=om1 (F7 N)
@[go_sem] def JG (N d f:Nat):Option FnS:=ay [(6,107,yf N),(19,67,ru N)] d f
def Jw (N:Nat) (a0:List al) (r:List al) (h:kF N a0=some r):Con prog 47 [] false [sF 3 (a0.map al.row)] (sO 3 (r.map al.row)):=by
 refine fk (G:=(JG N)) func47 (gc 6 (CE N) (gc 19 (s9 N) gn)) ?_;simp only [f47];unfold kF at h;refine z0 ?_;obtain ⟨r1,hr1,h⟩:=bI h;refine z1 hr1 ?_;refine z0 ?_;refine aX (ic fun hreal3=>?_);have hl2:=hreal3.lenX 6 (by simp only [go_sem,seval]; rfl);first|rw [ab5] at hl2|rw [fC] at hl2|rw [<-acs,ab5] at hl2
 refine pS (fun (v4:Nat) (b:List al)=>⟨tab 24 (af (af (af av 3 (.pal 6 [] 0 b.length none)) 8 (vI (r1.length:Int))) 9 (vI (v4:Int))),(upd RZ 6 (sO 3 (b.map al.row)))⟩) r1 h ?_ ?_
 ·exact wF hr1
 rintro v4 l3 _ h -;rcases (jL r1.length v4).symm with ⟨hi4',hd7⟩|⟨hi4',hd7⟩
 ·rw [hd7] at h;simp only [ja] at h;refine z1 hi4' ?_;refine cf ?_;refine z0 ?_;exact f0 h
 rw [hd7] at h;simp only [ja] at h;have hw6:=eW hi4' hl2;refine z1 hi4' ?_;refine ct ?_;refine z0 ?_;obtain ⟨x2,hb8,hx9,h⟩:=aI h;try simp only [acm] at hx9
 try simp only [ad4,adt,true_and] at hb8
 obtain ⟨r3,hr10,h⟩:=bI h;have hx12:=ld (y:=(al.mk x2.Txn_ r3 x2.Prepared)) hx9;refine z1 (k4 hb8 hx9 hr10 (mm2 (row:=al.row) (y:=(al.mk x2.Txn_ r3 x2.Prepared)) (rx:=[vI x2.Txn_,sF 5 (x2.Fields.map Value.row),vB x2.Prepared]) (ry:=[vI x2.Txn_,sF 5 (r3.map Value.row),vB x2.Prepared]) hx9 rfl rfl)) ?_;refine z1 hw6 ?_;first|refine ⟨(l3.set v4 (al.mk x2.Txn_ r3 x2.Prepared)),?_,h⟩|refine ⟨hi4',(l3.set v4 (al.mk x2.Txn_ r3 x2.Prepared)),?_,h⟩
 refine wr ?_ ?_<;>repeat' first|rfl|constructor|simp only [go_sem,seval,acy]
@[go_sem] def va (N:Nat):FnS:=⟨[],false,fn1 (aJ 3 al.dec) fun q0=>(kF N q0).map fun r=>sO 3 (r.map al.row),false⟩
def yd (N:Nat):aC prog 47 (va N):=om1 (Jw N)
@[go_sem] def Rs (N d f:Nat):Option FnS:=ay [(9,130,zG N),(12,131,sX N),(15,132,tF N),(31,41,zK N),(49,133,An N),(68,47,va N)] d f
def Kd (N:Nat) (a0:ae) (r:ae) (h:lq N a0=some r):Con prog 59 [] false [.agg (ae.row a0)] (.agg [sO 11 (r.Txns.map Txn.row),sO 4 (r.Locks.map ai.row),sO 3 (r.Stacks.map aa.rowD)]):=by
 refine fk (G:=(Rs N)) func59 (gc 9 (DP N) (gc 12 (vD N) (gc 15 (zN N) (gc 31 (BL N) (gc 49 (ED N) (gc 68 (yd N) gn)))))) ?_;simp only [f59];unfold lq at h;refine z0 ?_;obtain ⟨r1,hr1,h⟩:=bI h;obtain ⟨r2,hr2,h⟩:=bI h;obtain ⟨r3,hr3,h⟩:=bI h;refine d1 (k3 hr1 hr2 hr3) ?_;refine z0 ?_;refine aX (ic fun hreal5=>?_);have hl4:=hreal5.cell 3 0 (by simp only [go_sem,seval]; rfl) rfl;first|rw [ab5] at hl4|rw [fC] at hl4|rw [<-acs,ab5] at hl4
 refine pS (fun (v6:Nat) (b:List Txn)=>⟨tab 73 (af (af (af (af av 2 (pF 2)) 3 (pF 3)) 19 (vI (r1.length:Int))) 20 (vI (v6:Int))),(upd (upd RZ 2 (vA 3 [.val (.slice none 0 0),.val (.slice none 0 0),.val (.slice none 0 0)])) 3 (vA 3 [sO 11 (b.map Txn.row),sO 4 (r2.map ai.row),sO 3 (r3.map aa.row)]))⟩) r1 h ?_ ?_
 ·exact wR
 rintro v6 l5 _ h -;rcases (jL r1.length v6) with ⟨hi6',hd9⟩|⟨hi6',hd9⟩
 ·rw [hd9] at h;simp only [pM] at h;have hw8:=eW hi6' hl4;refine z1 hi6' ?_;refine ct ?_;refine z0 ?_;obtain ⟨x12,hb10,hx11,h⟩:=aI h;try simp only [acm] at hx11
  try simp only [ad4,adt,true_and] at hb10
  obtain ⟨r13,hr12,h⟩:=bI h;have hx14:=ld (y:=r13) hx11;refine d1 (k4 hb10 hx11 hr12 (mm2 (row:=Txn.row) (y:=r13) (rx:=[vI x12.ID,vI x12.Born,vS x12.Client,vI x12.Seq,sF 4 (x12.Calls.map ah.row),vI x12.Done,vI x12.Last.Kind,vI x12.Last.N,vS x12.Last.S,sF 1 (x12.Last.I.map (aA .i64)),sF 1 (x12.Last.L.map eD)]) (ry:=[vI r13.ID,vI r13.Born,vS r13.Client,vI r13.Seq,sF 4 (r13.Calls.map ah.row),vI r13.Done,vI r13.Last.Kind,vI r13.Last.N,vS r13.Last.S,sF 1 (r13.Last.I.map (aA .i64)),sF 1 (r13.Last.L.map eD)]) hx11 rfl rfl)) ?_;refine z1 hw8 ?_;first|refine ⟨(l5.set v6 r13),?_,h⟩|refine ⟨hi6',(l5.set v6 r13),?_,h⟩
  exact wR
 rw [hd9] at h;simp only [pM] at h;refine z1 hi6' ?_;refine cf ?_;unfold zF at h;refine z0 ?_;refine aX (ic fun hreal16=>?_);have hl15:=hreal16.cell 3 1 (by simp only [go_sem,seval]; rfl) rfl;first|rw [ab5] at hl15|rw [fC] at hl15|rw [<-acs,ab5] at hl15
 refine pS (fun (v16:Nat) (b:List ai)=>⟨tab 73 (af (af (af (af av 2 (pF 2)) 3 (pF 3)) 36 (vI (r2.length:Int))) 37 (vI (v16:Int))),(upd (upd RZ 2 (vA 3 [.val (.slice none 0 0),.val (.slice none 0 0),.val (.slice none 0 0)])) 3 (vA 3 [sO 11 (l5.map Txn.row),sO 4 (b.map ai.row),sO 3 (r3.map aa.row)]))⟩) r2 h ?_ ?_
 ·exact wR
 rintro v16 l15 _ h -;rcases (jL r2.length v16) with ⟨hi17',hd20⟩|⟨hi17',hd20⟩
 ·rw [hd20] at h;simp only [pR] at h;have hw19:=eW hi17' hl15;refine z1 hi17' ?_;refine ct ?_;refine z0 ?_;obtain ⟨x22,hb21,hx22,h⟩:=aI h;try simp only [acm] at hx22
  try simp only [ad4,adt,true_and] at hb21
  obtain ⟨r23,hr23,h⟩:=bI h;have hx25:=ld (y:=(ai.mk x22.Actor x22.Owner r23)) hx22;refine d1 (k4 hb21 hx22 hr23 (mm2 (row:=ai.row) (y:=(ai.mk x22.Actor x22.Owner r23)) (rx:=[vS x22.Actor.Type_,vS x22.Actor.Key,vI x22.Owner,sF 1 (x22.Waiters.map (aA .i64))]) (ry:=[vS x22.Actor.Type_,vS x22.Actor.Key,vI x22.Owner,sF 1 (r23.map (aA .i64))]) hx22 rfl rfl)) ?_;refine z1 hw19 ?_;first|refine ⟨(l15.set v16 (ai.mk x22.Actor x22.Owner r23)),?_,h⟩|refine ⟨hi17',(l15.set v16 (ai.mk x22.Actor x22.Owner r23)),?_,h⟩
  exact wR
 rw [hd20] at h;simp only [pR] at h;refine z1 hi17' ?_;refine cf ?_;unfold zD at h;refine z0 ?_;refine aX (ic fun hreal27=>?_);have hl26:=hreal27.cell 3 2 (by simp only [go_sem,seval]; rfl) rfl;first|rw [ab5] at hl26|rw [fC] at hl26|rw [<-acs,ab5] at hl26
 refine pS (fun (v26:Nat) (b:List aa)=>⟨tab 73 (af (af (af (af av 2 (pF 2)) 3 (pF 3)) 55 (vI (r3.length:Int))) 56 (vI (v26:Int))),(upd (upd RZ 2 (vA 3 [.val (.slice none 0 0),.val (.slice none 0 0),.val (.slice none 0 0)])) 3 (vA 3 [sO 11 (l5.map Txn.row),sO 4 (l15.map ai.row),sO 3 (mxR aa.rowD aa.row v26 b)]))⟩) r3 h ?_ ?_
 ·exact wR
 rintro v26 l25 _ h -;rcases (jL r3.length v26).symm with ⟨hi28',hd31⟩|⟨hi28',hd31⟩
 ·rw [hd31] at h;simp only [pH] at h;obtain ⟨hg35,h⟩:=NP h;refine z1 (k2 hi28' (mi4 hg35)) ?_;refine cf ?_;refine z0 ?_;exact f0 h
 rw [hd31] at h;simp only [pH] at h;have hw30:=eW hi28' hl26;refine z1 hi28' ?_;refine ct ?_;refine z0 ?_;obtain ⟨x24,hb32,hx33,h⟩:=aI h;try simp only [acm] at hx33
 try simp only [ad4,adt,true_and] at hb32
 obtain ⟨r25,hr34,h⟩:=bI h;refine kQ fun Z hZ=>?_;simp only [go_sem,seval,hb32,Ni (f:=aa.rowD) (g:=aa.row) hx33,fC,hr34,U9 (f:=aa.rowD) (g:=aa.row) (rx:=[vS x24.Actor.Type_,vS x24.Actor.Key,sF 3 (x24.Layers.map al.row)]) hx33 rfl rfl];repeat with_reducible refine fZ (by kernel_rfl) ?_
 refine hZ _ (by kernel_rfl) (z1 hw30 ?_);first|refine ⟨(l25.set v26 (aa.mk x24.Actor r25)),?_,h⟩|refine ⟨hi28',(l25.set v26 (aa.mk x24.Actor r25)),?_,h⟩
 refine bh.trans (zd (n:=3) (c':=vA 3 [sO 11 (l5.map Txn.row),sO 4 (l15.map ai.row),sO 3 (mxR aa.rowD aa.row (v26+1) (l25.set v26 (aa.mk x24.Actor r25)))]) (by simp only [go_sem,seval]; rfl) (by first|(simp only [<-KO (f:=_) (g:=_) hx33 (aa.mk x24.Actor r25)]; done)|(rw [<-KO (f:=_) (g:=_) hx33 (aa.mk x24.Actor r25)]; rfl))) ?_;exact wR
@[go_sem] def H3 (N:Nat):FnS:=⟨[],false,fn1 ae.decA fun q0=>(lq N q0).map fun r=>.agg (ae.row r),false⟩
def LQ (N:Nat):aC prog 59 (H3 N):=om1 fun q0 r h=>rs (Kd N q0 r h)
@[go_sem] def qD (N:Nat):FnS:=⟨[],false,fn1 ae.decA fun q0=>(lq N q0).map fun r=>.agg [sO 11 (r.Txns.map Txn.row),sO 4 (r.Locks.map ai.row),sO 3 (r.Stacks.map aa.rowD)],false⟩
def pn (N:Nat):aC prog 59 (qD N):=om1 (Kd N)
@[go_sem] def Rm (N d f:Nat):Option FnS:=ay [(24,23,mv N),(27,98,zA N),(56,59,qD N),(60,41,zK N)] d f
def Rg (N:Nat) (a0:ae) (a1:Int) (a2:Int) (a3:ByteArray) (a4:Int) (a5:List ah) (r:ae × Int) (h:jX N a0 a1 a2 a3 a4 a5=some r):Con prog 38 [] false [.agg (ae.row a0),vI a1,vI a2,vS a3,vI a4,sF 4 (a5.map ah.row)] (.tup [.agg [sO 11 (r.1.Txns.map Txn.row),sO 4 (r.1.Locks.map ai.row),sO 3 (r.1.Stacks.map aa.row)],vI r.2]):=by
 refine fk (G:=(Rm N)) func38 (gc 24 (kG N) (gc 27 (BF N) (gc 56 (pn N) (gc 60 (BL N) gn)))) ?_;simp only [f38];unfold jX at h;refine z0 ?_;refine z0 ?_;refine aM (aX ?_);apply aW (fun (c10:Bool)=>⟨tab 65 (af (af (af (af (af av 1 (vI a1)) 6 (pF 6)) 12 (pF 12)) 14 (pF 14)) 22 (vB c10)),(upd (upd (upd RZ 6 (vA 3 (ae.row a0))) 12 (vA 3 [.val (.slice none 0 0),.val (.slice none 0 0),.val (.slice none 0 0)])) 14 (vA 11 [vI a1,vI a2,vS a3,vI a4,sF 4 (a5.map ah.row),vI 0,vI 0,vI 0,vS (⟨#[]⟩),.val (.slice none 0 0),.val (.slice none 0 0)]))⟩)
 ·intro hJ1;obtain ⟨r11,hr2,h⟩:=bI h;refine z1 hr2 ?_;refine cM h (fun hc3 h=>?_) fun hc3 h=>?_
  ·refine bc (pp (hJ1 _ true ?_ h));exact wF hc3
  obtain ⟨r12,hr4,h⟩:=bI h;refine z1 (k2 hc3 hr4) ?_;refine hJ1 _ (!r12) ?_ h;exact wF (k3 hr2 hc3 hr4)
 intro c10 h;unfold zw at h;refine cB h (fun hc5 h=>?_) fun hc5 h=>?_
 ·refine z1 hc5 ?_;exact f0 h
 apply aW (fun (c14:Bool)=>⟨tab 65 (af (af (af (af av 6 (pF 6)) 12 (pF 12)) 14 (pF 14)) 30 (vB c14)),(upd (upd (upd RZ 6 (vA 3 (ae.row a0))) 12 (vA 3 [.val (.slice none 0 0),.val (.slice none 0 0),.val (.slice none 0 0)])) 14 (vA 11 [vI a1,vI a2,vS a3,vI a4,sF 4 (a5.map ah.row),vI 0,vI 0,vI 0,vS (⟨#[]⟩),.val (.slice none 0 0),.val (.slice none 0 0)]))⟩)
 ·intro hJ6;refine iD h (fun hc7 hc7d h=>?_) fun hc7 hc7d h=>?_
  ·obtain ⟨x15,hb8,hx9,h⟩:=aI h;refine z1 (k4 hc5 hc7d hb8 hx9) ?_;refine hJ6 _ (decide (a1<=x15.ID)) ?_ h;exact wF (k4 hc5 hc7d hb8 hx9)
  refine z1 (k2 hc5 hc7d) ?_;refine hJ6 _ false ?_ h;exact wF (k2 hc5 hc7d)
 intro c14 h;unfold pT at h;refine cB h (fun hc10 h=>?_) fun hc10 h=>?_
 ·refine z1 hc10 ?_;exact f0 h
 refine z1 hc10 ?_;refine cD h (fun hc11 hc11d h=>?_) fun hc11 hc11d h=>?_
 ·refine z1 hc11d ?_;exact f0 h
 refine bc (pp ?_);unfold pD at h;obtain ⟨r16,hr12,h⟩:=bI h;refine z1 (k2 hc11d hr12) ?_;obtain ⟨r17,hr13,h⟩:=bI h;obtain ⟨ha14,h⟩:=ey h;simp only [acf,acJ,acP,Nat.reduceAdd] at ha14;refine d1 (k2 hr13 ha14) ?_;refine z0 ?_;exact f0 h
@[go_sem] def zV (N:Nat):FnS:=⟨[],false,fn6 ae.decA (aG .i64) (aG .i64) du (aG .i64) (aJ 4 ah.dec) fun q0 q1 q2 q3 q4 q5=>(jX N q0 q1 q2 q3 q4 q5).map fun r=>.tup [.agg (ae.row r.1),vI r.2],false⟩
def zS (N:Nat):aC prog 38 (zV N):=om6 fun q0 q1 q2 q3 q4 q5 r h=>rs (Rg N q0 q1 q2 q3 q4 q5 r h)
@[go_sem] def TC (N d f:Nat):Option FnS:=ay [(9,40,gZ N),(52,57,Cx N)] d f
def TA (N:Nat) (a0:ae) (a1:Int) (r:ah × Bool) (h:pE N a0 a1=some r):Con prog 24 [] false [.agg (ae.row a0),vI a1] (.tup [.agg [vS r.1.Target.Type_,vS r.1.Target.Key,vS r.1.Method,sO 5 (r.1.Args.map Value.row)],vB r.2]):=by
 refine fk (G:=(TC N)) func24 (gc 9 (fH N) (gc 52 (F9 N) gn)) ?_;simp only [f24];unfold pE at h;refine z0 ?_;obtain ⟨r1,hr1,h⟩:=bI h;refine z1 hr1 ?_;refine aM ?_;apply aW (fun (c6:Bool)=>⟨tab 53 (af (af (af (af av 2 (pF 2)) 4 (pF 4)) 6 (vI r1)) 36 (vB c6)),(upd (upd RZ 2 (vA 3 (ae.row a0))) 4 (vA 4 [vS (⟨#[]⟩),vS (⟨#[]⟩),vS (⟨#[]⟩),.val (.slice none 0 0)]))⟩)
 ·intro hJ2;refine iD h (fun hc3 hc3d h=>?_) fun hc3 hc3d h=>?_
  ·refine d1 hc3d ?_;refine hJ2 _ true ?_ h;exact wR
  obtain ⟨x7,hb4,hx5,h⟩:=aI h;refine iD h (fun hc6 hc6d h=>?_) fun hc6 hc6d h=>?_
  ·refine d1 (k4 hc3d hb4 hx5 hc6d) ?_;refine hJ2 _ true ?_ h;exact wR
  refine d1 (k4 hc3d hb4 hx5 hc6d) ?_;refine hJ2 _ (decide ((x7.Calls.length:Int)<=x7.Done)) ?_ h;exact wR
 intro c6 h;unfold rR at h;refine cB h (fun hc7 h=>?_) fun hc7 h=>?_
 ·refine z1 hc7 ?_;exact f0 h
 refine bc (pp ?_);unfold ya at h;obtain ⟨x8,hb8,hx9,h⟩:=aI h;obtain ⟨x9,hb10,hx11,h⟩:=aI h;obtain ⟨r10,hr12,h⟩:=bI h;refine d1 (k5 hc7 hb8 hx9 hb10 (k2 hx11 hr12)) ?_;exact f0 h
@[go_sem] def Ev (N:Nat):FnS:=⟨[],false,fn2 ae.decA (aG .i64) fun q0 q1=>(pE N q0 q1).map fun r=>.tup [.agg (ah.row r.1),vB r.2],false⟩
def Fs (N:Nat):aC prog 24 (Ev N):=om2 fun q0 q1 r h=>rs (TA N q0 q1 r h)
@[go_sem] def OQ (N d f:Nat):Option FnS:=ay [(6,131,sX N),(19,133,uk N)] d f
def Hh (N:Nat) (a0:List ai) (r:List ai) (h:gC N a0=some r):Con prog 117 [] false [sF 4 (a0.map ai.row)] (sO 4 (r.map ai.rowD)):=by
 refine fk (G:=(OQ N)) func117 (gc 6 (vD N) (gc 19 (wS N) gn)) ?_;simp only [f117];unfold gC at h;refine z0 ?_;obtain ⟨r1,hr1,h⟩:=bI h;refine z1 hr1 ?_;refine z0 ?_;refine aX (ic fun hreal3=>?_);have hl2:=hreal3.lenX 6 (by simp only [go_sem,seval]; rfl);first|rw [ab5] at hl2|rw [fC] at hl2|rw [<-acs,ab5] at hl2
 refine pS (fun (v4:Nat) (b:List ai)=>⟨tab 24 (af (af (af av 3 (.pal 6 [] 0 b.length none)) 8 (vI (r1.length:Int))) 9 (vI (v4:Int))),(upd RZ 6 (sO 4 (mxR ai.rowD ai.row v4 b)))⟩) r1 h ?_ ?_
 ·exact wF hr1
 rintro v4 l3 _ h -;rcases (jL r1.length v4).symm with ⟨hi4',hd7⟩|⟨hi4',hd7⟩
 ·rw [hd7] at h;simp only [lI] at h;obtain ⟨hg11,h⟩:=NP h;refine z1 (k2 hi4' (mi4 hg11)) ?_;refine cf ?_;refine z0 ?_;exact f0 h
 rw [hd7] at h;simp only [lI] at h;have hw6:=eW hi4' hl2;refine z1 hi4' ?_;refine ct ?_;refine z0 ?_;obtain ⟨x2,hb8,hx9,h⟩:=aI h;try simp only [acm] at hx9
 try simp only [ad4,adt,true_and] at hb8
 obtain ⟨r3,hr10,h⟩:=bI h;refine z1 (k4 hb8 (Ni (f:=ai.rowD) (g:=ai.row) hx9) hr10 (mi1 (f:=ai.rowD) (g:=ai.row) (rx:=[vS x2.Actor.Type_,vS x2.Actor.Key,vI x2.Owner,sF 1 (x2.Waiters.map (aA .i64))]) hx9 rfl)) ?_;refine z1 hw6 ?_;first|refine ⟨(l3.set v4 (ai.mk x2.Actor x2.Owner r3)),?_,h⟩|refine ⟨hi4',(l3.set v4 (ai.mk x2.Actor x2.Owner r3)),?_,h⟩
 refine bh.trans (TY (n:=6) (ai.mk x2.Actor x2.Owner r3) hx9 (by simp only [go_sem,seval]; rfl) rfl rfl) ?_;refine wr ?_ ?_<;>repeat' first|rfl|constructor|simp only [go_sem,seval,ac2,acy]
@[go_sem] def kD (N:Nat):FnS:=⟨[],false,fn1 (aJ 4 ai.dec) fun q0=>(gC N q0).map fun r=>sO 4 (r.map ai.row),false⟩
def jV (N:Nat):aC prog 117 (kD N):=om1 fun q0 r h=>rs (Hh N q0 r h)
@[go_sem] def zQ (N:Nat):FnS:=⟨[],false,fn1 (aJ 4 ai.dec) fun q0=>(gC N q0).map fun r=>sO 4 (r.map ai.rowD),false⟩
def Bw (N:Nat):aC prog 117 (zQ N):=om1 (Hh N)
def eo:FnS:={ own:=[true,true],pure:=false,fn:=fun _=>none,peek:=true }
theorem bj:eo.own=[true,true]:=rfl
theorem ba:eo.peek=true:=rfl
theorem BP:HJ prog 195:=
 M0 (fn:=f195) (tS:=25) (tR:=4) (e:=100) (size:=4) func195 rfl rfl (by kernel_rfl) (by kernel_rfl) (by kernel_rfl) (by kernel_rfl)
def yl:aC prog 195 eo:=⟨(fun cs r h=>by simp [eo] at h),fun _=>BP⟩
def gU:Env:={ T:=fb prog,G:=fun d f=>if d=67/\f=195 then some eo else none }
theorem dX:gU.T=fb prog:=rfl
theorem dY (d:Nat):gU.F d=none:=rfl
theorem dW (d f:Nat):gU.L d f=none:=rfl
theorem dZ:gU.G 67 195=some eo:=rfl
def DR:GOk prog { T:=fb prog,G:=gU.G }:=by
 refine ⟨?_,fun _ _ _ h=>by cases h⟩;intro d f fs hfs;simp only [gU] at hfs;split at hfs
 ·rename_i hc; obtain ⟨rfl,rfl⟩:=hc; obtain rfl:=acM hfs; exact yl
 cases hfs
theorem Fu:Ed prog 127 f127 f127.body.get! := ⟨func127,rfl,by decide,by kernel_rfl⟩
set_option maxHeartbeats 4000000 in
def FG {α:Type} (row:α->List C) (ok:ar row) (l:List α) (i:Nat) (x:α) (k:Nat) (r:List α) (hr:r=l.take i++[x]++l.drop i) (hi:i<=l.length) (hsz:(l.length+1) * 64<=140737488355328) (hk1:l.length<=k) (hk2:k<=maxLen) :
  Con prog 127 [true,false,true] false [.sl true none 4 (some k) (l.map row),vI i,sO 4 ([x].map row)] (sO 4 (r.map row)):=by
 refine Jp (E:=gU) (zo prog _) DR mix Fu (acv rfl) ?_;intro _;rw [vx (by simp)];rw [show gQ [true,false,true] [C.sl true none 4 (some k) (l.map row),C.val (.int .i64 i),C.sl true none 4 none ([x].map row)]=(af (af (af av 0 (.pal 0 [] 0 l.length none)) 1 (vI i)) 2 (.pal 2 [] 0 1 none)) from by funext t; match t with|0=>simp [gQ,ju,kJ,af]|1=>rfl|2=>rfl|t+3=>rfl];rw [show R0 [true,false,true] [C.sl true none 4 (some k) (l.map row),C.val (.int .i64 i),C.sl true none 4 none ([x].map row)]=upd (upd RZ 0 (C.sl true none 4 (some k) (l.map row))) 2 (C.sl true none 4 none ([x].map row)) from by funext t; match t with|0=>rfl|1=>rfl|2=>rfl|t+3=>rfl];apply Jq;simp only [f127,Option.get!];have hi1:(i:Int)<=(l.length:Int):=by omega
 have hi2:i<=l.length:=hi;have h10:(((1:Nat):Int)=0)=False:=by simp
 have hp:(row x).all Abs.plainCell=true:=ok.plain x;have hf:(row x).map C.frz=(row x):=ok.frz x;have hpD:(row x).all qP=true:=by have:=(ar.allD ok [x]); simpa using this
 have hw1:IntKind.i64.wrap ((l.length:Int)+((1:Nat):Int))=((l.length+1:Nat):Int):=by rw [mE (by omega) (by omega)]; rfl
 have hlt0:(l.take i).length=i:=by simp; omega
 have hes:(4 != 0)=true:=rfl;have hm1:min 1 (l.length+1 - i)=1:=by omega
 have hm2:min (l.length - i) (l.length+1 - (i+1))=l.length - i:=by omega
 have hm3:(l.drop i).take (l.length - i)=l.drop i:=acr (by simp);have hm4:i+1<=l.length+1:=by omega
 have hw2:IntKind.i64.wrap (((l.length+1:Nat):Int) - (i:Int))=((l.length+1 - i:Nat):Int):=by rw [mE (by omega) (by omega)]; omega
 have hw1b:IntKind.i64.wrap ((l.length:Int)+1)=((l.length+1:Nat):Int):=hw1;have hw3:IntKind.i64.wrap ((i:Int)+((1:Nat):Int))=((i+1:Nat):Int):=by rw [mE (by omega) (by omega)]; rfl
 have hw3b:IntKind.i64.wrap ((i:Int)+1)=((i+1:Nat):Int):=hw3;simp only [go_sem,seval,dX,dY,dW,dZ,hi1,hi2,h10,ab6,hp,hf,hpD,ar.frzRows ok,ar.all ok,ar.allPlain ok,ar.allD ok,aK,gp,fa,bO,eP,fu,kA,ib,dt,aR,gI,Ext.all,ia,bz,ab3,hw1,hw2,hw3,hw1b,hw3b,acX,acp,acj,eh,bne_self_eq_false,acE,decide_not,acg,hlt0,hm1,hm2,hm3,hm4,bj,ba,acD];refine Kz rfl ?_;simp only [go_sem,seval,dX,dY,dW,dZ,hi1,hi2,h10,ab6,hp,hf,hpD,ar.frzRows ok,ar.all ok,ar.allPlain ok,ar.allD ok,aK,gp,fa,bO,eP,fu,kA,ib,dt,aR,gI,Ext.all,ia,bz,ab3,hw1,hw2,hw3,hw1b,hw3b,acX,acp,acj,eh,bne_self_eq_false,acE,decide_not,acg,hlt0,hm1,hm2,hm3,hm4,bj,ba,acD];refine tH rfl (fun hc=>?_) (fun hc=>?_)
 ·have e:i=l.length:=by omega
  subst e;simp only [go_sem,seval,dX,dY,dW,dZ,hi1,hi2,h10,ab6,hp,hf,hpD,ar.frzRows ok,ar.all ok,ar.allPlain ok,ar.allD ok,aK,gp,fa,bO,eP,fu,kA,ib,dt,aR,gI,Ext.all,ia,bz,ab3,hw1,hw2,hw3,hw1b,hw3b,acX,acp,acj,eh,bne_self_eq_false,acE,decide_not,acg,hlt0,hm1,hm2,hm3,hm4,bj,ba,acD,eC,gK,hsz];refine tj ok ?_;rw [hr];simp [acr]
 ·have hc1:decide ((i:Int)=(l.length:Int))=false:=decide_eq_false hc;have hlt:i < l.length:=by omega
  simp only [go_sem,seval,dX,dY,dW,dZ,hi1,hi2,h10,ab6,hp,hf,hpD,ar.frzRows ok,ar.all ok,ar.allPlain ok,ar.allD ok,aK,gp,fa,bO,eP,fu,kA,ib,dt,aR,gI,Ext.all,ia,bz,ab3,hw1,hw2,hw3,hw1b,hw3b,acX,acp,acj,eh,bne_self_eq_false,acE,decide_not,acg,hlt0,hm1,hm2,hm3,hm4,bj,ba,acD,hc1];refine tH rfl (fun hk=>?_) (fun hk=>?_)
  ·have hk1:decide (k < l.length+1)=true:=decide_eq_true hk;have hk2:k < i+(l.length+1 - i):=by omega
   have e1:i+(l.length+1 - i)=l.length+1:=by omega
   have hi3:(i:Int)<=((l.length+1:Nat):Int):=by omega
   have hi4:i<=l.length+1:=by omega
   obtain ⟨A,hA⟩:∃ A,List.map row (List.take i l)++List.replicate (l.length+1 - i) [C.val (Value.string ⟨#[]⟩),C.val (Value.string ⟨#[]⟩),C.val (Value.int .i64 0),C.val (Value.slice none 0 0)]=A:=⟨_,rfl⟩;have hAp:bY A:=by rw [<-hA]; exact j3 (gG ok _) (zM _ [Value.string ⟨#[]⟩,Value.string ⟨#[]⟩,Value.int .i64 0,Value.slice none 0 0] (by simp [Value.oneCell']))
   have hAl:A.length=l.length+1:=by rw [<-hA,acH,ab5,hlt0,acg]; omega
   obtain ⟨B,hB⟩:∃ B,aL A i [(row x)]=B:=⟨_,rfl⟩;have hBp:bY B:=by rw [<-hB]; exact gH hAp ⟨by simp [frzRows,hf],by simp [hpD]⟩
   have hBl:B.length=l.length+1:=by rw [<-hB]; simp [aL,hAl]; omega
   obtain ⟨D,hD⟩:∃ D,aL B (i+1) (List.map row (List.drop i l))=D:=⟨_,rfl⟩;have hDp:bY D:=by rw [<-hD]; exact gH hBp (gG ok _)
   have hDl:D.length=l.length+1:=by rw [<-hD]; simp [aL,hBl]; omega
   have hDe:D=(l.take i++[x]++l.drop i).map row:=by
    rw [<-hD,<-hB,<-hA,adK,adA,Nn (A:=l.map row) (n:=l.length) (by simp) hi2 (by simp)];simp
   simp only [go_sem,seval,dX,dY,dW,dZ,hi1,hi2,h10,ab6,hp,hf,hpD,ar.frzRows ok,ar.all ok,ar.allPlain ok,ar.allD ok,aK,gp,fa,bO,eP,fu,kA,ib,dt,aR,gI,Ext.all,ia,bz,ab3,hw1,hw2,hw3,hw1b,hw3b,acX,acp,acj,eh,bne_self_eq_false,acE,decide_not,acg,hlt0,hm1,hm2,hm3,hm4,bj,ba,acD,hc1,hk1,hk,hk2,e1,hi3,hi4,hA,hAl,hAp.1,hAp.2,hB,hBp.1,hBp.2,hBl,hD,hDp.1,hDp.2,hsz];repeat' ((with_reducible refine fZ ?_ ?_); kernel_rfl)
   simp only [go_sem,seval,dX,dY,dW,dZ,hi1,hi2,h10,ab6,hp,hf,hpD,ar.frzRows ok,ar.all ok,ar.allPlain ok,ar.allD ok,aK,gp,fa,bO,eP,fu,kA,ib,dt,aR,gI,Ext.all,ia,bz,ab3,hw1,hw2,hw3,hw1b,hw3b,acX,acp,acj,eh,bne_self_eq_false,acE,decide_not,acg,hlt0,hm1,hm2,hm3,hm4,bj,ba,acD,eC,gK,hDp.1,hDp.2,hD];refine tj ok ?_;rw [hr,<-hDe,<-hDl,adX]
  ·have hk1:decide (k < l.length+1)=false:=decide_eq_false hk;have hk2:¬ k < i+(l.length+1 - i):=by omega
   have hk3:l.length+1<=k:=by omega
   have e2:l.length+1 - l.length=1:=by omega
   have e3:l.length<=l.length+1:=by omega
   have hi3:(i:Int)<=((l.length+1:Nat):Int):=by omega
   have hi4:i<=l.length+1:=by omega
   have hne:¬ l.length+1 - (i+1)=0:=by omega
   have hne2:¬ l.length - i=0:=by omega
   obtain ⟨A,hA⟩:∃ A,List.map row l++[[C.dead,C.dead,C.dead,C.dead]]=A:=⟨_,rfl⟩;have hAp:bY A:=by rw [<-hA]; exact j3 (gG ok _) (DI 1 4)
   have hAl:A.length=l.length+1:=by rw [<-hA]; simp
   have hm5:min (l.length+1 - i) (l.length+1 - (i+1))=l.length - i:=by omega
   have hm5b:min (l.length+1 - i) (l.length - i)=l.length - i:=by omega
   obtain ⟨A2,hA2⟩:∃ A2,(A.drop i).take (l.length - i)=A2:=⟨_,rfl⟩;have hA2e:A2=List.map row (l.drop i):=by
    rw [<-hA2,<-hA,aeh,ab5,show i - l.length=0 by omega,ady,adI,acr (by simp),show l.length - i - (List.drop i (List.map row l)).length=0 by simp];simp [adA]
   have hA2p:(A2.all fun r=>r.all Abs.plainCell)=true:=by rw [hA2e]; exact ok.allPlain _
   have hA2f:frzRows A2=A2:=by rw [hA2e]; exact ok.frzRows _
   have hA2d:bY A2:=by rw [hA2e]; exact gG ok _
   obtain ⟨B,hB⟩:∃ B,aL A (i+1) A2=B:=⟨_,rfl⟩;have hBp:bY B:=by rw [<-hB]; exact gH hAp hA2d
   have hBl:B.length=l.length+1:=by rw [<-hB]; simp [aL,hAl,hA2e]; omega
   obtain ⟨D,hD⟩:∃ D,aL B i [(row x)]=D:=⟨_,rfl⟩;have hDp:bY D:=by rw [<-hD]; exact gH hBp ⟨by simp [frzRows,hf],by simp [hpD]⟩
   have hDl:D.length=l.length+1:=by rw [<-hD]; simp [aL,hBl]; omega
   have hDe:D=(l.take i++[x]++l.drop i).map row:=by
    rw [<-hD,<-hB,<-hA2,<-hA,Ky (A:=l.map row) (n:=l.length) (by simp) hi2];simp [adK,adA]
   simp only [go_sem,seval,dX,dY,dW,dZ,hi1,hi2,h10,ab6,hp,hf,hpD,ar.frzRows ok,ar.all ok,ar.allPlain ok,ar.allD ok,aK,gp,fa,bO,eP,fu,kA,ib,dt,aR,gI,Ext.all,ia,bz,ab3,hw1,hw2,hw3,hw1b,hw3b,acX,acp,acj,eh,bne_self_eq_false,acE,decide_not,acg,hlt0,hm1,hm2,hm3,hm4,bj,ba,acD,hc1,hk1,hk,hk2,hk3,e2,e3,hi3,hi4,hne,hne2,hA,hAl,hAp.1,hAp.2,hes,hA2,hA2p,hA2f,hB,hBp.1,hBp.2,hBl,hD,hDp.1,hDp.2,hDl,hm5,hm5b];refine Kf rfl ?_;simp only [go_sem,seval,dX,dY,dW,dZ,hi1,hi2,h10,ab6,hp,hf,hpD,ar.frzRows ok,ar.all ok,ar.allPlain ok,ar.allD ok,aK,gp,fa,bO,eP,fu,kA,ib,dt,aR,gI,Ext.all,ia,bz,ab3,hw1,hw2,hw3,hw1b,hw3b,acX,acp,acj,eh,bne_self_eq_false,acE,decide_not,acg,hlt0,hm1,hm2,hm3,hm4,bj,ba,acD,hc1,hk1,hk,hk2,hk3,e2,e3,hi3,hi4,hne,hne2,hA,hAl,hAp.1,hAp.2,hes,hA2,hA2p,hA2f,hB,hBp.1,hBp.2,hBl,hD,hDp.1,hDp.2,hDl,hm5,hm5b];repeat' ((with_reducible refine fZ ?_ ?_); kernel_rfl)
   simp only [go_sem,seval,dX,dY,dW,dZ,hi1,hi2,h10,ab6,hp,hf,hpD,ar.frzRows ok,ar.all ok,ar.allPlain ok,ar.allD ok,aK,gp,fa,bO,eP,fu,kA,ib,dt,aR,gI,Ext.all,ia,bz,ab3,hw1,hw2,hw3,hw1b,hw3b,acX,acp,acj,eh,bne_self_eq_false,acE,decide_not,acg,hlt0,hm1,hm2,hm3,hm4,bj,ba,acD,eC,gK,hDp.1,hDp.2,hD,hDl];refine tj ok ?_;rw [hr,<-hDe,<-hDl,adX]
def GH (N:Nat) (a0:List ai) (a1:Int) (a2:List ai) (r:List ai) (h:mI N a0 a1 a2=some r) :
  Con prog 127 [true,false,true] false [sO 4 (a0.map ai.row),vI a1,sO 4 (a2.map ai.row)] (sO 4 (r.map ai.row)):=by
 unfold mI at h;obtain ⟨n,x,rfl,rfl,h1,h2,h3⟩:=BC h;exact Jr fun k hk1 hk2=>FG ai.row ai.row_ok a0 n x k r (acM h3).symm h1 h2 (by simpa using hk1) hk2
def fS (N:Nat):FnS:={ own:=[true,false,true],pure:=false,fn:=fun cs=>match cs with
 | [c0,c1,c2]=>(vV 4 ai.dec c0).bind fun q0=>(aG .i64 c1).bind fun q1=>(vV 4 ai.dec c2).bind fun q2=>(mI N q0 q1 q2).map fun r=>sO 4 (r.map ai.row)
 | _=>none }
theorem Cg (N:Nat):(fS N).own=[true,false,true]:=rfl
theorem BI (N:Nat):(fS N).pure=false:=rfl
theorem BJ (N:Nat):(fS N).peek=false:=rfl
attribute [go_sem] fS Cg BI BJ
def CC (N:Nat):aC prog 127 (fS N):=by
 refine ⟨fun cs r h=>?_,fun h=>by cases h⟩;simp only [fS] at h;split at h
 ·simp only [abZ,abY] at h;obtain ⟨q0,h0,q1,h1,q2,h2,r',hr,rfl⟩:=h;exact (GH N q0 q1 q2 r' hr).argsO rfl (j6 (qE ai.row_ok ai.dec_le h0) (rT (bN h1) (j6 (qE ai.row_ok ai.dec_le h2) oJ)))
 ·cases h
def Mr (N:Nat) (a0:Int) (r:Bool) (h:qB N a0=some r):Con prog 228 [] true [vI a0] (vB r):=by
 refine fk (G:=(ay [])) func228 gn ?_;simp only [f228];unfold qB at h;refine z0 ?_;refine z0 ?_;exact e0 h
@[go_sem] def yZ (N:Nat):FnS:=⟨[],true,fn1 (aG .i64) fun q0=>(qB N q0).map fun r=>vB r,false⟩
def Av (N:Nat):aC prog 228 (yZ N):=om1 (Mr N)
@[go_sem] def NH (N d f:Nat):Option FnS:=ay [(6,228,yZ N),(9,228,yZ N)] d f
def MW (N:Nat) (a0:Int) (a1:Int) (r:Bool) (h:pW N a0 a1=some r):Con prog 197 [] true [vI a0,vI a1] (vB r):=by
 refine fk (G:=(NH N)) func197 (gc 6 (Av N) (gc 9 (Av N) gn)) ?_;simp only [f197];unfold pW at h;refine z0 ?_;refine aM ?_;obtain ⟨r1,hr1,h⟩:=bI h;refine iBs h (fun hc2 h=>?_) fun hc2 h=>?_
 ·refine z1 (k2 hr1 hc2) ?_;exact e0 h
 obtain ⟨r2,hr3,h⟩:=bI h;refine iBs h (fun hc4 h=>?_) fun hc4 h=>?_
 ·refine z1 (k4 hr1 hc2 hr3 hc4) ?_;exact e0 h
 refine z1 (k4 hr1 hc2 hr3 hc4) ?_;exact e0 h
@[go_sem] def zR (N:Nat):FnS:=⟨[],true,fn2 (aG .i64) (aG .i64) fun q0 q1=>(pW N q0 q1).map fun r=>vB r,false⟩
def BM (N:Nat):aC prog 197 (zR N):=om2 (MW N)
def IB (N:Nat) (a0:Int) (r:Bool) (h:lZ N a0=some r):Con prog 198 [] true [vI a0] (vB r):=by
 refine fk (G:=(ay [])) func198 gn ?_;simp only [f198];unfold lZ at h;refine z0 ?_;refine z0 ?_;exact e0 h
@[go_sem] def uX (N:Nat):FnS:=⟨[],true,fn1 (aG .i64) fun q0=>(lZ N q0).map fun r=>vB r,false⟩
def ye (N:Nat):aC prog 198 (uX N):=om1 (IB N)
@[go_sem] def CL (N d f:Nat):Option FnS:=ay [(27,197,zR N),(47,198,uX N),(50,198,uX N)] d f
def Cy (N:Nat) (a0:List Int) (a1:Int) (r:Int × Bool) (h:gR N a0 a1=some r):Con prog 128 [] true [sF 1 (a0.map (aA .i64)),vI a1] (.tup [vI r.1,vB r.2]):=by
 refine fk (G:=(CL N)) func128 (gc 27 (BM N) (gc 47 (ye N) (gc 50 (ye N) gn))) ?_;simp only [f128];unfold gR at h;refine z0 ?_;refine z0 ?_;refine z0 ?_;refine aM (aX (iS (fun (b:Int × Int)=>⟨tab 54 (af (af (af (af (af av 0 (sF 1 (a0.map (aA .i64)))) 1 (vI a1)) 6 (vI (a0.length:Int))) 7 (vI b.1)) 8 (vI b.2)),RZ⟩) (0,(a0.length:Int)) h ?_ ?_))
 ·exact wR
 rintro n ⟨v2,v3⟩ h -;cases n with
 | zero=>simp [eE] at h
 | succ n=>
 simp only [eE] at h;refine z0 ?_;refine cD h (fun hc1 hc1d h=>?_) fun hc1 hc1d h=>?_
 ·refine z1 hc1d ?_;obtain ⟨x9,hb2,hx3,h⟩:=aI h;obtain ⟨r10,hr4,h⟩:=bI h;refine z1 (k3 hb2 hx3 hr4) ?_;refine cB h (fun hc5 h=>?_) fun hc5 h=>?_
  ·refine z1 hc5 ?_;refine ⟨_,acK _,(IntKind.i64.wrap ((IntKind.i64.wrap (kR .u64 (IntKind.u64.wrap (IntKind.i64.wrap (v2+v3))) 1))+1),v3),?_,h⟩;exact wR
  refine z1 hc5 ?_;refine ⟨_,acK _,(v2,IntKind.i64.wrap (kR .u64 (IntKind.u64.wrap (IntKind.i64.wrap (v2+v3))) 1)),?_,h⟩;exact wR
 refine iQ (pp ?_);unfold jP at h;refine iDs h (fun hc6 hc6d h=>?_) fun hc6 hc6d h=>?_
 ·refine z1 (k2 hc1d hc6d) ?_;exact e0 h
 obtain ⟨x11,hb7,hx8,h⟩:=aI h;refine iD h (fun hc9 hc9d h=>?_) fun hc9 hc9d h=>?_
 ·refine z1 (k4 hc1d hb7 hx8 hc9d) ?_;exact e0 h
 obtain ⟨r12,hr10,h⟩:=bI h;refine iB h (fun hc11 h=>?_) fun hc11 h=>?_
 ·obtain ⟨r13,hr12,h⟩:=bI h;refine z1 (k5 hc1d hb7 hx8 hc9d (k3 hr10 hc11 hr12)) ?_;exact e0 h
 refine z1 (k5 hc1d hb7 hx8 hc9d (k2 hr10 hc11)) ?_;exact e0 h
@[go_sem] def uL (N:Nat):FnS:=⟨[],true,fn2 (aJ 1 (dP (aG .i64))) (aG .i64) fun q0 q1=>(gR N q0 q1).map fun r=>.tup [vI r.1,vB r.2],false⟩
def Aj (N:Nat):aC prog 128 (uL N):=om2 (Cy N)
def eM:FnS:={ own:=[true,true],pure:=false,fn:=fun _=>none,peek:=true }
theorem bn:eM.own=[true,true]:=rfl
theorem bk:eM.peek=true:=rfl
theorem Cc:HJ prog 199:=
 M0 (fn:=f199) (tS:=35) (tR:=4) (e:=3) (size:=1) func199 rfl rfl (by kernel_rfl) (by kernel_rfl) (by kernel_rfl) (by kernel_rfl)
def yM:aC prog 199 eM:=⟨(fun cs r h=>by simp [eM] at h),fun _=>Cc⟩
def iv:Env:={ T:=fb prog,G:=fun d f=>if d=67/\f=199 then some eM else none }
theorem et:iv.T=fb prog:=rfl
theorem ek (d:Nat):iv.F d=none:=rfl
theorem ej (d f:Nat):iv.L d f=none:=rfl
theorem ew:iv.G 67 199=some eM:=rfl
def EU:GOk prog { T:=fb prog,G:=iv.G }:=by
 refine ⟨?_,fun _ _ _ h=>by cases h⟩;intro d f fs hfs;simp only [iv] at hfs;split at hfs
 ·rename_i hc; obtain ⟨rfl,rfl⟩:=hc; obtain rfl:=acM hfs; exact yM
 cases hfs
theorem GA:Ed prog 129 f129 f129.body.get! := ⟨func129,rfl,by decide,by kernel_rfl⟩
set_option maxHeartbeats 4000000 in
def Gj {α:Type} (row:α->List C) (ok:ar row) (l:List α) (i:Nat) (x:α) (k:Nat) (r:List α) (hr:r=l.take i++[x]++l.drop i) (hi:i<=l.length) (hsz:(l.length+1) * 8<=140737488355328) (hk1:l.length<=k) (hk2:k<=maxLen) :
  Con prog 129 [true,false,true] false [.sl true none 1 (some k) (l.map row),vI i,sO 1 ([x].map row)] (sO 1 (r.map row)):=by
 refine Jp (E:=iv) (zo prog _) EU mix GA (acv rfl) ?_;intro _;rw [vx (by simp)];rw [show gQ [true,false,true] [C.sl true none 1 (some k) (l.map row),C.val (.int .i64 i),C.sl true none 1 none ([x].map row)]=(af (af (af av 0 (.pal 0 [] 0 l.length none)) 1 (vI i)) 2 (.pal 2 [] 0 1 none)) from by funext t; match t with|0=>simp [gQ,ju,kJ,af]|1=>rfl|2=>rfl|t+3=>rfl];rw [show R0 [true,false,true] [C.sl true none 1 (some k) (l.map row),C.val (.int .i64 i),C.sl true none 1 none ([x].map row)]=upd (upd RZ 0 (C.sl true none 1 (some k) (l.map row))) 2 (C.sl true none 1 none ([x].map row)) from by funext t; match t with|0=>rfl|1=>rfl|2=>rfl|t+3=>rfl];apply Jq;simp only [f129,Option.get!];have hi1:(i:Int)<=(l.length:Int):=by omega
 have hi2:i<=l.length:=hi;have h10:(((1:Nat):Int)=0)=False:=by simp
 have hp:(row x).all Abs.plainCell=true:=ok.plain x;have hf:(row x).map C.frz=(row x):=ok.frz x;have hpD:(row x).all qP=true:=by have:=(ar.allD ok [x]); simpa using this
 have hw1:IntKind.i64.wrap ((l.length:Int)+((1:Nat):Int))=((l.length+1:Nat):Int):=by rw [mE (by omega) (by omega)]; rfl
 have hlt0:(l.take i).length=i:=by simp; omega
 have hes:(1 != 0)=true:=rfl;have hm1:min 1 (l.length+1 - i)=1:=by omega
 have hm2:min (l.length - i) (l.length+1 - (i+1))=l.length - i:=by omega
 have hm3:(l.drop i).take (l.length - i)=l.drop i:=acr (by simp);have hm4:i+1<=l.length+1:=by omega
 have hw2:IntKind.i64.wrap (((l.length+1:Nat):Int) - (i:Int))=((l.length+1 - i:Nat):Int):=by rw [mE (by omega) (by omega)]; omega
 have hw1b:IntKind.i64.wrap ((l.length:Int)+1)=((l.length+1:Nat):Int):=hw1;have hw3:IntKind.i64.wrap ((i:Int)+((1:Nat):Int))=((i+1:Nat):Int):=by rw [mE (by omega) (by omega)]; rfl
 have hw3b:IntKind.i64.wrap ((i:Int)+1)=((i+1:Nat):Int):=hw3;simp only [go_sem,seval,et,ek,ej,ew,hi1,hi2,h10,ab6,hp,hf,hpD,ar.frzRows ok,ar.all ok,ar.allPlain ok,ar.allD ok,aK,gp,fa,bO,eP,fu,kA,ib,dt,aR,gI,Ext.all,ia,bz,ab3,hw1,hw2,hw3,hw1b,hw3b,acX,acp,acj,eh,bne_self_eq_false,acE,decide_not,acg,hlt0,hm1,hm2,hm3,hm4,bn,bk,acD];refine Kz rfl ?_;simp only [go_sem,seval,et,ek,ej,ew,hi1,hi2,h10,ab6,hp,hf,hpD,ar.frzRows ok,ar.all ok,ar.allPlain ok,ar.allD ok,aK,gp,fa,bO,eP,fu,kA,ib,dt,aR,gI,Ext.all,ia,bz,ab3,hw1,hw2,hw3,hw1b,hw3b,acX,acp,acj,eh,bne_self_eq_false,acE,decide_not,acg,hlt0,hm1,hm2,hm3,hm4,bn,bk,acD];refine tH rfl (fun hc=>?_) (fun hc=>?_)
 ·have e:i=l.length:=by omega
  subst e;simp only [go_sem,seval,et,ek,ej,ew,hi1,hi2,h10,ab6,hp,hf,hpD,ar.frzRows ok,ar.all ok,ar.allPlain ok,ar.allD ok,aK,gp,fa,bO,eP,fu,kA,ib,dt,aR,gI,Ext.all,ia,bz,ab3,hw1,hw2,hw3,hw1b,hw3b,acX,acp,acj,eh,bne_self_eq_false,acE,decide_not,acg,hlt0,hm1,hm2,hm3,hm4,bn,bk,acD,eC,gK,hsz];refine tj ok ?_;rw [hr];simp [acr]
 ·have hc1:decide ((i:Int)=(l.length:Int))=false:=decide_eq_false hc;have hlt:i < l.length:=by omega
  simp only [go_sem,seval,et,ek,ej,ew,hi1,hi2,h10,ab6,hp,hf,hpD,ar.frzRows ok,ar.all ok,ar.allPlain ok,ar.allD ok,aK,gp,fa,bO,eP,fu,kA,ib,dt,aR,gI,Ext.all,ia,bz,ab3,hw1,hw2,hw3,hw1b,hw3b,acX,acp,acj,eh,bne_self_eq_false,acE,decide_not,acg,hlt0,hm1,hm2,hm3,hm4,bn,bk,acD,hc1];refine tH rfl (fun hk=>?_) (fun hk=>?_)
  ·have hk1:decide (k < l.length+1)=true:=decide_eq_true hk;have hk2:k < i+(l.length+1 - i):=by omega
   have e1:i+(l.length+1 - i)=l.length+1:=by omega
   have hi3:(i:Int)<=((l.length+1:Nat):Int):=by omega
   have hi4:i<=l.length+1:=by omega
   obtain ⟨A,hA⟩:∃ A,List.map row (List.take i l)++List.replicate (l.length+1 - i) [C.val (Value.int .i64 0)]=A:=⟨_,rfl⟩;have hAp:bY A:=by rw [<-hA]; exact j3 (gG ok _) (zM _ [Value.int .i64 0] (by simp [Value.oneCell']))
   have hAl:A.length=l.length+1:=by rw [<-hA,acH,ab5,hlt0,acg]; omega
   obtain ⟨B,hB⟩:∃ B,aL A i [(row x)]=B:=⟨_,rfl⟩;have hBp:bY B:=by rw [<-hB]; exact gH hAp ⟨by simp [frzRows,hf],by simp [hpD]⟩
   have hBl:B.length=l.length+1:=by rw [<-hB]; simp [aL,hAl]; omega
   obtain ⟨D,hD⟩:∃ D,aL B (i+1) (List.map row (List.drop i l))=D:=⟨_,rfl⟩;have hDp:bY D:=by rw [<-hD]; exact gH hBp (gG ok _)
   have hDl:D.length=l.length+1:=by rw [<-hD]; simp [aL,hBl]; omega
   have hDe:D=(l.take i++[x]++l.drop i).map row:=by
    rw [<-hD,<-hB,<-hA,adK,adA,Nn (A:=l.map row) (n:=l.length) (by simp) hi2 (by simp)];simp
   simp only [go_sem,seval,et,ek,ej,ew,hi1,hi2,h10,ab6,hp,hf,hpD,ar.frzRows ok,ar.all ok,ar.allPlain ok,ar.allD ok,aK,gp,fa,bO,eP,fu,kA,ib,dt,aR,gI,Ext.all,ia,bz,ab3,hw1,hw2,hw3,hw1b,hw3b,acX,acp,acj,eh,bne_self_eq_false,acE,decide_not,acg,hlt0,hm1,hm2,hm3,hm4,bn,bk,acD,hc1,hk1,hk,hk2,e1,hi3,hi4,hA,hAl,hAp.1,hAp.2,hB,hBp.1,hBp.2,hBl,hD,hDp.1,hDp.2,hsz];repeat' ((with_reducible refine fZ ?_ ?_); kernel_rfl)
   simp only [go_sem,seval,et,ek,ej,ew,hi1,hi2,h10,ab6,hp,hf,hpD,ar.frzRows ok,ar.all ok,ar.allPlain ok,ar.allD ok,aK,gp,fa,bO,eP,fu,kA,ib,dt,aR,gI,Ext.all,ia,bz,ab3,hw1,hw2,hw3,hw1b,hw3b,acX,acp,acj,eh,bne_self_eq_false,acE,decide_not,acg,hlt0,hm1,hm2,hm3,hm4,bn,bk,acD,eC,gK,hDp.1,hDp.2,hD];refine tj ok ?_;rw [hr,<-hDe,<-hDl,adX]
  ·have hk1:decide (k < l.length+1)=false:=decide_eq_false hk;have hk2:¬ k < i+(l.length+1 - i):=by omega
   have hk3:l.length+1<=k:=by omega
   have e2:l.length+1 - l.length=1:=by omega
   have e3:l.length<=l.length+1:=by omega
   have hi3:(i:Int)<=((l.length+1:Nat):Int):=by omega
   have hi4:i<=l.length+1:=by omega
   have hne:¬ l.length+1 - (i+1)=0:=by omega
   have hne2:¬ l.length - i=0:=by omega
   obtain ⟨A,hA⟩:∃ A,List.map row l++[[C.dead]]=A:=⟨_,rfl⟩;have hAp:bY A:=by rw [<-hA]; exact j3 (gG ok _) (DI 1 1)
   have hAl:A.length=l.length+1:=by rw [<-hA]; simp
   have hm5:min (l.length+1 - i) (l.length+1 - (i+1))=l.length - i:=by omega
   have hm5b:min (l.length+1 - i) (l.length - i)=l.length - i:=by omega
   obtain ⟨A2,hA2⟩:∃ A2,(A.drop i).take (l.length - i)=A2:=⟨_,rfl⟩;have hA2e:A2=List.map row (l.drop i):=by
    rw [<-hA2,<-hA,aeh,ab5,show i - l.length=0 by omega,ady,adI,acr (by simp),show l.length - i - (List.drop i (List.map row l)).length=0 by simp];simp [adA]
   have hA2p:(A2.all fun r=>r.all Abs.plainCell)=true:=by rw [hA2e]; exact ok.allPlain _
   have hA2f:frzRows A2=A2:=by rw [hA2e]; exact ok.frzRows _
   have hA2d:bY A2:=by rw [hA2e]; exact gG ok _
   obtain ⟨B,hB⟩:∃ B,aL A (i+1) A2=B:=⟨_,rfl⟩;have hBp:bY B:=by rw [<-hB]; exact gH hAp hA2d
   have hBl:B.length=l.length+1:=by rw [<-hB]; simp [aL,hAl,hA2e]; omega
   obtain ⟨D,hD⟩:∃ D,aL B i [(row x)]=D:=⟨_,rfl⟩;have hDp:bY D:=by rw [<-hD]; exact gH hBp ⟨by simp [frzRows,hf],by simp [hpD]⟩
   have hDl:D.length=l.length+1:=by rw [<-hD]; simp [aL,hBl]; omega
   have hDe:D=(l.take i++[x]++l.drop i).map row:=by
    rw [<-hD,<-hB,<-hA2,<-hA,Ky (A:=l.map row) (n:=l.length) (by simp) hi2];simp [adK,adA]
   simp only [go_sem,seval,et,ek,ej,ew,hi1,hi2,h10,ab6,hp,hf,hpD,ar.frzRows ok,ar.all ok,ar.allPlain ok,ar.allD ok,aK,gp,fa,bO,eP,fu,kA,ib,dt,aR,gI,Ext.all,ia,bz,ab3,hw1,hw2,hw3,hw1b,hw3b,acX,acp,acj,eh,bne_self_eq_false,acE,decide_not,acg,hlt0,hm1,hm2,hm3,hm4,bn,bk,acD,hc1,hk1,hk,hk2,hk3,e2,e3,hi3,hi4,hne,hne2,hA,hAl,hAp.1,hAp.2,hes,hA2,hA2p,hA2f,hB,hBp.1,hBp.2,hBl,hD,hDp.1,hDp.2,hDl,hm5,hm5b];refine Kf rfl ?_;simp only [go_sem,seval,et,ek,ej,ew,hi1,hi2,h10,ab6,hp,hf,hpD,ar.frzRows ok,ar.all ok,ar.allPlain ok,ar.allD ok,aK,gp,fa,bO,eP,fu,kA,ib,dt,aR,gI,Ext.all,ia,bz,ab3,hw1,hw2,hw3,hw1b,hw3b,acX,acp,acj,eh,bne_self_eq_false,acE,decide_not,acg,hlt0,hm1,hm2,hm3,hm4,bn,bk,acD,hc1,hk1,hk,hk2,hk3,e2,e3,hi3,hi4,hne,hne2,hA,hAl,hAp.1,hAp.2,hes,hA2,hA2p,hA2f,hB,hBp.1,hBp.2,hBl,hD,hDp.1,hDp.2,hDl,hm5,hm5b];repeat' ((with_reducible refine fZ ?_ ?_); kernel_rfl)
   simp only [go_sem,seval,et,ek,ej,ew,hi1,hi2,h10,ab6,hp,hf,hpD,ar.frzRows ok,ar.all ok,ar.allPlain ok,ar.allD ok,aK,gp,fa,bO,eP,fu,kA,ib,dt,aR,gI,Ext.all,ia,bz,ab3,hw1,hw2,hw3,hw1b,hw3b,acX,acp,acj,eh,bne_self_eq_false,acE,decide_not,acg,hlt0,hm1,hm2,hm3,hm4,bn,bk,acD,eC,gK,hDp.1,hDp.2,hD,hDl];refine tj ok ?_;rw [hr,<-hDe,<-hDl,adX]
def Hl (N:Nat) (a0:List Int) (a1:Int) (a2:List Int) (r:List Int) (h:om N a0 a1 a2=some r) :
  Con prog 129 [true,false,true] false [sO 1 (a0.map (aA .i64)),vI a1,sO 1 (a2.map (aA .i64))] (sO 1 (r.map (aA .i64))):=by
 unfold om at h;obtain ⟨n,x,rfl,rfl,h1,h2,h3⟩:=BC h;exact Jr fun k hk1 hk2=>Gj (aA .i64) (mV .i64) a0 n x k r (acM h3).symm h1 h2 (by simpa using hk1) hk2
def gr (N:Nat):FnS:={ own:=[true,false,true],pure:=false,fn:=fun cs=>match cs with
 | [c0,c1,c2]=>(vV 1 (dP (aG .i64)) c0).bind fun q0=>(aG .i64 c1).bind fun q1=>(vV 1 (dP (aG .i64)) c2).bind fun q2=>(om N q0 q1 q2).map fun r=>sO 1 (r.map (aA .i64))
 | _=>none }
theorem CM (N:Nat):(gr N).own=[true,false,true]:=rfl
theorem Cd (N:Nat):(gr N).pure=false:=rfl
theorem B8 (N:Nat):(gr N).peek=false:=rfl
attribute [go_sem] gr CM Cd B8
def Dk (N:Nat):aC prog 129 (gr N):=by
 refine ⟨fun cs r h=>?_,fun h=>by cases h⟩;simp only [gr] at h;split at h
 ·simp only [abZ,abY] at h;obtain ⟨q0,h0,q1,h1,q2,h2,r',hr,rfl⟩:=h;exact (Hl N q0 q1 q2 r' hr).argsO rfl (j6 (qE (mV .i64) (jT .i64) h0) (rT (bN h1) (j6 (qE (mV .i64) (jT .i64) h2) oJ)))
 ·cases h
@[go_sem] def Mi (N d f:Nat):Option FnS:=ay [(14,116,mh N),(18,124,pZ N),(23,125,sB N),(29,126,yK N),(38,117,kD N),(44,127,fS N),(52,128,uL N),(64,117,kD N),(74,117,kD N),(78,117,kD N),(88,117,zQ N),(99,129,gr N)] d f
def LO (N:Nat) (a0:List ai) (a1:Ref) (a2:Int) (r:(List ai) × Int × Int) (h:qv N a0 a1 a2=some r):Con prog 58 [] false [sF 4 (a0.map ai.row),.agg [vS a1.Type_,vS a1.Key],vI a2] (.tup [sO 4 (r.1.map ai.row),vI r.2.1,vI r.2.2]):=by
 refine fk (G:=(Mi N)) func58 (gc 14 (kZ N) (gc 18 (rY N) (gc 23 (tK N) (gc 29 (yO N) (gc 38 (jV N) (gc 44 (CC N) (gc 52 (Aj N) (gc 64 (jV N) (gc 74 (jV N) (gc 78 (jV N) (gc 88 (Bw N) (gc 99 (Dk N) gn)))))))))))) ?_;simp only [f58];unfold qv at h;refine z0 ?_;refine aM ?_;apply aW (fun (c9:Bool)=>⟨tab 103 (af (af (af (af av 0 (sF 4 (a0.map ai.row))) 2 (vI a2)) 4 (pF 4)) 25 (vB c9)),(upd RZ 4 (vA 2 [vS a1.Type_,vS a1.Key]))⟩)
 ·intro hJ1;obtain ⟨r10,hr2,h⟩:=bI h;refine iBs h (fun hc3 h=>?_) fun hc3 h=>?_
  ·refine z1 (k2 hr2 hc3) ?_;refine hJ1 _ true ?_ h;exact wR
  obtain ⟨r11,hr4,h⟩:=bI h;refine iBs h (fun hc5 h=>?_) fun hc5 h=>?_
  ·refine z1 (k4 hr2 hc3 hr4 hc5) ?_;refine hJ1 _ true ?_ h;exact wR
  obtain ⟨r12,hr6,h⟩:=bI h;refine z1 (k5 hr2 hc3 hr4 hc5 hr6) ?_;refine hJ1 _ (!r12) ?_ h;exact wR
 intro c9 h;unfold pt at h;refine cB h (fun hc7 h=>?_) fun hc7 h=>?_
 ·refine z1 hc7 ?_;exact f0 h
 refine bc (pp ?_);unfold pB at h;obtain ⟨r13,hr8,h⟩:=bI h;refine z1 (k2 hc7 hr8) ?_;refine z0 ?_;refine cM h (fun hc9 h=>?_) fun hc9 h=>?_
 ·refine z1 hc9 ?_;refine cD h (fun hc10 hc10d h=>?_) fun hc10 hc10d h=>?_
  ·refine z1 hc10d ?_;exact f0 h
  obtain ⟨r14,hr11,h⟩:=bI h;obtain ⟨r15,hr12,h⟩:=bI h;refine d1 (k3 hc10d hr11 hr12) ?_;exact f0 h
 obtain ⟨x16,hb13,hx14,h⟩:=aI h;obtain ⟨r17,hr15,h⟩:=bI h;refine z1 (k4 hc9 hb13 hx14 hr15) ?_;refine z1 (k2 hb13 hx14) ?_;refine cD h (fun hc16 hc16d h=>?_) fun hc16 hc16d h=>?_
 ·obtain ⟨r18,hr17,h⟩:=bI h;refine z1 (k2 hc16d hr17) ?_;exact f0 h
 refine z1 (k3 hb13 hx14 hc16d) ?_;refine cD h (fun hc18 hc18d h=>?_) fun hc18 hc18d h=>?_
 ·obtain ⟨r19,hr19,h⟩:=bI h;refine z1 (k2 hc18d hr19) ?_;exact f0 h
 refine z1 hc18d ?_;refine cB h (fun hc20 h=>?_) fun hc20 h=>?_
 ·obtain ⟨r20,hr21,h⟩:=bI h;refine z1 (k2 hc20 hr21) ?_;exact f0 h
 refine z1 (k3 hb13 hx14 hc20) ?_;refine cD h (fun hc22 hc22d h=>?_) fun hc22 hc22d h=>?_
 ·refine z1 hc22d ?_;exact f0 h
 obtain ⟨r21,hr23,h⟩:=bI h;refine z1 (k2 hc22d hr23) ?_;obtain ⟨x22,hb24,hx25,h⟩:=aI h;obtain ⟨r23,hr26,h⟩:=bI h;refine z1 (k5 hb13 hb24 hx25 (ov1 (row:=ai.rowD) (rx:=[vS x22.Actor.Type_,vS x22.Actor.Key,vI x22.Owner,sO 1 (x22.Waiters.map (aA .i64))]) hx25 rfl) (k3 (ov2 (row:=ai.rowD) hx25) (ov3 (row:=ai.rowD) hx25) hr26)) ?_;refine z0 ?_;exact f0 h
@[go_sem] def Cr (N:Nat):FnS:=⟨[],false,fn3 (aJ 4 ai.dec) Ref.decA (aG .i64) fun q0 q1 q2=>(qv N q0 q1 q2).map fun r=>.tup [sO 4 (r.1.map ai.row),vI r.2.1,vI r.2.2],false⟩
def F2 (N:Nat):aC prog 58 (Cr N):=om3 (LO N)
def Jy (N:Nat) (a0:Int) (r:Int) (h:ve N a0=some r):Con prog 182 [] true [.val (.int .u64 a0)] (vI r):=by
 refine fk (G:=(ay [])) func182 gn ?_;simp only [f182];unfold ve at h;refine z0 ?_;apply Dh (fun (v1:Int) (v2:Int)=>⟨tab 25 (af (af av 0 (.val (.int .u64 v1))) 2 (vI v2)),RZ⟩)
 ·intro hJ1;refine z0 ?_;refine cD h (fun hc2 hc2d h=>?_) fun hc2 hc2d h=>?_
  ·refine z1 hc2d ?_;refine z0 ?_;refine hJ1 _ (kR .u64 a0 32) 32 ?_ h;exact wR
  refine bc (pp (hJ1 _ a0 0 ?_ h));exact wR
 intro v1 v2 h;unfold vT at h;apply Dh (fun (v3:Int) (v4:Int)=>⟨tab 25 (af (af av 0 (.val (.int .u64 v3))) 2 (vI v4)),RZ⟩)
 ·intro hJ3;refine z0 ?_;refine cD h (fun hc4 hc4d h=>?_) fun hc4 hc4d h=>?_
  ·refine z1 hc4d ?_;refine z0 ?_;refine hJ3 _ (kR .u64 v1 16) (IntKind.i64.wrap (v2+16)) ?_ h;exact wR
  refine bc (pp (hJ3 _ v1 v2 ?_ h));exact wR
 intro v3 v4 h;unfold vL at h;apply Dh (fun (v5:Int) (v6:Int)=>⟨tab 25 (af (af av 0 (.val (.int .u64 v5))) 2 (vI v6)),RZ⟩)
 ·intro hJ5;refine z0 ?_;refine cD h (fun hc6 hc6d h=>?_) fun hc6 hc6d h=>?_
  ·refine z1 hc6d ?_;refine z0 ?_;refine hJ5 _ (kR .u64 v3 8) (IntKind.i64.wrap (v4+8)) ?_ h;exact wR
  refine bc (pp (hJ5 _ v3 v4 ?_ h));exact wR
 intro v5 v6 h;unfold vG at h;obtain ⟨b7,hb7,hx8,h⟩:=Wf h;refine z1 (k2 hb7 hx8) ?_;exact e0 h
@[go_sem] def B3 (N:Nat):FnS:=⟨[],true,fn1 (aG .u64) fun q0=>(ve N q0).map fun r=>vI r,false⟩
def Fg (N:Nat):aC prog 182 (B3 N):=om1 (Jy N)
@[go_sem] def LA (N d f:Nat):Option FnS:=ay [(7,182,B3 N)] d f
def Lq (N:Nat) (a0:Int) (r:Int) (h:uA N a0=some r):Con prog 102 [] true [.val (.int .u64 a0)] (vI r):=by
 refine fk (G:=(LA N)) func102 (gc 7 (Fg N) gn) ?_;simp only [f102];unfold uA at h;refine z0 ?_;refine cf ?_;first|rw [if_pos (rfl:true=true)] at h|rw [if_neg acV] at h|skip
 obtain ⟨r1,hr1,h⟩:=bI h;refine z1 hr1 ?_;exact e0 h
@[go_sem] def y7 (N:Nat):FnS:=⟨[],true,fn1 (aG .u64) fun q0=>(uA N q0).map fun r=>vI r,false⟩
def As (N:Nat):aC prog 102 (y7 N):=om1 (Lq N)
@[go_sem] def vn (N d f:Nat):Option FnS:=ay [(29,197,zR N)] d f
def lr (N:Nat) (a0:List Int) (a1:Int) (a2:Int) (r:List Int) (h:dB N a0 a1 a2=some r):(r).length=a0.length:=by
 unfold dB at h; exact (lh h).2
def vq (N:Nat) (a0:List Int) (a1:Int) (a2:Int) (r:List Int) (h:dB N a0 a1 a2=some r):m8 prog 219 1 [sO 1 (a0.map (aA .i64)),vI a1,vI a2] (.tup []) [sO 1 (r.map (aA .i64))]:=by
 unfold dB at h;obtain ⟨h,hlen⟩:=lh h;refine zl (G:=(vn N)) (L:=noL) func219 rfl (by decide) (by kernel_rfl) 1 (by kernel_rfl) (gc 29 (BM N) gn) (fun _ _ _ h=>by cases h) [] mix (acv rfl) (acv rfl) rfl (by simp [dT,hlen]) ?_;simp only [f219];refine z0 ?_;refine aX (iS (fun (b:Int)=>⟨tab 49 (af (af (af (af av 0 (.pal 0 [] 0 a0.length none)) 1 (vI a1)) 2 (vI a2)) 6 (vI b)),(upd RZ 0 (sO 1 (a0.map (aA .i64))))⟩) (IntKind.i64.wrap (a1+1)) h ?_ ?_)
 ·exact wR
 rintro n v1 h -;cases n with
 | zero=>simp [fh] at h
 | succ n=>
 simp only [fh] at h;refine z0 ?_;refine cDs h (fun hc1 hc1d h=>?_) fun hc1 hc1d h=>?_
 ·refine iQ (pp ?_);obtain rfl:=acM h;refine CU (.inr rfl) (bh.refl _) (by simp only [go_sem,seval,hc1d]; rfl) (by simp only [go_sem,seval]; rfl) (by (try simp only [go_sem,seval]); first|exact Le.refl _|exact LeI.h) ?_;exact CS (by simp only [go_sem,seval,hc1d]<;>rfl) (by simp only [go_sem,seval]<;>rfl) (E3)
 refine z1 hc1d ?_;refine aX (iS (fun (b:Unit)=>⟨tab 49 (af (af (af (af (af av 0 (.pal 0 [] 0 a0.length none)) 1 (vI a1)) 2 (vI a2)) 6 (vI v1)) 7 (vI v1)),(upd RZ 0 (sO 1 (a0.map (aA .i64))))⟩) () h ?_ ?_)
 ·exact wR
 rintro n ⟨⟩ h -;cases n with
 | zero=>simp [iH] at h
 | succ n=>
 simp only [iH] at h;refine aM ?_;apply aW (fun (c9:Bool)=>⟨tab 49 (af (af (af (af (af (af av 0 (.pal 0 [] 0 a0.length none)) 1 (vI a1)) 2 (vI a2)) 6 (vI v1)) 7 (vI v1)) 30 (vB c9)),(upd RZ 0 (sO 1 (a0.map (aA .i64))))⟩)
 ·intro hJ2;refine iDs h (fun hc3 hc3d h=>?_) fun hc3 hc3d h=>?_
  ·refine d1 hc3d ?_;refine hJ2 _ false ?_ h;exact wR
  obtain ⟨x10,hb4,hx5,h⟩:=aI h;obtain ⟨x11,hb6,hx7,h⟩:=aI h;obtain ⟨r12,hr8,h⟩:=bI h;refine d1 (k5 hc3d hb4 hx5 hb6 (k2 hx7 hr8)) ?_;refine hJ2 _ r12 ?_ h;exact wR
 intro c9 h;unfold iy at h;refine cB h (fun hc9 h=>?_) fun hc9 h=>?_
 ·refine bc (pp ?_);unfold iw at h;refine aM (aX ?_);obtain ⟨x13,hb10,hx11,h⟩:=aI h;obtain ⟨x14,hb12,hx13,h⟩:=aI h;cases h
 refine z1 hc9 ?_;refine ⟨_,acK _,(IntKind.i64.wrap (v1+1)),?_,h⟩;exact wR
@[go_sem] def iF (N:Nat):FnL:=⟨1,fun cs rest=>match cs,rest with
 | [v0],[c1,c2]=>(C8 1 (dP (aG .i64)) v0).bind fun q0=>((aG .i64) c1).bind fun q1=>((aG .i64) c2).bind fun q2=>(dB N q0 q1 q2).map fun r=>(.tup [],[sO 1 (r.map (aA .i64))])
 | _,_=>none,false⟩
def tB (N:Nat):wZ prog 219 (iF N):=by
 refine HQ (ad6 _) rfl ?_;intro cs rest r ls hlen h;simp only [iF] at h;split at h
 ·simp only [abZ,abY] at h;obtain ⟨q0,h0,q1,h1,q2,h2,r',hr,he⟩:=h;cases he;exact m8.told rfl rfl (zm (zc (mV .i64) (jT .i64) h0) (Bx)) (LeL.cons (bN h1) (LeL.cons (bN h2) (LeL.nil))) (vq N q0 q1 q2 r' hr)
 ·cases h
@[go_sem] def zs (N d f:Nat):Option FnL:=Bl [(27,219,iF N)] d f
def oK (N:Nat) (a0:List Int) (a1:Int) (a2:Int) (a3:Int) (r:List Int) (h:eL N a0 a1 a2 a3=some r):(r).length=a0.length:=by
 unfold eL at h; exact (lh h).2
def zq (N:Nat) (a0:List Int) (a1:Int) (a2:Int) (a3:Int) (r:List Int) (h:eL N a0 a1 a2 a3=some r):m8 prog 185 1 [sO 1 (a0.map (aA .i64)),vI a1,vI a2,vI a3] (.tup []) [sO 1 (r.map (aA .i64))]:=by
 unfold eL at h;obtain ⟨h,hlen⟩:=lh h;refine zl (G:=(ay [])) (L:=(zs N)) func185 rfl (by decide) (by kernel_rfl) 1 (by kernel_rfl) gn (lc 27 (tB N) ln) [] mix (acv rfl) (acv rfl) rfl (by simp [dT,hlen]) ?_;simp only [f185];refine z0 ?_;refine z0 ?_;refine aX (iS (fun (b:Unit)=>⟨tab 134 (af (af (af (af (af (af av 0 (.pal 0 [] 0 a0.length none)) 1 (vI a1)) 2 (vI a2)) 3 (vI a3)) 8 (vB true)) 9 (vB true)),(upd RZ 0 (sO 1 (a0.map (aA .i64))))⟩) () h ?_ ?_)
 ·exact wR
 rintro n ⟨⟩ h -;cases n with
 | zero=>simp [jR] at h
 | succ n=>
 simp only [jR] at h;refine z0 ?_;refine z0 ?_;refine cDs h (fun hc1 hc1d h=>?_) fun hc1 hc1d h=>?_
 ·refine z1 hc1d ?_;refine cD h (fun hc3 hc3d h=>?_) fun hc3 hc3d h=>?_
  ·refine aM ?_;cases h
  refine z1 hc3d ?_;refine cf ?_;first|rw [if_pos (rfl:true=true)] at h|rw [if_neg acV] at h|skip
  refine bc (pp (aM ?_));cases h
 obtain ⟨r1,hr2,h⟩:=bI h;refine z1 (k3 hc1d hr2 (lr N a0 a1 a2 r1 hr2)) ?_;refine fD (pp ?_);obtain rfl:=acM h;refine CU (.inl rfl) (bh.refl _) (by simp only [go_sem,seval]; rfl) (by simp only [go_sem,seval]; rfl) (by (try simp only [go_sem,seval]); first|exact Le.refl _|exact LeI.h) ?_;exact CS (by simp only [go_sem,seval,lr N a0 a1 a2 r1 hr2]<;>rfl) (by simp only [go_sem,seval]<;>rfl) (E3)
@[go_sem] def jS (N:Nat):FnL:=⟨1,fun cs rest=>match cs,rest with
 | [v0],[c1,c2,c3]=>(C8 1 (dP (aG .i64)) v0).bind fun q0=>((aG .i64) c1).bind fun q1=>((aG .i64) c2).bind fun q2=>((aG .i64) c3).bind fun q3=>(eL N q0 q1 q2 q3).map fun r=>(.tup [],[sO 1 (r.map (aA .i64))])
 | _,_=>none,false⟩
def wD (N:Nat):wZ prog 185 (jS N):=by
 refine HQ (ad6 _) rfl ?_;intro cs rest r ls hlen h;simp only [jS] at h;split at h
 ·simp only [abZ,abY] at h;obtain ⟨q0,h0,q1,h1,q2,h2,q3,h3,r',hr,he⟩:=h;cases he;exact m8.told rfl rfl (zm (zc (mV .i64) (jT .i64) h0) (Bx)) (LeL.cons (bN h1) (LeL.cons (bN h2) (LeL.cons (bN h3) (LeL.nil)))) (zq N q0 q1 q2 q3 r' hr)
 ·cases h
@[go_sem] def DO (N d f:Nat):Option FnS:=ay [(9,102,y7 N)] d f
@[go_sem] def DQ (N d f:Nat):Option FnL:=Bl [(10,185,jS N)] d f
def CK (N:Nat) (a0:List Int) (r:List Int) (h:iT N a0=some r):(r).length=a0.length:=by
 unfold iT at h; exact (lh h).2
def wQ (N:Nat) (a0:List Int) (r:List Int) (h:iT N a0=some r):m8 prog 109 1 [sO 1 (a0.map (aA .i64))] (.tup []) [sO 1 (r.map (aA .i64))]:=by
 unfold iT at h;obtain ⟨h,hlen⟩:=lh h;refine zl (G:=(DO N)) (L:=(DQ N)) func109 rfl (by decide) (by kernel_rfl) 1 (by kernel_rfl) (gc 9 (As N) gn) (lc 10 (wD N) ln) [] mix (acv rfl) (acv rfl) rfl (by simp [dT,hlen]) ?_;simp only [f109];refine z0 ?_;obtain ⟨r1,hr1,h⟩:=bI h;obtain ⟨r2,hr2,h⟩:=bI h;refine z1 (k3 hr1 hr2 (oK N a0 0 (a0.length:Int) r1 r2 hr2)) ?_;obtain rfl:=acM h;refine CU (.inr rfl) (bh.refl _) (by simp only [go_sem,seval]; rfl) (by simp only [go_sem,seval]; rfl) (by (try simp only [go_sem,seval]); first|exact Le.refl _|exact LeI.h) ?_;exact CS (by simp only [go_sem,seval,oK N a0 0 (a0.length:Int) r1 r2 hr2]<;>rfl) (by simp only [go_sem,seval]<;>rfl) (E3)
@[go_sem] def vJ (N:Nat):FnL:=⟨1,fun cs rest=>match cs,rest with
 | [v0],[]=>(C8 1 (dP (aG .i64)) v0).bind fun q0 =>  (iT N q0).map fun r=>(.tup [],[sO 1 (r.map (aA .i64))])
 | _,_=>none,false⟩
def N5 (N:Nat):wZ prog 109 (vJ N):=by
 refine HQ (ad6 _) rfl ?_;intro cs rest r ls hlen h;simp only [vJ] at h;split at h
 ·simp only [abZ,abY] at h;obtain ⟨q0,h0,r',hr,he⟩:=h;cases he;exact m8.told rfl rfl (zm (zc (mV .i64) (jT .i64) h0) (Bx)) (LeL.nil) (wQ N q0 r' hr)
 ·cases h
def Hm:Go.Shelf.Ren:=⟨fun|125=>102|128=>181|129=>182|189=>109|215=>228|216=>197|257=>185|294=>219|295=>220|296=>221|297=>222|298=>223|299=>224|300=>225|301=>226|328=>232|329=>215|330=>216|331=>233|332=>234|343=>237|n=>n,fun|0=>0|3=>3|4=>4|5=>5|9=>9|28=>35|46=>136|51=>186|53=>188|131=>115|182=>179|183=>180|218=>207|222=>211|228=>219|229=>220|n=>n,fun n=>n⟩
def Hw:Go.Proofs.Lays.n189 prog Hm where
 mixed:=by kernel_rfl
 f125:=func102.trans (congrArg some (by kernel_rfl))
 f128:=func181.trans (congrArg some (by kernel_rfl))
 f129:=func182.trans (congrArg some (by kernel_rfl))
 f189:=func109.trans (congrArg some (by kernel_rfl))
 f215:=func228.trans (congrArg some (by kernel_rfl))
 f216:=func197.trans (congrArg some (by kernel_rfl))
 f257:=func185.trans (congrArg some (by kernel_rfl))
 f294:=func219.trans (congrArg some (by kernel_rfl))
 f295:=func220.trans (congrArg some (by kernel_rfl))
 f296:=func221.trans (congrArg some (by kernel_rfl))
 f297:=func222.trans (congrArg some (by kernel_rfl))
 f298:=func223.trans (congrArg some (by kernel_rfl))
 f299:=func224.trans (congrArg some (by kernel_rfl))
 f300:=func225.trans (congrArg some (by kernel_rfl))
 f301:=func226.trans (congrArg some (by kernel_rfl))
 f328:=func232.trans (congrArg some (by kernel_rfl))
 f329:=func215.trans (congrArg some (by kernel_rfl))
 f330:=func216.trans (congrArg some (by kernel_rfl))
 f331:=func233.trans (congrArg some (by kernel_rfl))
 f332:=func234.trans (congrArg some (by kernel_rfl))
 f343:=func237.trans (congrArg some (by kernel_rfl))
 t0:=underlying0
 a0:=Tryz.isAgg0
 z0:=Tryz.sizeOf0
 v0:=Tryz.zeroValue0
 t3:=underlying3
 a3:=Tryz.isAgg3
 z3:=Tryz.sizeOf3
 v3:=Tryz.zeroValue3
 t4:=underlying4
 a4:=Tryz.isAgg4
 z4:=Tryz.sizeOf4
 v4:=Tryz.zeroValue4
 t5:=underlying5
 a5:=Tryz.isAgg5
 z5:=Tryz.sizeOf5
 v5:=Tryz.zeroValue5
 t9:=underlying9
 a9:=Tryz.isAgg9
 z9:=Tryz.sizeOf9
 v9:=Tryz.zeroValue9
 t28:=underlying35
 a28:=Tryz.isAgg35
 z28:=Tryz.sizeOf35
 v28:=Tryz.zeroValue35
 t46:=underlying136
 a46:=Tryz.isAgg136
 z46:=Tryz.sizeOf136
 v46:=Tryz.zeroValue136
 t51:=underlying186
 a51:=Tryz.isAgg186
 z51:=Tryz.sizeOf186
 v51:=Tryz.zeroValue186
 t53:=underlying188
 a53:=Tryz.isAgg188
 z53:=Tryz.sizeOf188
 v53:=Tryz.zeroValue188
 t131:=underlying115
 a131:=Tryz.isAgg115
 z131:=Tryz.sizeOf115
 v131:=Tryz.zeroValue115
 t182:=underlying179
 a182:=Tryz.isAgg179
 z182:=Tryz.sizeOf179
 v182:=Tryz.zeroValue179
 t183:=underlying180
 a183:=Tryz.isAgg180
 z183:=Tryz.sizeOf180
 v183:=Tryz.zeroValue180
 t218:=underlying207
 a218:=Tryz.isAgg207
 z218:=Tryz.sizeOf207
 v218:=Tryz.zeroValue207
 t222:=underlying211
 a222:=Tryz.isAgg211
 z222:=Tryz.sizeOf211
 v222:=Tryz.zeroValue211
 t228:=underlying219
 a228:=Tryz.isAgg219
 z228:=Tryz.sizeOf219
 v228:=Tryz.zeroValue219
 t229:=underlying220
 a229:=Tryz.isAgg220
 z229:=Tryz.sizeOf220
 v229:=Tryz.zeroValue220
def Ap (N:Nat) (a0:List Int) (r:List Int) (h:slices_Sort_int N a0=some r):(r).length=a0.length:=by
 unfold slices_Sort_int at h;split at h
 ·exact CK N a0 r h
 ·exact Oh h
def JH (N:Nat) (a0:List Int) (r:List Int) (h:slices_Sort_int N a0=some r):m8 prog 109 1 [sO 1 (a0.map (aA .i64))] (.tup []) [sO 1 (r.map (aA .i64))]:=by
 unfold slices_Sort_int at h;split at h
 ·exact wQ N a0 r h
 ·rename_i hne;exact Vp Hw rfl (enters_of func109 (by kernel_rfl) rfl) (fun e=>hne (by rw [e]; rfl)) h
@[go_sem] def vy (N:Nat):FnL:=⟨1,fun cs rest=>match cs,rest with
 | [v0],[]=>(C8 1 (dP (aG .i64)) v0).bind fun q0 =>  (slices_Sort_int N q0).map fun r=>(.tup [],[sO 1 (r.map (aA .i64))])
 | _,_=>none,false⟩
def FC (N:Nat):wZ prog 109 (vy N):=by
 refine HQ (ad6 _) rfl ?_;intro cs rest r ls hlen h;simp only [vy] at h;split at h
 ·simp only [abZ,abY] at h;obtain ⟨q0,h0,r',hr,he⟩:=h;cases he;exact m8.told rfl rfl (zm (zc (mV .i64) (jT .i64) h0) (Bx)) (LeL.nil) (JH N q0 r' hr)
 ·cases h
@[go_sem] def KK (N d f:Nat):Option FnS:=ay [(45,108,fN N),(32,108,fN N)] d f
@[go_sem] def K2 (N d f:Nat):Option FnL:=Bl [(50,109,vy N)] d f
def KZ (N:Nat) (a0:ae) (a1:Int) (r:List Int) (h:oZ N a0 a1=some r):Con prog 48 [] true [.agg (ae.row a0),vI a1] (sO 1 (r.map (aA .i64))):=by
 refine Sk (G:=(KK N)) (L:=(K2 N)) func48 rfl (by decide) (by kernel_rfl) (gc 45 (fY N) (gc 32 (fY N) gn)) (lc 50 (FC N) ln) [] mix (acv rfl) ?_;simp only [f48];unfold oZ at h;refine z0 ?_;refine z0 ?_;refine aM (Vx (pp (aX (iS (fun (b:List Int)=>⟨tab 52 (af (af av 2 (pF 2)) 5 (.pal 39 [] 0 b.length none)),(upd (upd RZ 2 (vA 3 (ae.row a0))) 39 (sO 1 (b.map (aA .i64))))⟩) [a1] h ?_ ?_))))
 ·refine bh.trans (RB 5 12 39 (by decide) (by decide) (by simp only [go_sem,seval]) (by simp only [go_sem,seval]; rfl) (by simp only [go_sem,seval]; rfl) (by first|(simp; done)|simp only [go_sem,seval,ac2,acy,acS,acL])) ?_;refine wr ?_ ?_<;>repeat' first|rfl|constructor|simp only [go_sem,seval,ac2,acy,acS,acL]
 rintro n l1 h -;cases n with
 | zero=>simp [kX] at h
 | succ n=>
 simp only [kX] at h;refine z0 ?_;refine aX (ic fun hreal2=>?_);have hl1:=hreal2.lenT 14 (by decide) (by simp only [go_sem,seval]; rfl);first|rw [ab5] at hl1|rw [fC] at hl1|rw [<-acs,ab5] at hl1
 refine rO (fun (v4:Nat) (b:Unit)=>⟨tab 52 (af (af (af (af (af av 2 (pF 2)) 5 (.pal 39 [] 0 l1.length none)) 14 (sF 3 (a0.Stacks.map aa.row))) 15 (vI (a0.Stacks.length:Int))) 16 (vI (v4:Int))),(upd (upd RZ 2 (vA 3 (ae.row a0))) 39 (sO 1 (l1.map (aA .i64))))⟩) () h ?_ ?_
 ·refine wr ?_ ?_<;>repeat' first|rfl|constructor|simp only [go_sem,seval,ac2,acy,acS,acL]
 rintro v4 ⟨⟩ hi3 h -;rcases (ml a0.Stacks v4 hi3).symm with ⟨hi3',_,hd6⟩|⟨x7,hi3',hx4,hd6⟩
 ·rw [hd6] at h;simp only [jC] at h;refine z1 hi3' ?_;refine cf ?_;refine iQ (pp ?_);unfold w4 at h;obtain ⟨r33,hr20,h⟩:=bI h;refine z1 (k2 hr20 (Ap N l1 r33 hr20)) ?_;refine z0 ?_;refine fD (pp ?_);obtain rfl:=acM h;simp only [go_sem,seval,acr (afm (Ap N l1 r33 hr20))];exact ⟨_,rfl,iz.h,qI.h⟩
 rw [hd6] at h;simp only [jC] at h;have hw5:=eW hi3' hl1;refine z1 hi3' ?_;refine ct ?_;refine z1 (k2 hx4 hi3') ?_;refine z0 ?_;refine z0 ?_;refine lT 21 (fun (v11:Nat) (b:Bool)=>⟨tab 52 (af (af (af (af (af (af (af (af (af av 2 (pF 2)) 5 (.pal 39 [] 0 l1.length none)) 8 (vB b)) 14 (sF 3 (a0.Stacks.map aa.row))) 15 (vI (a0.Stacks.length:Int))) 16 (vI (v4:Int))) 21 (sF 3 (x7.Layers.map al.row))) 22 (vI (x7.Layers.length:Int))) 23 (vI (v11:Int))),(upd (upd RZ 2 (vA 3 (ae.row a0))) 39 (sO 1 (l1.map (aA .i64))))⟩) false h ?_ ?_ (h0:=wF (k3 hx4 hi3' hw5))
 ·rintro v11 c10 hi9' h;simp only [gm] at h;refine z1 hi9' ?_;refine cf ?_;refine z1 hw5 ?_;first|refine ⟨(),?_,h⟩|refine ⟨hi3',(),?_,h⟩
  exact wF (k4 hx4 hi3' hw5 hi9')
 rintro v11 c10 x14 hi9' hx10 hw11 h;simp only [gm] at h;refine z1 hi9' ?_;refine ct ?_;refine z1 (k2 hx10 hi9') ?_;refine aM ?_;apply Dh (fun (c29:Bool) (c30:Bool)=>⟨tab 52 (af (af (af (af (af (af (af (af (af (af (af av 2 (pF 2)) 5 (.pal 39 [] 0 l1.length none)) 8 (vB c29)) 10 (pF 10)) 14 (sF 3 (a0.Stacks.map aa.row))) 15 (vI (a0.Stacks.length:Int))) 16 (vI (v4:Int))) 21 (sF 3 (x7.Layers.map al.row))) 22 (vI (x7.Layers.length:Int))) 23 (vI (v11:Int))) 34 (vB c30)),(upd (upd (upd RZ 2 (vA 3 (ae.row a0))) 10 (vA 3 (al.row x14))) 39 (sO 1 (l1.map (aA .i64))))⟩)
 ·intro hJ13;refine iB h (fun hc14 h=>?_) fun hc14 h=>?_
  ·obtain ⟨r31,hr15,h⟩:=bI h;refine z1 (k2 hc14 hr15) ?_;refine hJ13 _ true (!r31) ?_ h;exact wF (k5 hx4 hi3' hw5 hx10 (k4 hi9' hw11 hc14 hr15))
  refine z1 hc14 ?_;refine hJ13 _ false false ?_ h;exact wF (k5 hx4 hi3' hw5 hx10 (k3 hi9' hw11 hc14))
 intro c29 c30 h;unfold oq at h;refine cB h (fun hc16 h=>?_) fun hc16 h=>?_
 ·obtain ⟨ha17,h⟩:=ey h;simp only [acf,acJ,acP,Nat.reduceAdd] at ha17;refine z1 (k2 hc16 ha17) ?_;refine iQ (pp (⟨_,acK _,(l1++[x14.Txn_]),?_,h⟩));refine wr ?_ ?_<;>repeat' first|rfl|constructor|simp only [go_sem,seval]
 refine bc (pp ?_);unfold og at h;refine iB h (fun hc18 h=>?_) fun hc18 h=>?_
 ·refine z1 (k2 hc16 hc18) ?_;refine z1 hw11 ?_;first|refine ⟨true,?_,h⟩|refine ⟨hi9',true,?_,h⟩
  exact wF (k5 hx4 hi3' hw5 hx10 (k4 hi9' hw11 hc16 hc18))
 obtain ⟨r32,hr19,h⟩:=bI h;refine z1 (k3 hc16 hc18 hr19) ?_;refine z1 hw11 ?_;first|refine ⟨r32,?_,h⟩|refine ⟨hi9',r32,?_,h⟩
 exact wF (k5 hx4 hi3' hw5 hx10 (k5 hi9' hw11 hc16 hc18 hr19))
@[go_sem] def Cs (N:Nat):FnS:=⟨[],true,fn2 ae.decA (aG .i64) fun q0 q1=>(oZ N q0 q1).map fun r=>sF 1 (r.map (aA .i64)),false⟩
def Gf (N:Nat):aC prog 48 (Cs N):=om2 fun q0 q1 r h=>rs (KZ N q0 q1 r h)
@[go_sem] def Nu (N d f:Nat):Option FnS:=ay [(7,108,fN N)] d f
def Nt (N:Nat) (a0:Txn) (c0_0:List Int) (r:Bool) (h:py N a0 c0_0=some r):Con prog 111 [] true [.agg (Txn.row a0),.iref 1 [[sF 1 (c0_0.map (aA .i64))]] 0 0] (vB r):=by
 refine fk (G:=(Nu N)) func111 (gc 7 (fY N) gn) ?_;simp only [f111];unfold py at h;refine z0 ?_;obtain ⟨r1,hr1,h⟩:=bI h;refine z1 hr1 ?_;exact e0 h
@[go_sem] def vd (N:Nat):FnS:={ own:=[],pure:=true,fn:=fun cs=>match cs with
 | [c0,.iref 1 [[c1_0]] 0 0]=>(Txn.decA c0).bind fun qc0=>((aJ 1 (dP (aG .i64))) c1_0).bind fun qc1_0=>(py N qc0 qc1_0).map fun r=>vB r
 | _=>none }
def BU (N:Nat):aC prog 111 (vd N):=by
 refine ⟨fun cs r h=>?_,fun h=>by cases h⟩;simp only [vd] at h;split at h
 ·simp only [abZ,abY] at h;obtain ⟨q0,h0,q1,h1,r',hr,rfl⟩:=h;exact (ag (Nt N q0 q1 r' hr))
 ·cases h
@[go_sem] def wO (N d f:Nat):Option FnS:=ay [(16,111,vd N)] d f
def wo (N:Nat) (a0:List Txn) (k1_0_0:List Int) (r:Int) (h:gB N a0 k1_0_0=some r):Con prog 71 [] true [sF 11 (a0.map Txn.row),.clo 111 [.iref 1 [[sF 1 (k1_0_0.map (aA .i64))]] 0 0]] (vI r):=by
 refine fk (G:=(wO N)) func71 (gc 16 (BU N) gn) ?_;simp only [f71];unfold gB at h;refine z0 ?_;refine z0 ?_;refine lT 0 (fun (v2:Nat) (b:Unit)=>⟨tab 19 (af (af (af (af av 0 (sF 11 (a0.map Txn.row))) 1 (.clo 111 [.iref 1 [[sF 1 (k1_0_0.map (aA .i64))]] 0 0])) 7 (vI (a0.length:Int))) 8 (vI (v2:Int))),RZ⟩) () h ?_ ?_
 ·rintro v2 ⟨⟩ hi3' h;simp only [ee] at h;refine z1 hi3' ?_;refine cf ?_;refine z0 ?_;exact e0 h
 rintro v2 ⟨⟩ x5 hi3' hx4 hw5 h;simp only [ee] at h;refine z1 hi3' ?_;refine ct ?_;refine z0 ?_;obtain ⟨r1,hr7,h⟩:=bI h;refine z1 (k3 hx4 hi3' hr7) ?_;refine cB h (fun hc8 h=>?_) fun hc8 h=>?_
 ·refine z1 hc8 ?_;exact e0 h
 refine z1 (k2 hw5 hc8) ?_;first|refine ⟨(),?_,h⟩|refine ⟨hi3',(),?_,h⟩
 exact wR
@[go_sem] def iX (N:Nat):FnS:={ own:=[],pure:=true,fn:=fun cs=>match cs with
 | [c0,.clo 111 [.iref 1 [[k1_0_0]] 0 0]]=>((aJ 11 Txn.dec) c0).bind fun qc0=>((aJ 1 (dP (aG .i64))) k1_0_0).bind fun qk1_0_0=>(gB N qc0 qk1_0_0).map fun r=>vI r
 | _=>none }
def uC (N:Nat):aC prog 71 (iX N):=by
 refine ⟨fun cs r h=>?_,fun h=>by cases h⟩;simp only [iX] at h;split at h
 ·simp only [abZ,abY] at h;obtain ⟨q0,h0,q1,h1,r',hr,rfl⟩:=h;exact (ag (wo N q0 q1 r' hr))
 ·cases h
@[go_sem] def vE (N d f:Nat):Option FnS:=ay [(10,71,iX N),(28,111,vd N)] d f
def vK (N:Nat) (a0:List Txn) (k1_0_0:List Int) (r:List Txn) (h:eH N a0 k1_0_0=some r):Con prog 110 [true,false] false [sO 11 (a0.map Txn.row),.clo 111 [.iref 1 [[sF 1 (k1_0_0.map (aA .i64))]] 0 0]] (sO 11 (r.map Txn.row)):=by
 refine A7 (G:=(vE N)) (L:=noL) func110 rfl (by decide) (by kernel_rfl) (gc 10 (uC N) (gc 28 (BU N) gn)) (fun _ _ _ h=>by cases h) [] mix (acv rfl) ?_;rw [show gQ [true,false] [sO 11 (a0.map Txn.row),.clo 111 [.iref 1 [[sF 1 (k1_0_0.map (aA .i64))]] 0 0]]=(af (af av 0 (.pal 0 [] 0 a0.length none)) 1 (.clo 111 [.iref 1 [[sF 1 (k1_0_0.map (aA .i64))]] 0 0])) from by funext t; match t with|0=>simp [gQ,ju,kJ,af]|1=>rfl|t+2=>rfl];rw [show R0 [true,false] [sO 11 (a0.map Txn.row),.clo 111 [.iref 1 [[sF 1 (k1_0_0.map (aA .i64))]] 0 0]]=upd RZ 0 (sO 11 (a0.map Txn.row)) from by funext t; match t with|0=>rfl|1=>rfl|t+2=>rfl];simp only [f110];unfold eH at h;refine z0 ?_;obtain ⟨r1,hr1,h⟩:=bI h;refine z1 hr1 ?_;refine z0 ?_;refine oO rfl (fun hc2=>?_) (fun hc2=>?_)
 ·have hc2d:=decide_eq_true hc2;first|rw [if_pos hc2] at h|rw [if_pos hc2d] at h|simp only [hc2d,acw,acA,aca,if_true,if_false] at h
  refine z1 hc2d ?_;refine fD (pp ?_);cases h;simp (config := { maxSteps := 4000000 }) only [go_sem,seval,eC];exact ⟨_,rfl,iz.h,rI.h⟩
 have hc2d:=decide_eq_false hc2;first|rw [if_neg hc2] at h|rw [if_neg (ne_true_of_eq_false hc2d)] at h|simp only [hc2d,acw,acA,aca,if_true,if_false] at h
 refine z1 hc2d ?_;refine aX (iS (fun (b:List Txn × Int × Int)=>⟨tab 42 (af (af (af (af av 0 (.pal 0 [] 0 b.1.length none)) 1 (.clo 111 [.iref 1 [[sF 1 (k1_0_0.map (aA .i64))]] 0 0])) 5 (vI b.2.1)) 6 (vI b.2.2)),(upd RZ 0 (sO 11 (b.1.map Txn.row)))⟩) (a0,r1,IntKind.i64.wrap (r1+1)) h ?_ ?_)
 ·exact wF (k2 hr1 hc2d)
 rintro n ⟨l4,v5,v6⟩ h -;cases n with
 | zero=>simp [bC] at h
 | succ n=>
 simp only [bC] at h;refine z0 ?_;refine sw (oO rfl) (fun hc3=>?_) (fun hc3=>?_)
 ·have hc3d:=decide_eq_false hc3;first|rw [if_neg hc3] at h|rw [if_neg (ne_true_of_eq_false hc3d)] at h|simp only [hc3d,acw,acA,aca,if_true,if_false] at h
  refine iQ (pp ?_);unfold fv at h;refine aM ?_;obtain ⟨hs12,h⟩:=jy h;try simp only [acm] at hs12 h
  refine iJ fun Z hZ=>?_;simp (config := { maxSteps := 4000000 }) only [go_sem,seval,hc3d,hs12,acp,Nh (row:=Txn.row) (rz:=[vI 0,vI 0,vS (⟨#[]⟩),vI 0,.val (.slice none 0 0),vI 0,vI 0,vI 0,vS (⟨#[]⟩),.val (.slice none 0 0),.val (.slice none 0 0)]) (k:=(v5).toNat) (l:=l4) (by have:=hs12; omega),bO,sI,aK,ar.allD Txn.row_ok];refine hZ _ (pp (mT (wu (n:=0) ((ui (Txn.mk 0 0 (⟨#[]⟩) 0 [] 0 (Value.mk 0 0 (⟨#[]⟩) [] [])) (v5).toNat l4).map Txn.row) rfl (by simp only [go_sem,seval]; rfl) (by simp only [jF,iN,go_sem,seval]; rfl) (hle:=Ql (by repeat' (first|exact Le.refl _|exact LeL.nil|exact Le.nils|refine LeL.cons ?_ ?_)))) ?_));refine aM ?_;obtain ⟨hs13,h⟩:=jy h;try simp only [adZ] at hs13 h
  refine iJ fun Z hZ=>?_;simp (config := { maxSteps := 4000000 }) only [go_sem,seval,hs12,acj,eh,hs13];refine hZ _ (pp (fD (pp ?_)));cases h;simp (config := { maxSteps := 4000000 }) only [go_sem,seval,eC];exact ⟨_,rfl,iz.h,rI.h⟩
 have hc3d:=decide_eq_true hc3;first|rw [if_pos hc3] at h|rw [if_pos hc3d] at h|simp only [hc3d,acw,acA,aca,if_true,if_false] at h
 obtain ⟨x13,hb4,hx5,h⟩:=aI h;refine z1 (k2 hb4 hx5) ?_;obtain ⟨r14,hr6,h⟩:=bI h;refine z1 hr6 ?_;refine sw (qA rfl) (fun hc7=>?_) (fun hc7=>?_)
 ·first|rw [if_pos hc7] at h|simp only [hc7,acW,acZ,acR,ac9,acY,ada,acQ,ac0,acw,acA,aca,if_true,if_false] at h
  refine z1 hc7 ?_;refine ⟨_,acK _,(l4,v5,IntKind.i64.wrap (v6+1)),?_,h⟩;exact wF (k5 hr1 hc2d hc3d hb4 (k3 hx5 hr6 hc7))
 first|rw [if_neg (ne_true_of_eq_false hc7)] at h|simp only [hc7,acW,acZ,acR,ac9,acY,ada,acQ,ac0,acw,acA,aca,if_true,if_false] at h
 obtain ⟨x15,hb8,hx9,h⟩:=aI h;have hx11:=ld (y:=x13) hx9;refine z1 (k4 hc7 hb8 hx9 (mm2 (row:=Txn.row) (y:=x13) (rx:=[vI x15.ID,vI x15.Born,vS x15.Client,vI x15.Seq,sF 4 (x15.Calls.map ah.row),vI x15.Done,vI x15.Last.Kind,vI x15.Last.N,vS x15.Last.S,sF 1 (x15.Last.I.map (aA .i64)),sF 1 (x15.Last.L.map eD)]) (ry:=[vI x13.ID,vI x13.Born,vS x13.Client,vI x13.Seq,sF 4 (x13.Calls.map ah.row),vI x13.Done,vI x13.Last.Kind,vI x13.Last.N,vS x13.Last.S,sF 1 (x13.Last.I.map (aA .i64)),sF 1 (x13.Last.L.map eD)]) hx9 rfl rfl)) ?_;refine z0 ?_;refine z0 ?_;refine ⟨_,acK _,((l4.set ((v5).toNat) x13),IntKind.i64.wrap (v5+1),IntKind.i64.wrap (v6+1)),?_,h⟩;refine wr ?_ ?_<;>repeat' first|rfl|constructor|simp only [go_sem,seval,acy]
def bB (N:Nat):FnS:={ own:=[true,false],pure:=false,fn:=fun cs=>match cs with
 | [c0,.clo 111 [.iref 1 [[k1_0_0]] 0 0]]=>((vV 11 Txn.dec) c0).bind fun q0=>((aJ 1 (dP (aG .i64))) k1_0_0).bind fun q1=>(eH N q0 q1).map fun r=>sO 11 (r.map Txn.row)
 | _=>none }
theorem tp (N:Nat):(bB N).own=[true,false]:=rfl
theorem sp (N:Nat):(bB N).pure=false:=rfl
theorem sn (N:Nat):(bB N).peek=false:=rfl
attribute [go_sem] bB tp sp sn
def tu (N:Nat):aC prog 110 (bB N):=by
 refine ⟨fun cs r h=>?_,fun h=>by cases h⟩;simp only [bB] at h;split at h
 ·simp only [abZ,abY] at h;obtain ⟨q0,h0,q1,h1,r',hr,rfl⟩:=h;exact (vK N q0 q1 r' hr).argsO rfl (j6 (qE Txn.row_ok Txn.dec_le h0) (rT (Le.clo (LeL.cons (Le.iref1 (LeL.cons (iP (jT .i64) h1) (LeL.nil))) (LeL.nil))) (oJ)))
 ·cases h
@[go_sem] def MY (N d f:Nat):Option FnS:=ay [(7,108,fN N)] d f
def Nl (N:Nat) (a0:al) (c0_0:List Int) (r:Bool) (h:po N a0 c0_0=some r):Con prog 113 [] true [.agg (al.row a0),.iref 1 [[sF 1 (c0_0.map (aA .i64))]] 0 0] (vB r):=by
 refine fk (G:=(MY N)) func113 (gc 7 (fY N) gn) ?_;simp only [f113];unfold po at h;refine z0 ?_;obtain ⟨r1,hr1,h⟩:=bI h;refine z1 hr1 ?_;exact e0 h
@[go_sem] def vh (N:Nat):FnS:={ own:=[],pure:=true,fn:=fun cs=>match cs with
 | [c0,.iref 1 [[c1_0]] 0 0]=>(al.decA c0).bind fun qc0=>((aJ 1 (dP (aG .i64))) c1_0).bind fun qc1_0=>(po N qc0 qc1_0).map fun r=>vB r
 | _=>none }
def BD (N:Nat):aC prog 113 (vh N):=by
 refine ⟨fun cs r h=>?_,fun h=>by cases h⟩;simp only [vh] at h;split at h
 ·simp only [abZ,abY] at h;obtain ⟨q0,h0,q1,h1,r',hr,rfl⟩:=h;exact (ag (Nl N q0 q1 r' hr))
 ·cases h
@[go_sem] def vo (N d f:Nat):Option FnS:=ay [(16,113,vh N)] d f
def vu (N:Nat) (a0:List al) (k1_0_0:List Int) (r:Int) (h:fX N a0 k1_0_0=some r):Con prog 186 [] true [sF 3 (a0.map al.row),.clo 113 [.iref 1 [[sF 1 (k1_0_0.map (aA .i64))]] 0 0]] (vI r):=by
 refine fk (G:=(vo N)) func186 (gc 16 (BD N) gn) ?_;simp only [f186];unfold fX at h;refine z0 ?_;refine z0 ?_;refine lT 0 (fun (v2:Nat) (b:Unit)=>⟨tab 19 (af (af (af (af av 0 (sF 3 (a0.map al.row))) 1 (.clo 113 [.iref 1 [[sF 1 (k1_0_0.map (aA .i64))]] 0 0])) 7 (vI (a0.length:Int))) 8 (vI (v2:Int))),RZ⟩) () h ?_ ?_
 ·rintro v2 ⟨⟩ hi3' h;simp only [dO] at h;refine z1 hi3' ?_;refine cf ?_;refine z0 ?_;exact e0 h
 rintro v2 ⟨⟩ x5 hi3' hx4 hw5 h;simp only [dO] at h;refine z1 hi3' ?_;refine ct ?_;refine z0 ?_;obtain ⟨r1,hr7,h⟩:=bI h;refine z1 (k3 hx4 hi3' hr7) ?_;refine cB h (fun hc8 h=>?_) fun hc8 h=>?_
 ·refine z1 hc8 ?_;exact e0 h
 refine z1 (k2 hw5 hc8) ?_;first|refine ⟨(),?_,h⟩|refine ⟨hi3',(),?_,h⟩
 exact wR
@[go_sem] def iG (N:Nat):FnS:={ own:=[],pure:=true,fn:=fun cs=>match cs with
 | [c0,.clo 113 [.iref 1 [[k1_0_0]] 0 0]]=>((aJ 3 al.dec) c0).bind fun qc0=>((aJ 1 (dP (aG .i64))) k1_0_0).bind fun qk1_0_0=>(fX N qc0 qk1_0_0).map fun r=>vI r
 | _=>none }
def tz (N:Nat):aC prog 186 (iG N):=by
 refine ⟨fun cs r h=>?_,fun h=>by cases h⟩;simp only [iG] at h;split at h
 ·simp only [abZ,abY] at h;obtain ⟨q0,h0,q1,h1,r',hr,rfl⟩:=h;exact (ag (vu N q0 q1 r' hr))
 ·cases h
@[go_sem] def uY (N d f:Nat):Option FnS:=ay [(10,186,iG N),(28,113,vh N)] d f
def u4 (N:Nat) (a0:List al) (k1_0_0:List Int) (r:List al) (h:ed N a0 k1_0_0=some r):Con prog 112 [true,false] false [sO 3 (a0.map al.row),.clo 113 [.iref 1 [[sF 1 (k1_0_0.map (aA .i64))]] 0 0]] (sO 3 (r.map al.row)):=by
 refine A7 (G:=(uY N)) (L:=noL) func112 rfl (by decide) (by kernel_rfl) (gc 10 (tz N) (gc 28 (BD N) gn)) (fun _ _ _ h=>by cases h) [] mix (acv rfl) ?_;rw [show gQ [true,false] [sO 3 (a0.map al.row),.clo 113 [.iref 1 [[sF 1 (k1_0_0.map (aA .i64))]] 0 0]]=(af (af av 0 (.pal 0 [] 0 a0.length none)) 1 (.clo 113 [.iref 1 [[sF 1 (k1_0_0.map (aA .i64))]] 0 0])) from by funext t; match t with|0=>simp [gQ,ju,kJ,af]|1=>rfl|t+2=>rfl];rw [show R0 [true,false] [sO 3 (a0.map al.row),.clo 113 [.iref 1 [[sF 1 (k1_0_0.map (aA .i64))]] 0 0]]=upd RZ 0 (sO 3 (a0.map al.row)) from by funext t; match t with|0=>rfl|1=>rfl|t+2=>rfl];simp only [f112];unfold ed at h;refine z0 ?_;obtain ⟨r1,hr1,h⟩:=bI h;refine z1 hr1 ?_;refine z0 ?_;refine oO rfl (fun hc2=>?_) (fun hc2=>?_)
 ·have hc2d:=decide_eq_true hc2;first|rw [if_pos hc2] at h|rw [if_pos hc2d] at h|simp only [hc2d,acw,acA,aca,if_true,if_false] at h
  refine z1 hc2d ?_;refine fD (pp ?_);cases h;simp (config := { maxSteps := 4000000 }) only [go_sem,seval,eC];exact ⟨_,rfl,iz.h,rI.h⟩
 have hc2d:=decide_eq_false hc2;first|rw [if_neg hc2] at h|rw [if_neg (ne_true_of_eq_false hc2d)] at h|simp only [hc2d,acw,acA,aca,if_true,if_false] at h
 refine z1 hc2d ?_;refine aX (iS (fun (b:List al × Int × Int)=>⟨tab 42 (af (af (af (af av 0 (.pal 0 [] 0 b.1.length none)) 1 (.clo 113 [.iref 1 [[sF 1 (k1_0_0.map (aA .i64))]] 0 0])) 5 (vI b.2.1)) 6 (vI b.2.2)),(upd RZ 0 (sO 3 (b.1.map al.row)))⟩) (a0,r1,IntKind.i64.wrap (r1+1)) h ?_ ?_)
 ·exact wF (k2 hr1 hc2d)
 rintro n ⟨l4,v5,v6⟩ h -;cases n with
 | zero=>simp [bu] at h
 | succ n=>
 simp only [bu] at h;refine z0 ?_;refine sw (oO rfl) (fun hc3=>?_) (fun hc3=>?_)
 ·have hc3d:=decide_eq_false hc3;first|rw [if_neg hc3] at h|rw [if_neg (ne_true_of_eq_false hc3d)] at h|simp only [hc3d,acw,acA,aca,if_true,if_false] at h
  refine iQ (pp ?_);unfold fe at h;refine aM ?_;obtain ⟨hs12,h⟩:=jy h;try simp only [acm] at hs12 h
  refine iJ fun Z hZ=>?_;simp (config := { maxSteps := 4000000 }) only [go_sem,seval,hc3d,hs12,acp,Nh (row:=al.row) (rz:=[vI 0,.val (.slice none 0 0),vB false]) (k:=(v5).toNat) (l:=l4) (by have:=hs12; omega),bO,sI,aK,ar.allD al.row_ok];refine hZ _ (pp (mT (wu (n:=0) ((ui (al.mk 0 [] false) (v5).toNat l4).map al.row) rfl (by simp only [go_sem,seval]; rfl) (by simp only [jF,iN,go_sem,seval]; rfl) (hle:=Ql (by repeat' (first|exact Le.refl _|exact LeL.nil|exact Le.nils|refine LeL.cons ?_ ?_)))) ?_));refine aM ?_;obtain ⟨hs13,h⟩:=jy h;try simp only [adZ] at hs13 h
  refine iJ fun Z hZ=>?_;simp (config := { maxSteps := 4000000 }) only [go_sem,seval,hs12,acj,eh,hs13];refine hZ _ (pp (fD (pp ?_)));cases h;simp (config := { maxSteps := 4000000 }) only [go_sem,seval,eC];exact ⟨_,rfl,iz.h,rI.h⟩
 have hc3d:=decide_eq_true hc3;first|rw [if_pos hc3] at h|rw [if_pos hc3d] at h|simp only [hc3d,acw,acA,aca,if_true,if_false] at h
 obtain ⟨x13,hb4,hx5,h⟩:=aI h;refine z1 (k2 hb4 hx5) ?_;obtain ⟨r14,hr6,h⟩:=bI h;refine z1 hr6 ?_;refine sw (qA rfl) (fun hc7=>?_) (fun hc7=>?_)
 ·first|rw [if_pos hc7] at h|simp only [hc7,acW,acZ,acR,ac9,acY,ada,acQ,ac0,acw,acA,aca,if_true,if_false] at h
  refine z1 hc7 ?_;refine ⟨_,acK _,(l4,v5,IntKind.i64.wrap (v6+1)),?_,h⟩;exact wF (k5 hr1 hc2d hc3d hb4 (k3 hx5 hr6 hc7))
 first|rw [if_neg (ne_true_of_eq_false hc7)] at h|simp only [hc7,acW,acZ,acR,ac9,acY,ada,acQ,ac0,acw,acA,aca,if_true,if_false] at h
 obtain ⟨x15,hb8,hx9,h⟩:=aI h;have hx11:=ld (y:=x13) hx9;refine z1 (k4 hc7 hb8 hx9 (mm2 (row:=al.row) (y:=x13) (rx:=[vI x15.Txn_,sF 5 (x15.Fields.map Value.row),vB x15.Prepared]) (ry:=[vI x13.Txn_,sF 5 (x13.Fields.map Value.row),vB x13.Prepared]) hx9 rfl rfl)) ?_;refine z0 ?_;refine z0 ?_;refine ⟨_,acK _,((l4.set ((v5).toNat) x13),IntKind.i64.wrap (v5+1),IntKind.i64.wrap (v6+1)),?_,h⟩;refine wr ?_ ?_<;>repeat' first|rfl|constructor|simp only [go_sem,seval,acy]
def br (N:Nat):FnS:={ own:=[true,false],pure:=false,fn:=fun cs=>match cs with
 | [c0,.clo 113 [.iref 1 [[k1_0_0]] 0 0]]=>((vV 3 al.dec) c0).bind fun q0=>((aJ 1 (dP (aG .i64))) k1_0_0).bind fun q1=>(ed N q0 q1).map fun r=>sO 3 (r.map al.row)
 | _=>none }
theorem rJ (N:Nat):(br N).own=[true,false]:=rfl
theorem rp (N:Nat):(br N).pure=false:=rfl
theorem rv (N:Nat):(br N).peek=false:=rfl
attribute [go_sem] br rJ rp rv
def sr (N:Nat):aC prog 112 (br N):=by
 refine ⟨fun cs r h=>?_,fun h=>by cases h⟩;simp only [br] at h;split at h
 ·simp only [abZ,abY] at h;obtain ⟨q0,h0,q1,h1,r',hr,rfl⟩:=h;exact (u4 N q0 q1 r' hr).argsO rfl (j6 (qE al.row_ok al.dec_le h0) (rT (Le.clo (LeL.cons (Le.iref1 (LeL.cons (iP (jT .i64) h1) (LeL.nil))) (LeL.nil))) (oJ)))
 ·cases h
def NG (N:Nat) (a0:aa) (r:Bool) (h:pL N a0=some r):Con prog 115 [] true [.agg (aa.row a0)] (vB r):=by
 refine fk (G:=(ay [])) func115 gn ?_;simp only [f115];unfold pL at h;refine z0 ?_;refine z0 ?_;exact e0 h
@[go_sem] def zy (N:Nat):FnS:=⟨[],true,fn1 aa.decA fun q0=>(pL N q0).map fun r=>vB r,false⟩
def BB (N:Nat):aC prog 115 (zy N):=om1 (NG N)
@[go_sem] def s6 (N d f:Nat):Option FnS:=ay [(16,115,zy N)] d f
def sR (N:Nat) (a0:List aa) (r:Int) (h:eV N a0=some r):Con prog 105 [] true [sF 3 (a0.map aa.row),.clo 115 []] (vI r):=by
 refine fk (G:=(s6 N)) func105 (gc 16 (BB N) gn) ?_;simp only [f105];unfold eV at h;refine z0 ?_;refine z0 ?_;refine lT 0 (fun (v2:Nat) (b:Unit)=>⟨tab 19 (af (af (af (af av 0 (sF 3 (a0.map aa.row))) 1 (.clo 115 [])) 7 (vI (a0.length:Int))) 8 (vI (v2:Int))),RZ⟩) () h ?_ ?_
 ·rintro v2 ⟨⟩ hi3' h;simp only [b8] at h;refine z1 hi3' ?_;refine cf ?_;refine z0 ?_;exact e0 h
 rintro v2 ⟨⟩ x5 hi3' hx4 hw5 h;simp only [b8] at h;refine z1 hi3' ?_;refine ct ?_;refine z0 ?_;obtain ⟨r1,hr7,h⟩:=bI h;refine z1 (k3 hx4 hi3' hr7) ?_;refine cB h (fun hc8 h=>?_) fun hc8 h=>?_
 ·refine z1 hc8 ?_;exact e0 h
 refine z1 (k2 hw5 hc8) ?_;first|refine ⟨(),?_,h⟩|refine ⟨hi3',(),?_,h⟩
 exact wR
@[go_sem] def gb (N:Nat):FnS:={ own:=[],pure:=true,fn:=fun cs=>match cs with
 | [c0,.clo 115 []]=>((aJ 3 aa.dec) c0).bind fun qc0=>(eV N qc0).map fun r=>vI r
 | _=>none }
def qs (N:Nat):aC prog 105 (gb N):=by
 refine ⟨fun cs r h=>?_,fun h=>by cases h⟩;simp only [gb] at h;split at h
 ·simp only [abZ,abY] at h;obtain ⟨q0,h0,r',hr,rfl⟩:=h;exact (ag (sR N q0 r' hr))
 ·cases h
@[go_sem] def sv (N d f:Nat):Option FnS:=ay [(10,105,gb N),(28,115,zy N)] d f
def su (N:Nat) (a0:List aa) (r:List aa) (h:dz N a0=some r):Con prog 114 [true,false] false [sO 3 (a0.map aa.row),.clo 115 []] (sO 3 (r.map aa.row)):=by
 refine A7 (G:=(sv N)) (L:=noL) func114 rfl (by decide) (by kernel_rfl) (gc 10 (qs N) (gc 28 (BB N) gn)) (fun _ _ _ h=>by cases h) [] mix (acv rfl) ?_;rw [show gQ [true,false] [sO 3 (a0.map aa.row),.clo 115 []]=(af (af av 0 (.pal 0 [] 0 a0.length none)) 1 (.clo 115 [])) from by funext t; match t with|0=>simp [gQ,ju,kJ,af]|1=>rfl|t+2=>rfl];rw [show R0 [true,false] [sO 3 (a0.map aa.row),.clo 115 []]=upd RZ 0 (sO 3 (a0.map aa.row)) from by funext t; match t with|0=>rfl|1=>rfl|t+2=>rfl];simp only [f114];unfold dz at h;refine z0 ?_;obtain ⟨r1,hr1,h⟩:=bI h;refine z1 hr1 ?_;refine z0 ?_;refine oO rfl (fun hc2=>?_) (fun hc2=>?_)
 ·have hc2d:=decide_eq_true hc2;first|rw [if_pos hc2] at h|rw [if_pos hc2d] at h|simp only [hc2d,acw,acA,aca,if_true,if_false] at h
  refine z1 hc2d ?_;refine fD (pp ?_);cases h;simp (config := { maxSteps := 4000000 }) only [go_sem,seval,eC];exact ⟨_,rfl,iz.h,rI.h⟩
 have hc2d:=decide_eq_false hc2;first|rw [if_neg hc2] at h|rw [if_neg (ne_true_of_eq_false hc2d)] at h|simp only [hc2d,acw,acA,aca,if_true,if_false] at h
 refine z1 hc2d ?_;refine aX (iS (fun (b:List aa × Int × Int)=>⟨tab 42 (af (af (af (af av 0 (.pal 0 [] 0 b.1.length none)) 1 (.clo 115 [])) 5 (vI b.2.1)) 6 (vI b.2.2)),(upd RZ 0 (sO 3 (b.1.map aa.row)))⟩) (a0,r1,IntKind.i64.wrap (r1+1)) h ?_ ?_)
 ·exact wF (k2 hr1 hc2d)
 rintro n ⟨l4,v5,v6⟩ h -;cases n with
 | zero=>simp [aZ] at h
 | succ n=>
 simp only [aZ] at h;refine z0 ?_;refine sw (oO rfl) (fun hc3=>?_) (fun hc3=>?_)
 ·have hc3d:=decide_eq_false hc3;first|rw [if_neg hc3] at h|rw [if_neg (ne_true_of_eq_false hc3d)] at h|simp only [hc3d,acw,acA,aca,if_true,if_false] at h
  refine iQ (pp ?_);unfold eb at h;refine aM ?_;obtain ⟨hs12,h⟩:=jy h;try simp only [acm] at hs12 h
  refine iJ fun Z hZ=>?_;simp (config := { maxSteps := 4000000 }) only [go_sem,seval,hc3d,hs12,acp,Nh (row:=aa.row) (rz:=[vS (⟨#[]⟩),vS (⟨#[]⟩),.val (.slice none 0 0)]) (k:=(v5).toNat) (l:=l4) (by have:=hs12; omega),bO,sI,aK,ar.allD aa.row_ok];refine hZ _ (pp (mT (wu (n:=0) ((ui (aa.mk (Ref.mk (⟨#[]⟩) (⟨#[]⟩)) []) (v5).toNat l4).map aa.row) rfl (by simp only [go_sem,seval]; rfl) (by simp only [jF,iN,go_sem,seval]; rfl) (hle:=Ql (by repeat' (first|exact Le.refl _|exact LeL.nil|exact Le.nils|refine LeL.cons ?_ ?_)))) ?_));refine aM ?_;obtain ⟨hs13,h⟩:=jy h;try simp only [adZ] at hs13 h
  refine iJ fun Z hZ=>?_;simp (config := { maxSteps := 4000000 }) only [go_sem,seval,hs12,acj,eh,hs13];refine hZ _ (pp (fD (pp ?_)));cases h;simp (config := { maxSteps := 4000000 }) only [go_sem,seval,eC];exact ⟨_,rfl,iz.h,rI.h⟩
 have hc3d:=decide_eq_true hc3;first|rw [if_pos hc3] at h|rw [if_pos hc3d] at h|simp only [hc3d,acw,acA,aca,if_true,if_false] at h
 obtain ⟨x13,hb4,hx5,h⟩:=aI h;refine z1 (k2 hb4 hx5) ?_;obtain ⟨r14,hr6,h⟩:=bI h;refine z1 hr6 ?_;refine sw (qA rfl) (fun hc7=>?_) (fun hc7=>?_)
 ·first|rw [if_pos hc7] at h|simp only [hc7,acW,acZ,acR,ac9,acY,ada,acQ,ac0,acw,acA,aca,if_true,if_false] at h
  refine z1 hc7 ?_;refine ⟨_,acK _,(l4,v5,IntKind.i64.wrap (v6+1)),?_,h⟩;exact wF (k5 hr1 hc2d hc3d hb4 (k3 hx5 hr6 hc7))
 first|rw [if_neg (ne_true_of_eq_false hc7)] at h|simp only [hc7,acW,acZ,acR,ac9,acY,ada,acQ,ac0,acw,acA,aca,if_true,if_false] at h
 obtain ⟨x15,hb8,hx9,h⟩:=aI h;have hx11:=ld (y:=x13) hx9;refine z1 (k4 hc7 hb8 hx9 (mm2 (row:=aa.row) (y:=x13) (rx:=[vS x15.Actor.Type_,vS x15.Actor.Key,sF 3 (x15.Layers.map al.row)]) (ry:=[vS x13.Actor.Type_,vS x13.Actor.Key,sF 3 (x13.Layers.map al.row)]) hx9 rfl rfl)) ?_;refine z0 ?_;refine z0 ?_;refine ⟨_,acK _,((l4.set ((v5).toNat) x13),IntKind.i64.wrap (v5+1),IntKind.i64.wrap (v6+1)),?_,h⟩;refine wr ?_ ?_<;>repeat' first|rfl|constructor|simp only [go_sem,seval,acy]
def aY (N:Nat):FnS:={ own:=[true,false],pure:=false,fn:=fun cs=>match cs with
 | [c0,.clo 115 []]=>((vV 3 aa.dec) c0).bind fun q0=>(dz N q0).map fun r=>sO 3 (r.map aa.row)
 | _=>none }
theorem o8 (N:Nat):(aY N).own=[true,false]:=rfl
theorem oG (N:Nat):(aY N).pure=false:=rfl
theorem ov (N:Nat):(aY N).peek=false:=rfl
attribute [go_sem] aY o8 oG ov
def pC (N:Nat):aC prog 114 (aY N):=by
 refine ⟨fun cs r h=>?_,fun h=>by cases h⟩;simp only [aY] at h;split at h
 ·simp only [abZ,abY] at h;obtain ⟨q0,h0,r',hr,rfl⟩:=h;exact (su N q0 r' hr).argsO rfl (j6 (qE aa.row_ok aa.dec_le h0) (rT (Le.clo (LeL.nil)) (oJ)))
 ·cases h
@[go_sem] def Py (N d f:Nat):Option FnS:=ay [(8,59,qD N),(12,110,bB N),(30,112,br N),(36,114,aY N)] d f
def Po (N:Nat) (a0:ae) (a1:List Int) (r:ae) (h:tV N a0 a1=some r):Con prog 49 [] false [.agg (ae.row a0),sF 1 (a1.map (aA .i64))] (.agg [sO 11 (r.Txns.map Txn.row),sO 4 (r.Locks.map ai.row),sF 3 (r.Stacks.map aa.row)]):=by
 refine fk (G:=(Py N)) func49 (gc 8 (pn N) (gc 12 (tu N) (gc 30 (sr N) (gc 36 (pC N) gn)))) ?_;simp only [f49];unfold tV at h;refine z0 ?_;obtain ⟨r1,hr1,h⟩:=bI h;refine z1 hr1 ?_;refine aM (mT (Wy (n:=3) (by simp only [go_sem,seval]; rfl) rfl (by simp only [jF,iN,NQ,Lx,go_sem,seval]; rfl)) ?_);obtain ⟨r2,hr2,h⟩:=bI h;refine z1 hr2 ?_;refine z0 ?_;refine aX (ic fun hreal4=>?_);have hl3:=hreal4.cell 5 2 (by simp only [go_sem,seval]; rfl) rfl;first|rw [ab5] at hl3|rw [fC] at hl3|rw [<-acs,ab5] at hl3
 refine pS (fun (v5:Nat) (b:List aa)=>⟨tab 39 (af (af (af (af (af av 3 (.iref 1 [[sF 1 (a1.map (aA .i64))]] 0 0)) 4 (pF 4)) 5 (pF 5)) 16 (vI (r1.Stacks.length:Int))) 17 (vI (v5:Int))),(upd (upd RZ 4 (vA 3 [.val (.slice none 0 0),.val (.slice none 0 0),.val (.slice none 0 0)])) 5 (vA 3 [sO 11 (r2.map Txn.row),sO 4 (r1.Locks.map ai.row),sO 3 (b.map aa.rowD)]))⟩) r1.Stacks h ?_ ?_
 ·exact wF (k2 hr1 hr2)
 rintro v5 l4 _ h -;rcases (jL r1.Stacks.length v5).symm with ⟨hi5',hd8⟩|⟨hi5',hd8⟩
 ·rw [hd8] at h;simp only [m7] at h;refine z1 hi5' ?_;refine cf ?_;refine iQ (pp ?_);unfold yL at h;refine aM (mT (RC aa.rowD aa.row 5 [(0,2)] l4 (by simp only [go_sem,seval]; rfl) (by simp only [jF,iN,go_sem,seval]; rfl) (by simp only [go_sem,seval]; rfl)) ?_);obtain ⟨r13,hr12,h⟩:=bI h;refine z1 hr12 ?_;refine z0 ?_;refine fD (pp ?_);cases h;simp (config := { maxSteps := 4000000 }) only [go_sem,seval];exact ⟨_,rfl,(by repeat' (first|exact ROk.refl _|exact ROk.nil _|((refine ROk.of _ ?_ ?_); (focus ((repeat' (first|exact Le.refl _|exact LeL.nil|exact Le.nils|exact dN.refl _|refine dN.mapAppend ?_ ?_|refine dN.cons ?_ ?_|refine Le.sl ?_|refine Le.tup ?_|refine Le.agg ?_|refine LeL.cons ?_ ?_)); done)); (focus ((repeat' (first|exact dj.val _|exact dj.sl _ _ _ _|refine dj.tup ?_|refine dj.agg ?_|exact D4|refine CJ ?_ ?_)); done)))|((refine ROk.own ?_ ?_); (focus ((repeat' (first|exact Le.refl _|exact LeL.nil|exact Le.nils|exact dN.refl _|refine dN.mapAppend ?_ ?_|refine dN.cons ?_ ?_|refine Le.sl ?_|refine Le.tup ?_|refine Le.agg ?_|refine LeL.cons ?_ ?_)); done)); (focus ((first|exact ar.noOwn (mV .i64) _|exact ar.noOwn ah.row_ok _|exact ar.noOwn al.row_ok _|exact ar.noOwn aa.row_ok _|exact ar.noOwn ai.row_ok _|exact ar.noOwn Txn.row_ok _|exact ar.noOwn Value.row_ok _|exact ar.noOwn Fw _); done)))|refine ROk.agg rfl ?_|refine ROk.tup rfl ?_|exact MV|refine KX ?_ ?_))⟩
 rw [hd8] at h;simp only [m7] at h;have hw7:=eW hi5' hl3;refine z1 hi5' ?_;refine ct ?_;refine z0 ?_;obtain ⟨x11,hb9,hx10,h⟩:=aI h;try simp only [acm] at hx10
 try simp only [ad4,adt,true_and] at hb9
 refine Mq [0,1,2,3,4,5,6,7,8,9] [10] [] [11,12,13] [5] (by kernel_rfl) fun Z hZ Y hY=>?_;simp (config := { maxSteps := 4000000 }) only [go_sem,seval,hb9,hx10];refine hY _ (by kernel_rfl) (K7 (by simp only [go_sem,seval,Du,Option.isNone,acY]; try rfl) fun Y hY=>?_);obtain ⟨r12,hr11,h⟩:=bI h;simp (config := { maxSteps := 4000000 }) only [go_sem,seval,hx10,E9 (row:=aa.rowD) (rx:=[vS x11.Actor.Type_,vS x11.Actor.Key,sO 3 (x11.Layers.map al.row)]) hx10 rfl rfl,hr11];refine hY _ (by kernel_rfl) (Xc ?_);simp (config := { maxSteps := 4000000 }) only [go_sem,seval,hb9,yV (row:=aa.rowD) _ hx10,y8 (row:=aa.rowD) hx10 rfl];refine hZ _ (z1 hw7 ?_);first|refine ⟨(l4.set v5 (aa.mk x11.Actor r12)),?_,h⟩|refine ⟨hi5',(l4.set v5 (aa.mk x11.Actor r12)),?_,h⟩
 refine bh.trans (zd (n:=5) (c':=vA 3 [sO 11 (r2.map Txn.row),sO 4 (r1.Locks.map ai.row),sO 3 ((l4.set v5 (aa.mk x11.Actor r12)).map aa.rowD)]) (by simp only [go_sem,seval]; rfl) (by first|(simp only [pb (row:=aa.rowD) (l:=l4) (i:=v5) (y:=(aa.mk x11.Actor r12)) (rc:=[vS x11.Actor.Type_,vS x11.Actor.Key,sO 3 (r12.map al.row)]) rfl]; done)|(simp only [pb (row:=aa.rowD) (l:=l4) (i:=v5) (y:=(aa.mk x11.Actor r12)) (rc:=[vS x11.Actor.Type_,vS x11.Actor.Key,sO 3 (r12.map al.row)]) rfl,acs,adg,ad2]<;>rfl)|(rw [<-pb (row:=aa.rowD) (l:=l4) (i:=v5) (y:=(aa.mk x11.Actor r12)) (rc:=[vS x11.Actor.Type_,vS x11.Actor.Key,sO 3 (r12.map al.row)]) rfl]; simp only [acs,adg,ad2]<;>rfl))) ?_
 exact wF (k5 hr1 hr2 hi5' hw7 (k5 hb9 hx10 (ov1 (row:=aa.rowD) (rx:=[vS x11.Actor.Type_,vS x11.Actor.Key,sO 3 (x11.Layers.map al.row)]) hx10 rfl) (ov2 (row:=aa.rowD) hx10) (k2 (ov3 (row:=aa.rowD) hx10) hr11)))
@[go_sem] def Cb (N:Nat):FnS:=⟨[],false,fn2 ae.decA (aJ 1 (dP (aG .i64))) fun q0 q1=>(tV N q0 q1).map fun r=>.agg (ae.row r),false⟩
def Dz (N:Nat):aC prog 49 (Cb N):=ok2 (fun q0 q1 r h=>by
 obtain ⟨r',hr,rfl⟩:=abY.1 h;exact (Po N q0 q1 r' hr).res (by first|((try simp only [go_sem]); exact iz.h)|(repeat' (first|exact ROk.refl _|exact ROk.nil _|((refine ROk.of _ ?_ ?_); (focus ((repeat' (first|exact Le.refl _|exact LeL.nil|exact Le.nils|exact dN.refl _|refine dN.mapAppend ?_ ?_|refine dN.cons ?_ ?_|refine Le.sl ?_|refine Le.tup ?_|refine Le.agg ?_|refine LeL.cons ?_ ?_)); done)); (focus ((repeat' (first|exact dj.val _|exact dj.sl _ _ _ _|refine dj.tup ?_|refine dj.agg ?_|exact D4|refine CJ ?_ ?_)); done)))|((refine ROk.own ?_ ?_); (focus ((repeat' (first|exact Le.refl _|exact LeL.nil|exact Le.nils|exact dN.refl _|refine dN.mapAppend ?_ ?_|refine dN.cons ?_ ?_|refine Le.sl ?_|refine Le.tup ?_|refine Le.agg ?_|refine LeL.cons ?_ ?_)); done)); (focus ((first|exact ar.noOwn (mV .i64) _|exact ar.noOwn ah.row_ok _|exact ar.noOwn al.row_ok _|exact ar.noOwn aa.row_ok _|exact ar.noOwn ai.row_ok _|exact ar.noOwn Txn.row_ok _|exact ar.noOwn Value.row_ok _|exact ar.noOwn Fw _); done)))|refine ROk.agg rfl ?_|refine ROk.tup rfl ?_|exact MV|refine KX ?_ ?_)))) (ae.decA_le) (fun h=>iP (jT .i64) h)
def IW (N:Nat) (a0:Int) (c0_0:Int) (r:Bool) (h:lP N a0 c0_0=some r):Con prog 119 [] true [vI a0,.iref 1 [[vI c0_0]] 0 0] (vB r):=by
 refine fk (G:=(ay [])) func119 gn ?_;simp only [f119];unfold lP at h;refine z0 ?_;refine z0 ?_;exact e0 h
@[go_sem] def pY (N:Nat):FnS:={ own:=[],pure:=true,fn:=fun cs=>match cs with
 | [c0,.iref 1 [[c1_0]] 0 0]=>((aG .i64) c0).bind fun qc0=>((aG .i64) c1_0).bind fun qc1_0=>(lP N qc0 qc1_0).map fun r=>vB r
 | _=>none }
def w9 (N:Nat):aC prog 119 (pY N):=by
 refine ⟨fun cs r h=>?_,fun h=>by cases h⟩;simp only [pY] at h;split at h
 ·simp only [abZ,abY] at h;obtain ⟨q0,h0,q1,h1,r',hr,rfl⟩:=h;exact (ag (IW N q0 q1 r' hr))
 ·cases h
@[go_sem] def uM (N d f:Nat):Option FnS:=ay [(16,119,pY N)] d f
def uH (N:Nat) (a0:List Int) (k1_0_0:Int) (r:Int) (h:dU N a0 k1_0_0=some r):Con prog 189 [] true [sF 1 (a0.map (aA .i64)),.clo 119 [.iref 1 [[vI k1_0_0]] 0 0]] (vI r):=by
 refine fk (G:=(uM N)) func189 (gc 16 (w9 N) gn) ?_;simp only [f189];unfold dU at h;refine z0 ?_;refine z0 ?_;refine lT 0 (fun (v2:Nat) (b:Unit)=>⟨tab 19 (af (af (af (af av 0 (sF 1 (a0.map (aA .i64)))) 1 (.clo 119 [.iref 1 [[vI k1_0_0]] 0 0])) 7 (vI (a0.length:Int))) 8 (vI (v2:Int))),RZ⟩) () h ?_ ?_
 ·rintro v2 ⟨⟩ hi3' h;simp only [bt] at h;refine z1 hi3' ?_;refine cf ?_;refine z0 ?_;exact e0 h
 rintro v2 ⟨⟩ x5 hi3' hx4 hw5 h;simp only [bt] at h;refine z1 hi3' ?_;refine ct ?_;refine z0 ?_;obtain ⟨r1,hr7,h⟩:=bI h;refine z1 (k3 hx4 hi3' hr7) ?_;refine cB h (fun hc8 h=>?_) fun hc8 h=>?_
 ·refine z1 hc8 ?_;exact e0 h
 refine z1 (k2 hw5 hc8) ?_;first|refine ⟨(),?_,h⟩|refine ⟨hi3',(),?_,h⟩
 exact wR
@[go_sem] def gW (N:Nat):FnS:={ own:=[],pure:=true,fn:=fun cs=>match cs with
 | [c0,.clo 119 [.iref 1 [[k1_0_0]] 0 0]]=>((aJ 1 (dP (aG .i64))) c0).bind fun qc0=>((aG .i64) k1_0_0).bind fun qk1_0_0=>(dU N qc0 qk1_0_0).map fun r=>vI r
 | _=>none }
def se (N:Nat):aC prog 189 (gW N):=by
 refine ⟨fun cs r h=>?_,fun h=>by cases h⟩;simp only [gW] at h;split at h
 ·simp only [abZ,abY] at h;obtain ⟨q0,h0,q1,h1,r',hr,rfl⟩:=h;exact (ag (uH N q0 q1 r' hr))
 ·cases h
@[go_sem] def ua (N d f:Nat):Option FnS:=ay [(10,189,gW N),(28,119,pY N)] d f
def uf (N:Nat) (a0:List Int) (k1_0_0:Int) (r:List Int) (h:bP N a0 k1_0_0=some r):Con prog 118 [true,false] true [sO 1 (a0.map (aA .i64)),.clo 119 [.iref 1 [[vI k1_0_0]] 0 0]] (sO 1 (r.map (aA .i64))):=by
 refine A7 (G:=(ua N)) (L:=noL) func118 rfl (by decide) (by kernel_rfl) (gc 10 (se N) (gc 28 (w9 N) gn)) (fun _ _ _ h=>by cases h) [] mix (acv rfl) ?_;rw [show gQ [true,false] [sO 1 (a0.map (aA .i64)),.clo 119 [.iref 1 [[vI k1_0_0]] 0 0]]=(af (af av 0 (.pal 0 [] 0 a0.length none)) 1 (.clo 119 [.iref 1 [[vI k1_0_0]] 0 0])) from by funext t; match t with|0=>simp [gQ,ju,kJ,af]|1=>rfl|t+2=>rfl];rw [show R0 [true,false] [sO 1 (a0.map (aA .i64)),.clo 119 [.iref 1 [[vI k1_0_0]] 0 0]]=upd RZ 0 (sO 1 (a0.map (aA .i64))) from by funext t; match t with|0=>rfl|1=>rfl|t+2=>rfl];simp only [f118];unfold bP at h;refine z0 ?_;obtain ⟨r1,hr1,h⟩:=bI h;refine z1 hr1 ?_;refine z0 ?_;refine cD h (fun hc2 hc2d h=>?_) fun hc2 hc2d h=>?_
 ·refine z1 hc2d ?_;refine fD (pp ?_);cases h;simp only [go_sem,seval,eC];exact ⟨_,rfl,iz.h,rI.h,qI.h⟩
 refine z1 hc2d ?_;refine aX (iS (fun (b:List Int × Int × Int)=>⟨tab 42 (af (af (af (af av 0 (.pal 0 [] 0 b.1.length none)) 1 (.clo 119 [.iref 1 [[vI k1_0_0]] 0 0])) 5 (vI b.2.1)) 6 (vI b.2.2)),(upd RZ 0 (sO 1 (b.1.map (aA .i64))))⟩) (a0,r1,IntKind.i64.wrap (r1+1)) h ?_ ?_)
 ·exact wF (k2 hr1 hc2d)
 rintro n ⟨l4,v5,v6⟩ h -;cases n with
 | zero=>simp [bp] at h
 | succ n=>
 simp only [bp] at h;refine z0 ?_;refine cDs h (fun hc3 hc3d h=>?_) fun hc3 hc3d h=>?_
 ·refine iQ (pp ?_);unfold eG at h;refine aM ?_;obtain ⟨hs12,h⟩:=jy h;try simp only [acm] at hs12 h
  refine iJ fun Z hZ=>?_;simp only [go_sem,seval,hc3d,hs12,acp,Pl (row:=(aA .i64)) (z:=0) (rz:=[vI 0]) (k:=(v5).toNat) (l:=l4) (by have:=hs12; omega) rfl,bO,sI,aK,ar.allD (mV .i64)];refine hZ _ (pp (aM ?_));obtain ⟨hs13,h⟩:=jy h;try simp only [adZ] at hs13 h
  refine iJ fun Z hZ=>?_;simp only [go_sem,seval,hs12,acj,eh,hs13];refine hZ _ (pp (fD (pp ?_)));cases h;simp only [go_sem,seval,eC];exact ⟨_,rfl,iz.h,rI.h,qI.h⟩
 obtain ⟨x13,hb4,hx5,h⟩:=aI h;refine z1 (k2 hb4 hx5) ?_;obtain ⟨r14,hr6,h⟩:=bI h;refine z1 hr6 ?_;refine cMs h (fun hc7 h=>?_) fun hc7 h=>?_
 ·refine z1 hc7 ?_;refine ⟨_,acK _,(l4,v5,IntKind.i64.wrap (v6+1)),?_,h⟩;exact wF (k5 hr1 hc2d hc3d hb4 (k3 hx5 hr6 hc7))
 obtain ⟨x15,hb8,hx9,h⟩:=aI h;have hx11:=ld (y:=x13) hx9;refine z1 (k4 hc7 hb8 hx9 (mm2 (row:=(aA .i64)) (y:=x13) (rx:=[vI x15]) (ry:=[vI x13]) hx9 rfl rfl)) ?_;refine z0 ?_;refine z0 ?_;refine ⟨_,acK _,((l4.set ((v5).toNat) x13),IntKind.i64.wrap (v5+1),IntKind.i64.wrap (v6+1)),?_,h⟩;refine wr ?_ ?_<;>repeat' first|rfl|constructor|simp only [go_sem,seval,acy]
def bm (N:Nat):FnS:={ own:=[true,false],pure:=true,fn:=fun cs=>match cs with
 | [c0,.clo 119 [.iref 1 [[k1_0_0]] 0 0]]=>((vV 1 (dP (aG .i64))) c0).bind fun q0=>((aG .i64) k1_0_0).bind fun q1=>(bP N q0 q1).map fun r=>sO 1 (r.map (aA .i64))
 | _=>none }
theorem qh (N:Nat):(bm N).own=[true,false]:=rfl
theorem qf (N:Nat):(bm N).pure=true:=rfl
theorem qb (N:Nat):(bm N).peek=false:=rfl
attribute [go_sem] bm qh qf qb
def qO (N:Nat):aC prog 118 (bm N):=by
 refine ⟨fun cs r h=>?_,fun h=>by cases h⟩;simp only [bm] at h;split at h
 ·simp only [abZ,abY] at h;obtain ⟨q0,h0,q1,h1,r',hr,rfl⟩:=h;exact (uf N q0 q1 r' hr).argsO rfl (j6 (qE (mV .i64) (jT .i64) h0) (rT (Le.clo (LeL.cons (Le.iref1 (LeL.cons (bN h1) (LeL.nil))) (LeL.nil))) (oJ)))
 ·cases h
end
end Go.Proofs.YtmacaidmhchpgaaGreat
