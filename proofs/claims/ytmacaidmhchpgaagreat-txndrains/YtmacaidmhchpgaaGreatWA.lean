/- Walks: each function computes its model. No condition. -/
import Derived.Test.YtmacaidmhchpgaaGreatB
/- Each Go function computes its model: proofs laid by a program of ours. -/
set_option linter.defProp false
set_option maxHeartbeats 40000000
set_option synthInstance.maxHeartbeats 2000000
set_option synthInstance.maxSize 4000
set_option linter.unusedSimpArgs false
set_option linter.unusedVariables false
set_option maxRecDepth 100000
namespace Go.Proofs.YtmacaidmhchpgaaGreat
open Go Go.Proofs Go.Abs Tryz
noncomputable section
def JH (N:Nat) (a0:Value) (r:Bool) (h:gU N a0=some r):Con prog 61 [] true [.agg (Value.row a0)] (vB r):=by
 refine fk (G:=(aw [])) func61 gn ?_;simp only [f61];unfold gU at h;refine z0 ?_;refine aL ?_;apply aT (fun (c3:Bool)=>⟨tab 86 (af (af au 1 (pF 1)) 12 (vB c3)),(upd RZ 1 (vA 5 (Value.row a0)))⟩)
 ·intro hJ1;refine iD h (fun hc2 hc2d h=>?_) fun hc2 hc2d h=>?_
  ·refine z1 hc2d ?_;exact hJ1 _ true (wF hc2d) h
  refine z1 hc2d ?_;exact hJ1 _ (decide (5 < a0.Kind)) (wF hc2d) h
 intro c3 h;unfold qp at h;refine cB h (fun hc3 h=>?_) fun hc3 h=>?_
 ·refine z1 hc3 ?_;exact e0 h
 refine aU (pp ?_);unfold qc at h;refine aL (aQ ?_);apply aT (fun (c12:Bool)=>⟨tab 86 (af (af au 1 (pF 1)) 13 (vB c12)),(upd RZ 1 (vA 5 (Value.row a0)))⟩)
 ·intro hJ4;refine iD h (fun hc5 hc5d h=>?_) fun hc5 hc5d h=>?_
  ·refine z1 (k2 hc3 hc5d) ?_;exact hJ4 _ false (wF (k2 hc3 hc5d)) h
  refine iD h (fun hc6 hc6d h=>?_) fun hc6 hc6d h=>?_
  ·refine z1 (k3 hc3 hc5d hc6d) ?_;exact hJ4 _ false (wF (k3 hc3 hc5d hc6d)) h
  refine iDs h (fun hc7 hc7d h=>?_) fun hc7 hc7d h=>?_
  ·refine z1 (k4 hc3 hc5d hc6d hc7d) ?_;exact hJ4 _ true (wF (k4 hc3 hc5d hc6d hc7d)) h
  refine z1 (k4 hc3 hc5d hc6d hc7d) ?_;exact hJ4 _ (!decide (a0.N=1)) (wF (k4 hc3 hc5d hc6d hc7d)) h
 intro c12 h;unfold jv at h;refine cB h (fun hc8 h=>?_) fun hc8 h=>?_
 ·refine z1 hc8 ?_;exact e0 h
 apply aT (fun (c17:Bool)=>⟨tab 86 (af (af au 1 (pF 1)) 32 (vB c17)),(upd RZ 1 (vA 5 (Value.row a0)))⟩)
 ·intro hJ9;apply aT (fun (c18:Bool)=>⟨tab 86 (af (af au 1 (pF 1)) 32 (vB c18)),(upd RZ 1 (vA 5 (Value.row a0)))⟩)
  ·intro hJ10;refine iBs h (fun hc11 h=>?_) fun hc11 h=>?_
   ·refine z1 (k2 hc8 hc11) ?_;exact hJ10 _ (!decide (a0.Kind=3)) (wF (k3 hc3 hc8 hc11)) h
   refine z1 (k2 hc8 hc11) ?_;exact hJ10 _ false (wF (k3 hc3 hc8 hc11)) h
  intro c18 h;unfold qO at h;refine cB h (fun hc12 h=>?_) fun hc12 h=>?_
  ·refine aU (pp (hJ9 _ true ?_ h));exact wF hc12
  apply aT (fun (c19:Bool)=>⟨tab 86 (af (af au 1 (pF 1)) 32 (vB c19)),(upd RZ 1 (vA 5 (Value.row a0)))⟩)
  ·intro hJ13;refine iD h (fun hc14 hc14d h=>?_) fun hc14 hc14d h=>?_
   ·refine z1 (k2 hc12 hc14d) ?_;exact hJ13 _ (!decide (a0.Kind=4)) (wF (k4 hc3 hc8 hc12 hc14d)) h
   refine z1 (k2 hc12 hc14d) ?_;exact hJ13 _ false (wF (k4 hc3 hc8 hc12 hc14d)) h
  intro c19 h;unfold qv at h;refine cB h (fun hc15 h=>?_) fun hc15 h=>?_
  ·refine aU (pp (hJ9 _ true ?_ h));exact wF hc15
  refine iD h (fun hc16 hc16d h=>?_) fun hc16 hc16d h=>?_
  ·refine z1 (k2 hc15 hc16d) ?_;exact hJ9 _ (!decide (a0.Kind=5)) (wF (k5 hc3 hc8 hc12 hc15 hc16d)) h
  refine z1 (k2 hc15 hc16d) ?_;exact hJ9 _ false (wF (k5 hc3 hc8 hc12 hc15 hc16d)) h
 intro c17 h;unfold qu at h;refine cB h (fun hc17 h=>?_) fun hc17 h=>?_
 ·refine z1 hc17 ?_;exact e0 h
 refine aU (pp ?_);unfold jx at h;refine aL ?_;apply aT (fun (c22:Bool)=>⟨tab 86 (af (af au 1 (pF 1)) 74 (vB c22)),(upd RZ 1 (vA 5 (Value.row a0)))⟩)
 ·intro hJ18;refine iD h (fun hc19 hc19d h=>?_) fun hc19 hc19d h=>?_
  ·refine z1 (k2 hc17 hc19d) ?_;exact hJ18 _ true (wF (k4 hc3 hc8 hc17 hc19d)) h
  refine iD h (fun hc20 hc20d h=>?_) fun hc20 hc20d h=>?_
  ·refine z1 (k3 hc17 hc19d hc20d) ?_;exact hJ18 _ true (wF (k5 hc3 hc8 hc17 hc19d hc20d)) h
  refine z1 (k3 hc17 hc19d hc20d) ?_;exact hJ18 _ (decide (16 < (a0.L.length:Int))) (wF (k5 hc3 hc8 hc17 hc19d hc20d)) h
 intro c22 h;unfold lQ at h;refine cB h (fun hc21 h=>?_) fun hc21 h=>?_
 ·refine z1 hc21 ?_;exact e0 h
 unfold lP at h;refine z1 hc21 ?_;refine lT 76 (fun (v17:Nat) (b:Unit)=>⟨tab 86 (af (af (af au 76 (sF 1 (a0.L.map dS))) 77 (vI (a0.L.length:Int))) 78 (vI (v17:Int))),RZ⟩) () h ?_ ?_ (h0:=wF (k4 hc3 hc8 hc17 hc21))
 ·rintro v17 ⟨⟩ hi24' h;simp only [jD] at h;refine z1 hi24' ?_;refine cf ?_;refine z0 ?_;exact e0 h
 rintro v17 ⟨⟩ x20 hi24' hx25 hw26 h;simp only [jD] at h;refine z1 hi24' ?_;refine ct ?_;refine z1 (k2 hx25 hi24') ?_;refine z0 ?_;refine cD h (fun hc28 hc28d h=>?_) fun hc28 hc28d h=>?_
 ·refine z1 hc28d ?_;exact e0 h
 refine z1 (k2 hw26 hc28d) ?_;refine ⟨hi24',(),?_,h⟩;exact wF (k5 hc3 hc8 hc17 hc21 (k4 hx25 hi24' hw26 hc28d))
@[go_sem] def lJ (N:Nat):FnS:=⟨[],true,fn1 Value.decA fun q0=>(gU N q0).map fun r=>vB r,false⟩
def mf (N:Nat):aA prog 61 (lJ N):=om1 (JH N)
@[go_sem] def JM (N d f:Nat):Option FnS:=aw [(8,61,lJ N)] d f
def Jv (N:Nat) (a0:Value) (r:Bool) (h:mg N a0=some r):Con prog 213 [] true [.agg (Value.row a0)] (vB r):=by
 refine fk (G:=(JM N)) func213 (gc 8 (mf N) gn) ?_;simp only [f213];unfold mg at h;refine z0 ?_;refine iD h (fun hc1 hc1d h=>?_) fun hc1 hc1d h=>?_
 ·refine z1 hc1d ?_;exact e0 h
 obtain ⟨r1,hr2,h⟩:=bI h;refine z1 (k2 hc1d hr2) ?_;exact e0 h
@[go_sem] def Be (N:Nat):FnS:=⟨[],true,fn1 Value.decA fun q0=>(mg N q0).map fun r=>vB r,false⟩
def E9 (N:Nat):aA prog 213 (Be N):=om1 (Jv N)
@[go_sem] def tJ (N d f:Nat):Option FnS:=aw [(16,213,Be N)] d f
def tw (N:Nat) (a0:List Value) (r:Int) (h:dw N a0=some r):Con prog 201 [] true [sF 5 (a0.map Value.row),.clo 213 []] (vI r):=by
 refine fk (G:=(tJ N)) func201 (gc 16 (E9 N) gn) ?_;simp only [f201];unfold dw at h;refine z0 ?_;refine z0 ?_;refine lT 0 (fun (v2:Nat) (b:Unit)=>⟨tab 19 (af (af (af (af au 0 (sF 5 (a0.map Value.row))) 1 (.clo 213 [])) 7 (vI (a0.length:Int))) 8 (vI (v2:Int))),RZ⟩) () h ?_ ?_
 ·rintro v2 ⟨⟩ hi3' h;simp only [bY] at h;refine z1 hi3' ?_;refine cf ?_;refine z0 ?_;exact e0 h
 rintro v2 ⟨⟩ x5 hi3' hx4 hw5 h;simp only [bY] at h;refine z1 hi3' ?_;refine ct ?_;refine z0 ?_;obtain ⟨r1,hr7,h⟩:=bI h;refine z1 (k3 hx4 hi3' hr7) ?_;refine cB h (fun hc8 h=>?_) fun hc8 h=>?_
 ·refine z1 hc8 ?_;exact e0 h
 refine z1 (k2 hw5 hc8) ?_;refine ⟨hi3',(),?_,h⟩;exact wR
@[go_sem] def fY (N:Nat):FnS:={ own:=[],pure:=true,fn:=fun cs=>match cs with
 | [c0,.clo 213 []]=>((aJ 5 Value.dec) c0).bind fun qc0=>(dw N qc0).map fun r=>vI r
 | _=>none }
def qZ (N:Nat):aA prog 201 (fY N):=by
 refine ⟨fun cs r h=>?_,fun h=>by cases h⟩;simp only [fY] at h;split at h
 ·simp only [ck,cj] at h;obtain ⟨q0,h0,r',hr,rfl⟩:=h;exact (ag (tw N q0 r' hr))
 ·cases h
@[go_sem] def rr (N d f:Nat):Option FnS:=aw [(7,201,fY N)] d f
def rE (N:Nat) (a0:List Value) (r:Bool) (h:bt N a0=some r):Con prog 134 [] true [sF 5 (a0.map Value.row),.clo 213 []] (vB r):=by
 refine fk (G:=(rr N)) func134 (gc 7 (qZ N) gn) ?_;simp only [f134];unfold bt at h;refine z0 ?_;obtain ⟨r1,hr1,h⟩:=bI h;refine z1 hr1 ?_;exact e0 h
@[go_sem] def fp (N:Nat):FnS:={ own:=[],pure:=true,fn:=fun cs=>match cs with
 | [c0,.clo 213 []]=>((aJ 5 Value.dec) c0).bind fun qc0=>(bt N qc0).map fun r=>vB r
 | _=>none }
def py (N:Nat):aA prog 134 (fp N):=by
 refine ⟨fun cs r h=>?_,fun h=>by cases h⟩;simp only [fp] at h;split at h
 ·simp only [ck,cj] at h;obtain ⟨q0,h0,r',hr,rfl⟩:=h;exact (ag (rE N q0 r' hr))
 ·cases h
@[go_sem] def LC (N d f:Nat):Option FnS:=aw [(42,134,fp N)] d f
def Mc (N:Nat) (a0:ah) (r:Bool) (h:pS N a0=some r):Con prog 172 [] true [.agg (ah.row a0)] (vB r):=by
 refine fk (G:=(LC N)) func172 (gc 42 (py N) gn) ?_;simp only [f172];unfold pS at h;refine z0 ?_;refine aL ?_;apply aT (fun (c3:Bool)=>⟨tab 44 (af (af au 1 (pF 1)) 39 (vB c3)),(upd RZ 1 (vA 4 (ah.row a0)))⟩)
 ·intro hJ1;refine iD h (fun hc2 hc2d h=>?_) fun hc2 hc2d h=>?_
  ·refine z1 hc2d ?_;exact hJ1 _ true wR h
  refine iD h (fun hc3 hc3d h=>?_) fun hc3 hc3d h=>?_
  ·refine z1 (k2 hc2d hc3d) ?_;exact hJ1 _ true wR h
  refine iD h (fun hc4 hc4d h=>?_) fun hc4 hc4d h=>?_
  ·refine z1 (k3 hc2d hc3d hc4d) ?_;exact hJ1 _ true wR h
  refine iD h (fun hc5 hc5d h=>?_) fun hc5 hc5d h=>?_
  ·refine z1 (k4 hc2d hc3d hc4d hc5d) ?_;exact hJ1 _ true wR h
  refine iD h (fun hc6 hc6d h=>?_) fun hc6 hc6d h=>?_
  ·refine z1 (k5 hc2d hc3d hc4d hc5d hc6d) ?_;exact hJ1 _ true wR h
  refine z1 (k5 hc2d hc3d hc4d hc5d hc6d) ?_;exact hJ1 _ (decide (4 < (a0.Args.length:Int))) wR h
 intro c3 h;unfold iF at h;refine cB h (fun hc7 h=>?_) fun hc7 h=>?_
 ·refine z1 hc7 ?_;exact e0 h
 refine aU (pp ?_);unfold iH at h;obtain ⟨r4,hr8,h⟩:=bI h;refine z1 (k2 hc7 hr8) ?_;exact e0 h
@[go_sem] def Dl (N:Nat):FnS:=⟨[],true,fn1 ah.decA fun q0=>(pS N q0).map fun r=>vB r,false⟩
def HD (N:Nat):aA prog 172 (Dl N):=om1 (Mc N)
@[go_sem] def KF (N d f:Nat):Option FnS:=aw [(4,172,Dl N)] d f
def K1 (N:Nat) (a0:ah) (r:Bool) (h:oD N a0=some r):Con prog 171 [] true [.agg (ah.row a0)] (vB r):=by
 refine fk (G:=(KF N)) func171 (gc 4 (HD N) gn) ?_;simp only [f171];unfold oD at h;refine z0 ?_;obtain ⟨r1,hr1,h⟩:=bI h;refine z1 hr1 ?_;exact e0 h
@[go_sem] def B9 (N:Nat):FnS:=⟨[],true,fn1 ah.decA fun q0=>(oD N q0).map fun r=>vB r,false⟩
def F6 (N:Nat):aA prog 171 (B9 N):=om1 (K1 N)
@[go_sem] def rF (N d f:Nat):Option FnS:=aw [(16,171,B9 N)] d f
def rN (N:Nat) (a0:List ah) (r:Int) (h:b8 N a0=some r):Con prog 203 [] true [sF 4 (a0.map ah.row),.clo 171 []] (vI r):=by
 refine fk (G:=(rF N)) func203 (gc 16 (F6 N) gn) ?_;simp only [f203];unfold b8 at h;refine z0 ?_;refine z0 ?_;refine lT 0 (fun (v2:Nat) (b:Unit)=>⟨tab 19 (af (af (af (af au 0 (sF 4 (a0.map ah.row))) 1 (.clo 171 [])) 7 (vI (a0.length:Int))) 8 (vI (v2:Int))),RZ⟩) () h ?_ ?_
 ·rintro v2 ⟨⟩ hi3' h;simp only [bC] at h;refine z1 hi3' ?_;refine cf ?_;refine z0 ?_;exact e0 h
 rintro v2 ⟨⟩ x5 hi3' hx4 hw5 h;simp only [bC] at h;refine z1 hi3' ?_;refine ct ?_;refine z0 ?_;obtain ⟨r1,hr7,h⟩:=bI h;refine z1 (k3 hx4 hi3' hr7) ?_;refine cB h (fun hc8 h=>?_) fun hc8 h=>?_
 ·refine z1 hc8 ?_;exact e0 h
 refine z1 (k2 hw5 hc8) ?_;refine ⟨hi3',(),?_,h⟩;exact wR
@[go_sem] def fj (N:Nat):FnS:={ own:=[],pure:=true,fn:=fun cs=>match cs with
 | [c0,.clo 171 []]=>((aJ 4 ah.dec) c0).bind fun qc0=>(b8 N qc0).map fun r=>vI r
 | _=>none }
def px (N:Nat):aA prog 203 (fj N):=by
 refine ⟨fun cs r h=>?_,fun h=>by cases h⟩;simp only [fj] at h;split at h
 ·simp only [ck,cj] at h;obtain ⟨q0,h0,r',hr,rfl⟩:=h;exact (ag (rN N q0 r' hr))
 ·cases h
@[go_sem] def pL (N d f:Nat):Option FnS:=aw [(7,203,fj N)] d f
def pI (N:Nat) (a0:List ah) (r:Bool) (h:bn N a0=some r):Con prog 140 [] true [sF 4 (a0.map ah.row),.clo 171 []] (vB r):=by
 refine fk (G:=(pL N)) func140 (gc 7 (px N) gn) ?_;simp only [f140];unfold bn at h;refine z0 ?_;obtain ⟨r1,hr1,h⟩:=bI h;refine z1 hr1 ?_;exact e0 h
@[go_sem] def eH (N:Nat):FnS:={ own:=[],pure:=true,fn:=fun cs=>match cs with
 | [c0,.clo 171 []]=>((aJ 4 ah.dec) c0).bind fun qc0=>(bn N qc0).map fun r=>vB r
 | _=>none }
def mT (N:Nat):aA prog 140 (eH N):=by
 refine ⟨fun cs r h=>?_,fun h=>by cases h⟩;simp only [eH] at h;split at h
 ·simp only [ck,cj] at h;obtain ⟨q0,h0,r',hr,rfl⟩:=h;exact (ag (pI N q0 r' hr))
 ·cases h
@[go_sem] def MQ (N d f:Nat):Option FnS:=aw [(69,61,lJ N),(85,140,eH N)] d f
def NM (N:Nat) (a0:Txn) (r:Bool) (h:o5 N a0=some r):Con prog 98 [] true [.agg (Txn.row a0)] (vB r):=by
 refine fk (G:=(MQ N)) func98 (gc 69 (mf N) (gc 85 (mT N) gn)) ?_;simp only [f98];unfold o5 at h;refine z0 ?_;refine aL ?_;apply aT (fun (c3:Bool)=>⟨tab 87 (af (af au 1 (pF 1)) 42 (vB c3)),(upd RZ 1 (vA 11 (Txn.row a0)))⟩)
 ·intro hJ1;refine iD h (fun hc2 hc2d h=>?_) fun hc2 hc2d h=>?_
  ·refine z1 hc2d ?_;exact hJ1 _ true wR h
  refine iD h (fun hc3 hc3d h=>?_) fun hc3 hc3d h=>?_
  ·refine z1 (k2 hc2d hc3d) ?_;exact hJ1 _ true wR h
  refine iD h (fun hc4 hc4d h=>?_) fun hc4 hc4d h=>?_
  ·refine z1 (k3 hc2d hc3d hc4d) ?_;exact hJ1 _ true wR h
  refine iD h (fun hc5 hc5d h=>?_) fun hc5 hc5d h=>?_
  ·refine z1 (k4 hc2d hc3d hc4d hc5d) ?_;exact hJ1 _ true wR h
  refine iD h (fun hc6 hc6d h=>?_) fun hc6 hc6d h=>?_
  ·refine z1 (k5 hc2d hc3d hc4d hc5d hc6d) ?_;exact hJ1 _ true wR h
  refine iD h (fun hc7 hc7d h=>?_) fun hc7 hc7d h=>?_
  ·refine z1 (k5 hc2d hc3d hc4d hc5d (k2 hc6d hc7d)) ?_;exact hJ1 _ true wR h
  refine iD h (fun hc8 hc8d h=>?_) fun hc8 hc8d h=>?_
  ·refine z1 (k5 hc2d hc3d hc4d hc5d (k3 hc6d hc7d hc8d)) ?_;exact hJ1 _ true wR h
  refine z1 (k5 hc2d hc3d hc4d hc5d (k3 hc6d hc7d hc8d)) ?_;exact hJ1 _ (decide (1099511627776 < a0.Seq)) wR h
 intro c3 h;unfold fR at h;refine cB h (fun hc9 h=>?_) fun hc9 h=>?_
 ·refine z1 hc9 ?_;exact e0 h
 refine aU (pp ?_);unfold fU at h;refine aL ?_;apply aT (fun (c8:Bool)=>⟨tab 87 (af (af au 1 (pF 1)) 82 (vB c8)),(upd RZ 1 (vA 11 (Txn.row a0)))⟩)
 ·intro hJ10;refine iD h (fun hc11 hc11d h=>?_) fun hc11 hc11d h=>?_
  ·refine z1 (k2 hc9 hc11d) ?_;exact hJ10 _ true wR h
  refine iD h (fun hc12 hc12d h=>?_) fun hc12 hc12d h=>?_
  ·refine z1 (k3 hc9 hc11d hc12d) ?_;exact hJ10 _ true wR h
  refine iD h (fun hc13 hc13d h=>?_) fun hc13 hc13d h=>?_
  ·refine z1 (k4 hc9 hc11d hc12d hc13d) ?_;exact hJ10 _ true wR h
  refine iD h (fun hc14 hc14d h=>?_) fun hc14 hc14d h=>?_
  ·refine z1 (k5 hc9 hc11d hc12d hc13d hc14d) ?_;exact hJ10 _ true wR h
  obtain ⟨r9,hr15,h⟩:=bI h;refine iBs h (fun hc16 h=>?_) fun hc16 h=>?_
  ·refine z1 (k5 hc9 hc11d hc12d hc13d (k3 hc14d hr15 hc16)) ?_;exact hJ10 _ true wR h
  refine iD h (fun hc17 hc17d h=>?_) fun hc17 hc17d h=>?_
  ·refine z1 (k5 hc9 hc11d hc12d hc13d (k4 hc14d hr15 hc16 hc17d)) ?_;exact hJ10 _ (!decide (a0.Last.Kind=0)) wR h
  refine z1 (k5 hc9 hc11d hc12d hc13d (k4 hc14d hr15 hc16 hc17d)) ?_;exact hJ10 _ false wR h
 intro c8 h;unfold gW at h;refine cB h (fun hc18 h=>?_) fun hc18 h=>?_
 ·refine z1 hc18 ?_;exact e0 h
 refine aU (pp ?_);unfold gV at h;obtain ⟨r10,hr19,h⟩:=bI h;refine z1 (k2 hc18 hr19) ?_;exact e0 h
@[go_sem] def zB (N:Nat):FnS:=⟨[],true,fn1 Txn.decA fun q0=>(o5 N q0).map fun r=>vB r,false⟩
def Bk (N:Nat):aA prog 98 (zB N):=om1 (NM N)
@[go_sem] def MF (N d f:Nat):Option FnS:=aw [(14,98,zB N)] d f
def Mw (N:Nat) (a0:ae) (r:Bool) (h:tW N a0=some r):Con prog 52 [] true [.agg (ae.row a0)] (vB r):=by
 refine fk (G:=(MF N)) func52 (gc 14 (Bk N) gn) ?_;simp only [f52];unfold tW at h;refine z0 ?_;refine z0 ?_;refine lT 6 (fun (v2:Nat) (b:Unit)=>⟨tab 37 (af (af (af (af au 1 (pF 1)) 6 (sF 11 (a0.Txns.map Txn.row))) 7 (vI (a0.Txns.length:Int))) 8 (vI (v2:Int))),(upd RZ 1 (vA 3 (ae.row a0)))⟩) () h ?_ ?_
 ·rintro v2 ⟨⟩ hi3' h;simp only [gA] at h;refine z1 hi3' ?_;refine cf ?_;refine z0 ?_;exact e0 h
 rintro v2 ⟨⟩ x5 hi3' hx4 hw5 h;simp only [gA] at h;refine z1 hi3' ?_;refine ct ?_;refine z1 (k2 hx4 hi3') ?_;apply aT (fun (c3:Bool)=>⟨tab 37 (af (af (af (af (af au 1 (pF 1)) 6 (sF 11 (a0.Txns.map Txn.row))) 7 (vI (a0.Txns.length:Int))) 8 (vI (v2:Int))) 31 (vB c3)),(upd RZ 1 (vA 3 (ae.row a0)))⟩)
 ·intro hJ7;obtain ⟨r4,hr8,h⟩:=bI h;refine mW fun Z hZ=>?_;simp only [go_sem,seval,hr8];repeat with_reducible refine gE (by kernel_rfl) ?_
  refine sK rfl (fun hc9=>?_) (fun hc9=>?_)
  ·rw [if_neg (ne_true_of_eq_false hc9)] at h;simp only [go_sem,seval,hc9];exact hZ _ (by kernel_rfl) (pp (hJ7 _ true wR h))
  rw [if_pos hc9] at h;simp only [go_sem,seval,hc9];refine lO rfl (fun hc10=>?_) (fun hc10=>?_)
  ·have hc10d:=decide_eq_true hc10;rw [if_pos hc10] at h;obtain ⟨x6,hb11,hx12,h⟩:=aI h;simp only [go_sem,seval,hc10d,hb11,hx12];exact hZ _ (by kernel_rfl) (pp (hJ7 _ (decide (x5.ID<=x6.ID)) wR h))
  have hc10d:=decide_eq_false hc10;rw [if_neg hc10] at h;simp only [go_sem,seval,hc10d];exact hZ _ (by kernel_rfl) (pp (hJ7 _ false wR h))
 intro c3 h;unfold kR at h;refine cB h (fun hc13 h=>?_) fun hc13 h=>?_
 ·refine z1 hc13 ?_;exact e0 h
 refine z1 (k2 hw5 hc13) ?_;refine ⟨hi3',(),?_,h⟩;exact wR
@[go_sem] def CZ (N:Nat):FnS:=⟨[],true,fn1 ae.decA fun q0=>(tW N q0).map fun r=>vB r,false⟩
def HG (N:Nat):aA prog 52 (CZ N):=om1 (Mw N)
def Ib (N:Nat) (a0:Ref) (r:Bool) (h:iG N a0=some r):Con prog 124 [] true [.agg [vS a0.Type_,vS a0.Key]] (vB r):=by
 refine fk (G:=(aw [])) func124 gn ?_;simp only [f124];unfold iG at h;refine z0 ?_;refine iDs h (fun hc1 hc1d h=>?_) fun hc1 hc1d h=>?_
 ·refine z1 hc1d ?_;exact e0 h
 refine iD h (fun hc2 hc2d h=>?_) fun hc2 hc2d h=>?_
 ·refine z1 (k2 hc1d hc2d) ?_;exact e0 h
 refine z1 (k2 hc1d hc2d) ?_;exact e0 h
@[go_sem] def pq (N:Nat):FnS:=⟨[],true,fn1 Ref.decA fun q0=>(iG N q0).map fun r=>vB r,false⟩
def rm (N:Nat):aA prog 124 (pq N):=om1 (Ib N)
def Kq (N:Nat) (a0:Int) (r:Bool) (h:jG N a0=some r):Con prog 125 [] true [vI a0] (vB r):=by
 refine fk (G:=(aw [])) func125 gn ?_;simp only [f125];unfold jG at h;refine z0 ?_;refine iD h (fun hc1 hc1d h=>?_) fun hc1 hc1d h=>?_
 ·refine z1 hc1d ?_;exact e0 h
 refine z1 hc1d ?_;exact e0 h
@[go_sem] def rP (N:Nat):FnS:=⟨[],true,fn1 (aH .i64) fun q0=>(jG N q0).map fun r=>vB r,false⟩
def tL (N:Nat):aA prog 125 (rP N):=om1 (Kq N)
@[go_sem] def JR (N d f:Nat):Option FnS:=aw [(7,124,pq N),(12,125,rP N)] d f
def Jy (N:Nat) (a0:ai) (r:Bool) (h:lY N a0=some r):Con prog 187 [] true [.agg (ai.row a0)] (vB r):=by
 refine fk (G:=(JR N)) func187 (gc 7 (rm N) (gc 12 (tL N) gn)) ?_;simp only [f187];unfold lY at h;refine z0 ?_;refine aL ?_;apply aT (fun (c7:Bool)=>⟨tab 52 (af (af au 1 (pF 1)) 20 (vB c7)),(upd RZ 1 (vA 4 (ai.row a0)))⟩)
 ·intro hJ1;obtain ⟨r8,hr2,h⟩:=bI h;refine iBs h (fun hc3 h=>?_) fun hc3 h=>?_
  ·refine z1 (k2 hr2 hc3) ?_;exact hJ1 _ true wR h
  obtain ⟨r9,hr4,h⟩:=bI h;refine iBs h (fun hc5 h=>?_) fun hc5 h=>?_
  ·refine z1 (k4 hr2 hc3 hr4 hc5) ?_;exact hJ1 _ true wR h
  refine z1 (k4 hr2 hc3 hr4 hc5) ?_;exact hJ1 _ (decide (32 < (a0.Waiters.length:Int))) wR h
 intro c7 h;unfold lI at h;refine cB h (fun hc6 h=>?_) fun hc6 h=>?_
 ·refine z1 hc6 ?_;exact e0 h
 unfold lx at h;refine z1 hc6 ?_;refine lT 22 (fun (v7:Nat) (b:Unit)=>⟨tab 52 (af (af (af (af au 1 (pF 1)) 22 (sF 1 (a0.Waiters.map (aB .i64)))) 23 (vI (a0.Waiters.length:Int))) 24 (vI (v7:Int))),(upd RZ 1 (vA 4 (ai.row a0)))⟩) () h ?_ ?_
 ·rintro v7 ⟨⟩ hi9' h;simp only [eV] at h;refine z1 hi9' ?_;refine cf ?_;refine z0 ?_;exact e0 h
 rintro v7 ⟨⟩ x10 hi9' hx10 hw11 h;simp only [eV] at h;refine z1 hi9' ?_;refine ct ?_;refine z1 (k2 hx10 hi9') ?_;apply aT (fun (c12:Bool)=>⟨tab 52 (af (af (af (af (af au 1 (pF 1)) 22 (sF 1 (a0.Waiters.map (aB .i64)))) 23 (vI (a0.Waiters.length:Int))) 24 (vI (v7:Int))) 50 (vB c12)),(upd RZ 1 (vA 4 (ai.row a0)))⟩)
 ·intro hJ13;refine iD h (fun hc14 hc14d h=>?_) fun hc14 hc14d h=>?_
  ·refine z1 hc14d ?_;exact hJ13 _ true wR h
  refine iD h (fun hc15 hc15d h=>?_) fun hc15 hc15d h=>?_
  ·refine z1 (k2 hc14d hc15d) ?_;exact hJ13 _ true wR h
  refine iD h (fun hc16 hc16d h=>?_) fun hc16 hc16d h=>?_
  ·obtain ⟨x13,hb17,hx18,h⟩:=aI h;refine z1 (k5 hc14d hc15d hc16d hb17 hx18) ?_;exact hJ13 _ (decide (x10<=x13)) wR h
  refine z1 (k3 hc14d hc15d hc16d) ?_;exact hJ13 _ false wR h
 intro c12 h;unfold iE at h;refine cB h (fun hc19 h=>?_) fun hc19 h=>?_
 ·refine z1 hc19 ?_;exact e0 h
 refine z1 (k2 hw11 hc19) ?_;refine ⟨hi9',(),?_,h⟩;exact wR
@[go_sem] def BD (N:Nat):FnS:=⟨[],true,fn1 ai.decA fun q0=>(lY N q0).map fun r=>vB r,false⟩
def FF (N:Nat):aA prog 187 (BD N):=om1 (Jy N)
def Ix (N:Nat) (a0:ByteArray) (r:Bool) (h:lf N a0=some r):Con prog 183 [] true [vS a0] (vB r):=by
 refine fk (G:=(aw [])) func183 gn ?_;simp only [f183];unfold lf at h;refine z0 ?_;refine z0 ?_;exact e0 h
@[go_sem] def uJ (N:Nat):FnS:=⟨[],true,fn1 bW fun q0=>(lf N q0).map fun r=>vB r,false⟩
def w8 (N:Nat):aA prog 183 (uJ N):=om1 (Ix N)
@[go_sem] def F7 (N d f:Nat):Option FnS:=aw [(8,183,uJ N),(10,183,uJ N)] d f
def FT (N:Nat) (a0:ByteArray) (a1:ByteArray) (r:Int) (h:fe N a0 a1=some r):Con prog 104 [] true [vS a0,vS a1] (vI r):=by
 refine fk (G:=(F7 N)) func104 (gc 8 (w8 N) (gc 10 (w8 N) gn)) ?_;simp only [f104];unfold fe at h;refine z0 ?_;obtain ⟨r1,hr1,h⟩:=bI h;refine z1 hr1 ?_;obtain ⟨r2,hr2,h⟩:=bI h;refine z1 hr2 ?_;refine z0 ?_;refine oH rfl (fun hc3=>?_) (fun hc3=>?_)
 ·first|rw [if_pos hc3] at h|simp only [hc3,nG,nE,nw,nX,nJ,xj,nA,nS,nz,nY,cR,if_true,if_false] at h
  refine z1 hc3 ?_;refine oH rfl (fun hc4=>?_) (fun hc4=>?_)
  ·first|rw [if_pos hc4] at h|simp only [hc4,hc3,nG,nE,nw,nX,nJ,xj,nA,nS,nz,nY,cR,if_true,if_false] at h
   refine z1 hc4 ?_;exact e0 h
  rw [if_neg (ne_true_of_eq_false hc4)] at h;refine z1 hc4 ?_;exact e0 h
 rw [if_neg (ne_true_of_eq_false hc3)] at h;refine z1 hc3 ?_;refine oH rfl (fun hc5=>?_) (fun hc5=>?_)
 ·first|rw [if_pos hc5] at h|simp only [hc5,hc3,nG,nE,nw,nX,nJ,xj,nA,nS,nz,nY,cR,if_true,if_false] at h
  refine z1 hc5 ?_;exact e0 h
 rw [if_neg (ne_true_of_eq_false hc5)] at h;refine z1 hc5 ?_;refine oH rfl (fun hc6=>?_) (fun hc6=>?_)
 ·first|rw [if_pos hc6] at h|simp only [hc6,hc3,hc5,nG,nE,nw,nX,nJ,xj,nA,nS,nz,nY,cR,if_true,if_false] at h
  refine z1 hc6 ?_;exact e0 h
 rw [if_neg (ne_true_of_eq_false hc6)] at h;refine z1 hc6 ?_;refine pV rfl (fun hc7=>?_) (fun hc7=>?_)
 ·first|rw [if_neg (ne_true_of_eq_false hc7)] at h|simp only [hc7,hc6,nG,cR,if_false] at h
  refine z1 hc7 ?_;exact e0 h
 simp only [hc7,hc6,nE,if_true] at h;refine z1 hc7 ?_;exact e0 h
@[go_sem] def jM (N:Nat):FnS:=⟨[],true,fn2 bW bW fun q0 q1=>(fe N q0 q1).map fun r=>vI r,false⟩
def jV (N:Nat):aA prog 104 (jM N):=om2 (FT N)
def QF (N:Nat) (a0:List Int) (r:Int) (h:tF N a0=some r):Con prog 103 [] true [sF 1 (a0.map (aB .i64))] (vI r):=by
 refine fk (G:=(aw [])) func103 gn ?_;simp only [f103];unfold tF at h;refine z0 ?_;refine z0 ?_;refine z0 ?_;refine lT 0 (fun (v2:Nat) (b:Unit)=>⟨tab 18 (af (af (af (af au 3 (vI 0)) 6 (sF 1 (a0.map (aB .i64)))) 7 (vI (a0.length:Int))) 8 (vI (v2:Int))),RZ⟩) () h ?_ ?_
 ·rintro v2 ⟨⟩ hi3' h;simp only [pW] at h;refine z1 hi3' ?_;refine cf ?_;refine z0 ?_;exact e0 h
 rintro v2 ⟨⟩ x5 hi3' hx4 hw5 h;simp only [pW] at h;refine z1 hi3' ?_;refine ct ?_;refine z1 (k2 hx4 hi3') ?_;refine z0 ?_;refine cN h (fun hc7 hc7d h=>?_) fun hc7 hc7d h=>?_
 ·refine z1 hc7d ?_;exact e0 h
 refine z1 (k2 hw5 hc7d) ?_;refine ⟨hi3',(),?_,h⟩;exact wR
@[go_sem] def BX (N:Nat):FnS:=⟨[],true,fn1 (aJ 1 (dJ (aH .i64))) fun q0=>(tF N q0).map fun r=>vI r,false⟩
def C7 (N:Nat):aA prog 103 (BX N):=om1 (QF N)
@[go_sem] def Ls (N d f:Nat):Option FnS:=aw [(9,104,jM N),(14,104,jM N),(16,103,BX N)] d f
def Lt (N:Nat) (a0:Ref) (a1:Ref) (r:Int) (h:mC N a0 a1=some r):Con prog 188 [] true [.agg [vS a0.Type_,vS a0.Key],.agg [vS a1.Type_,vS a1.Key]] (vI r):=by
 refine fk (G:=(Ls N)) func188 (gc 9 (jV N) (gc 14 (jV N) (gc 16 (C7 N) gn))) ?_;simp only [f188];unfold mC at h;refine z0 ?_;obtain ⟨r1,hr1,h⟩:=bI h;obtain ⟨r2,hr2,h⟩:=bI h;obtain ⟨r3,hr3,h⟩:=bI h;refine d1 (k3 hr1 hr2 hr3) ?_;exact e0 h
@[go_sem] def yO (N:Nat):FnS:=⟨[],true,fn2 Ref.decA Ref.decA fun q0 q1=>(mC N q0 q1).map fun r=>vI r,false⟩
def Ai (N:Nat):aA prog 188 (yO N):=om2 (Lt N)
@[go_sem] def Ou (N d f:Nat):Option FnS:=aw [(16,187,BD N),(30,188,yO N)] d f
def OT (N:Nat) (a0:List ai) (r:Bool) (h:je N a0=some r):Con prog 116 [] true [sF 4 (a0.map ai.row)] (vB r):=by
 refine fk (G:=(Ou N)) func116 (gc 16 (FF N) (gc 30 (Ai N) gn)) ?_;simp only [f116];unfold je at h;refine z0 ?_;refine z0 ?_;refine cD h (fun hc1 hc1d h=>?_) fun hc1 hc1d h=>?_
 ·refine z1 hc1d ?_;exact e0 h
 refine z1 hc1d ?_;refine lT 0 (fun (v3:Nat) (b:Unit)=>⟨tab 35 (af (af (af (af au 0 (sF 4 (a0.map ai.row))) 8 (sF 4 (a0.map ai.row))) 9 (vI (a0.length:Int))) 10 (vI (v3:Int))),RZ⟩) () h ?_ ?_
 ·rintro v3 ⟨⟩ hi4' h;simp only [jH] at h;refine z1 hi4' ?_;refine cf ?_;refine z0 ?_;exact e0 h
 rintro v3 ⟨⟩ x6 hi4' hx5 hw6 h;simp only [jH] at h;refine z1 hi4' ?_;refine ct ?_;refine z1 (k2 hx5 hi4') ?_;apply aT (fun (c4:Bool)=>⟨tab 35 (af (af (af (af (af au 0 (sF 4 (a0.map ai.row))) 8 (sF 4 (a0.map ai.row))) 9 (vI (a0.length:Int))) 10 (vI (v3:Int))) 33 (vB c4)),RZ⟩)
 ·intro hJ8;obtain ⟨r5,hr9,h⟩:=bI h;refine mW fun Z hZ=>?_;simp only [go_sem,seval,hr9];repeat with_reducible refine gE (by kernel_rfl) ?_
  refine sK rfl (fun hc10=>?_) (fun hc10=>?_)
  ·rw [if_neg (ne_true_of_eq_false hc10)] at h;simp only [go_sem,seval,hc10];exact hZ _ (by kernel_rfl) (pp (hJ8 _ true wR h))
  rw [if_pos hc10] at h;simp only [go_sem,seval,hc10];refine lO rfl (fun hc11=>?_) (fun hc11=>?_)
  ·have hc11d:=decide_eq_true hc11;rw [if_pos hc11] at h;obtain ⟨x7,hb12,hx13,h⟩:=aI h;obtain ⟨r8,hr14,h⟩:=bI h;simp only [go_sem,seval,hc11d,hb12,hx13,hr14];repeat with_reducible refine gE (by kernel_rfl) ?_
   exact hZ _ (by kernel_rfl) (pp (hJ8 _ (decide (0<=r8)) wR h))
  have hc11d:=decide_eq_false hc11;rw [if_neg hc11] at h;simp only [go_sem,seval,hc11d];exact hZ _ (by kernel_rfl) (pp (hJ8 _ false wR h))
 intro c4 h;unfold om at h;refine cB h (fun hc15 h=>?_) fun hc15 h=>?_
 ·refine z1 hc15 ?_;exact e0 h
 refine z1 (k2 hw6 hc15) ?_;refine ⟨hi4',(),?_,h⟩;exact wR
@[go_sem] def ld (N:Nat):FnS:=⟨[],true,fn1 (aJ 4 ai.dec) fun q0=>(je N q0).map fun r=>vB r,false⟩
def km (N:Nat):aA prog 116 (ld N):=om1 (OT N)
def OX (N:Nat) (a0:Txn) (c0_0:Int) (r:Bool) (h:w7 N a0 c0_0=some r):Con prog 99 [] true [.agg (Txn.row a0),.iref 1 [[vI c0_0]] 0 0] (vB r):=by
 refine fk (G:=(aw [])) func99 gn ?_;simp only [f99];unfold w7 at h;refine z0 ?_;refine z0 ?_;exact e0 h
@[go_sem] def Ax (N:Nat):FnS:={ own:=[],pure:=true,fn:=fun cs=>match cs with
 | [c0,.iref 1 [[c1_0]] 0 0]=>(Txn.decA c0).bind fun qc0=>((aH .i64) c1_0).bind fun qc1_0=>(w7 N qc0 qc1_0).map fun r=>vB r
 | _=>none }
def JP (N:Nat):aA prog 99 (Ax N):=by
 refine ⟨fun cs r h=>?_,fun h=>by cases h⟩;simp only [Ax] at h;split at h
 ·simp only [ck,cj] at h;obtain ⟨q0,h0,q1,h1,r',hr,rfl⟩:=h;exact (ag (OX N q0 q1 r' hr))
 ·cases h
@[go_sem] def wG (N d f:Nat):Option FnS:=aw [(16,99,Ax N)] d f
def wN (N:Nat) (a0:List Txn) (k1_0_0:Int) (r:Int) (h:eD N a0 k1_0_0=some r):Con prog 71 [] true [sF 11 (a0.map Txn.row),.clo 99 [.iref 1 [[vI k1_0_0]] 0 0]] (vI r):=by
 refine fk (G:=(wG N)) func71 (gc 16 (JP N) gn) ?_;simp only [f71];unfold eD at h;refine z0 ?_;refine z0 ?_;refine lT 0 (fun (v2:Nat) (b:Unit)=>⟨tab 19 (af (af (af (af au 0 (sF 11 (a0.map Txn.row))) 1 (.clo 99 [.iref 1 [[vI k1_0_0]] 0 0])) 7 (vI (a0.length:Int))) 8 (vI (v2:Int))),RZ⟩) () h ?_ ?_
 ·rintro v2 ⟨⟩ hi3' h;simp only [dP] at h;refine z1 hi3' ?_;refine cf ?_;refine z0 ?_;exact e0 h
 rintro v2 ⟨⟩ x5 hi3' hx4 hw5 h;simp only [dP] at h;refine z1 hi3' ?_;refine ct ?_;refine z0 ?_;obtain ⟨r1,hr7,h⟩:=bI h;refine z1 (k3 hx4 hi3' hr7) ?_;refine cB h (fun hc8 h=>?_) fun hc8 h=>?_
 ·refine z1 hc8 ?_;exact e0 h
 refine z1 (k2 hw5 hc8) ?_;refine ⟨hi3',(),?_,h⟩;exact wR
@[go_sem] def iJ (N:Nat):FnS:={ own:=[],pure:=true,fn:=fun cs=>match cs with
 | [c0,.clo 99 [.iref 1 [[k1_0_0]] 0 0]]=>((aJ 11 Txn.dec) c0).bind fun qc0=>((aH .i64) k1_0_0).bind fun qk1_0_0=>(eD N qc0 qk1_0_0).map fun r=>vI r
 | _=>none }
def uI (N:Nat):aA prog 71 (iJ N):=by
 refine ⟨fun cs r h=>?_,fun h=>by cases h⟩;simp only [iJ] at h;split at h
 ·simp only [ck,cj] at h;obtain ⟨q0,h0,q1,h1,r',hr,rfl⟩:=h;exact (ag (wN N q0 q1 r' hr))
 ·cases h
@[go_sem] def Si (N d f:Nat):Option FnS:=aw [(8,71,iJ N)] d f
def RQ (N:Nat) (a0:ae) (a1:Int) (r:Int) (h:eT N a0 a1=some r):Con prog 40 [] true [.agg (ae.row a0),vI a1] (vI r):=by
 refine fk (G:=(Si N)) func40 (gc 8 (uI N) gn) ?_;simp only [f40];unfold eT at h;refine z0 ?_;obtain ⟨r1,hr1,h⟩:=bI h;refine z1 hr1 ?_;exact e0 h
@[go_sem] def gD (N:Nat):FnS:=⟨[],true,fn2 ae.decA (aH .i64) fun q0 q1=>(eT N q0 q1).map fun r=>vI r,false⟩
def eU (N:Nat):aA prog 40 (gD N):=om2 (RQ N)
@[go_sem] def IW (N d f:Nat):Option FnS:=aw [(6,40,gD N)] d f
def HP (N:Nat) (a0:Int) (c0_0:List Txn) (c0_1:List ai) (c0_2:List aa) (r:Bool) (h:lh N a0 c0_0 c0_1 c0_2=some r):Con prog 122 [] true [vI a0,.iref 3 [[sF 11 (c0_0.map Txn.row),sF 4 (c0_1.map ai.row),sF 3 (c0_2.map aa.row)]] 0 0] (vB r):=by
 refine fk (G:=(IW N)) func122 (gc 6 (eU N) gn) ?_;simp only [f122];unfold lh at h;refine z0 ?_;obtain ⟨r1,hr1,h⟩:=bI h;refine z1 hr1 ?_;exact e0 h
@[go_sem] def uM (N:Nat):FnS:={ own:=[],pure:=true,fn:=fun cs=>match cs with
 | [c0,.iref 3 [[c1_0,c1_1,c1_2]] 0 0]=>((aH .i64) c0).bind fun qc0=>((aJ 11 Txn.dec) c1_0).bind fun qc1_0=>((aJ 4 ai.dec) c1_1).bind fun qc1_1=>((aJ 3 aa.dec) c1_2).bind fun qc1_2=>(lh N qc0 qc1_0 qc1_1 qc1_2).map fun r=>vB r
 | _=>none }
def EP (N:Nat):aA prog 122 (uM N):=by
 refine ⟨fun cs r h=>?_,fun h=>by cases h⟩;simp only [uM] at h;split at h
 ·simp only [ck,cj] at h;obtain ⟨q0,h0,q1,h1,q2,h2,q3,h3,r',hr,rfl⟩:=h;exact (ag (HP N q0 q1 q2 q3 r' hr))
 ·cases h
@[go_sem] def ui (N d f:Nat):Option FnS:=aw [(16,122,uM N)] d f
def tZ (N:Nat) (a0:List Int) (k1_0_0:List Txn) (k1_0_1:List ai) (k1_0_2:List aa) (r:Int) (h:dG N a0 k1_0_0 k1_0_1 k1_0_2=some r):Con prog 189 [] true [sF 1 (a0.map (aB .i64)),.clo 122 [.iref 3 [[sF 11 (k1_0_0.map Txn.row),sF 4 (k1_0_1.map ai.row),sF 3 (k1_0_2.map aa.row)]] 0 0]] (vI r):=by
 refine fk (G:=(ui N)) func189 (gc 16 (EP N) gn) ?_;simp only [f189];unfold dG at h;refine z0 ?_;refine z0 ?_;refine lT 0 (fun (v2:Nat) (b:Unit)=>⟨tab 19 (af (af (af (af au 0 (sF 1 (a0.map (aB .i64)))) 1 (.clo 122 [.iref 3 [[sF 11 (k1_0_0.map Txn.row),sF 4 (k1_0_1.map ai.row),sF 3 (k1_0_2.map aa.row)]] 0 0])) 7 (vI (a0.length:Int))) 8 (vI (v2:Int))),RZ⟩) () h ?_ ?_
 ·rintro v2 ⟨⟩ hi3' h;simp only [dp] at h;refine z1 hi3' ?_;refine cf ?_;refine z0 ?_;exact e0 h
 rintro v2 ⟨⟩ x5 hi3' hx4 hw5 h;simp only [dp] at h;refine z1 hi3' ?_;refine ct ?_;refine z0 ?_;obtain ⟨r1,hr7,h⟩:=bI h;refine z1 (k3 hx4 hi3' hr7) ?_;refine cB h (fun hc8 h=>?_) fun hc8 h=>?_
 ·refine z1 hc8 ?_;exact e0 h
 refine z1 (k2 hw5 hc8) ?_;refine ⟨hi3',(),?_,h⟩;exact wR
@[go_sem] def gv (N:Nat):FnS:={ own:=[],pure:=true,fn:=fun cs=>match cs with
 | [c0,.clo 122 [.iref 3 [[k1_0_0,k1_0_1,k1_0_2]] 0 0]]=>((aJ 1 (dJ (aH .i64))) c0).bind fun qc0=>((aJ 11 Txn.dec) k1_0_0).bind fun qk1_0_0=>((aJ 4 ai.dec) k1_0_1).bind fun qk1_0_1=>((aJ 3 aa.dec) k1_0_2).bind fun qk1_0_2=>(dG N qc0 qk1_0_0 qk1_0_1 qk1_0_2).map fun r=>vI r
 | _=>none }
def rG (N:Nat):aA prog 189 (gv N):=by
 refine ⟨fun cs r h=>?_,fun h=>by cases h⟩;simp only [gv] at h;split at h
 ·simp only [ck,cj] at h;obtain ⟨q0,h0,q1,h1,q2,h2,q3,h3,r',hr,rfl⟩:=h;exact (ag (tZ N q0 q1 q2 q3 r' hr))
 ·cases h
@[go_sem] def sj (N d f:Nat):Option FnS:=aw [(7,189,gv N)] d f
def rU (N:Nat) (a0:List Int) (k1_0_0:List Txn) (k1_0_1:List ai) (k1_0_2:List aa) (r:Bool) (h:dj N a0 k1_0_0 k1_0_1 k1_0_2=some r):Con prog 121 [] true [sF 1 (a0.map (aB .i64)),.clo 122 [.iref 3 [[sF 11 (k1_0_0.map Txn.row),sF 4 (k1_0_1.map ai.row),sF 3 (k1_0_2.map aa.row)]] 0 0]] (vB r):=by
 refine fk (G:=(sj N)) func121 (gc 7 (rG N) gn) ?_;simp only [f121];unfold dj at h;refine z0 ?_;obtain ⟨r1,hr1,h⟩:=bI h;refine z1 hr1 ?_;exact e0 h
@[go_sem] def fG (N:Nat):FnS:={ own:=[],pure:=true,fn:=fun cs=>match cs with
 | [c0,.clo 122 [.iref 3 [[k1_0_0,k1_0_1,k1_0_2]] 0 0]]=>((aJ 1 (dJ (aH .i64))) c0).bind fun qc0=>((aJ 11 Txn.dec) k1_0_0).bind fun qk1_0_0=>((aJ 4 ai.dec) k1_0_1).bind fun qk1_0_1=>((aJ 3 aa.dec) k1_0_2).bind fun qk1_0_2=>(dj N qc0 qk1_0_0 qk1_0_1 qk1_0_2).map fun r=>vB r
 | _=>none }
def pJ (N:Nat):aA prog 121 (fG N):=by
 refine ⟨fun cs r h=>?_,fun h=>by cases h⟩;simp only [fG] at h;split at h
 ·simp only [ck,cj] at h;obtain ⟨q0,h0,q1,h1,q2,h2,q3,h3,r',hr,rfl⟩:=h;exact (ag (rU N q0 q1 q2 q3 r' hr))
 ·cases h
@[go_sem] def KH (N d f:Nat):Option FnS:=aw [(7,116,ld N),(19,40,gD N),(25,121,fG N)] d f
def KY (N:Nat) (a0:ae) (r:Bool) (h:ov N a0=some r):Con prog 53 [] true [.agg (ae.row a0)] (vB r):=by
 refine fk (G:=(KH N)) func53 (gc 7 (km N) (gc 19 (eU N) (gc 25 (pJ N) gn))) ?_;simp only [f53];unfold ov at h;refine z0 ?_;obtain ⟨r1,hr1,h⟩:=bI h;refine z1 hr1 ?_;refine cM h (fun hc2 h=>?_) fun hc2 h=>?_
 ·refine z1 hc2 ?_;exact e0 h
 refine z1 hc2 ?_;refine lT 6 (fun (v4:Nat) (b:Unit)=>⟨tab 28 (af (af (af (af au 1 (pF 1)) 10 (sF 4 (a0.Locks.map ai.row))) 11 (vI (a0.Locks.length:Int))) 12 (vI (v4:Int))),(upd RZ 1 (vA 3 (ae.row a0)))⟩) () h ?_ ?_
 ·rintro v4 ⟨⟩ hi5' h;simp only [iV] at h;refine z1 hi5' ?_;refine cf ?_;refine z0 ?_;exact e0 h
 rintro v4 ⟨⟩ x7 hi5' hx6 hw7 h;simp only [iV] at h;refine z1 hi5' ?_;refine ct ?_;refine z1 (k2 hx6 hi5') ?_;apply aT (fun (c4:Bool)=>⟨tab 28 (af (af (af (af (af au 1 (pF 1)) 10 (sF 4 (a0.Locks.map ai.row))) 11 (vI (a0.Locks.length:Int))) 12 (vI (v4:Int))) 26 (vB c4)),(upd RZ 1 (vA 3 (ae.row a0)))⟩)
 ·intro hJ9;obtain ⟨r5,hr10,h⟩:=bI h;refine iD h (fun hc11 hc11d h=>?_) fun hc11 hc11d h=>?_
  ·refine z1 (k2 hr10 hc11d) ?_;exact hJ9 _ true wR h
  obtain ⟨r6,hr12,h⟩:=bI h;refine z1 (k3 hr10 hc11d hr12) ?_;exact hJ9 _ r6 wR h
 intro c4 h;unfold wH at h;refine cB h (fun hc13 h=>?_) fun hc13 h=>?_
 ·refine z1 hc13 ?_;exact e0 h
 refine z1 (k2 hw7 hc13) ?_;refine ⟨hi5',(),?_,h⟩;exact wR
@[go_sem] def B7 (N:Nat):FnS:=⟨[],true,fn1 ae.decA fun q0=>(ov N q0).map fun r=>vB r,false⟩
def Gq (N:Nat):aA prog 53 (B7 N):=om1 (KY N)
@[go_sem] def Hr (N d f:Nat):Option FnS:=aw [(4,61,lJ N)] d f
def Hz (N:Nat) (a0:Value) (r:Bool) (h:kt N a0=some r):Con prog 135 [] true [.agg (Value.row a0)] (vB r):=by
 refine fk (G:=(Hr N)) func135 (gc 4 (mf N) gn) ?_;simp only [f135];unfold kt at h;refine z0 ?_;obtain ⟨r1,hr1,h⟩:=bI h;refine z1 hr1 ?_;exact e0 h
@[go_sem] def zO (N:Nat):FnS:=⟨[],true,fn1 Value.decA fun q0=>(kt N q0).map fun r=>vB r,false⟩
def Dz (N:Nat):aA prog 135 (zO N):=om1 (Hz N)
@[go_sem] def su (N d f:Nat):Option FnS:=aw [(16,135,zO N)] d f
def sd (N:Nat) (a0:List Value) (r:Int) (h:dg N a0=some r):Con prog 201 [] true [sF 5 (a0.map Value.row),.clo 135 []] (vI r):=by
 refine fk (G:=(su N)) func201 (gc 16 (Dz N) gn) ?_;simp only [f201];unfold dg at h;refine z0 ?_;refine z0 ?_;refine lT 0 (fun (v2:Nat) (b:Unit)=>⟨tab 19 (af (af (af (af au 0 (sF 5 (a0.map Value.row))) 1 (.clo 135 [])) 7 (vI (a0.length:Int))) 8 (vI (v2:Int))),RZ⟩) () h ?_ ?_
 ·rintro v2 ⟨⟩ hi3' h;simp only [bN] at h;refine z1 hi3' ?_;refine cf ?_;refine z0 ?_;exact e0 h
 rintro v2 ⟨⟩ x5 hi3' hx4 hw5 h;simp only [bN] at h;refine z1 hi3' ?_;refine ct ?_;refine z0 ?_;obtain ⟨r1,hr7,h⟩:=bI h;refine z1 (k3 hx4 hi3' hr7) ?_;refine cB h (fun hc8 h=>?_) fun hc8 h=>?_
 ·refine z1 hc8 ?_;exact e0 h
 refine z1 (k2 hw5 hc8) ?_;refine ⟨hi3',(),?_,h⟩;exact wR
@[go_sem] def fF (N:Nat):FnS:={ own:=[],pure:=true,fn:=fun cs=>match cs with
 | [c0,.clo 135 []]=>((aJ 5 Value.dec) c0).bind fun qc0=>(dg N qc0).map fun r=>vI r
 | _=>none }
def pG (N:Nat):aA prog 201 (fF N):=by
 refine ⟨fun cs r h=>?_,fun h=>by cases h⟩;simp only [fF] at h;split at h
 ·simp only [ck,cj] at h;obtain ⟨q0,h0,r',hr,rfl⟩:=h;exact (ag (sd N q0 r' hr))
 ·cases h
@[go_sem] def qI (N d f:Nat):Option FnS:=aw [(7,201,fF N)] d f
def qF (N:Nat) (a0:List Value) (r:Bool) (h:bO N a0=some r):Con prog 134 [] true [sF 5 (a0.map Value.row),.clo 135 []] (vB r):=by
 refine fk (G:=(qI N)) func134 (gc 7 (pG N) gn) ?_;simp only [f134];unfold bO at h;refine z0 ?_;obtain ⟨r1,hr1,h⟩:=bI h;refine z1 hr1 ?_;exact e0 h
@[go_sem] def eN (N:Nat):FnS:={ own:=[],pure:=true,fn:=fun cs=>match cs with
 | [c0,.clo 135 []]=>((aJ 5 Value.dec) c0).bind fun qc0=>(bO N qc0).map fun r=>vB r
 | _=>none }
def oC (N:Nat):aA prog 134 (eN N):=by
 refine ⟨fun cs r h=>?_,fun h=>by cases h⟩;simp only [eN] at h;split at h
 ·simp only [ck,cj] at h;obtain ⟨q0,h0,r',hr,rfl⟩:=h;exact (ag (qF N q0 r' hr))
 ·cases h
@[go_sem] def JF (N d f:Nat):Option FnS:=aw [(8,134,eN N)] d f
def JE (N:Nat) (a0:List Value) (r:Bool) (h:j9 N a0=some r):Con prog 60 [] true [sF 5 (a0.map Value.row)] (vB r):=by
 refine fk (G:=(JF N)) func60 (gc 8 (oC N) gn) ?_;simp only [f60];unfold j9 at h;refine z0 ?_;refine iD h (fun hc1 hc1d h=>?_) fun hc1 hc1d h=>?_
 ·obtain ⟨r1,hr2,h⟩:=bI h;refine z1 (k2 hc1d hr2) ?_;exact e0 h
 refine z1 hc1d ?_;exact e0 h
@[go_sem] def vb (N:Nat):FnS:=⟨[],true,fn1 (aJ 5 Value.dec) fun q0=>(j9 N q0).map fun r=>vB r,false⟩
def y6 (N:Nat):aA prog 60 (vb N):=om1 (JE N)
def Hp (N:Nat) (a0:al) (c0_0:Int) (c0_1:List Value) (c0_2:Bool) (r:Bool) (h:kh N a0 c0_0 c0_1 c0_2=some r):Con prog 192 [] true [.agg (al.row a0),.iref 3 [[vI c0_0,sF 5 (c0_1.map Value.row),vB c0_2]] 0 0] (vB r):=by
 refine fk (G:=(aw [])) func192 gn ?_;simp only [f192];unfold kh at h;refine z0 ?_;refine z0 ?_;exact e0 h
@[go_sem] def s9 (N:Nat):FnS:={ own:=[],pure:=true,fn:=fun cs=>match cs with
 | [c0,.iref 3 [[c1_0,c1_1,c1_2]] 0 0]=>(al.decA c0).bind fun qc0=>((aH .i64) c1_0).bind fun qc1_0=>((aJ 5 Value.dec) c1_1).bind fun qc1_1=>(Di c1_2).bind fun qc1_2=>(kh N qc0 qc1_0 qc1_1 qc1_2).map fun r=>vB r
 | _=>none }
def DG (N:Nat):aA prog 192 (s9 N):=by
 refine ⟨fun cs r h=>?_,fun h=>by cases h⟩;simp only [s9] at h;split at h
 ·simp only [ck,cj] at h;obtain ⟨q0,h0,q1,h1,q2,h2,q3,h3,r',hr,rfl⟩:=h;exact (ag (Hp N q0 q1 q2 q3 r' hr))
 ·cases h
@[go_sem] def sQ (N d f:Nat):Option FnS:=aw [(16,192,s9 N)] d f
def sS (N:Nat) (a0:List al) (k1_0_0:Int) (k1_0_1:List Value) (k1_0_2:Bool) (r:Int) (h:dc N a0 k1_0_0 k1_0_1 k1_0_2=some r):Con prog 186 [] true [sF 3 (a0.map al.row),.clo 192 [.iref 3 [[vI k1_0_0,sF 5 (k1_0_1.map Value.row),vB k1_0_2]] 0 0]] (vI r):=by
 refine fk (G:=(sQ N)) func186 (gc 16 (DG N) gn) ?_;simp only [f186];unfold dc at h;refine z0 ?_;refine z0 ?_;refine lT 0 (fun (v2:Nat) (b:Unit)=>⟨tab 19 (af (af (af (af au 0 (sF 3 (a0.map al.row))) 1 (.clo 192 [.iref 3 [[vI k1_0_0,sF 5 (k1_0_1.map Value.row),vB k1_0_2]] 0 0])) 7 (vI (a0.length:Int))) 8 (vI (v2:Int))),RZ⟩) () h ?_ ?_
 ·rintro v2 ⟨⟩ hi3' h;simp only [bP] at h;refine z1 hi3' ?_;refine cf ?_;refine z0 ?_;exact e0 h
 rintro v2 ⟨⟩ x5 hi3' hx4 hw5 h;simp only [bP] at h;refine z1 hi3' ?_;refine ct ?_;refine z0 ?_;obtain ⟨r1,hr7,h⟩:=bI h;refine z1 (k3 hx4 hi3' hr7) ?_;refine cB h (fun hc8 h=>?_) fun hc8 h=>?_
 ·refine z1 hc8 ?_;exact e0 h
 refine z1 (k2 hw5 hc8) ?_;refine ⟨hi3',(),?_,h⟩;exact wR
@[go_sem] def fC (N:Nat):FnS:={ own:=[],pure:=true,fn:=fun cs=>match cs with
 | [c0,.clo 192 [.iref 3 [[k1_0_0,k1_0_1,k1_0_2]] 0 0]]=>((aJ 3 al.dec) c0).bind fun qc0=>((aH .i64) k1_0_0).bind fun qk1_0_0=>((aJ 5 Value.dec) k1_0_1).bind fun qk1_0_1=>(Di k1_0_2).bind fun qk1_0_2=>(dc N qc0 qk1_0_0 qk1_0_1 qk1_0_2).map fun r=>vI r
 | _=>none }
def pH (N:Nat):aA prog 186 (fC N):=by
 refine ⟨fun cs r h=>?_,fun h=>by cases h⟩;simp only [fC] at h;split at h
 ·simp only [ck,cj] at h;obtain ⟨q0,h0,q1,h1,q2,h2,q3,h3,r',hr,rfl⟩:=h;exact (ag (sS N q0 q1 q2 q3 r' hr))
 ·cases h
@[go_sem] def qy (N d f:Nat):Option FnS:=aw [(7,186,fC N)] d f
def qx (N:Nat) (a0:List al) (k1_0_0:Int) (k1_0_1:List Value) (k1_0_2:Bool) (r:Bool) (h:aZ N a0 k1_0_0 k1_0_1 k1_0_2=some r):Con prog 191 [] true [sF 3 (a0.map al.row),.clo 192 [.iref 3 [[vI k1_0_0,sF 5 (k1_0_1.map Value.row),vB k1_0_2]] 0 0]] (vB r):=by
 refine fk (G:=(qy N)) func191 (gc 7 (pH N) gn) ?_;simp only [f191];unfold aZ at h;refine z0 ?_;obtain ⟨r1,hr1,h⟩:=bI h;refine z1 hr1 ?_;exact e0 h
@[go_sem] def eQ (N:Nat):FnS:={ own:=[],pure:=true,fn:=fun cs=>match cs with
 | [c0,.clo 192 [.iref 3 [[k1_0_0,k1_0_1,k1_0_2]] 0 0]]=>((aJ 3 al.dec) c0).bind fun qc0=>((aH .i64) k1_0_0).bind fun qk1_0_0=>((aJ 5 Value.dec) k1_0_1).bind fun qk1_0_1=>(Di k1_0_2).bind fun qk1_0_2=>(aZ N qc0 qk1_0_0 qk1_0_1 qk1_0_2).map fun r=>vB r
 | _=>none }
def oA (N:Nat):aA prog 191 (eQ N):=by
 refine ⟨fun cs r h=>?_,fun h=>by cases h⟩;simp only [eQ] at h;split at h
 ·simp only [ck,cj] at h;obtain ⟨q0,h0,q1,h1,q2,h2,q3,h3,r',hr,rfl⟩:=h;exact (ag (qx N q0 q1 q2 q3 r' hr))
 ·cases h
@[go_sem] def JT (N d f:Nat):Option FnS:=aw [(17,40,gD N),(22,60,vb N),(42,191,eQ N)] d f
def Jx (N:Nat) (a0:ae) (a1:List al) (r:Bool) (h:jX N a0 a1=some r):Con prog 123 [] true [.agg (ae.row a0),sF 3 (a1.map al.row)] (vB r):=by
 refine fk (G:=(JT N)) func123 (gc 17 (eU N) (gc 22 (y6 N) (gc 42 (oA N) gn))) ?_;simp only [f123];unfold jX at h;refine z0 ?_;refine z0 ?_;refine aQ (ig fun hreal2=>?_);have hl1:=hreal2.lenT 1 (by decide) (by simp only [go_sem,seval]; rfl);rw [cy] at hl1;refine tB (fun (v2:Nat) (b:Unit)=>⟨tab 48 (af (af (af (af (af au 1 (sF 3 (a1.map al.row))) 2 (pF 2)) 7 (sF 3 (a1.map al.row))) 8 (vI (a1.length:Int))) 9 (vI (v2:Int))),(upd RZ 2 (vA 3 (ae.row a0)))⟩) () h ?_ ?_
 ·refine wr ?_ ?_<;>repeat' first|rfl|constructor|simp only [go_sem,seval,nF,hC,nK,nL]
 rintro v2 ⟨⟩ hi3 h -;rcases (mN a1 v2 hi3).symm with ⟨hi3',_,hd6⟩|⟨x5,hi3',hx4,hd6⟩
 ·rw [hd6] at h;simp only [et] at h;refine z1 hi3' ?_;refine cf ?_;refine z0 ?_;refine eZ (pp ?_);cases h;simp (config := { maxSteps := 4000000 }) only [go_sem,seval];exact ⟨_,rfl,(by exact ROk.refl _),(by repeat' (first|exact bB.val _|refine bB.tup ?_|refine bB.agg ?_|exact vq|refine iX ?_ ?_))⟩
 rw [hd6] at h;simp only [et] at h;have hw5:=eG hi3' hl1;refine z1 hi3' ?_;refine ct ?_;refine z1 (k2 hx4 hi3') ?_;apply aT (fun (c7:Bool)=>⟨tab 48 (af (af (af (af (af (af au 1 (sF 3 (a1.map al.row))) 2 (pF 2)) 7 (sF 3 (a1.map al.row))) 8 (vI (a1.length:Int))) 9 (vI (v2:Int))) 43 (vB c7)),(upd RZ 2 (vA 3 (ae.row a0)))⟩)
 ·intro hJ7;obtain ⟨r8,hr8,h⟩:=bI h;refine iL fun Z hZ=>?_;simp (config := { maxSteps := 4000000 }) only [go_sem,seval,hr8];refine lO rfl (fun hc9=>?_) (fun hc9=>?_)
  ·have hc9d:=decide_eq_true hc9;rw [if_pos hc9] at h;simp (config := { maxSteps := 4000000 }) only [go_sem,seval,hc9d];exact hZ _ (pp (hJ7 _ true (wF (k5 hx4 hi3' hw5 hr8 hc9d)) h))
  have hc9d:=decide_eq_false hc9;rw [if_neg hc9] at h;obtain ⟨r9,hr10,h⟩:=bI h;simp (config := { maxSteps := 4000000 }) only [go_sem,seval,hc9d,hr10];refine sK rfl (fun hc11=>?_) (fun hc11=>?_)
  ·first|rw [if_neg (ne_true_of_eq_false hc11)] at h|simp only [hc11,nG,nE,nw,nX,nJ,xj,nA,nS,nz,nY,cR,if_true,if_false] at h
   simp (config := { maxSteps := 4000000 }) only [go_sem,seval,hc11];refine hZ _ (pp (hJ7 _ true ?_ h));exact wF (k5 hx4 hi3' hw5 hr8 (k3 hc9d hr10 hc11))
  rw [if_pos hc11] at h;simp (config := { maxSteps := 4000000 }) only [go_sem,seval,hc11];refine sw (sK rfl) (fun hc12=>?_) (fun hc12=>?_)
  ·first|rw [if_pos hc12] at h|simp only [hc12,hc11,nG,nE,nw,nX,nJ,xj,nA,nS,nz,nY,cR,if_true,if_false] at h
   obtain ⟨hs16,h⟩:=iT h;try simp only [cP,xu,cU,nU] at hs16 h
   obtain ⟨r11,hr17,h⟩:=bI h;try simp only [hc12] at hr17
   simp (config := { maxSteps := 4000000 }) only [go_sem,seval,hc12,hs16,cU,hr17];refine hZ _ (pp (hJ7 _ r11 ?_ h));exact wF (k5 hx4 hi3' hw5 hr8 (k5 hc9d hr10 hc11 hc12 (k4 hs16 @cU @cT hr17)))
  rw [if_neg (ne_true_of_eq_false hc12)] at h;simp (config := { maxSteps := 4000000 }) only [go_sem,seval,hc12];refine lO rfl (fun hc13=>?_) (fun hc13=>?_)
  ·have hc13d:=decide_eq_true hc13;rw [if_pos hc13] at h;simp (config := { maxSteps := 4000000 }) only [go_sem,seval,hc13d];refine hZ _ (pp (hJ7 _ true ?_ h));exact wF (k5 hx4 hi3' hw5 hr8 (k5 hc9d hr10 hc11 hc12 hc13d))
  have hc13d:=decide_eq_false hc13;rw [if_neg hc13] at h;obtain ⟨hs14,h⟩:=iT h;try simp only [cP,xu,cU,nU] at hs14 h
  obtain ⟨r10,hr15,h⟩:=bI h;try simp only [hc12] at hr15
  simp (config := { maxSteps := 4000000 }) only [go_sem,seval,hc13d,hs14,cU,hr15];refine hZ _ (pp (hJ7 _ r10 ?_ h));exact wF (k5 hx4 hi3' hw5 hr8 (k5 hc9d hr10 hc11 hc12 (k5 hc13d hs14 @cU @cT hr15)))
 intro c7 h;unfold jC at h;refine oH rfl (fun hc18=>?_) (fun hc18=>?_)
 ·first|rw [if_pos hc18] at h|simp only [hc18,nG,nE,nw,nX,nJ,xj,nA,nS,nz,nY,cR,if_true,if_false] at h
  refine z1 hc18 ?_;refine eZ (pp ?_);cases h;simp (config := { maxSteps := 4000000 }) only [go_sem,seval];exact ⟨_,rfl,(by exact ROk.refl _),(by repeat' (first|exact bB.val _|refine bB.tup ?_|refine bB.agg ?_|exact vq|refine iX ?_ ?_))⟩
 rw [if_neg (ne_true_of_eq_false hc18)] at h;refine z1 (k2 hw5 hc18) ?_;refine ⟨hi3',(),?_,h⟩;exact wF (k4 hx4 hi3' hw5 hc18)
@[go_sem] def BJ (N:Nat):FnS:=⟨[],true,fn2 ae.decA (aJ 3 al.dec) fun q0 q1=>(jX N q0 q1).map fun r=>vB r,false⟩
def FD (N:Nat):aA prog 123 (BJ N):=om2 (Jx N)
@[go_sem] def NF (N d f:Nat):Option FnS:=aw [(8,188,yO N)] d f
def MS (N:Nat) (a0:ai) (a1:Ref) (r:Int) (h:pd N a0 a1=some r):Con prog 194 [] true [.agg (ai.row a0),.agg [vS a1.Type_,vS a1.Key]] (vI r):=by
 refine fk (G:=(NF N)) func194 (gc 8 (Ai N) gn) ?_;simp only [f194];unfold pd at h;refine z0 ?_;obtain ⟨r1,hr1,h⟩:=bI h;refine z1 hr1 ?_;exact e0 h
@[go_sem] def zR (N:Nat):FnS:=⟨[],true,fn2 ai.decA Ref.decA fun q0 q1=>(pd N q0 q1).map fun r=>vI r,false⟩
def BA (N:Nat):aA prog 194 (zR N):=om2 (MS N)
@[go_sem] def sD (N d f:Nat):Option FnS:=aw [(30,194,zR N),(46,194,zR N)] d f
def sM (N:Nat) (a0:List ai) (a1:Ref) (r:Int × Bool) (h:de N a0 a1=some r):Con prog 193 [] true [sF 4 (a0.map ai.row),.agg [vS a1.Type_,vS a1.Key],.clo 194 []] (.tup [vI r.1,vB r.2]):=by
 refine fk (G:=(sD N)) func193 (gc 30 (BA N) (gc 46 (BA N) gn)) ?_;simp only [f193];unfold de at h;refine z0 ?_;refine z0 ?_;refine z0 ?_;refine aL (aQ (gl (fun (b:Int × Int)=>⟨tab 49 (af (af (af (af (af (af au 0 (sF 4 (a0.map ai.row))) 2 (.clo 194 [])) 4 (pF 4)) 8 (vI (a0.length:Int))) 9 (vI b.1)) 10 (vI b.2)),(upd RZ 4 (vA 2 [vS a1.Type_,vS a1.Key]))⟩) (0,(a0.length:Int)) h ?_ ?_))
 ·exact wR
 rintro n ⟨v2,v3⟩ h -;cases n with
 | zero=>simp [aY] at h
 | succ n=>
 simp only [aY] at h;refine z0 ?_;refine cDs h (fun hc1 hc1d h=>?_) fun hc1 hc1d h=>?_
 ·refine fx (pp ?_);unfold dM at h;refine iD h (fun hc6 hc6d h=>?_) fun hc6 hc6d h=>?_
  ·obtain ⟨x11,hb7,hx8,h⟩:=aI h;obtain ⟨r12,hr9,h⟩:=bI h;refine d1 (k4 hc1d hb7 hx8 hr9) ?_;exact e0 h
  refine d1 (k2 hc1d hc6d) ?_;exact e0 h
 refine z1 hc1d ?_;obtain ⟨x9,hb2,hx3,h⟩:=aI h;obtain ⟨r10,hr4,h⟩:=bI h;refine d1 (k3 hb2 hx3 hr4) ?_;refine cD h (fun hc5 hc5d h=>?_) fun hc5 hc5d h=>?_
 ·refine z1 hc5d ?_;refine ⟨_,cZ _,(IntKind.i64.wrap ((IntKind.i64.wrap (kd .u64 (IntKind.u64.wrap (IntKind.i64.wrap (v2+v3))) 1))+1),v3),?_,h⟩;exact wR
 refine z1 hc5d ?_;refine ⟨_,cZ _,(v2,IntKind.i64.wrap (kd .u64 (IntKind.u64.wrap (IntKind.i64.wrap (v2+v3))) 1)),?_,h⟩;exact wR
@[go_sem] def fE (N:Nat):FnS:={ own:=[],pure:=true,fn:=fun cs=>match cs with
 | [c0,c1,.clo 194 []]=>((aJ 4 ai.dec) c0).bind fun qc0=>(Ref.decA c1).bind fun qc1=>(de N qc0 qc1).map fun r=>.tup [vI r.1,vB r.2]
 | _=>none }
def pK (N:Nat):aA prog 193 (fE N):=by
 refine ⟨fun cs r h=>?_,fun h=>by cases h⟩;simp only [fE] at h;split at h
 ·simp only [ck,cj] at h;obtain ⟨q0,h0,q1,h1,r',hr,rfl⟩:=h;exact (ag (sM N q0 q1 r' hr))
 ·cases h
@[go_sem] def Qa (N d f:Nat):Option FnS:=aw [(8,193,fE N)] d f
def QG (N:Nat) (a0:List ai) (a1:Ref) (r:Int × Bool) (h:qz N a0 a1=some r):Con prog 126 [] true [sF 4 (a0.map ai.row),.agg [vS a1.Type_,vS a1.Key]] (.tup [vI r.1,vB r.2]):=by
 refine fk (G:=(Qa N)) func126 (gc 8 (pK N) gn) ?_;simp only [f126];unfold qz at h;refine z0 ?_;obtain ⟨r1,hr1,h⟩:=bI h;refine z1 hr1 ?_;exact e0 h
@[go_sem] def yp (N:Nat):FnS:=⟨[],true,fn2 (aJ 4 ai.dec) Ref.decA fun q0 q1=>(qz N q0 q1).map fun r=>.tup [vI r.1,vB r.2],false⟩
def yG (N:Nat):aA prog 126 (yp N):=om2 (QG N)
@[go_sem] def OR (N d f:Nat):Option FnS:=aw [(8,116,ld N),(13,126,yp N)] d f
def OO (N:Nat) (a0:List ai) (a1:Ref) (r:Int) (h:mX N a0 a1=some r):Con prog 62 [] true [sF 4 (a0.map ai.row),.agg [vS a1.Type_,vS a1.Key]] (vI r):=by
 refine fk (G:=(OR N)) func62 (gc 8 (km N) (gc 13 (yG N) gn)) ?_;simp only [f62];unfold mX at h;refine z0 ?_;obtain ⟨r1,hr1,h⟩:=bI h;refine z1 hr1 ?_;refine cM h (fun hc2 h=>?_) fun hc2 h=>?_
 ·refine z1 hc2 ?_;exact e0 h
 obtain ⟨r2,hr3,h⟩:=bI h;refine z1 (k2 hc2 hr3) ?_;refine z0 ?_;refine cB h (fun hc4 h=>?_) fun hc4 h=>?_
 ·obtain ⟨x3,hb5,hx6,h⟩:=aI h;refine z1 (k3 hc4 hb5 hx6) ?_;exact e0 h
 refine z1 hc4 ?_;exact e0 h
@[go_sem] def AB (N:Nat):FnS:=⟨[],true,fn2 (aJ 4 ai.dec) Ref.decA fun q0 q1=>(mX N q0 q1).map fun r=>vI r,false⟩
def Cc (N:Nat):aA prog 62 (AB N):=om2 (OO N)
def MD (N:Nat) (a0:ah) (c0_0:ByteArray) (c0_1:ByteArray) (r:Bool) (h:tQ N a0 c0_0 c0_1=some r):Con prog 141 [] true [.agg (ah.row a0),.iref 2 [[vS c0_0,vS c0_1]] 0 0] (vB r):=by
 refine fk (G:=(aw [])) func141 gn ?_;simp only [f141];unfold tQ at h;refine z0 ?_;refine z0 ?_;exact e0 h
@[go_sem] def yE (N:Nat):FnS:={ own:=[],pure:=true,fn:=fun cs=>match cs with
 | [c0,.iref 2 [[c1_0,c1_1]] 0 0]=>(ah.decA c0).bind fun qc0=>(bW c1_0).bind fun qc1_0=>(bW c1_1).bind fun qc1_1=>(tQ N qc0 qc1_0 qc1_1).map fun r=>vB r
 | _=>none }
def HB (N:Nat):aA prog 141 (yE N):=by
 refine ⟨fun cs r h=>?_,fun h=>by cases h⟩;simp only [yE] at h;split at h
 ·simp only [ck,cj] at h;obtain ⟨q0,h0,q1,h1,q2,h2,r',hr,rfl⟩:=h;exact (ag (MD N q0 q1 q2 r' hr))
 ·cases h
@[go_sem] def sa (N d f:Nat):Option FnS:=aw [(16,141,yE N)] d f
def si (N:Nat) (a0:List ah) (k1_0_0:ByteArray) (k1_0_1:ByteArray) (r:Int) (h:dh N a0 k1_0_0 k1_0_1=some r):Con prog 203 [] true [sF 4 (a0.map ah.row),.clo 141 [.iref 2 [[vS k1_0_0,vS k1_0_1]] 0 0]] (vI r):=by
 refine fk (G:=(sa N)) func203 (gc 16 (HB N) gn) ?_;simp only [f203];unfold dh at h;refine z0 ?_;refine z0 ?_;refine lT 0 (fun (v2:Nat) (b:Unit)=>⟨tab 19 (af (af (af (af au 0 (sF 4 (a0.map ah.row))) 1 (.clo 141 [.iref 2 [[vS k1_0_0,vS k1_0_1]] 0 0])) 7 (vI (a0.length:Int))) 8 (vI (v2:Int))),RZ⟩) () h ?_ ?_
 ·rintro v2 ⟨⟩ hi3' h;simp only [bM] at h;refine z1 hi3' ?_;refine cf ?_;refine z0 ?_;exact e0 h
 rintro v2 ⟨⟩ x5 hi3' hx4 hw5 h;simp only [bM] at h;refine z1 hi3' ?_;refine ct ?_;refine z0 ?_;obtain ⟨r1,hr7,h⟩:=bI h;refine z1 (k3 hx4 hi3' hr7) ?_;refine cB h (fun hc8 h=>?_) fun hc8 h=>?_
 ·refine z1 hc8 ?_;exact e0 h
 refine z1 (k2 hw5 hc8) ?_;refine ⟨hi3',(),?_,h⟩;exact wR
@[go_sem] def fD (N:Nat):FnS:={ own:=[],pure:=true,fn:=fun cs=>match cs with
 | [c0,.clo 141 [.iref 2 [[k1_0_0,k1_0_1]] 0 0]]=>((aJ 4 ah.dec) c0).bind fun qc0=>(bW k1_0_0).bind fun qk1_0_0=>(bW k1_0_1).bind fun qk1_0_1=>(dh N qc0 qk1_0_0 qk1_0_1).map fun r=>vI r
 | _=>none }
def pM (N:Nat):aA prog 203 (fD N):=by
 refine ⟨fun cs r h=>?_,fun h=>by cases h⟩;simp only [fD] at h;split at h
 ·simp only [ck,cj] at h;obtain ⟨q0,h0,q1,h1,q2,h2,r',hr,rfl⟩:=h;exact (ag (si N q0 q1 q2 r' hr))
 ·cases h
@[go_sem] def ql (N d f:Nat):Option FnS:=aw [(7,203,fD N)] d f
def qj (N:Nat) (a0:List ah) (k1_0_0:ByteArray) (k1_0_1:ByteArray) (r:Bool) (h:bQ N a0 k1_0_0 k1_0_1=some r):Con prog 140 [] true [sF 4 (a0.map ah.row),.clo 141 [.iref 2 [[vS k1_0_0,vS k1_0_1]] 0 0]] (vB r):=by
 refine fk (G:=(ql N)) func140 (gc 7 (pM N) gn) ?_;simp only [f140];unfold bQ at h;refine z0 ?_;obtain ⟨r1,hr1,h⟩:=bI h;refine z1 hr1 ?_;exact e0 h
@[go_sem] def eM (N:Nat):FnS:={ own:=[],pure:=true,fn:=fun cs=>match cs with
 | [c0,.clo 141 [.iref 2 [[k1_0_0,k1_0_1]] 0 0]]=>((aJ 4 ah.dec) c0).bind fun qc0=>(bW k1_0_0).bind fun qk1_0_0=>(bW k1_0_1).bind fun qk1_0_1=>(bQ N qc0 qk1_0_0 qk1_0_1).map fun r=>vB r
 | _=>none }
def oc (N:Nat):aA prog 140 (eM N):=by
 refine ⟨fun cs r h=>?_,fun h=>by cases h⟩;simp only [eM] at h;split at h
 ·simp only [ck,cj] at h;obtain ⟨q0,h0,q1,h1,q2,h2,r',hr,rfl⟩:=h;exact (ag (qj N q0 q1 q2 r' hr))
 ·cases h
@[go_sem] def ON (N d f:Nat):Option FnS:=aw [(7,140,eM N)] d f
def Oz (N:Nat) (a0:List ah) (a1:Ref) (r:Bool) (h:m9 N a0 a1=some r):Con prog 68 [] true [sF 4 (a0.map ah.row),.agg [vS a1.Type_,vS a1.Key]] (vB r):=by
 refine fk (G:=(ON N)) func68 (gc 7 (oc N) gn) ?_;simp only [f68];unfold m9 at h;refine z0 ?_;obtain ⟨r1,hr1,h⟩:=bI h;refine z1 hr1 ?_;exact e0 h
@[go_sem] def AD (N:Nat):FnS:=⟨[],true,fn2 (aJ 4 ah.dec) Ref.decA fun q0 q1=>(m9 N q0 q1).map fun r=>vB r,false⟩
def Cj (N:Nat):aA prog 68 (AD N):=om2 (Oz N)
@[go_sem] def Ox (N d f:Nat):Option FnS:=aw [(9,104,jM N),(14,104,jM N),(16,103,BX N)] d f
def Ho (N:Nat) (a0:Ref) (a1:Ref) (r:Int) (h:gG N a0 a1=some r):Con prog 43 [] true [.agg [vS a0.Type_,vS a0.Key],.agg [vS a1.Type_,vS a1.Key]] (vI r):=by
 refine fk (G:=(Ox N)) func43 (gc 9 (jV N) (gc 14 (jV N) (gc 16 (C7 N) gn))) ?_;simp only [f43];unfold gG at h;refine z0 ?_;obtain ⟨r1,hr1,h⟩:=bI h;obtain ⟨r2,hr2,h⟩:=bI h;obtain ⟨r3,hr3,h⟩:=bI h;refine d1 (k3 hr1 hr2 hr3) ?_;exact e0 h
@[go_sem] def wy (N:Nat):FnS:=⟨[],true,fn2 Ref.decA Ref.decA fun q0 q1=>(gG N q0 q1).map fun r=>vI r,false⟩
def wK (N:Nat):aA prog 43 (wy N):=om2 (Ho N)
@[go_sem] def JG (N d f:Nat):Option FnS:=aw [(36,123,BJ N),(55,62,AB N),(72,40,gD N),(82,68,AD N),(29,43,wy N)] d f
def JC (N:Nat) (a0:ae) (r:Bool) (h:lU N a0=some r):Con prog 54 [] true [.agg (ae.row a0)] (vB r):=by
 refine fk (G:=(JG N)) func54 (gc 36 (FD N) (gc 55 (Cc N) (gc 72 (eU N) (gc 82 (Cj N) (gc 29 (wK N) gn))))) ?_;simp only [f54];unfold lU at h;refine z0 ?_;refine z0 ?_;refine lT 10 (fun (v2:Nat) (b:Unit)=>⟨tab 98 (af (af (af (af au 1 (pF 1)) 10 (sF 3 (a0.Stacks.map aa.row))) 11 (vI (a0.Stacks.length:Int))) 12 (vI (v2:Int))),(upd RZ 1 (vA 3 (ae.row a0)))⟩) () h ?_ ?_
 ·rintro v2 ⟨⟩ hi3' h;simp only [eu] at h;refine z1 hi3' ?_;refine cf ?_;refine z0 ?_;exact e0 h
 rintro v2 ⟨⟩ x5 hi3' hx4 hw5 h;simp only [eu] at h;refine z1 hi3' ?_;refine ct ?_;refine z1 (k2 hx4 hi3') ?_;refine aL ?_;apply aT (fun (c11:Bool)=>⟨tab 98 (af (af (af (af (af (af au 1 (pF 1)) 4 (pF 4)) 10 (sF 3 (a0.Stacks.map aa.row))) 11 (vI (a0.Stacks.length:Int))) 12 (vI (v2:Int))) 38 (vB c11)),(upd (upd RZ 1 (vA 3 (ae.row a0))) 4 (vA 3 (aa.row x5)))⟩)
 ·intro hJ7;refine mW fun Z hZ=>?_;simp only [go_sem,seval];refine sw (lO rfl) (fun hc8=>?_) (fun hc8=>?_)
  ·have hc8d:=decide_eq_false hc8;rw [if_neg hc8] at h;obtain ⟨r15,hr14,h⟩:=bI h;simp only [go_sem,seval,hc8d,hr14];repeat with_reducible refine gE (by kernel_rfl) ?_
   exact hZ _ (by kernel_rfl) (pp (hJ7 _ (!r15) wR h))
  have hc8d:=decide_eq_true hc8;rw [if_pos hc8] at h;obtain ⟨x12,hb9,hx10,h⟩:=aI h;obtain ⟨r13,hr11,h⟩:=bI h;simp only [go_sem,seval,hc8d,hb9,hx10,hr11];repeat with_reducible refine gE (by kernel_rfl) ?_
  refine lO rfl (fun hc12=>?_) (fun hc12=>?_)
  ·have hc12d:=decide_eq_true hc12;rw [if_pos hc12] at h;simp only [go_sem,seval,hc12d];exact hZ _ (by kernel_rfl) (pp (hJ7 _ true wR h))
  have hc12d:=decide_eq_false hc12;rw [if_neg hc12] at h;obtain ⟨r14,hr13,h⟩:=bI h;simp only [go_sem,seval,hc12d,hr13];repeat with_reducible refine gE (by kernel_rfl) ?_
  exact hZ _ (by kernel_rfl) (pp (hJ7 _ (!r14) wR h))
 intro c11 h;unfold jr at h;refine cB h (fun hc15 h=>?_) fun hc15 h=>?_
 ·refine z1 hc15 ?_;exact e0 h
 refine aU (pp ?_);unfold jt at h;obtain ⟨x16,hb16,hx17,h⟩:=aI h;refine z1 (k3 hc15 hb16 hx17) ?_;refine aL ?_;apply aT (fun (c21:Bool)=>⟨tab 98 (af (af (af (af (af (af au 1 (pF 1)) 4 (pF 4)) 10 (sF 3 (a0.Stacks.map aa.row))) 11 (vI (a0.Stacks.length:Int))) 12 (vI (v2:Int))) 59 (vB c21)),(upd (upd RZ 1 (vA 3 (ae.row a0))) 4 (vA 3 (aa.row x5)))⟩)
 ·intro hJ18;refine iBs h (fun hc19 h=>?_) fun hc19 h=>?_
  ·obtain ⟨r22,hr20,h⟩:=bI h;refine d1 (k2 hc19 hr20) ?_;exact hJ18 _ (!decide (r22=x16.Txn_)) wR h
  refine d1 hc19 ?_;exact hJ18 _ false wR h
 intro c21 h;unfold ly at h;refine cB h (fun hc21 h=>?_) fun hc21 h=>?_
 ·refine z1 hc21 ?_;exact e0 h
 unfold lD at h;refine z1 hc21 ?_;refine lT 61 (fun (v20:Nat) (b:Unit)=>⟨tab 98 (af (af (af (af (af (af (af (af au 1 (pF 1)) 4 (pF 4)) 10 (sF 3 (a0.Stacks.map aa.row))) 11 (vI (a0.Stacks.length:Int))) 12 (vI (v2:Int))) 61 (sF 3 (x5.Layers.map al.row))) 62 (vI (x5.Layers.length:Int))) 63 (vI (v20:Int))),(upd (upd RZ 1 (vA 3 (ae.row a0))) 4 (vA 3 (aa.row x5)))⟩) () h ?_ ?_
 ·rintro v20 ⟨⟩ hi24' h;simp only [eW] at h;refine z1 hi24' ?_;refine cf ?_;refine z1 hw5 ?_;refine ⟨hi3',(),?_,h⟩;exact wR
 rintro v20 ⟨⟩ x23 hi24' hx25 hw26 h;simp only [eW] at h;refine z1 hi24' ?_;refine ct ?_;refine z1 (k2 hx25 hi24') ?_;obtain ⟨r23,hr28,h⟩:=bI h;obtain ⟨x24,hb29,hx30,h⟩:=aI h;refine d1 (k3 hr28 hb29 hx30) ?_;apply aT (fun (c27:Bool)=>⟨tab 98 (af (af (af (af (af (af (af (af (af au 1 (pF 1)) 4 (pF 4)) 10 (sF 3 (a0.Stacks.map aa.row))) 11 (vI (a0.Stacks.length:Int))) 12 (vI (v2:Int))) 61 (sF 3 (x5.Layers.map al.row))) 62 (vI (x5.Layers.length:Int))) 63 (vI (v20:Int))) 95 (vB c27)),(upd (upd RZ 1 (vA 3 (ae.row a0))) 4 (vA 3 (aa.row x5)))⟩)
 ·intro hJ31;obtain ⟨hs32,h⟩:=iT h;try simp only [xu,cU,nU] at hs32 h
  obtain ⟨r28,hr33,h⟩:=bI h;refine mW fun Z hZ=>?_;simp only [go_sem,seval,hs32,cU,hr33];repeat with_reducible refine gE (by kernel_rfl) ?_
  refine sK rfl (fun hc34=>?_) (fun hc34=>?_)
  ·rw [if_neg (ne_true_of_eq_false hc34)] at h;simp only [go_sem,seval,hc34];exact hZ _ (by kernel_rfl) (pp (hJ31 _ true wR h))
  rw [if_pos hc34] at h;simp only [go_sem,seval,hc34];refine OS rfl (fun hc35=>?_) (fun hc35=>?_)
  ·rw [if_pos hc35] at h;simp only [go_sem,seval,hc35];repeat with_reducible refine gE (by kernel_rfl) ?_
   exact hZ _ (by kernel_rfl) (pp (hJ31 _ (decide (x24.Done < (x24.Calls.length:Int))) wR h))
  rw [if_neg (ne_true_of_eq_false hc35)] at h;simp only [go_sem,seval,hc35];exact hZ _ (by kernel_rfl) (pp (hJ31 _ false wR h))
 intro c27 h;unfold jB at h;refine cB h (fun hc36 h=>?_) fun hc36 h=>?_
 ·refine z1 hc36 ?_;exact e0 h
 refine z1 (k2 hw26 hc36) ?_;refine ⟨hi24',(),?_,h⟩;exact wR
@[go_sem] def BH (N:Nat):FnS:=⟨[],true,fn1 ae.decA fun q0=>(lU N q0).map fun r=>vB r,false⟩
def E1 (N:Nat):aA prog 54 (BH N):=om1 (JC N)
def O0 (N:Nat) (a0:aa) (c0_0:ByteArray) (c0_1:ByteArray) (r:Bool) (h:yj N a0 c0_0 c0_1=some r):Con prog 106 [] true [.agg (aa.row a0),.iref 2 [[vS c0_0,vS c0_1]] 0 0] (vB r):=by
 refine fk (G:=(aw [])) func106 gn ?_;simp only [f106];unfold yj at h;refine z0 ?_;refine z0 ?_;exact e0 h
@[go_sem] def Aq (N:Nat):FnS:={ own:=[],pure:=true,fn:=fun cs=>match cs with
 | [c0,.iref 2 [[c1_0,c1_1]] 0 0]=>(aa.decA c0).bind fun qc0=>(bW c1_0).bind fun qc1_0=>(bW c1_1).bind fun qc1_1=>(yj N qc0 qc1_0 qc1_1).map fun r=>vB r
 | _=>none }
def JI (N:Nat):aA prog 106 (Aq N):=by
 refine ⟨fun cs r h=>?_,fun h=>by cases h⟩;simp only [Aq] at h;split at h
 ·simp only [ck,cj] at h;obtain ⟨q0,h0,q1,h1,q2,h2,r',hr,rfl⟩:=h;exact (ag (O0 N q0 q1 q2 r' hr))
 ·cases h
@[go_sem] def s3 (N d f:Nat):Option FnS:=aw [(16,106,Aq N)] d f
def sZ (N:Nat) (a0:List aa) (k1_0_0:ByteArray) (k1_0_1:ByteArray) (r:Int) (h:dq N a0 k1_0_0 k1_0_1=some r):Con prog 105 [] true [sF 3 (a0.map aa.row),.clo 106 [.iref 2 [[vS k1_0_0,vS k1_0_1]] 0 0]] (vI r):=by
 refine fk (G:=(s3 N)) func105 (gc 16 (JI N) gn) ?_;simp only [f105];unfold dq at h;refine z0 ?_;refine z0 ?_;refine lT 0 (fun (v2:Nat) (b:Unit)=>⟨tab 19 (af (af (af (af au 0 (sF 3 (a0.map aa.row))) 1 (.clo 106 [.iref 2 [[vS k1_0_0,vS k1_0_1]] 0 0])) 7 (vI (a0.length:Int))) 8 (vI (v2:Int))),RZ⟩) () h ?_ ?_
 ·rintro v2 ⟨⟩ hi3' h;simp only [bS] at h;refine z1 hi3' ?_;refine cf ?_;refine z0 ?_;exact e0 h
 rintro v2 ⟨⟩ x5 hi3' hx4 hw5 h;simp only [bS] at h;refine z1 hi3' ?_;refine ct ?_;refine z0 ?_;obtain ⟨r1,hr7,h⟩:=bI h;refine z1 (k3 hx4 hi3' hr7) ?_;refine cB h (fun hc8 h=>?_) fun hc8 h=>?_
 ·refine z1 hc8 ?_;exact e0 h
 refine z1 (k2 hw5 hc8) ?_;refine ⟨hi3',(),?_,h⟩;exact wR
@[go_sem] def fM (N:Nat):FnS:={ own:=[],pure:=true,fn:=fun cs=>match cs with
 | [c0,.clo 106 [.iref 2 [[k1_0_0,k1_0_1]] 0 0]]=>((aJ 3 aa.dec) c0).bind fun qc0=>(bW k1_0_0).bind fun qk1_0_0=>(bW k1_0_1).bind fun qk1_0_1=>(dq N qc0 qk1_0_0 qk1_0_1).map fun r=>vI r
 | _=>none }
def qJ (N:Nat):aA prog 105 (fM N):=by
 refine ⟨fun cs r h=>?_,fun h=>by cases h⟩;simp only [fM] at h;split at h
 ·simp only [ck,cj] at h;obtain ⟨q0,h0,q1,h1,q2,h2,r',hr,rfl⟩:=h;exact (ag (sZ N q0 q1 q2 r' hr))
 ·cases h
@[go_sem] def RA (N d f:Nat):Option FnS:=aw [(8,105,fM N)] d f
def RI (N:Nat) (a0:ae) (a1:Ref) (r:Int) (h:lA N a0 a1=some r):Con prog 46 [] true [.agg (ae.row a0),.agg [vS a1.Type_,vS a1.Key]] (vI r):=by
 refine fk (G:=(RA N)) func46 (gc 8 (qJ N) gn) ?_;simp only [f46];unfold lA at h;refine z0 ?_;obtain ⟨r1,hr1,h⟩:=bI h;refine z1 hr1 ?_;exact e0 h
@[go_sem] def vE (N:Nat):FnS:=⟨[],true,fn2 ae.decA Ref.decA fun q0 q1=>(lA N q0 q1).map fun r=>vI r,false⟩
def uV (N:Nat):aA prog 46 (vE N):=om2 (RI N)
@[go_sem] def Sl (N d f:Nat):Option FnS:=aw [(13,46,vE N)] d f
def R3 (N:Nat) (a0:ae) (a1:Ref) (a2:Int) (r:al × Bool) (h:jb N a0 a1 a2=some r):Con prog 69 [] false [.agg (ae.row a0),.agg [vS a1.Type_,vS a1.Key],vI a2] (.tup [.agg (al.row r.1),vB r.2]):=by
 refine fk (G:=(Sl N)) func69 (gc 13 (uV N) gn) ?_;simp only [f69];unfold jb at h;refine z0 ?_;obtain ⟨r1,hr1,h⟩:=bI h;refine z1 hr1 ?_;refine z0 ?_;refine cDs h (fun hc2 hc2d h=>?_) fun hc2 hc2d h=>?_
 ·refine z1 hc2d ?_;exact f0 h
 obtain ⟨x2,hb3,hx4,h⟩:=aI h;refine z1 (k2 hb3 hx4) ?_;refine lT 21 (fun (v4:Nat) (b:Unit)=>⟨tab 34 (af (af (af (af (af au 2 (vI a2)) 6 (pF 6)) 21 (sF 3 (x2.Layers.map al.row))) 22 (vI (x2.Layers.length:Int))) 23 (vI (v4:Int))),(upd RZ 6 (vA 3 [vI 0,.val (.slice none 0 0),vB false]))⟩) () h ?_ ?_
 ·rintro v4 ⟨⟩ hi7' h;simp only [sB] at h;refine z1 hi7' ?_;refine cf ?_;refine z0 ?_;exact f0 h
 rintro v4 ⟨⟩ x7 hi7' hx8 hw9 h;simp only [sB] at h;refine z1 hi7' ?_;refine ct ?_;refine z1 (k2 hx8 hi7') ?_;refine z0 ?_;refine cD h (fun hc11 hc11d h=>?_) fun hc11 hc11d h=>?_
 ·refine z1 hc11d ?_;exact f0 h
 refine z1 (k2 hw9 hc11d) ?_;refine ⟨hi7',(),?_,h⟩;exact wR
@[go_sem] def rT (N:Nat):FnS:=⟨[],false,fn3 ae.decA Ref.decA (aH .i64) fun q0 q1 q2=>(jb N q0 q1 q2).map fun r=>.tup [.agg (al.row r.1),vB r.2],false⟩
def qd (N:Nat):aA prog 69 (rT N):=om3 (R3 N)
@[go_sem] def HA (N d f:Nat):Option FnS:=aw [(41,69,rT N),(60,40,gD N),(69,69,rT N),(115,40,gD N)] d f
def HF (N:Nat) (a0:ae) (r:Bool) (h:kf N a0=some r):Con prog 55 [] true [.agg (ae.row a0)] (vB r):=by
 refine fk (G:=(HA N)) func55 (gc 41 (qd N) (gc 60 (eU N) (gc 69 (qd N) (gc 115 (eU N) gn)))) ?_;simp only [f55];unfold kf at h;refine z0 ?_;refine z0 ?_;refine lTs 19 (fun (v2:Nat) (b:Unit)=>⟨tab 138 (af (af (af (af au 1 (pF 1)) 19 (sF 11 (a0.Txns.map Txn.row))) 20 (vI (a0.Txns.length:Int))) 21 (vI (v2:Int))),(upd RZ 1 (vA 3 (ae.row a0)))⟩) () h ?_ ?_
 ·rintro v2 ⟨⟩ x5 hi3' hx4 hw5 h;simp only [iM] at h;refine z1 hi3' ?_;refine ct ?_;refine z1 (k2 hx4 hi3') ?_;obtain ⟨hs7,h⟩:=iT h;try simp only [xu,cU,nU] at hs7 h
  refine z1 (k2 hs7 @cU) ?_;refine lT 29 (fun (v9:Nat) (b:Unit)=>⟨tab 138 (af (af (af (af (af (af (af (af au 1 (pF 1)) 4 (pF 4)) 19 (sF 11 (a0.Txns.map Txn.row))) 20 (vI (a0.Txns.length:Int))) 21 (vI (v2:Int))) 29 (sF 4 ((x5.Calls.take ((x5.Done).toNat)).map ah.row))) 30 (vI (((x5.Calls.take ((x5.Done).toNat)).length:Nat):Int))) 31 (vI (v9:Int))),(upd (upd RZ 1 (vA 3 (ae.row a0))) 4 (vA 11 (Txn.row x5)))⟩) () h ?_ ?_
  ·rintro v9 ⟨⟩ hi10' h;simp only [gC] at h;refine z1 hi10' ?_;refine cf ?_;refine z1 hw5 ?_;refine ⟨hi3',(),?_,h⟩;exact wR
  rintro v9 ⟨⟩ x12 hi10' hx11 hw12 h;simp only [gC] at h;refine z1 hi10' ?_;refine ct ?_;refine z1 (k2 hx11 hi10') ?_;obtain ⟨r15,hr14,h⟩:=bI h;refine z1 hr14 ?_;refine z0 ?_;refine cM h (fun hc15 h=>?_) fun hc15 h=>?_
  ·refine z1 hc15 ?_;exact e0 h
  refine z1 (k2 hw12 hc15) ?_;refine ⟨hi10',(),?_,h⟩;exact wR
 rintro v2 ⟨⟩ hi3' h;simp only [iM] at h;refine z1 hi3' ?_;refine cf ?_;unfold mU at h;refine z0 ?_;refine lT 49 (fun (v17:Nat) (b:Unit)=>⟨tab 138 (af (af (af (af au 1 (pF 1)) 49 (sF 4 (a0.Locks.map ai.row))) 50 (vI (a0.Locks.length:Int))) 51 (vI (v17:Int))),(upd RZ 1 (vA 3 (ae.row a0)))⟩) () h ?_ ?_
 ·rintro v17 ⟨⟩ hi18' h;simp only [bH] at h;refine z1 hi18' ?_;refine cf ?_;refine z0 ?_;exact e0 h
 rintro v17 ⟨⟩ x20 hi18' hx19 hw20 h;simp only [bH] at h;refine z1 hi18' ?_;refine ct ?_;refine z1 (k2 hx19 hi18') ?_;obtain ⟨r16,hr22,h⟩:=bI h;obtain ⟨x17,hb23,hx24,h⟩:=aI h;refine d1 (k3 hr22 hb23 hx24) ?_;obtain ⟨r18,hr25,h⟩:=bI h;refine z1 hr25 ?_;refine z0 ?_;refine aL ?_;apply aT (fun (c24:Bool)=>⟨tab 138 (af (af (af (af (af (af au 1 (pF 1)) 10 (pF 10)) 49 (sF 4 (a0.Locks.map ai.row))) 50 (vI (a0.Locks.length:Int))) 51 (vI (v17:Int))) 103 (vB c24)),(upd (upd RZ 1 (vA 3 (ae.row a0))) 10 (vA 4 (ai.row x20)))⟩)
 ·intro hJ26;refine iD h (fun hc27 hc27d h=>?_) fun hc27 hc27d h=>?_
  ·refine iBs h (fun hc30 h=>?_) fun hc30 h=>?_
   ·obtain ⟨x25,hb31,hx32,h⟩:=aI h;refine d1 (k4 hc27d hc30 hb31 hx32) ?_;exact hJ26 _ (!(sEq x25.Target.Type_ x20.Actor.Type_ && sEq x25.Target.Key x20.Actor.Key)) wR h
   refine d1 (k2 hc27d hc30) ?_;exact hJ26 _ false wR h
  refine iBs h (fun hc28 h=>?_) fun hc28 h=>?_
  ·refine d1 (k2 hc27d hc28) ?_;exact hJ26 _ true wR h
  refine iB h (fun hc29 h=>?_) fun hc29 h=>?_
  ·refine d1 (k3 hc27d hc28 hc29) ?_;exact hJ26 _ true wR h
  refine d1 (k3 hc27d hc28 hc29) ?_;exact hJ26 _ false wR h
 intro c24 h;unfold fb at h;refine cB h (fun hc33 h=>?_) fun hc33 h=>?_
 ·refine z1 hc33 ?_;exact e0 h
 unfold fc at h;refine z1 hc33 ?_;refine lT 105 (fun (v30:Nat) (b:Unit)=>⟨tab 138 (af (af (af (af (af (af (af (af au 1 (pF 1)) 10 (pF 10)) 49 (sF 4 (a0.Locks.map ai.row))) 50 (vI (a0.Locks.length:Int))) 51 (vI (v17:Int))) 105 (sF 1 (x20.Waiters.map (aB .i64)))) 106 (vI (x20.Waiters.length:Int))) 107 (vI (v30:Int))),(upd (upd RZ 1 (vA 3 (ae.row a0))) 10 (vA 4 (ai.row x20)))⟩) () h ?_ ?_
 ·rintro v30 ⟨⟩ hi36' h;simp only [eX] at h;refine z1 hi36' ?_;refine cf ?_;refine z1 hw20 ?_;refine ⟨hi18',(),?_,h⟩;exact wR
 rintro v30 ⟨⟩ x33 hi36' hx37 hw38 h;simp only [eX] at h;refine z1 hi36' ?_;refine ct ?_;refine z1 (k2 hx37 hi36') ?_;obtain ⟨r26,hr40,h⟩:=bI h;obtain ⟨x27,hb41,hx42,h⟩:=aI h;refine d1 (k3 hr40 hb41 hx42) ?_;apply aT (fun (c29:Bool)=>⟨tab 138 (af (af (af (af (af (af (af (af (af au 1 (pF 1)) 10 (pF 10)) 49 (sF 4 (a0.Locks.map ai.row))) 50 (vI (a0.Locks.length:Int))) 51 (vI (v17:Int))) 105 (sF 1 (x20.Waiters.map (aB .i64)))) 106 (vI (x20.Waiters.length:Int))) 107 (vI (v30:Int))) 135 (vB c29)),(upd (upd RZ 1 (vA 3 (ae.row a0))) 10 (vA 4 (ai.row x20)))⟩)
 ·intro hJ43;refine mW fun Z hZ=>?_;simp only [go_sem,seval];repeat with_reducible refine gE (by kernel_rfl) ?_
  refine lO rfl (fun hc44=>?_) (fun hc44=>?_)
  ·have hc44d:=decide_eq_true hc44;rw [if_pos hc44] at h;simp only [go_sem,seval,hc44d];exact hZ _ (by kernel_rfl) (pp (hJ43 _ true wR h))
  have hc44d:=decide_eq_false hc44;rw [if_neg hc44] at h;obtain ⟨x30,hb45,hx46,h⟩:=aI h;simp only [go_sem,seval,hc44d,hb45,hx46];exact hZ _ (by kernel_rfl) (pp (hJ43 _ (!(sEq x30.Target.Type_ x20.Actor.Type_ && sEq x30.Target.Key x20.Actor.Key)) wR h))
 intro c29 h;unfold mS at h;refine cB h (fun hc47 h=>?_) fun hc47 h=>?_
 ·refine z1 hc47 ?_;exact e0 h
 refine z1 (k2 hw38 hc47) ?_;refine ⟨hi36',(),?_,h⟩;exact wR
@[go_sem] def zs (N:Nat):FnS:=⟨[],true,fn1 ae.decA fun q0=>(kf N q0).map fun r=>vB r,false⟩
def DH (N:Nat):aA prog 55 (zs N):=om1 (HF N)
def HV (N:Nat) (a0:List Int) (a1:Int) (r:Int) (h:oG N a0 a1=some r):Con prog 184 [] true [sF 1 (a0.map (aB .i64)),vI a1] (vI r):=by
 refine fk (G:=(aw [])) func184 gn ?_;simp only [f184];unfold oG at h;refine z0 ?_;refine z0 ?_;refine lT 0 (fun (v2:Nat) (b:Unit)=>⟨tab 19 (af (af (af (af au 0 (sF 1 (a0.map (aB .i64)))) 1 (vI a1)) 7 (vI (a0.length:Int))) 8 (vI (v2:Int))),RZ⟩) () h ?_ ?_
 ·rintro v2 ⟨⟩ hi3' h;simp only [jd] at h;refine z1 hi3' ?_;refine cf ?_;refine z0 ?_;exact e0 h
 rintro v2 ⟨⟩ x5 hi3' hx4 hw5 h;simp only [jd] at h;refine z1 hi3' ?_;refine ct ?_;refine z0 ?_;refine z1 (k2 hx4 hi3') ?_;refine cD h (fun hc7 hc7d h=>?_) fun hc7 hc7d h=>?_
 ·refine z1 hc7d ?_;exact e0 h
 refine z1 (k2 hw5 hc7d) ?_;refine ⟨hi3',(),?_,h⟩;exact wR
@[go_sem] def Ag (N:Nat):FnS:=⟨[],true,fn2 (aJ 1 (dJ (aH .i64))) (aH .i64) fun q0 q1=>(oG N q0 q1).map fun r=>vI r,false⟩
def Ez (N:Nat):aA prog 184 (Ag N):=om2 (HV N)
@[go_sem] def Fs (N d f:Nat):Option FnS:=aw [(7,184,Ag N)] d f
def E4 (N:Nat) (a0:List Int) (a1:Int) (r:Bool) (h:dy N a0 a1=some r):Con prog 108 [] true [sF 1 (a0.map (aB .i64)),vI a1] (vB r):=by
 refine fk (G:=(Fs N)) func108 (gc 7 (Ez N) gn) ?_;simp only [f108];unfold dy at h;refine z0 ?_;obtain ⟨r1,hr1,h⟩:=bI h;refine z1 hr1 ?_;exact e0 h
@[go_sem] def fm (N:Nat):FnS:=⟨[],true,fn2 (aJ 1 (dJ (aH .i64))) (aH .i64) fun q0 q1=>(dy N q0 q1).map fun r=>vB r,false⟩
def fy (N:Nat):aA prog 108 (fm N):=om2 (E4 N)
@[go_sem] def RR (N d f:Nat):Option FnS:=aw [(38,108,fm N)] d f
def R6 (N:Nat) (a0:ae) (a1:Int) (a2:List Int) (r:Bool) (h:vv N a0 a1 a2=some r):Con prog 74 [] true [.agg (ae.row a0),vI a1,sF 1 (a2.map (aB .i64))] (vB r):=by
 refine fk (G:=(RR N)) func74 (gc 38 (fy N) gn) ?_;simp only [f74];unfold vv at h;refine z0 ?_;refine z0 ?_;refine lT 13 (fun (v2:Nat) (b:Unit)=>⟨tab 43 (af (af (af (af (af au 1 (vI a1)) 2 (sF 1 (a2.map (aB .i64)))) 13 (sF 3 (a0.Stacks.map aa.row))) 14 (vI (a0.Stacks.length:Int))) 15 (vI (v2:Int))),RZ⟩) () h ?_ ?_
 ·rintro v2 ⟨⟩ hi3' h;simp only [pj] at h;refine z1 hi3' ?_;refine cf ?_;refine z0 ?_;exact e0 h
 rintro v2 ⟨⟩ x5 hi3' hx4 hw5 h;simp only [pj] at h;refine z1 hi3' ?_;refine ct ?_;refine z1 (k2 hx4 hi3') ?_;refine z0 ?_;refine z0 ?_;refine lT 20 (fun (v9:Nat) (b:Bool)=>⟨tab 43 (af (af (af (af (af (af (af (af (af au 1 (vI a1)) 2 (sF 1 (a2.map (aB .i64)))) 9 (vB b)) 13 (sF 3 (a0.Stacks.map aa.row))) 14 (vI (a0.Stacks.length:Int))) 15 (vI (v2:Int))) 20 (sF 3 (x5.Layers.map al.row))) 21 (vI (x5.Layers.length:Int))) 22 (vI (v9:Int))),RZ⟩) false h ?_ ?_
 ·rintro v9 c8 hi9' h;simp only [jY] at h;refine z1 hi9' ?_;refine cf ?_;refine z1 hw5 ?_;refine ⟨hi3',(),?_,h⟩;exact wR
 rintro v9 c8 x12 hi9' hx10 hw11 h;simp only [jY] at h;refine z1 hi9' ?_;refine ct ?_;refine z1 (k2 hx10 hi9') ?_;refine aL ?_;apply aT (fun (c3:Bool)=>⟨tab 43 (af (af (af (af (af (af (af (af (af (af (af au 1 (vI a1)) 2 (sF 1 (a2.map (aB .i64)))) 9 (vB c8)) 11 (pF 11)) 13 (sF 3 (a0.Stacks.map aa.row))) 14 (vI (a0.Stacks.length:Int))) 15 (vI (v2:Int))) 20 (sF 3 (x5.Layers.map al.row))) 21 (vI (x5.Layers.length:Int))) 22 (vI (v9:Int))) 32 (vB c3)),(upd RZ 11 (vA 3 (al.row x12)))⟩)
 ·intro hJ13;refine iD h (fun hc14 hc14d h=>?_) fun hc14 hc14d h=>?_
  ·refine z1 hc14d ?_;exact hJ13 _ c8 wR h
  refine z1 hc14d ?_;exact hJ13 _ false wR h
 intro c3 h;unfold zA at h;refine cB h (fun hc15 h=>?_) fun hc15 h=>?_
 ·refine z1 hc15 ?_;exact e0 h
 refine aU (pp ?_);unfold vd at h;refine iB h (fun hc16 h=>?_) fun hc16 h=>?_
 ·refine z1 (k2 hc15 hc16) ?_;refine z1 hw11 ?_;refine ⟨hi9',true,?_,h⟩;exact wR
 obtain ⟨r4,hr17,h⟩:=bI h;refine z1 (k3 hc15 hc16 hr17) ?_;refine z1 hw11 ?_;refine ⟨hi9',(!r4),?_,h⟩;exact wR
@[go_sem] def Dn (N:Nat):FnS:=⟨[],true,fn3 ae.decA (aH .i64) (aJ 1 (dJ (aH .i64))) fun q0 q1 q2=>(vv N q0 q1 q2).map fun r=>vB r,false⟩
def DT (N:Nat):aA prog 74 (Dn N):=om3 (R6 N)
@[go_sem] def OY (N d f:Nat):Option FnS:=aw [(21,108,fm N),(28,74,Dn N)] d f
def OJ (N:Nat) (a0:ae) (r:Bool) (h:uw N a0=some r):Con prog 56 [] true [.agg (ae.row a0)] (vB r):=by
 refine fk (G:=(OY N)) func56 (gc 21 (fy N) (gc 28 (DT N) gn)) ?_;simp only [f56];unfold uw at h;refine z0 ?_;refine z0 ?_;refine z0 ?_;refine aQ (ig fun hreal2=>?_);have hl1:=hreal2.lenT 7 (by decide) (by simp only [go_sem,seval]; rfl);rw [cy] at hl1;refine oR (fun (v3:Nat) (b:List Int)=>⟨tab 43 (af (af (af (af au 1 (pF 1)) 3 (.pal 34 [] 0 b.length none)) 8 (vI (a0.Txns.length:Int))) 9 (vI (v3:Int))),(upd (upd RZ 1 (vA 3 (ae.row a0))) 34 (sO 1 (b.map (aB .i64))))⟩) [] h ?_ ?_
 ·refine aX.trans (mR 3 34 1 (by simp only [go_sem,seval]) (by simp only [go_sem,seval])) ?_;refine wr ?_ ?_<;>repeat' first|rfl|constructor|simp only [go_sem,seval,nF,hC,nK,nL]
 rintro v3 l2 _ h -;rcases (jf a0.Txns.length v3).symm with ⟨hi3',hd6⟩|⟨hi3',hd6⟩
 ·rw [hd6] at h;simp only [kM] at h;refine z1 hi3' ?_;refine cf ?_;refine z0 ?_;exact e0 h
 rw [hd6] at h;simp only [kM] at h;have hw5:=eG hi3' hl1;refine z1 hi3' ?_;refine ct ?_;refine z0 ?_;refine lT 12 (fun (v9:Nat) (b:List Int)=>⟨tab 43 (af (af (af (af (af (af (af au 1 (pF 1)) 3 (.pal 34 [] 0 b.length none)) 8 (vI (a0.Txns.length:Int))) 9 (vI (v3:Int))) 12 (sF 11 (a0.Txns.map Txn.row))) 13 (vI (a0.Txns.length:Int))) 14 (vI (v9:Int))),(upd (upd RZ 1 (vA 3 (ae.row a0))) 34 (sO 1 (b.map (aB .i64))))⟩) l2 h ?_ ?_ (h0:=wF (k2 hi3' hw5))
 ·rintro v9 l8 hi9' h;simp only [jy] at h;refine z1 hi9' ?_;refine cf ?_;refine z1 hw5 ?_;refine ⟨hi3',l8,?_,h⟩;exact wF (k3 hi3' hw5 hi9')
 rintro v9 l8 x12 hi9' hx10 hw11 h;simp only [jy] at h;refine z1 hi9' ?_;refine ct ?_;refine z1 (k2 hx10 hi9') ?_;apply aT (fun (c3:Bool)=>⟨tab 43 (af (af (af (af (af (af (af (af (af au 1 (pF 1)) 3 (.pal 34 [] 0 l8.length none)) 5 (pF 5)) 8 (vI (a0.Txns.length:Int))) 9 (vI (v3:Int))) 12 (sF 11 (a0.Txns.map Txn.row))) 13 (vI (a0.Txns.length:Int))) 14 (vI (v9:Int))) 29 (vB c3)),(upd (upd (upd RZ 1 (vA 3 (ae.row a0))) 5 (vA 11 (Txn.row x12))) 34 (sO 1 (l8.map (aB .i64))))⟩)
 ·intro hJ13;obtain ⟨r4,hr14,h⟩:=bI h;refine iBs h (fun hc15 h=>?_) fun hc15 h=>?_
  ·obtain ⟨r5,hr16,h⟩:=bI h;refine z1 (k3 hr14 hc15 hr16) ?_;refine hJ13 _ r5 ?_ h;exact wF (k5 hi3' hw5 hx10 hi9' (k4 hw11 hr14 hc15 hr16))
  refine z1 (k2 hr14 hc15) ?_;refine hJ13 _ false ?_ h;exact wF (k5 hi3' hw5 hx10 hi9' (k3 hw11 hr14 hc15))
 intro c3 h;unfold sI at h;refine cBs h (fun hc17 h=>?_) fun hc17 h=>?_
 ·refine z1 (k2 hw11 hc17) ?_;refine ⟨hi9',l8,?_,h⟩;exact wF (k5 hi3' hw5 hx10 hi9' (k2 hw11 hc17))
 obtain ⟨ha18,h⟩:=jR h;simp only [cG,cY,cV,Nat.reduceAdd] at ha18;refine z1 (k2 hc17 ha18) ?_;refine z1 hw11 ?_;refine ⟨hi9',(l8++[x12.ID]),?_,h⟩;refine wr ?_ ?_<;>repeat' first|rfl|constructor|simp only [go_sem,seval]
@[go_sem] def EW (N:Nat):FnS:=⟨[],true,fn1 ae.decA fun q0=>(uw N q0).map fun r=>vB r,false⟩
def JN (N:Nat):aA prog 56 (EW N):=om1 (OJ N)
@[go_sem] def RS (N d f:Nat):Option FnS:=aw [(4,52,CZ N),(7,53,B7 N),(11,54,BH N),(15,55,zs N),(19,56,EW N)] d f
def Sn (N:Nat) (a0:ae) (r:Bool) (h:jL N a0=some r):Con prog 23 [] true [.agg (ae.row a0)] (vB r):=by
 refine fk (G:=(RS N)) func23 (gc 4 (HG N) (gc 7 (Gq N) (gc 11 (E1 N) (gc 15 (DH N) (gc 19 (JN N) gn))))) ?_;simp only [f23];unfold jL at h;refine z0 ?_;refine aL ?_;obtain ⟨r1,hr1,h⟩:=bI h;refine iBs h (fun hc2 h=>?_) fun hc2 h=>?_
 ·refine z1 (k2 hr1 hc2) ?_;exact e0 h
 obtain ⟨r2,hr3,h⟩:=bI h;refine iBs h (fun hc4 h=>?_) fun hc4 h=>?_
 ·refine z1 (k4 hr1 hc2 hr3 hc4) ?_;exact e0 h
 obtain ⟨r3,hr5,h⟩:=bI h;refine iBs h (fun hc6 h=>?_) fun hc6 h=>?_
 ·refine z1 (k5 hr1 hc2 hr3 hc4 (k2 hr5 hc6)) ?_;exact e0 h
 obtain ⟨r4,hr7,h⟩:=bI h;refine iB h (fun hc8 h=>?_) fun hc8 h=>?_
 ·obtain ⟨r5,hr9,h⟩:=bI h;refine z1 (k5 hr1 hc2 hr3 hc4 (k5 hr5 hc6 hr7 hc8 hr9)) ?_;exact e0 h
 refine z1 (k5 hr1 hc2 hr3 hc4 (k4 hr5 hc6 hr7 hc8)) ?_;exact e0 h
@[go_sem] def lz (N:Nat):FnS:=⟨[],true,fn1 ae.decA fun q0=>(jL N q0).map fun r=>vB r,false⟩
def j5 (N:Nat):aA prog 23 (lz N):=om1 (Sn N)
def Fg (N:Nat) (a0:List Txn) (r:List Txn) (h:iy N a0=some r):Con prog 130 [] false [.sl false (some false) 11 none (a0.map Txn.row)] (sO 11 (r.map Txn.row)):=by
 refine fk (G:=(aw [])) func130 gn ?_;simp only [f130];unfold iy at h;refine z0 ?_;refine z0 ?_;refine cf ?_;refine aU (pp (aL ?_));obtain ⟨ha1,h⟩:=oE h;simp only [Nat.reduceAdd] at ha1;refine z1 ha1 ?_;exact f0 h
def Er (N:Nat)  (r:List Txn) (h:iy N []=some r):Con prog 130 [] false [.val (.slice none 0 0)] (sO 11 (r.map Txn.row)):=by
 refine fk (G:=(aw [])) func130 gn ?_;simp only [f130];unfold iy at h;refine z0 ?_;refine z0 ?_;refine ct ?_;refine z0 ?_;refine eZ (pp ?_);obtain rfl:r=[]:=by simpa [apn] using h.symm
 simp only [go_sem,seval];exact ⟨_,rfl,gK.h⟩
def IP (N:Nat) (a0:List Txn) (r:List Txn) (h:iy N a0=some r):Con prog 130 [] false [sF 11 (a0.map Txn.row)] (sO 11 (r.map Txn.row)):=
 Bf (fun e=>by obtain rfl:a0=[]:=xI.1 e; exact Er N r h) (Fg N a0 r h)
@[go_sem] def zn (N:Nat):FnS:=⟨[],false,fn1 (aJ 11 Txn.dec) fun q0=>(iy N q0).map fun r=>sO 11 (r.map Txn.row),false⟩
def DF (N:Nat):aA prog 130 (zn N):=om1 (IP N)
def Es (N:Nat) (a0:List ai) (r:List ai) (h:eJ N a0=some r):Con prog 131 [] false [.sl false (some false) 4 none (a0.map ai.row)] (sO 4 (r.map ai.row)):=by
 refine fk (G:=(aw [])) func131 gn ?_;simp only [f131];unfold eJ at h;refine z0 ?_;refine z0 ?_;refine cf ?_;refine aU (pp (aL ?_));obtain ⟨ha1,h⟩:=oE h;simp only [Nat.reduceAdd] at ha1;refine z1 ha1 ?_;exact f0 h
def DI (N:Nat)  (r:List ai) (h:eJ N []=some r):Con prog 131 [] false [.val (.slice none 0 0)] (sO 4 (r.map ai.row)):=by
 refine fk (G:=(aw [])) func131 gn ?_;simp only [f131];unfold eJ at h;refine z0 ?_;refine z0 ?_;refine ct ?_;refine z0 ?_;refine eZ (pp ?_);obtain rfl:r=[]:=by simpa [apn] using h.symm
 simp only [go_sem,seval];exact ⟨_,rfl,gK.h⟩
def Ht (N:Nat) (a0:List ai) (r:List ai) (h:eJ N a0=some r):Con prog 131 [] false [sF 4 (a0.map ai.row)] (sO 4 (r.map ai.row)):=
 Bf (fun e=>by obtain rfl:a0=[]:=xI.1 e; exact DI N r h) (Es N a0 r h)
@[go_sem] def sR (N:Nat):FnS:=⟨[],false,fn1 (aJ 4 ai.dec) fun q0=>(eJ N q0).map fun r=>sO 4 (r.map ai.row),false⟩
def vk (N:Nat):aA prog 131 (sR N):=om1 (Ht N)
def Aw (N:Nat) (a0:List aa) (r:List aa) (h:dV N a0=some r):Con prog 132 [] false [.sl false (some false) 3 none (a0.map aa.row)] (sO 3 (r.map aa.row)):=by
 refine fk (G:=(aw [])) func132 gn ?_;simp only [f132];unfold dV at h;refine z0 ?_;refine z0 ?_;refine cf ?_;refine aU (pp (aL ?_));obtain ⟨ha1,h⟩:=oE h;simp only [Nat.reduceAdd] at ha1;refine z1 ha1 ?_;exact f0 h
def Aa (N:Nat)  (r:List aa) (h:dV N []=some r):Con prog 132 [] false [.val (.slice none 0 0)] (sO 3 (r.map aa.row)):=by
 refine fk (G:=(aw [])) func132 gn ?_;simp only [f132];unfold dV at h;refine z0 ?_;refine z0 ?_;refine ct ?_;refine z0 ?_;refine eZ (pp ?_);obtain rfl:r=[]:=by simpa [apn] using h.symm
 simp only [go_sem,seval];exact ⟨_,rfl,gK.h⟩
def CG (N:Nat) (a0:List aa) (r:List aa) (h:dV N a0=some r):Con prog 132 [] false [sF 3 (a0.map aa.row)] (sO 3 (r.map aa.row)):=
 Bf (fun e=>by obtain rfl:a0=[]:=xI.1 e; exact Aa N r h) (Aw N a0 r h)
@[go_sem] def s5 (N:Nat):FnS:=⟨[],false,fn1 (aJ 3 aa.dec) fun q0=>(dV N q0).map fun r=>sO 3 (r.map aa.row),false⟩
def zD (N:Nat):aA prog 132 (s5 N):=om1 (CG N)
def Bn (N:Nat) (a0:List ah) (r:List ah) (h:ew N a0=some r):Con prog 100 [] false [.sl false (some false) 4 none (a0.map ah.row)] (sO 4 (r.map ah.row)):=by
 refine fk (G:=(aw [])) func100 gn ?_;simp only [f100];unfold ew at h;refine z0 ?_;refine z0 ?_;refine cf ?_;refine aU (pp (aL ?_));obtain ⟨ha1,h⟩:=oE h;simp only [Nat.reduceAdd] at ha1;refine z1 ha1 ?_;exact f0 h
def Ao (N:Nat)  (r:List ah) (h:ew N []=some r):Con prog 100 [] false [.val (.slice none 0 0)] (sO 4 (r.map ah.row)):=by
 refine fk (G:=(aw [])) func100 gn ?_;simp only [f100];unfold ew at h;refine z0 ?_;refine z0 ?_;refine ct ?_;refine z0 ?_;refine eZ (pp ?_);obtain rfl:r=[]:=by simpa [apn] using h.symm
 simp only [go_sem,seval];exact ⟨_,rfl,gK.h⟩
def Df (N:Nat) (a0:List ah) (r:List ah) (h:ew N a0=some r):Con prog 100 [] false [sF 4 (a0.map ah.row)] (sO 4 (r.map ah.row)):=
 Bf (fun e=>by obtain rfl:a0=[]:=xI.1 e; exact Ao N r h) (Bn N a0 r h)
@[go_sem] def tV (N:Nat):FnS:=⟨[],false,fn1 (aJ 4 ah.dec) fun q0=>(ew N q0).map fun r=>sO 4 (r.map ah.row),false⟩
def z7 (N:Nat):aA prog 100 (tV N):=om1 (Df N)
def Dx (N:Nat) (a0:List Value) (r:List Value) (h:ga N a0=some r):Con prog 139 [] false [.sl false (some false) 5 none (a0.map Value.row)] (sO 5 (r.map Value.row)):=by
 refine fk (G:=(aw [])) func139 gn ?_;simp only [f139];unfold ga at h;refine z0 ?_;refine z0 ?_;refine cf ?_;refine aU (pp (aL ?_));obtain ⟨ha1,h⟩:=oE h;simp only [Nat.reduceAdd] at ha1;refine z1 ha1 ?_;exact f0 h
def Dq (N:Nat)  (r:List Value) (h:ga N []=some r):Con prog 139 [] false [.val (.slice none 0 0)] (sO 5 (r.map Value.row)):=by
 refine fk (G:=(aw [])) func139 gn ?_;simp only [f139];unfold ga at h;refine z0 ?_;refine z0 ?_;refine ct ?_;refine z0 ?_;refine eZ (pp ?_);obtain rfl:r=[]:=by simpa [apn] using h.symm
 simp only [go_sem,seval];exact ⟨_,rfl,gK.h⟩
def Ge (N:Nat) (a0:List Value) (r:List Value) (h:ga N a0=some r):Con prog 139 [] false [sF 5 (a0.map Value.row)] (sO 5 (r.map Value.row)):=
 Bf (fun e=>by obtain rfl:a0=[]:=xI.1 e; exact Dq N r h) (Dx N a0 r h)
@[go_sem] def ya (N:Nat):FnS:=⟨[],false,fn1 (aJ 5 Value.dec) fun q0=>(ga N q0).map fun r=>sO 5 (r.map Value.row),false⟩
def Cp (N:Nat):aA prog 139 (ya N):=om1 (Ge N)
def E3 (N:Nat) (a0:List Int) (r:List Int) (h:dU N a0=some r):Con prog 133 [] true [.sl false (some false) 1 none (a0.map (aB .i64))] (sO 1 (r.map (aB .i64))):=by
 refine fk (G:=(aw [])) func133 gn ?_;simp only [f133];unfold dU at h;refine z0 ?_;refine z0 ?_;refine cf ?_;refine aU (pp (aL ?_));obtain ⟨ha1,h⟩:=oE h;simp only [Nat.reduceAdd] at ha1;refine z1 ha1 ?_;exact e0 h
def Ey (N:Nat)  (r:List Int) (h:dU N []=some r):Con prog 133 [] true [.val (.slice none 0 0)] (sO 1 (r.map (aB .i64))):=by
 refine fk (G:=(aw [])) func133 gn ?_;simp only [f133];unfold dU at h;refine z0 ?_;refine z0 ?_;refine ct ?_;refine z0 ?_;refine eZ (pp ?_);obtain rfl:r=[]:=by simpa [apn] using h.symm
 simp only [go_sem,seval];exact ⟨_,rfl,gK.h,qn.h⟩
def BB (N:Nat) (a0:List Int) (r:List Int) (h:dU N a0=some r):Con prog 133 [] true [sF 1 (a0.map (aB .i64))] (sO 1 (r.map (aB .i64))):=
 Bf (fun e=>by obtain rfl:a0=[]:=xI.1 e; exact Ey N r h) (E3 N a0 r h)
@[go_sem] def Ak (N:Nat):FnS:=⟨[],true,fn1 (aJ 1 (dJ (aH .i64))) fun q0=>(dU N q0).map fun r=>sF 1 (r.map (aB .i64)),false⟩
def Ek (N:Nat):aA prog 133 (Ak N):=om1 fun q0 r h=>rs (BB N q0 r h)
@[go_sem] def tk (N:Nat):FnS:=⟨[],true,fn1 (aJ 1 (dJ (aH .i64))) fun q0=>(dU N q0).map fun r=>sO 1 (r.map (aB .i64)),false⟩
def wB (N:Nat):aA prog 133 (tk N):=om1 (BB N)
def De (N:Nat) (a0:List ByteArray) (r:List ByteArray) (h:fI N a0=some r):Con prog 136 [] true [.sl false (some false) 1 none (a0.map dS)] (sO 1 (r.map dS)):=by
 refine fk (G:=(aw [])) func136 gn ?_;simp only [f136];unfold fI at h;refine z0 ?_;refine z0 ?_;refine cf ?_;refine aU (pp (aL ?_));obtain ⟨ha1,h⟩:=oE h;simp only [Nat.reduceAdd] at ha1;refine z1 ha1 ?_;exact e0 h
def Cn (N:Nat)  (r:List ByteArray) (h:fI N []=some r):Con prog 136 [] true [.val (.slice none 0 0)] (sO 1 (r.map dS)):=by
 refine fk (G:=(aw [])) func136 gn ?_;simp only [f136];unfold fI at h;refine z0 ?_;refine z0 ?_;refine ct ?_;refine z0 ?_;refine eZ (pp ?_);obtain rfl:r=[]:=by simpa [apn] using h.symm
 simp only [go_sem,seval];exact ⟨_,rfl,gK.h,qn.h⟩
def FQ (N:Nat) (a0:List ByteArray) (r:List ByteArray) (h:fI N a0=some r):Con prog 136 [] true [sF 1 (a0.map dS)] (sO 1 (r.map dS)):=
 Bf (fun e=>by obtain rfl:a0=[]:=xI.1 e; exact Cn N r h) (De N a0 r h)
@[go_sem] def wA (N:Nat):FnS:=⟨[],true,fn1 (aJ 1 (dJ bW)) fun q0=>(fI N q0).map fun r=>sO 1 (r.map dS),false⟩
def B1 (N:Nat):aA prog 136 (wA N):=om1 (FQ N)
@[go_sem] def KC (N d f:Nat):Option FnS:=aw [(5,133,tk N),(8,136,wA N)] d f
def Dm (N:Nat) (a0:Value) (r:Value) (h:gF N a0=some r):Con prog 63 [] true [.agg (Value.row a0)] (.agg [vI r.Kind,vI r.N,vS r.S,sO 1 (r.I.map (aB .i64)),sO 1 (r.L.map dS)]):=by
 refine fk (G:=(KC N)) func63 (gc 5 (wB N) (gc 8 (B1 N) gn)) ?_;simp only [f63];unfold gF at h;refine z0 ?_;obtain ⟨r1,hr1,h⟩:=bI h;obtain ⟨r2,hr2,h⟩:=bI h;refine d1 (k2 hr1 hr2) ?_;refine z0 ?_;exact e0 h
@[go_sem] def rO (N:Nat):FnS:=⟨[],true,fn1 Value.decA fun q0=>(gF N q0).map fun r=>.agg (Value.row r),false⟩
def tq (N:Nat):aA prog 63 (rO N):=om1 fun q0 r h=>rs (Dm N q0 r h)
@[go_sem] def Bz (N:Nat):FnS:=⟨[],true,fn1 Value.decA fun q0=>(gF N q0).map fun r=>.agg [vI r.Kind,vI r.N,vS r.S,sO 1 (r.I.map (aB .i64)),sO 1 (r.L.map dS)],false⟩
def FH (N:Nat):aA prog 63 (Bz N):=om1 (Dm N)
@[go_sem] def JO (N d f:Nat):Option FnS:=aw [(6,139,ya N),(18,63,rO N)] d f
def Ci (N:Nat) (a0:List Value) (r:List Value) (h:eB N a0=some r):Con prog 67 [] false [sF 5 (a0.map Value.row)] (sO 5 (r.map Value.row)):=by
 refine fk (G:=(JO N)) func67 (gc 6 (Cp N) (gc 18 (tq N) gn)) ?_;simp only [f67];unfold eB at h;refine z0 ?_;obtain ⟨r1,hr1,h⟩:=bI h;refine z1 hr1 ?_;refine z0 ?_;refine aQ (ig fun hreal3=>?_);have hl2:=hreal3.lenX 6 (by simp only [go_sem,seval]; rfl);rw [cy] at hl2;refine oR (fun (v4:Nat) (b:List Value)=>⟨tab 22 (af (af (af au 3 (.pal 6 [] 0 b.length none)) 8 (vI (r1.length:Int))) 9 (vI (v4:Int))),(upd RZ 6 (sO 5 (b.map Value.row)))⟩) r1 h ?_ ?_
 ·exact wF hr1
 rintro v4 l3 _ h -;rcases (jf r1.length v4).symm with ⟨hi4',hd7⟩|⟨hi4',hd7⟩
 ·rw [hd7] at h;simp only [iq] at h;refine z1 hi4' ?_;refine cf ?_;refine z0 ?_;exact f0 h
 rw [hd7] at h;simp only [iq] at h;have hw6:=eG hi4' hl2;refine z1 hi4' ?_;refine ct ?_;refine z0 ?_;obtain ⟨x2,hb8,hx9,h⟩:=aI h;try simp only [cP] at hx9
 try simp only [xl,xm,true_and] at hb8
 obtain ⟨r3,hr10,h⟩:=bI h;have hx12:=kq (y:=r3) hx9;refine z1 (k4 hb8 hx9 hr10 (mm2 (row:=Value.row) (y:=r3) (rx:=[vI x2.Kind,vI x2.N,vS x2.S,sF 1 (x2.I.map (aB .i64)),sF 1 (x2.L.map dS)]) (ry:=[vI r3.Kind,vI r3.N,vS r3.S,sF 1 (r3.I.map (aB .i64)),sF 1 (r3.L.map dS)]) hx9 rfl rfl)) ?_;refine z1 hw6 ?_;refine ⟨hi4',(l3.set v4 r3),?_,h⟩;refine wr ?_ ?_<;>repeat' first|rfl|constructor|simp only [go_sem,seval,hC]
@[go_sem] def qD (N:Nat):FnS:=⟨[],false,fn1 (aJ 5 Value.dec) fun q0=>(eB N q0).map fun r=>sF 5 (r.map Value.row),false⟩
def sE (N:Nat):aA prog 67 (qD N):=om1 fun q0 r h=>rs (Ci N q0 r h)
@[go_sem] def pt (N:Nat):FnS:=⟨[],false,fn1 (aJ 5 Value.dec) fun q0=>(eB N q0).map fun r=>sO 5 (r.map Value.row),false⟩
def rb (N:Nat):aA prog 67 (pt N):=om1 (Ci N)
@[go_sem] def LH (N d f:Nat):Option FnS:=aw [(5,67,pt N)] d f
def D4 (N:Nat) (a0:ah) (r:ah) (h:kv N a0=some r):Con prog 57 [] false [.agg (ah.row a0)] (.agg [vS r.Target.Type_,vS r.Target.Key,vS r.Method,sO 5 (r.Args.map Value.row)]):=by
 refine fk (G:=(LH N)) func57 (gc 5 (rb N) gn) ?_;simp only [f57];unfold kv at h;refine z0 ?_;obtain ⟨r1,hr1,h⟩:=bI h;refine z1 hr1 ?_;refine z0 ?_;exact f0 h
@[go_sem] def CX (N:Nat):FnS:=⟨[],false,fn1 ah.decA fun q0=>(kv N q0).map fun r=>.agg (ah.row r),false⟩
def HH (N:Nat):aA prog 57 (CX N):=om1 fun q0 r h=>rs (D4 N q0 r h)
@[go_sem] def Ca (N:Nat):FnS:=⟨[],false,fn1 ah.decA fun q0=>(kv N q0).map fun r=>.agg [vS r.Target.Type_,vS r.Target.Key,vS r.Method,sO 5 (r.Args.map Value.row)],false⟩
def Gw (N:Nat):aA prog 57 (Ca N):=om1 (D4 N)
@[go_sem] def Nl (N d f:Nat):Option FnS:=aw [(6,100,tV N),(22,57,CX N),(27,63,Bz N)] d f
def FN (N:Nat) (a0:Txn) (r:Txn) (h:jS N a0=some r):Con prog 41 [] false [.agg (Txn.row a0)] (.agg [vI r.ID,vI r.Born,vS r.Client,vI r.Seq,sO 4 (r.Calls.map ah.row),vI r.Done,vI r.Last.Kind,vI r.Last.N,vS r.Last.S,sO 1 (r.Last.I.map (aB .i64)),sO 1 (r.Last.L.map dS)]):=by
 refine fk (G:=(Nl N)) func41 (gc 6 (z7 N) (gc 22 (HH N) (gc 27 (FH N) gn))) ?_;simp only [f41];unfold jS at h;refine z0 ?_;obtain ⟨r1,hr1,h⟩:=bI h;refine z1 hr1 ?_;refine z0 ?_;refine aQ (ig fun hreal3=>?_);have hl2:=hreal3.cell 1 4 (by simp only [go_sem,seval]; rfl) rfl;rw [cy] at hl2;refine oR (fun (v4:Nat) (b:List ah)=>⟨tab 30 (af (af (af (af au 1 (pF 1)) 2 (pF 2)) 10 (vI (r1.length:Int))) 11 (vI (v4:Int))),(upd (upd RZ 1 (vA 11 [vI a0.ID,vI a0.Born,vS a0.Client,vI a0.Seq,sO 4 (b.map ah.row),vI a0.Done,vI a0.Last.Kind,vI a0.Last.N,vS a0.Last.S,sF 1 (a0.Last.I.map (aB .i64)),sF 1 (a0.Last.L.map dS)])) 2 (vA 11 [vI 0,vI 0,vS (⟨#[]⟩),vI 0,.val (.slice none 0 0),vI 0,vI 0,vI 0,vS (⟨#[]⟩),.val (.slice none 0 0),.val (.slice none 0 0)]))⟩) r1 h ?_ ?_
 ·exact wR
 rintro v4 l3 _ h -;rcases (jf r1.length v4).symm with ⟨hi4',hd7⟩|⟨hi4',hd7⟩
 ·rw [hd7] at h;simp only [j6] at h;refine z1 hi4' ?_;refine cf ?_;refine fx (pp ?_);unfold uW at h;obtain ⟨r12,hr13,h⟩:=bI h;refine z1 hr13 ?_;refine z0 ?_;exact f0 h
 rw [hd7] at h;simp only [j6] at h;have hw6:=eG hi4' hl2;refine z1 hi4' ?_;refine ct ?_;refine z0 ?_;obtain ⟨x10,hb8,hx9,h⟩:=aI h;try simp only [cP] at hx9
 try simp only [xl,xm,true_and] at hb8
 obtain ⟨r11,hr10,h⟩:=bI h;have hx12:=kq (y:=r11) hx9;refine d1 (k4 hb8 hx9 hr10 (mm2 (row:=ah.row) (y:=r11) (rx:=[vS x10.Target.Type_,vS x10.Target.Key,vS x10.Method,sF 5 (x10.Args.map Value.row)]) (ry:=[vS r11.Target.Type_,vS r11.Target.Key,vS r11.Method,sF 5 (r11.Args.map Value.row)]) hx9 rfl rfl)) ?_;refine z1 hw6 ?_;refine ⟨hi4',(l3.set v4 r11),?_,h⟩;exact wR
@[go_sem] def zv (N:Nat):FnS:=⟨[],false,fn1 Txn.decA fun q0=>(jS N q0).map fun r=>.agg (Txn.row r),false⟩
def Bg (N:Nat):aA prog 41 (zv N):=om1 fun q0 r h=>rs (FN N q0 r h)
@[go_sem] def CR (N:Nat):FnS:=⟨[],false,fn1 Txn.decA fun q0=>(jS N q0).map fun r=>.agg [vI r.ID,vI r.Born,vS r.Client,vI r.Seq,sO 4 (r.Calls.map ah.row),vI r.Done,vI r.Last.Kind,vI r.Last.N,vS r.Last.S,sO 1 (r.Last.I.map (aB .i64)),sO 1 (r.Last.L.map dS)],false⟩
def Hq (N:Nat):aA prog 41 (CR N):=om1 (FN N)
def DA (N:Nat) (a0:List al) (r:List al) (h:gg N a0=some r):Con prog 107 [] false [.sl false (some false) 3 none (a0.map al.row)] (sO 3 (r.map al.row)):=by
 refine fk (G:=(aw [])) func107 gn ?_;simp only [f107];unfold gg at h;refine z0 ?_;refine z0 ?_;refine cf ?_;refine aU (pp (aL ?_));obtain ⟨ha1,h⟩:=oE h;simp only [Nat.reduceAdd] at ha1;refine z1 ha1 ?_;exact f0 h
def C8 (N:Nat)  (r:List al) (h:gg N []=some r):Con prog 107 [] false [.val (.slice none 0 0)] (sO 3 (r.map al.row)):=by
 refine fk (G:=(aw [])) func107 gn ?_;simp only [f107];unfold gg at h;refine z0 ?_;refine z0 ?_;refine ct ?_;refine z0 ?_;refine eZ (pp ?_);obtain rfl:r=[]:=by simpa [apn] using h.symm
 simp only [go_sem,seval];exact ⟨_,rfl,gK.h⟩
def Gr (N:Nat) (a0:List al) (r:List al) (h:gg N a0=some r):Con prog 107 [] false [sF 3 (a0.map al.row)] (sO 3 (r.map al.row)):=
 Bf (fun e=>by obtain rfl:a0=[]:=xI.1 e; exact C8 N r h) (DA N a0 r h)
@[go_sem] def wU (N:Nat):FnS:=⟨[],false,fn1 (aJ 3 al.dec) fun q0=>(gg N q0).map fun r=>sO 3 (r.map al.row),false⟩
def Cs (N:Nat):aA prog 107 (wU N):=om1 (Gr N)
@[go_sem] def JK (N d f:Nat):Option FnS:=aw [(6,107,wU N),(19,67,qD N)] d f
def Jw (N:Nat) (a0:List al) (r:List al) (h:j4 N a0=some r):Con prog 47 [] false [sF 3 (a0.map al.row)] (sO 3 (r.map al.row)):=by
 refine fk (G:=(JK N)) func47 (gc 6 (Cs N) (gc 19 (sE N) gn)) ?_;simp only [f47];unfold j4 at h;refine z0 ?_;obtain ⟨r1,hr1,h⟩:=bI h;refine z1 hr1 ?_;refine z0 ?_;refine aQ (ig fun hreal3=>?_);have hl2:=hreal3.lenX 6 (by simp only [go_sem,seval]; rfl);rw [cy] at hl2;refine oR (fun (v4:Nat) (b:List al)=>⟨tab 24 (af (af (af au 3 (.pal 6 [] 0 b.length none)) 8 (vI (r1.length:Int))) 9 (vI (v4:Int))),(upd RZ 6 (sO 3 (b.map al.row)))⟩) r1 h ?_ ?_
 ·exact wF hr1
 rintro v4 l3 _ h -;rcases (jf r1.length v4).symm with ⟨hi4',hd7⟩|⟨hi4',hd7⟩
 ·rw [hd7] at h;simp only [iw] at h;refine z1 hi4' ?_;refine cf ?_;refine z0 ?_;exact f0 h
 rw [hd7] at h;simp only [iw] at h;have hw6:=eG hi4' hl2;refine z1 hi4' ?_;refine ct ?_;refine z0 ?_;obtain ⟨x2,hb8,hx9,h⟩:=aI h;try simp only [cP] at hx9
 try simp only [xl,xm,true_and] at hb8
 obtain ⟨r3,hr10,h⟩:=bI h;have hx12:=kq (y:=(al.mk x2.Txn_ r3 x2.Prepared)) hx9;refine z1 (k4 hb8 hx9 hr10 (mm2 (row:=al.row) (y:=(al.mk x2.Txn_ r3 x2.Prepared)) (rx:=[vI x2.Txn_,sF 5 (x2.Fields.map Value.row),vB x2.Prepared]) (ry:=[vI x2.Txn_,sF 5 (r3.map Value.row),vB x2.Prepared]) hx9 rfl rfl)) ?_;refine z1 hw6 ?_;refine ⟨hi4',(l3.set v4 (al.mk x2.Txn_ r3 x2.Prepared)),?_,h⟩;refine wr ?_ ?_<;>repeat' first|rfl|constructor|simp only [go_sem,seval,hC]
@[go_sem] def uG (N:Nat):FnS:=⟨[],false,fn1 (aJ 3 al.dec) fun q0=>(j4 N q0).map fun r=>sO 3 (r.map al.row),false⟩
def yf (N:Nat):aA prog 47 (uG N):=om1 (Jw N)
@[go_sem] def Sd (N d f:Nat):Option FnS:=aw [(9,130,zn N),(12,131,sR N),(15,132,s5 N),(31,41,zv N),(49,133,Ak N),(68,47,uG N)] d f
def Kh (N:Nat) (a0:ae) (r:ae) (h:kB N a0=some r):Con prog 59 [] false [.agg (ae.row a0)] (.agg [sO 11 (r.Txns.map Txn.row),sO 4 (r.Locks.map ai.row),sO 3 (r.Stacks.map aa.rowD)]):=by
 refine fk (G:=(Sd N)) func59 (gc 9 (DF N) (gc 12 (vk N) (gc 15 (zD N) (gc 31 (Bg N) (gc 49 (Ek N) (gc 68 (yf N) gn)))))) ?_;simp only [f59];unfold kB at h;refine z0 ?_;obtain ⟨r1,hr1,h⟩:=bI h;obtain ⟨r2,hr2,h⟩:=bI h;obtain ⟨r3,hr3,h⟩:=bI h;refine d1 (k3 hr1 hr2 hr3) ?_;refine z0 ?_;refine aQ (ig fun hreal5=>?_);have hl4:=hreal5.cell 3 0 (by simp only [go_sem,seval]; rfl) rfl;rw [cy] at hl4;refine oR (fun (v6:Nat) (b:List Txn)=>⟨tab 73 (af (af (af (af au 2 (pF 2)) 3 (pF 3)) 19 (vI (r1.length:Int))) 20 (vI (v6:Int))),(upd (upd RZ 2 (vA 3 [.val (.slice none 0 0),.val (.slice none 0 0),.val (.slice none 0 0)])) 3 (vA 3 [sO 11 (b.map Txn.row),sO 4 (r2.map ai.row),sO 3 (r3.map aa.row)]))⟩) r1 h ?_ ?_
 ·exact wR
 rintro v6 l5 _ h -;rcases (jf r1.length v6) with ⟨hi6',hd9⟩|⟨hi6',hd9⟩
 ·rw [hd9] at h;simp only [pe] at h;have hw8:=eG hi6' hl4;refine z1 hi6' ?_;refine ct ?_;refine z0 ?_;obtain ⟨x12,hb10,hx11,h⟩:=aI h;try simp only [cP] at hx11
  try simp only [xl,xm,true_and] at hb10
  obtain ⟨r13,hr12,h⟩:=bI h;have hx14:=kq (y:=r13) hx11;refine d1 (k4 hb10 hx11 hr12 (mm2 (row:=Txn.row) (y:=r13) (rx:=[vI x12.ID,vI x12.Born,vS x12.Client,vI x12.Seq,sF 4 (x12.Calls.map ah.row),vI x12.Done,vI x12.Last.Kind,vI x12.Last.N,vS x12.Last.S,sF 1 (x12.Last.I.map (aB .i64)),sF 1 (x12.Last.L.map dS)]) (ry:=[vI r13.ID,vI r13.Born,vS r13.Client,vI r13.Seq,sF 4 (r13.Calls.map ah.row),vI r13.Done,vI r13.Last.Kind,vI r13.Last.N,vS r13.Last.S,sF 1 (r13.Last.I.map (aB .i64)),sF 1 (r13.Last.L.map dS)]) hx11 rfl rfl)) ?_;refine z1 hw8 ?_;refine ⟨hi6',(l5.set v6 r13),?_,h⟩;exact wR
 rw [hd9] at h;simp only [pe] at h;refine z1 hi6' ?_;refine cf ?_;unfold zN at h;refine z0 ?_;refine aQ (ig fun hreal16=>?_);have hl15:=hreal16.cell 3 1 (by simp only [go_sem,seval]; rfl) rfl;rw [cy] at hl15;refine oR (fun (v16:Nat) (b:List ai)=>⟨tab 73 (af (af (af (af au 2 (pF 2)) 3 (pF 3)) 36 (vI (r2.length:Int))) 37 (vI (v16:Int))),(upd (upd RZ 2 (vA 3 [.val (.slice none 0 0),.val (.slice none 0 0),.val (.slice none 0 0)])) 3 (vA 3 [sO 11 (l5.map Txn.row),sO 4 (b.map ai.row),sO 3 (r3.map aa.row)]))⟩) r2 h ?_ ?_
 ·exact wR
 rintro v16 l15 _ h -;rcases (jf r2.length v16) with ⟨hi17',hd20⟩|⟨hi17',hd20⟩
 ·rw [hd20] at h;simp only [o7] at h;have hw19:=eG hi17' hl15;refine z1 hi17' ?_;refine ct ?_;refine z0 ?_;obtain ⟨x22,hb21,hx22,h⟩:=aI h;try simp only [cP] at hx22
  try simp only [xl,xm,true_and] at hb21
  obtain ⟨r23,hr23,h⟩:=bI h;have hx25:=kq (y:=(ai.mk x22.Actor x22.Owner r23)) hx22;refine d1 (k4 hb21 hx22 hr23 (mm2 (row:=ai.row) (y:=(ai.mk x22.Actor x22.Owner r23)) (rx:=[vS x22.Actor.Type_,vS x22.Actor.Key,vI x22.Owner,sF 1 (x22.Waiters.map (aB .i64))]) (ry:=[vS x22.Actor.Type_,vS x22.Actor.Key,vI x22.Owner,sF 1 (r23.map (aB .i64))]) hx22 rfl rfl)) ?_;refine z1 hw19 ?_;refine ⟨hi17',(l15.set v16 (ai.mk x22.Actor x22.Owner r23)),?_,h⟩;exact wR
 rw [hd20] at h;simp only [o7] at h;refine z1 hi17' ?_;refine cf ?_;unfold zC at h;refine z0 ?_;refine aQ (ig fun hreal27=>?_);have hl26:=hreal27.cell 3 2 (by simp only [go_sem,seval]; rfl) rfl;rw [cy] at hl26;refine oR (fun (v26:Nat) (b:List aa)=>⟨tab 73 (af (af (af (af au 2 (pF 2)) 3 (pF 3)) 55 (vI (r3.length:Int))) 56 (vI (v26:Int))),(upd (upd RZ 2 (vA 3 [.val (.slice none 0 0),.val (.slice none 0 0),.val (.slice none 0 0)])) 3 (vA 3 [sO 11 (l5.map Txn.row),sO 4 (l15.map ai.row),sO 3 (mxR aa.rowD aa.row v26 b)]))⟩) r3 h ?_ ?_
 ·exact wR
 rintro v26 l25 _ h -;rcases (jf r3.length v26).symm with ⟨hi28',hd31⟩|⟨hi28',hd31⟩
 ·rw [hd31] at h;simp only [oU] at h;obtain ⟨hg35,h⟩:=On h;refine z1 (k2 hi28' (mi4 hg35)) ?_;refine cf ?_;refine z0 ?_;exact f0 h
 rw [hd31] at h;simp only [oU] at h;have hw30:=eG hi28' hl26;refine z1 hi28' ?_;refine ct ?_;refine z0 ?_;obtain ⟨x24,hb32,hx33,h⟩:=aI h;try simp only [cP] at hx33
 try simp only [xl,xm,true_and] at hb32
 obtain ⟨r25,hr34,h⟩:=bI h;refine mW fun Z hZ=>?_;simp only [go_sem,seval,hb32,Nc (f:=aa.rowD) (g:=aa.row) hx33,E6,hr34,U7 (f:=aa.rowD) (g:=aa.row) (rx:=[vS x24.Actor.Type_,vS x24.Actor.Key,sF 3 (x24.Layers.map al.row)]) hx33 rfl rfl];repeat with_reducible refine gE (by kernel_rfl) ?_
 refine hZ _ (by kernel_rfl) (z1 hw30 ?_);refine ⟨hi28',(l25.set v26 (aa.mk x24.Actor r25)),?_,h⟩;refine aX.trans (yX (n:=3) (c':=vA 3 [sO 11 (l5.map Txn.row),sO 4 (l15.map ai.row),sO 3 (mxR aa.rowD aa.row (v26+1) (l25.set v26 (aa.mk x24.Actor r25)))]) (by simp only [go_sem,seval]; rfl) (by first|(simp only [<-KU (f:=_) (g:=_) hx33 (aa.mk x24.Actor r25)]; done)|(rw [<-KU (f:=_) (g:=_) hx33 (aa.mk x24.Actor r25)]; rfl))) ?_;exact wR
@[go_sem] def IV (N:Nat):FnS:=⟨[],false,fn1 ae.decA fun q0=>(kB N q0).map fun r=>.agg (ae.row r),false⟩
def L7 (N:Nat):aA prog 59 (IV N):=om1 fun q0 r h=>rs (Kh N q0 r h)
@[go_sem] def pT (N:Nat):FnS:=⟨[],false,fn1 ae.decA fun q0=>(kB N q0).map fun r=>.agg [sO 11 (r.Txns.map Txn.row),sO 4 (r.Locks.map ai.row),sO 3 (r.Stacks.map aa.rowD)],false⟩
def o9 (N:Nat):aA prog 59 (pT N):=om1 (Kh N)
@[go_sem] def Sc (N d f:Nat):Option FnS:=aw [(24,23,lz N),(27,98,zB N),(56,59,pT N),(60,41,zv N)] d f
def RD (N:Nat) (a0:ae) (a1:Int) (a2:Int) (a3:ByteArray) (a4:Int) (a5:List ah) (r:ae × Int) (h:jI N a0 a1 a2 a3 a4 a5=some r):Con prog 38 [] false [.agg (ae.row a0),vI a1,vI a2,vS a3,vI a4,sF 4 (a5.map ah.row)] (.tup [.agg [sO 11 (r.1.Txns.map Txn.row),sO 4 (r.1.Locks.map ai.row),sO 3 (r.1.Stacks.map aa.row)],vI r.2]):=by
 refine fk (G:=(Sc N)) func38 (gc 24 (j5 N) (gc 27 (Bk N) (gc 56 (o9 N) (gc 60 (Bg N) gn)))) ?_;simp only [f38];unfold jI at h;refine z0 ?_;refine z0 ?_;refine aL (aQ ?_);apply aT (fun (c10:Bool)=>⟨tab 65 (af (af (af (af (af au 1 (vI a1)) 6 (pF 6)) 12 (pF 12)) 14 (pF 14)) 22 (vB c10)),(upd (upd (upd RZ 6 (vA 3 (ae.row a0))) 12 (vA 3 [.val (.slice none 0 0),.val (.slice none 0 0),.val (.slice none 0 0)])) 14 (vA 11 [vI a1,vI a2,vS a3,vI a4,sF 4 (a5.map ah.row),vI 0,vI 0,vI 0,vS (⟨#[]⟩),.val (.slice none 0 0),.val (.slice none 0 0)]))⟩)
 ·intro hJ1;obtain ⟨r11,hr2,h⟩:=bI h;refine z1 hr2 ?_;refine cM h (fun hc3 h=>?_) fun hc3 h=>?_
  ·refine aU (pp (hJ1 _ true ?_ h));exact wF hc3
  obtain ⟨r12,hr4,h⟩:=bI h;refine z1 (k2 hc3 hr4) ?_;exact hJ1 _ (!r12) (wF (k3 hr2 hc3 hr4)) h
 intro c10 h;unfold zg at h;refine cB h (fun hc5 h=>?_) fun hc5 h=>?_
 ·refine z1 hc5 ?_;exact f0 h
 apply aT (fun (c14:Bool)=>⟨tab 65 (af (af (af (af au 6 (pF 6)) 12 (pF 12)) 14 (pF 14)) 30 (vB c14)),(upd (upd (upd RZ 6 (vA 3 (ae.row a0))) 12 (vA 3 [.val (.slice none 0 0),.val (.slice none 0 0),.val (.slice none 0 0)])) 14 (vA 11 [vI a1,vI a2,vS a3,vI a4,sF 4 (a5.map ah.row),vI 0,vI 0,vI 0,vS (⟨#[]⟩),.val (.slice none 0 0),.val (.slice none 0 0)]))⟩)
 ·intro hJ6;refine iD h (fun hc7 hc7d h=>?_) fun hc7 hc7d h=>?_
  ·obtain ⟨x15,hb8,hx9,h⟩:=aI h;refine z1 (k4 hc5 hc7d hb8 hx9) ?_;exact hJ6 _ (decide (a1<=x15.ID)) (wF (k4 hc5 hc7d hb8 hx9)) h
  refine z1 (k2 hc5 hc7d) ?_;exact hJ6 _ false (wF (k2 hc5 hc7d)) h
 intro c14 h;unfold pc at h;refine cB h (fun hc10 h=>?_) fun hc10 h=>?_
 ·refine z1 hc10 ?_;exact f0 h
 refine z1 hc10 ?_;refine cD h (fun hc11 hc11d h=>?_) fun hc11 hc11d h=>?_
 ·refine z1 hc11d ?_;exact f0 h
 refine aU (pp ?_);unfold oN at h;obtain ⟨r16,hr12,h⟩:=bI h;refine z1 (k2 hc11d hr12) ?_;obtain ⟨r17,hr13,h⟩:=bI h;obtain ⟨ha14,h⟩:=jR h;simp only [cG,cY,cV,Nat.reduceAdd] at ha14;refine d1 (k2 hr13 ha14) ?_;refine z0 ?_;exact f0 h
@[go_sem] def zq (N:Nat):FnS:=⟨[],false,fn6 ae.decA (aH .i64) (aH .i64) bW (aH .i64) (aJ 4 ah.dec) fun q0 q1 q2 q3 q4 q5=>(jI N q0 q1 q2 q3 q4 q5).map fun r=>.tup [.agg (ae.row r.1),vI r.2],false⟩
def zL (N:Nat):aA prog 38 (zq N):=om6 fun q0 q1 q2 q3 q4 q5 r h=>rs (RD N q0 q1 q2 q3 q4 q5 r h)
@[go_sem] def Uk (N d f:Nat):Option FnS:=aw [(9,40,gD N),(52,57,Ca N)] d f
def Ut (N:Nat) (a0:ae) (a1:Int) (r:ah × Bool) (h:mD N a0 a1=some r):Con prog 24 [] false [.agg (ae.row a0),vI a1] (.tup [.agg [vS r.1.Target.Type_,vS r.1.Target.Key,vS r.1.Method,sO 5 (r.1.Args.map Value.row)],vB r.2]):=by
 refine fk (G:=(Uk N)) func24 (gc 9 (eU N) (gc 52 (Gw N) gn)) ?_;simp only [f24];unfold mD at h;refine z0 ?_;obtain ⟨r1,hr1,h⟩:=bI h;refine z1 hr1 ?_;refine aL ?_;apply aT (fun (c6:Bool)=>⟨tab 53 (af (af (af (af au 2 (pF 2)) 4 (pF 4)) 6 (vI r1)) 36 (vB c6)),(upd (upd RZ 2 (vA 3 (ae.row a0))) 4 (vA 4 [vS (⟨#[]⟩),vS (⟨#[]⟩),vS (⟨#[]⟩),.val (.slice none 0 0)]))⟩)
 ·intro hJ2;refine iD h (fun hc3 hc3d h=>?_) fun hc3 hc3d h=>?_
  ·refine d1 hc3d ?_;exact hJ2 _ true wR h
  obtain ⟨x7,hb4,hx5,h⟩:=aI h;refine iD h (fun hc6 hc6d h=>?_) fun hc6 hc6d h=>?_
  ·refine d1 (k4 hc3d hb4 hx5 hc6d) ?_;exact hJ2 _ true wR h
  refine d1 (k4 hc3d hb4 hx5 hc6d) ?_;exact hJ2 _ (decide ((x7.Calls.length:Int)<=x7.Done)) wR h
 intro c6 h;unfold ra at h;refine cB h (fun hc7 h=>?_) fun hc7 h=>?_
 ·refine z1 hc7 ?_;exact f0 h
 refine aU (pp ?_);unfold yh at h;obtain ⟨x8,hb8,hx9,h⟩:=aI h;obtain ⟨x9,hb10,hx11,h⟩:=aI h;obtain ⟨r10,hr12,h⟩:=bI h;refine d1 (k5 hc7 hb8 hx9 hb10 (k2 hx11 hr12)) ?_;exact f0 h
@[go_sem] def Bc (N:Nat):FnS:=⟨[],false,fn2 ae.decA (aH .i64) fun q0 q1=>(mD N q0 q1).map fun r=>.tup [.agg (ah.row r.1),vB r.2],false⟩
def AL (N:Nat):aA prog 24 (Bc N):=om2 fun q0 q1 r h=>rs (Ut N q0 q1 r h)
@[go_sem] def OC (N d f:Nat):Option FnS:=aw [(6,131,sR N),(19,133,tk N)] d f
def Hj (N:Nat) (a0:List ai) (r:List ai) (h:fQ N a0=some r):Con prog 117 [] false [sF 4 (a0.map ai.row)] (sO 4 (r.map ai.rowD)):=by
 refine fk (G:=(OC N)) func117 (gc 6 (vk N) (gc 19 (wB N) gn)) ?_;simp only [f117];unfold fQ at h;refine z0 ?_;obtain ⟨r1,hr1,h⟩:=bI h;refine z1 hr1 ?_;refine z0 ?_;refine aQ (ig fun hreal3=>?_);have hl2:=hreal3.lenX 6 (by simp only [go_sem,seval]; rfl);rw [cy] at hl2;refine oR (fun (v4:Nat) (b:List ai)=>⟨tab 24 (af (af (af au 3 (.pal 6 [] 0 b.length none)) 8 (vI (r1.length:Int))) 9 (vI (v4:Int))),(upd RZ 6 (sO 4 (mxR ai.rowD ai.row v4 b)))⟩) r1 h ?_ ?_
 ·exact wF hr1
 rintro v4 l3 _ h -;rcases (jf r1.length v4).symm with ⟨hi4',hd7⟩|⟨hi4',hd7⟩
 ·rw [hd7] at h;simp only [kO] at h;obtain ⟨hg11,h⟩:=On h;refine z1 (k2 hi4' (mi4 hg11)) ?_;refine cf ?_;refine z0 ?_;exact f0 h
 rw [hd7] at h;simp only [kO] at h;have hw6:=eG hi4' hl2;refine z1 hi4' ?_;refine ct ?_;refine z0 ?_;obtain ⟨x2,hb8,hx9,h⟩:=aI h;try simp only [cP] at hx9
 try simp only [xl,xm,true_and] at hb8
 obtain ⟨r3,hr10,h⟩:=bI h;refine z1 (k4 hb8 (Nc (f:=ai.rowD) (g:=ai.row) hx9) hr10 (mi1 (f:=ai.rowD) (g:=ai.row) (rx:=[vS x2.Actor.Type_,vS x2.Actor.Key,vI x2.Owner,sF 1 (x2.Waiters.map (aB .i64))]) hx9 rfl)) ?_;refine z1 hw6 ?_;refine ⟨hi4',(l3.set v4 (ai.mk x2.Actor x2.Owner r3)),?_,h⟩;refine aX.trans (Uf (n:=6) (ai.mk x2.Actor x2.Owner r3) hx9 (by simp only [go_sem,seval]; rfl) rfl rfl) ?_;refine wr ?_ ?_<;>repeat' first|rfl|constructor|simp only [go_sem,seval,nF,hC]
@[go_sem] def j8 (N:Nat):FnS:=⟨[],false,fn1 (aJ 4 ai.dec) fun q0=>(fQ N q0).map fun r=>sO 4 (r.map ai.row),false⟩
def jF (N:Nat):aA prog 117 (j8 N):=om1 fun q0 r h=>rs (Hj N q0 r h)
@[go_sem] def zU (N:Nat):FnS:=⟨[],false,fn1 (aJ 4 ai.dec) fun q0=>(fQ N q0).map fun r=>sO 4 (r.map ai.rowD),false⟩
def BE (N:Nat):aA prog 117 (zU N):=om1 (Hj N)
def dO:FnS:={ own:=[true,true],pure:=false,fn:=fun _=>none,peek:=true }
theorem wL:dO.own=[true,true]:=rfl
theorem wx:dO.peek=true:=rfl
theorem BN:HX prog 195:=
 MZ (fn:=f195) (tS:=25) (tR:=4) (e:=100) (size:=4) func195 rfl rfl (by kernel_rfl) (by kernel_rfl) (by kernel_rfl) (by kernel_rfl)
def w6:aA prog 195 dO:=⟨(fun cs r h=>by simp [dO] at h),fun _=>BN⟩
def gw:Env:={ T:=ey prog,G:=fun d f=>if d=67/\f=195 then some dO else none }
theorem rq:gw.T=ey prog:=rfl
theorem Eo (d:Nat):gw.F d=none:=rfl
theorem EO (d f:Nat):gw.L d f=none:=rfl
theorem Ep:gw.G 67 195=some dO:=rfl
def DE:GOk prog { T:=ey prog,G:=gw.G }:=by
 refine ⟨?_,fun _ _ _ h=>by cases h⟩;intro d f fs hfs;simp only [gw] at hfs;split at hfs
 ·rename_i hc; obtain ⟨rfl,rfl⟩:=hc; obtain rfl:=ng hfs; exact w6
 cases hfs
theorem Fb:DJ prog 127 f127 f127.body.get! := ⟨func127,rfl,by decide,by kernel_rfl⟩
set_option maxHeartbeats 4000000 in
section
attribute [local go_sem] rq fX CA Option.map_some Nat.sub_zero Nat.le_refl dz tA List.isEmpty_nil
def FI {α:Type} (row:α->List C) (ok:aF row) (l:List α) (i:Nat) (x:α) (k:Nat) (r:List α) (hr:r=l.take i++[x]++l.drop i) (hi:i<=l.length) (hsz:(l.length+1) * 64<=140737488355328) (hk1:l.length<=k) (hk2:k<=maxLen) :
  Con prog 127 [true,false,true] false [.sl true none 4 (some k) (l.map row),vI i,sO 4 ([x].map row)] (sO 4 (r.map row)):=by
 refine Jm (E:=gw) (yW prog _) DE mix Fb (nb rfl) ?_;intro _;rw [vu (by simp)];rw [show gf [true,false,true] [C.sl true none 4 (some k) (l.map row),C.val (.int .i64 i),C.sl true none 4 none ([x].map row)]=(af (af (af au 0 (.pal 0 [] 0 l.length none)) 1 (vI i)) 2 (.pal 2 [] 0 1 none)) from by funext t; match t with|0=>simp [gf,iW,jW,af]|1=>rfl|2=>rfl|t+3=>rfl];rw [show R0 [true,false,true] [C.sl true none 4 (some k) (l.map row),C.val (.int .i64 i),C.sl true none 4 none ([x].map row)]=upd (upd RZ 0 (C.sl true none 4 (some k) (l.map row))) 2 (C.sl true none 4 none ([x].map row)) from by funext t; match t with|0=>rfl|1=>rfl|2=>rfl|t+3=>rfl];apply Ju;simp only [f127,Option.get!];have hi1:(i:Int)<=(l.length:Int):=by omega
 have hi2:i<=l.length:=hi;have h10:(((1:Nat):Int)=0)=False:=by simp
 have hp:(row x).all Abs.plainCell=true:=ok.plain x;have hf:(row x).map C.frz=(row x):=ok.frz x;have hpD:(row x).all qe=true:=by have:=(aF.allD ok [x]); simpa using this
 have hw1:IntKind.i64.wrap ((l.length:Int)+((1:Nat):Int))=((l.length+1:Nat):Int):=by rw [lE (by omega) (by omega)]; rfl
 have hlt0:(l.take i).length=i:=by simp; omega
 have hes:(4 != 0)=true:=rfl;have hm1:min 1 (l.length+1 - i)=1:=by omega
 have hm2:min (l.length - i) (l.length+1 - (i+1))=l.length - i:=by omega
 have hm3:(l.drop i).take (l.length - i)=l.drop i:=nj (by simp);have hm4:i+1<=l.length+1:=by omega
 have hw2:IntKind.i64.wrap (((l.length+1:Nat):Int) - (i:Int))=((l.length+1 - i:Nat):Int):=by rw [lE (by omega) (by omega)]; omega
 have hw1b:IntKind.i64.wrap ((l.length:Int)+1)=((l.length+1:Nat):Int):=hw1;have hw3:IntKind.i64.wrap ((i:Int)+((1:Nat):Int))=((i+1:Nat):Int):=by rw [lE (by omega) (by omega)]; rfl
 have hw3b:IntKind.i64.wrap ((i:Int)+1)=((i+1:Nat):Int):=hw3;simp only [go_sem,seval,rq,hi2,cr,fX,cx,acP];refine KZ rfl ?_;simp only [go_sem,seval,rq,acP];refine tg rfl (fun hc=>?_) (fun hc=>?_)
 ·have e:i=l.length:=by omega
  subst e;simp only [go_sem,seval,Eo,hp,hf,aF.allD ok,acC,dR,hsz];refine sA ok ?_;rw [hr];simp [nj]
 ·have hc1:decide ((i:Int)=(l.length:Int))=false:=decide_eq_false hc;have hlt:i < l.length:=by omega
  simp only [go_sem,seval,QH,tf,hw1b,hc1];refine tg rfl (fun hk=>?_) (fun hk=>?_)
  ·have hk1:decide (k < l.length+1)=true:=decide_eq_true hk;have hk2:k < i+(l.length+1 - i):=by omega
   have e1:i+(l.length+1 - i)=l.length+1:=by omega
   have hi3:(i:Int)<=((l.length+1:Nat):Int):=by omega
   have hi4:i<=l.length+1:=by omega
   obtain ⟨A,hA⟩:∃ A,List.map row (List.take i l)++List.replicate (l.length+1 - i) [C.val (Value.string ⟨#[]⟩),C.val (Value.string ⟨#[]⟩),C.val (Value.int .i64 0),C.val (Value.slice none 0 0)]=A:=⟨_,rfl⟩;have hAp:bJ A:=by rw [<-hA]; exact jK (fV ok _) (zK _ [Value.string ⟨#[]⟩,Value.string ⟨#[]⟩,Value.int .i64 0,Value.slice none 0 0] (by simp [Value.oneCell']))
   have hAl:A.length=l.length+1:=by rw [<-hA,ni,cy,hlt0,xq]; omega
   obtain ⟨B,hB⟩:∃ B,aK A i [(row x)]=B:=⟨_,rfl⟩;have hBp:bJ B:=by rw [<-hB]; exact fT hAp ⟨by simp [frzRows,hf],by simp [hpD]⟩
   have hBl:B.length=l.length+1:=by rw [<-hB]; simp [aK,hAl]; omega
   obtain ⟨D,hD⟩:∃ D,aK B (i+1) (List.map row (List.drop i l))=D:=⟨_,rfl⟩;have hDp:bJ D:=by rw [<-hD]; exact fT hBp (fV ok _)
   have hDl:D.length=l.length+1:=by rw [<-hD]; simp [aK,hBl]; omega
   have hDe:D=(l.take i++[x]++l.drop i).map row:=by
    rw [<-hD,<-hB,<-hA,xb,nQ,Ny (A:=l.map row) (n:=l.length) (by simp) hi2 (by simp)];simp
   simp only [go_sem,seval,hi2,hp,hf,aF.frzRows ok,aF.allPlain ok,CM,tf,Gu,Ct,gu,D5,Ext.all,hw2,hw1b,hw3b,ada,cT,xq,hlt0,hm1,hm3,hm4,hk,e1,hi4,hA,hAl,hAp.1,hAp.2,hB,hBp.1,hBp.2,hD,hsz];repeat' ((with_reducible refine gE ?_ ?_); kernel_rfl)
   simp only [go_sem,seval,dR];refine sA ok ?_;rw [hr,<-hDe,<-hDl,xz]
  ·have hk1:decide (k < l.length+1)=false:=decide_eq_false hk;have hk2:¬ k < i+(l.length+1 - i):=by omega
   have hk3:l.length+1<=k:=by omega
   have e2:l.length+1 - l.length=1:=by omega
   have e3:l.length<=l.length+1:=by omega
   have hi3:(i:Int)<=((l.length+1:Nat):Int):=by omega
   have hi4:i<=l.length+1:=by omega
   have hne:¬ l.length+1 - (i+1)=0:=by omega
   have hne2:¬ l.length - i=0:=by omega
   obtain ⟨A,hA⟩:∃ A,List.map row l++[[C.dead,C.dead,C.dead,C.dead]]=A:=⟨_,rfl⟩;have hAp:bJ A:=by rw [<-hA]; exact jK (fV ok _) (C5 1 4)
   have hAl:A.length=l.length+1:=by rw [<-hA]; simp
   have hm5:min (l.length+1 - i) (l.length+1 - (i+1))=l.length - i:=by omega
   have hm5b:min (l.length+1 - i) (l.length - i)=l.length - i:=by omega
   obtain ⟨A2,hA2⟩:∃ A2,(A.drop i).take (l.length - i)=A2:=⟨_,rfl⟩;have hA2e:A2=List.map row (l.drop i):=by
    rw [<-hA2,<-hA,acB,cy,show i - l.length=0 by omega,nU,xt,nj (by simp),show l.length - i - (List.drop i (List.map row l)).length=0 by simp];simp [nQ]
   have hA2p:(A2.all fun r=>r.all Abs.plainCell)=true:=by rw [hA2e]; exact ok.allPlain _
   have hA2f:frzRows A2=A2:=by rw [hA2e]; exact ok.frzRows _
   have hA2d:bJ A2:=by rw [hA2e]; exact fV ok _
   obtain ⟨B,hB⟩:∃ B,aK A (i+1) A2=B:=⟨_,rfl⟩;have hBp:bJ B:=by rw [<-hB]; exact fT hAp hA2d
   have hBl:B.length=l.length+1:=by rw [<-hB]; simp [aK,hAl,hA2e]; omega
   obtain ⟨D,hD⟩:∃ D,aK B i [(row x)]=D:=⟨_,rfl⟩;have hDp:bJ D:=by rw [<-hD]; exact fT hBp ⟨by simp [frzRows,hf],by simp [hpD]⟩
   have hDl:D.length=l.length+1:=by rw [<-hD]; simp [aK,hBl]; omega
   have hDe:D=(l.take i++[x]++l.drop i).map row:=by
    rw [<-hD,<-hB,<-hA2,<-hA,Ky (A:=l.map row) (n:=l.length) (by simp) hi2];simp [xb,nQ]
   simp only [go_sem,seval,EO,Ep,aF.frzRows ok,aF.allD ok,AH,I4,qs,hw1b,hw3b,cT,hm4,wL,wx,acC,hk,hk3,e2,e3,hne2,hA,hes];refine KS rfl ?_;simp only [go_sem,seval,hp,hf,CM,Gu,Ct,hw3b,hm1,hm4,hi4,hAp.1,hAp.2,hA2,hA2p,hA2f,hB,hBp.1,hBp.2,hD,hm5b];repeat' ((with_reducible refine gE ?_ ?_); kernel_rfl)
   simp only [go_sem,seval,dR];refine sA ok ?_;rw [hr,<-hDe,<-hDl,xz]
end
def Gj (N:Nat) (a0:List ai) (a1:Int) (a2:List ai) (r:List ai) (h:lL N a0 a1 a2=some r) :
  Con prog 127 [true,false,true] false [sO 4 (a0.map ai.row),vI a1,sO 4 (a2.map ai.row)] (sO 4 (r.map ai.row)):=by
 unfold lL at h;obtain ⟨n,x,rfl,rfl,h1,h2,h3⟩:=Bv h;exact I5 fun k hk1 hk2=>FI ai.row ai.row_ok a0 n x k r (ng h3).symm h1 h2 (by simpa using hk1) hk2
def ff (N:Nat):FnS:={ own:=[true,false,true],pure:=false,fn:=fun cs=>match cs with
 | [c0,c1,c2]=>(vH 4 ai.dec c0).bind fun q0=>(aH .i64 c1).bind fun q1=>(vH 4 ai.dec c2).bind fun q2=>(lL N q0 q1 q2).map fun r=>sO 4 (r.map ai.row)
 | _=>none }
theorem B5 (N:Nat):(ff N).own=[true,false,true]:=rfl
theorem BI (N:Nat):(ff N).pure=false:=rfl
theorem BC (N:Nat):(ff N).peek=false:=rfl
attribute [go_sem] ff B5 BI BC
def CE (N:Nat):aA prog 127 (ff N):=by
 refine ⟨fun cs r h=>?_,fun h=>by cases h⟩;simp only [ff] at h;split at h
 ·simp only [ck,cj] at h;obtain ⟨q0,h0,q1,h1,q2,h2,r',hr,rfl⟩:=h;exact (Gj N q0 q1 q2 r' hr).argsO rfl (jP (pX ai.row_ok ai.dec_le h0) (qX (bz h1) (jP (pX ai.row_ok ai.dec_le h2) mZ)))
 ·cases h
def Ml (N:Nat) (a0:Int) (r:Bool) (h:pY N a0=some r):Con prog 228 [] true [vI a0] (vB r):=by
 refine fk (G:=(aw [])) func228 gn ?_;simp only [f228];unfold pY at h;refine z0 ?_;refine z0 ?_;exact e0 h
@[go_sem] def yA (N:Nat):FnS:=⟨[],true,fn1 (aH .i64) fun q0=>(pY N q0).map fun r=>vB r,false⟩
def Ah (N:Nat):aA prog 228 (yA N):=om1 (Ml N)
@[go_sem] def MV (N d f:Nat):Option FnS:=aw [(6,228,yA N),(9,228,yA N)] d f
def Na (N:Nat) (a0:Int) (a1:Int) (r:Bool) (h:oI N a0 a1=some r):Con prog 197 [] true [vI a0,vI a1] (vB r):=by
 refine fk (G:=(MV N)) func197 (gc 6 (Ah N) (gc 9 (Ah N) gn)) ?_;simp only [f197];unfold oI at h;refine z0 ?_;refine aL ?_;obtain ⟨r1,hr1,h⟩:=bI h;refine iBs h (fun hc2 h=>?_) fun hc2 h=>?_
 ·refine z1 (k2 hr1 hc2) ?_;exact e0 h
 obtain ⟨r2,hr3,h⟩:=bI h;refine iBs h (fun hc4 h=>?_) fun hc4 h=>?_
 ·refine z1 (k4 hr1 hc2 hr3 hc4) ?_;exact e0 h
 refine z1 (k4 hr1 hc2 hr3 hc4) ?_;exact e0 h
@[go_sem] def zS (N:Nat):FnS:=⟨[],true,fn2 (aH .i64) (aH .i64) fun q0 q1=>(oI N q0 q1).map fun r=>vB r,false⟩
def Bl (N:Nat):aA prog 197 (zS N):=om2 (Na N)
def Iq (N:Nat) (a0:Int) (r:Bool) (h:k8 N a0=some r):Con prog 198 [] true [vI a0] (vB r):=by
 refine fk (G:=(aw [])) func198 gn ?_;simp only [f198];unfold k8 at h;refine z0 ?_;refine z0 ?_;exact e0 h
@[go_sem] def uE (N:Nat):FnS:=⟨[],true,fn1 (aH .i64) fun q0=>(k8 N q0).map fun r=>vB r,false⟩
def wY (N:Nat):aA prog 198 (uE N):=om1 (Iq N)
@[go_sem] def Cw (N d f:Nat):Option FnS:=aw [(27,197,zS N),(47,198,uE N),(50,198,uE N)] d f
def Cx (N:Nat) (a0:List Int) (a1:Int) (r:Int × Bool) (h:gp N a0 a1=some r):Con prog 128 [] true [sF 1 (a0.map (aB .i64)),vI a1] (.tup [vI r.1,vB r.2]):=by
 refine fk (G:=(Cw N)) func128 (gc 27 (Bl N) (gc 47 (wY N) (gc 50 (wY N) gn))) ?_;simp only [f128];unfold gp at h;refine z0 ?_;refine z0 ?_;refine z0 ?_;refine aL (aQ (gl (fun (b:Int × Int)=>⟨tab 54 (af (af (af (af (af au 0 (sF 1 (a0.map (aB .i64)))) 1 (vI a1)) 6 (vI (a0.length:Int))) 7 (vI b.1)) 8 (vI b.2)),RZ⟩) (0,(a0.length:Int)) h ?_ ?_))
 ·exact wR
 rintro n ⟨v2,v3⟩ h -;cases n with
 | zero=>simp [dQ] at h
 | succ n=>
 simp only [dQ] at h;refine z0 ?_;refine cD h (fun hc1 hc1d h=>?_) fun hc1 hc1d h=>?_
 ·refine z1 hc1d ?_;obtain ⟨x9,hb2,hx3,h⟩:=aI h;obtain ⟨r10,hr4,h⟩:=bI h;refine z1 (k3 hb2 hx3 hr4) ?_;refine cB h (fun hc5 h=>?_) fun hc5 h=>?_
  ·refine z1 hc5 ?_;refine ⟨_,cZ _,(IntKind.i64.wrap ((IntKind.i64.wrap (kd .u64 (IntKind.u64.wrap (IntKind.i64.wrap (v2+v3))) 1))+1),v3),?_,h⟩;exact wR
  refine z1 hc5 ?_;refine ⟨_,cZ _,(v2,IntKind.i64.wrap (kd .u64 (IntKind.u64.wrap (IntKind.i64.wrap (v2+v3))) 1)),?_,h⟩;exact wR
 refine fx (pp ?_);unfold jh at h;refine iDs h (fun hc6 hc6d h=>?_) fun hc6 hc6d h=>?_
 ·refine z1 (k2 hc1d hc6d) ?_;exact e0 h
 obtain ⟨x11,hb7,hx8,h⟩:=aI h;refine iD h (fun hc9 hc9d h=>?_) fun hc9 hc9d h=>?_
 ·refine z1 (k4 hc1d hb7 hx8 hc9d) ?_;exact e0 h
 obtain ⟨r12,hr10,h⟩:=bI h;refine iB h (fun hc11 h=>?_) fun hc11 h=>?_
 ·obtain ⟨r13,hr12,h⟩:=bI h;refine z1 (k5 hc1d hb7 hx8 hc9d (k3 hr10 hc11 hr12)) ?_;exact e0 h
 refine z1 (k5 hc1d hb7 hx8 hc9d (k2 hr10 hc11)) ?_;exact e0 h
@[go_sem] def uq (N:Nat):FnS:=⟨[],true,fn2 (aJ 1 (dJ (aH .i64))) (aH .i64) fun q0 q1=>(gp N q0 q1).map fun r=>.tup [vI r.1,vB r.2],false⟩
def z8 (N:Nat):aA prog 128 (uq N):=om2 (Cx N)
def ee:FnS:={ own:=[true,true],pure:=false,fn:=fun _=>none,peek:=true }
theorem yb:ee.own=[true,true]:=rfl
theorem wO:ee.peek=true:=rfl
theorem B4:HX prog 199:=
 MZ (fn:=f199) (tS:=35) (tR:=4) (e:=3) (size:=1) func199 rfl rfl (by kernel_rfl) (by kernel_rfl) (by kernel_rfl) (by kernel_rfl)
def yQ:aA prog 199 ee:=⟨(fun cs r h=>by simp [ee] at h),fun _=>B4⟩
def gO:Env:={ T:=ey prog,G:=fun d f=>if d=67/\f=199 then some ee else none }
theorem sN:gO.T=ey prog:=rfl
theorem Fj (d:Nat):gO.F d=none:=rfl
theorem Fh (d f:Nat):gO.L d f=none:=rfl
theorem Ff:gO.G 67 199=some ee:=rfl
def En:GOk prog { T:=ey prog,G:=gO.G }:=by
 refine ⟨?_,fun _ _ _ h=>by cases h⟩;intro d f fs hfs;simp only [gO] at hfs;split at hfs
 ·rename_i hc; obtain ⟨rfl,rfl⟩:=hc; obtain rfl:=ng hfs; exact yQ
 cases hfs
theorem GY:DJ prog 129 f129 f129.body.get! := ⟨func129,rfl,by decide,by kernel_rfl⟩
set_option maxHeartbeats 4000000 in
section
attribute [local go_sem] sN fX CA Option.map_some Nat.sub_zero Nat.le_refl dz tA List.isEmpty_nil
def GJ {α:Type} (row:α->List C) (ok:aF row) (l:List α) (i:Nat) (x:α) (k:Nat) (r:List α) (hr:r=l.take i++[x]++l.drop i) (hi:i<=l.length) (hsz:(l.length+1) * 8<=140737488355328) (hk1:l.length<=k) (hk2:k<=maxLen) :
  Con prog 129 [true,false,true] false [.sl true none 1 (some k) (l.map row),vI i,sO 1 ([x].map row)] (sO 1 (r.map row)):=by
 refine Jm (E:=gO) (yW prog _) En mix GY (nb rfl) ?_;intro _;rw [vu (by simp)];rw [show gf [true,false,true] [C.sl true none 1 (some k) (l.map row),C.val (.int .i64 i),C.sl true none 1 none ([x].map row)]=(af (af (af au 0 (.pal 0 [] 0 l.length none)) 1 (vI i)) 2 (.pal 2 [] 0 1 none)) from by funext t; match t with|0=>simp [gf,iW,jW,af]|1=>rfl|2=>rfl|t+3=>rfl];rw [show R0 [true,false,true] [C.sl true none 1 (some k) (l.map row),C.val (.int .i64 i),C.sl true none 1 none ([x].map row)]=upd (upd RZ 0 (C.sl true none 1 (some k) (l.map row))) 2 (C.sl true none 1 none ([x].map row)) from by funext t; match t with|0=>rfl|1=>rfl|2=>rfl|t+3=>rfl];apply Ju;simp only [f129,Option.get!];have hi1:(i:Int)<=(l.length:Int):=by omega
 have hi2:i<=l.length:=hi;have h10:(((1:Nat):Int)=0)=False:=by simp
 have hp:(row x).all Abs.plainCell=true:=ok.plain x;have hf:(row x).map C.frz=(row x):=ok.frz x;have hpD:(row x).all qe=true:=by have:=(aF.allD ok [x]); simpa using this
 have hw1:IntKind.i64.wrap ((l.length:Int)+((1:Nat):Int))=((l.length+1:Nat):Int):=by rw [lE (by omega) (by omega)]; rfl
 have hlt0:(l.take i).length=i:=by simp; omega
 have hes:(1 != 0)=true:=rfl;have hm1:min 1 (l.length+1 - i)=1:=by omega
 have hm2:min (l.length - i) (l.length+1 - (i+1))=l.length - i:=by omega
 have hm3:(l.drop i).take (l.length - i)=l.drop i:=nj (by simp);have hm4:i+1<=l.length+1:=by omega
 have hw2:IntKind.i64.wrap (((l.length+1:Nat):Int) - (i:Int))=((l.length+1 - i:Nat):Int):=by rw [lE (by omega) (by omega)]; omega
 have hw1b:IntKind.i64.wrap ((l.length:Int)+1)=((l.length+1:Nat):Int):=hw1;have hw3:IntKind.i64.wrap ((i:Int)+((1:Nat):Int))=((i+1:Nat):Int):=by rw [lE (by omega) (by omega)]; rfl
 have hw3b:IntKind.i64.wrap ((i:Int)+1)=((i+1:Nat):Int):=hw3;simp only [go_sem,seval,sN,hi2,cr,fX,cx,acP];refine KZ rfl ?_;simp only [go_sem,seval,sN,acP];refine tg rfl (fun hc=>?_) (fun hc=>?_)
 ·have e:i=l.length:=by omega
  subst e;simp only [go_sem,seval,Fj,hp,hf,aF.allD ok,acC,dR,hsz];refine sA ok ?_;rw [hr];simp [nj]
 ·have hc1:decide ((i:Int)=(l.length:Int))=false:=decide_eq_false hc;have hlt:i < l.length:=by omega
  simp only [go_sem,seval,QH,tf,hw1b,hc1];refine tg rfl (fun hk=>?_) (fun hk=>?_)
  ·have hk1:decide (k < l.length+1)=true:=decide_eq_true hk;have hk2:k < i+(l.length+1 - i):=by omega
   have e1:i+(l.length+1 - i)=l.length+1:=by omega
   have hi3:(i:Int)<=((l.length+1:Nat):Int):=by omega
   have hi4:i<=l.length+1:=by omega
   obtain ⟨A,hA⟩:∃ A,List.map row (List.take i l)++List.replicate (l.length+1 - i) [C.val (Value.int .i64 0)]=A:=⟨_,rfl⟩;have hAp:bJ A:=by rw [<-hA]; exact jK (fV ok _) (zK _ [Value.int .i64 0] (by simp [Value.oneCell']))
   have hAl:A.length=l.length+1:=by rw [<-hA,ni,cy,hlt0,xq]; omega
   obtain ⟨B,hB⟩:∃ B,aK A i [(row x)]=B:=⟨_,rfl⟩;have hBp:bJ B:=by rw [<-hB]; exact fT hAp ⟨by simp [frzRows,hf],by simp [hpD]⟩
   have hBl:B.length=l.length+1:=by rw [<-hB]; simp [aK,hAl]; omega
   obtain ⟨D,hD⟩:∃ D,aK B (i+1) (List.map row (List.drop i l))=D:=⟨_,rfl⟩;have hDp:bJ D:=by rw [<-hD]; exact fT hBp (fV ok _)
   have hDl:D.length=l.length+1:=by rw [<-hD]; simp [aK,hBl]; omega
   have hDe:D=(l.take i++[x]++l.drop i).map row:=by
    rw [<-hD,<-hB,<-hA,xb,nQ,Ny (A:=l.map row) (n:=l.length) (by simp) hi2 (by simp)];simp
   simp only [go_sem,seval,hi2,hp,hf,aF.frzRows ok,aF.allPlain ok,CM,tf,Gu,Ct,gu,D5,Ext.all,hw2,hw1b,hw3b,ada,cT,xq,hlt0,hm1,hm3,hm4,hk,e1,hi4,hA,hAl,hAp.1,hAp.2,hB,hBp.1,hBp.2,hD,hsz];repeat' ((with_reducible refine gE ?_ ?_); kernel_rfl)
   simp only [go_sem,seval,dR];refine sA ok ?_;rw [hr,<-hDe,<-hDl,xz]
  ·have hk1:decide (k < l.length+1)=false:=decide_eq_false hk;have hk2:¬ k < i+(l.length+1 - i):=by omega
   have hk3:l.length+1<=k:=by omega
   have e2:l.length+1 - l.length=1:=by omega
   have e3:l.length<=l.length+1:=by omega
   have hi3:(i:Int)<=((l.length+1:Nat):Int):=by omega
   have hi4:i<=l.length+1:=by omega
   have hne:¬ l.length+1 - (i+1)=0:=by omega
   have hne2:¬ l.length - i=0:=by omega
   obtain ⟨A,hA⟩:∃ A,List.map row l++[[C.dead]]=A:=⟨_,rfl⟩;have hAp:bJ A:=by rw [<-hA]; exact jK (fV ok _) (C5 1 1)
   have hAl:A.length=l.length+1:=by rw [<-hA]; simp
   have hm5:min (l.length+1 - i) (l.length+1 - (i+1))=l.length - i:=by omega
   have hm5b:min (l.length+1 - i) (l.length - i)=l.length - i:=by omega
   obtain ⟨A2,hA2⟩:∃ A2,(A.drop i).take (l.length - i)=A2:=⟨_,rfl⟩;have hA2e:A2=List.map row (l.drop i):=by
    rw [<-hA2,<-hA,acB,cy,show i - l.length=0 by omega,nU,xt,nj (by simp),show l.length - i - (List.drop i (List.map row l)).length=0 by simp];simp [nQ]
   have hA2p:(A2.all fun r=>r.all Abs.plainCell)=true:=by rw [hA2e]; exact ok.allPlain _
   have hA2f:frzRows A2=A2:=by rw [hA2e]; exact ok.frzRows _
   have hA2d:bJ A2:=by rw [hA2e]; exact fV ok _
   obtain ⟨B,hB⟩:∃ B,aK A (i+1) A2=B:=⟨_,rfl⟩;have hBp:bJ B:=by rw [<-hB]; exact fT hAp hA2d
   have hBl:B.length=l.length+1:=by rw [<-hB]; simp [aK,hAl,hA2e]; omega
   obtain ⟨D,hD⟩:∃ D,aK B i [(row x)]=D:=⟨_,rfl⟩;have hDp:bJ D:=by rw [<-hD]; exact fT hBp ⟨by simp [frzRows,hf],by simp [hpD]⟩
   have hDl:D.length=l.length+1:=by rw [<-hD]; simp [aK,hBl]; omega
   have hDe:D=(l.take i++[x]++l.drop i).map row:=by
    rw [<-hD,<-hB,<-hA2,<-hA,Ky (A:=l.map row) (n:=l.length) (by simp) hi2];simp [xb,nQ]
   simp only [go_sem,seval,Fh,Ff,aF.frzRows ok,aF.allD ok,AH,I4,qs,hw1b,hw3b,cT,hm4,yb,wO,acC,hk,hk3,e2,e3,hne2,hA,hes];refine KS rfl ?_;simp only [go_sem,seval,hp,hf,CM,Gu,Ct,hw3b,hm1,hm4,hi4,hAp.1,hAp.2,hA2,hA2p,hA2f,hB,hBp.1,hBp.2,hD,hm5b];repeat' ((with_reducible refine gE ?_ ?_); kernel_rfl)
   simp only [go_sem,seval,dR];refine sA ok ?_;rw [hr,<-hDe,<-hDl,xz]
end
def Hx (N:Nat) (a0:List Int) (a1:Int) (a2:List Int) (r:List Int) (h:mF N a0 a1 a2=some r) :
  Con prog 129 [true,false,true] false [sO 1 (a0.map (aB .i64)),vI a1,sO 1 (a2.map (aB .i64))] (sO 1 (r.map (aB .i64))):=by
 unfold mF at h;obtain ⟨n,x,rfl,rfl,h1,h2,h3⟩:=Bv h;exact I5 fun k hk1 hk2=>GJ (aB .i64) (lW .i64) a0 n x k r (ng h3).symm h1 h2 (by simpa using hk1) hk2
def fK (N:Nat):FnS:={ own:=[true,false,true],pure:=false,fn:=fun cs=>match cs with
 | [c0,c1,c2]=>(vH 1 (dJ (aH .i64)) c0).bind fun q0=>(aH .i64 c1).bind fun q1=>(vH 1 (dJ (aH .i64)) c2).bind fun q2=>(mF N q0 q1 q2).map fun r=>sO 1 (r.map (aB .i64))
 | _=>none }
theorem CF (N:Nat):(fK N).own=[true,false,true]:=rfl
theorem BW (N:Nat):(fK N).pure=false:=rfl
theorem B2 (N:Nat):(fK N).peek=false:=rfl
attribute [go_sem] fK CF BW B2
def C6 (N:Nat):aA prog 129 (fK N):=by
 refine ⟨fun cs r h=>?_,fun h=>by cases h⟩;simp only [fK] at h;split at h
 ·simp only [ck,cj] at h;obtain ⟨q0,h0,q1,h1,q2,h2,r',hr,rfl⟩:=h;exact (Hx N q0 q1 q2 r' hr).argsO rfl (jP (pX (lW .i64) (jo .i64) h0) (qX (bz h1) (jP (pX (lW .i64) (jo .i64) h2) mZ)))
 ·cases h
@[go_sem] def LJ (N d f:Nat):Option FnS:=aw [(14,116,ld N),(18,124,pq N),(23,125,rP N),(29,126,yp N),(38,117,j8 N),(44,127,ff N),(52,128,uq N),(64,117,j8 N),(74,117,j8 N),(78,117,j8 N),(88,117,zU N),(99,129,fK N)] d f
def LB (N:Nat) (a0:List ai) (a1:Ref) (a2:Int) (r:(List ai) × Int × Int) (h:pP N a0 a1 a2=some r):Con prog 58 [] false [sF 4 (a0.map ai.row),.agg [vS a1.Type_,vS a1.Key],vI a2] (.tup [sO 4 (r.1.map ai.row),vI r.2.1,vI r.2.2]):=by
 refine fk (G:=(LJ N)) func58 (gc 14 (km N) (gc 18 (rm N) (gc 23 (tL N) (gc 29 (yG N) (gc 38 (jF N) (gc 44 (CE N) (gc 52 (z8 N) (gc 64 (jF N) (gc 74 (jF N) (gc 78 (jF N) (gc 88 (BE N) (gc 99 (C6 N) gn)))))))))))) ?_;simp only [f58];unfold pP at h;refine z0 ?_;refine aL ?_;apply aT (fun (c9:Bool)=>⟨tab 103 (af (af (af (af au 0 (sF 4 (a0.map ai.row))) 2 (vI a2)) 4 (pF 4)) 25 (vB c9)),(upd RZ 4 (vA 2 [vS a1.Type_,vS a1.Key]))⟩)
 ·intro hJ1;obtain ⟨r10,hr2,h⟩:=bI h;refine iBs h (fun hc3 h=>?_) fun hc3 h=>?_
  ·refine z1 (k2 hr2 hc3) ?_;exact hJ1 _ true wR h
  obtain ⟨r11,hr4,h⟩:=bI h;refine iBs h (fun hc5 h=>?_) fun hc5 h=>?_
  ·refine z1 (k4 hr2 hc3 hr4 hc5) ?_;exact hJ1 _ true wR h
  obtain ⟨r12,hr6,h⟩:=bI h;refine z1 (k5 hr2 hc3 hr4 hc5 hr6) ?_;exact hJ1 _ (!r12) wR h
 intro c9 h;unfold oP at h;refine cB h (fun hc7 h=>?_) fun hc7 h=>?_
 ·refine z1 hc7 ?_;exact f0 h
 refine aU (pp ?_);unfold oM at h;obtain ⟨r13,hr8,h⟩:=bI h;refine z1 (k2 hc7 hr8) ?_;refine z0 ?_;refine cM h (fun hc9 h=>?_) fun hc9 h=>?_
 ·refine z1 hc9 ?_;refine cD h (fun hc10 hc10d h=>?_) fun hc10 hc10d h=>?_
  ·refine z1 hc10d ?_;exact f0 h
  obtain ⟨r14,hr11,h⟩:=bI h;obtain ⟨r15,hr12,h⟩:=bI h;refine d1 (k3 hc10d hr11 hr12) ?_;exact f0 h
 obtain ⟨x16,hb13,hx14,h⟩:=aI h;obtain ⟨r17,hr15,h⟩:=bI h;refine z1 (k4 hc9 hb13 hx14 hr15) ?_;refine z1 (k2 hb13 hx14) ?_;refine cD h (fun hc16 hc16d h=>?_) fun hc16 hc16d h=>?_
 ·obtain ⟨r18,hr17,h⟩:=bI h;refine z1 (k2 hc16d hr17) ?_;exact f0 h
 refine z1 (k3 hb13 hx14 hc16d) ?_;refine cD h (fun hc18 hc18d h=>?_) fun hc18 hc18d h=>?_
 ·obtain ⟨r19,hr19,h⟩:=bI h;refine z1 (k2 hc18d hr19) ?_;exact f0 h
 refine z1 hc18d ?_;refine cB h (fun hc20 h=>?_) fun hc20 h=>?_
 ·obtain ⟨r20,hr21,h⟩:=bI h;refine z1 (k2 hc20 hr21) ?_;exact f0 h
 refine z1 (k3 hb13 hx14 hc20) ?_;refine cD h (fun hc22 hc22d h=>?_) fun hc22 hc22d h=>?_
 ·refine z1 hc22d ?_;exact f0 h
 obtain ⟨r21,hr23,h⟩:=bI h;refine z1 (k2 hc22d hr23) ?_;obtain ⟨x22,hb24,hx25,h⟩:=aI h;obtain ⟨r23,hr26,h⟩:=bI h;refine z1 (k5 hb13 hb24 hx25 (ov1 (row:=ai.rowD) (rx:=[vS x22.Actor.Type_,vS x22.Actor.Key,vI x22.Owner,sO 1 (x22.Waiters.map (aB .i64))]) hx25 rfl) (k3 (ov2 (row:=ai.rowD) hx25) (ov3 (row:=ai.rowD) hx25) hr26)) ?_;refine z0 ?_;exact f0 h
@[go_sem] def Ce (N:Nat):FnS:=⟨[],false,fn3 (aJ 4 ai.dec) Ref.decA (aH .i64) fun q0 q1 q2=>(pP N q0 q1 q2).map fun r=>.tup [sO 4 (r.1.map ai.row),vI r.2.1,vI r.2.2],false⟩
def Gx (N:Nat):aA prog 58 (Ce N):=om3 (LB N)
def JD (N:Nat) (a0:Int) (r:Int) (h:uU N a0=some r):Con prog 182 [] true [.val (.int .u64 a0)] (vI r):=by
 refine fk (G:=(aw [])) func182 gn ?_;simp only [f182];unfold uU at h;refine z0 ?_;apply Da (fun (v1:Int) (v2:Int)=>⟨tab 25 (af (af au 0 (.val (.int .u64 v1))) 2 (vI v2)),RZ⟩)
 ·intro hJ1;refine z0 ?_;refine cD h (fun hc2 hc2d h=>?_) fun hc2 hc2d h=>?_
  ·refine z1 hc2d ?_;refine z0 ?_;exact hJ1 _ (kd .u64 a0 32) 32 wR h
  refine aU (pp (hJ1 _ a0 0 ?_ h));exact wR
 intro v1 v2 h;unfold vh at h;apply Da (fun (v3:Int) (v4:Int)=>⟨tab 25 (af (af au 0 (.val (.int .u64 v3))) 2 (vI v4)),RZ⟩)
 ·intro hJ3;refine z0 ?_;refine cD h (fun hc4 hc4d h=>?_) fun hc4 hc4d h=>?_
  ·refine z1 hc4d ?_;refine z0 ?_;exact hJ3 _ (kd .u64 v1 16) (IntKind.i64.wrap (v2+16)) wR h
  refine aU (pp (hJ3 _ v1 v2 ?_ h));exact wR
 intro v3 v4 h;unfold vf at h;apply Da (fun (v5:Int) (v6:Int)=>⟨tab 25 (af (af au 0 (.val (.int .u64 v5))) 2 (vI v6)),RZ⟩)
 ·intro hJ5;refine z0 ?_;refine cD h (fun hc6 hc6d h=>?_) fun hc6 hc6d h=>?_
  ·refine z1 hc6d ?_;refine z0 ?_;exact hJ5 _ (kd .u64 v3 8) (IntKind.i64.wrap (v4+8)) wR h
  refine aU (pp (hJ5 _ v3 v4 ?_ h));exact wR
 intro v5 v6 h;unfold u9 at h;obtain ⟨b7,hb7,hx8,h⟩:=Xc h;refine z1 (k2 hb7 hx8) ?_;exact e0 h
@[go_sem] def BL (N:Nat):FnS:=⟨[],true,fn1 (aH .u64) fun q0=>(uU N q0).map fun r=>vI r,false⟩
def FL (N:Nat):aA prog 182 (BL N):=om1 (JD N)
@[go_sem] def LQ (N d f:Nat):Option FnS:=aw [(7,182,BL N)] d f
def MI (N:Nat) (a0:Int) (r:Int) (h:uj N a0=some r):Con prog 102 [] true [.val (.int .u64 a0)] (vI r):=by
 refine fk (G:=(LQ N)) func102 (gc 7 (FL N) gn) ?_;simp only [f102];unfold uj at h;refine z0 ?_;refine cf ?_;obtain ⟨r1,hr1,h⟩:=bI h;refine z1 hr1 ?_;exact e0 h
@[go_sem] def yC (N:Nat):FnS:=⟨[],true,fn1 (aH .u64) fun q0=>(uj N q0).map fun r=>vI r,false⟩
def Af (N:Nat):aA prog 102 (yC N):=om1 (MI N)
@[go_sem] def u7 (N d f:Nat):Option FnS:=aw [(29,197,zS N)] d f
def kz (N:Nat) (a0:List Int) (a1:Int) (a2:Int) (r:List Int) (h:da N a0 a1 a2=some r):(r).length=a0.length:=by
 unfold da at h; exact (kA h).2
def u6 (N:Nat) (a0:List Int) (a1:Int) (a2:Int) (r:List Int) (h:da N a0 a1 a2=some r):mv prog 219 1 [sO 1 (a0.map (aB .i64)),vI a1,vI a2] (.tup []) [sO 1 (r.map (aB .i64))]:=by
 unfold da at h;obtain ⟨h,hlen⟩:=kA h;refine zb (G:=(u7 N)) (L:=noL) func219 rfl (by decide) (by kernel_rfl) 1 (by kernel_rfl) (gc 29 (Bl N) gn) (fun _ _ _ h=>by cases h) [] mix (nb rfl) (nb rfl) rfl (by simp [dC,hlen]) ?_;simp only [f219];refine z0 ?_;refine aQ (gl (fun (b:Int)=>⟨tab 49 (af (af (af (af au 0 (.pal 0 [] 0 a0.length none)) 1 (vI a1)) 2 (vI a2)) 6 (vI b)),(upd RZ 0 (sO 1 (a0.map (aB .i64))))⟩) (IntKind.i64.wrap (a1+1)) h ?_ ?_)
 ·exact wR
 rintro n v1 h -;cases n with
 | zero=>simp [eF] at h
 | succ n=>
 simp only [eF] at h;refine z0 ?_;refine cDs h (fun hc1 hc1d h=>?_) fun hc1 hc1d h=>?_
 ·refine fx (pp ?_);obtain rfl:=ng h;refine CI (.inr rfl) (aX.refl _) (by simp only [go_sem,seval,hc1d]; rfl) (by simp only [go_sem,seval]; rfl) (by (try simp only [go_sem,seval]); first|exact Le.refl _|exact LeI.h) ?_;exact CJ (by simp only [go_sem,seval,hc1d]<;>rfl) (by simp only [go_sem,seval]<;>rfl) (EY)
 refine z1 hc1d ?_;refine aQ (gl (fun (b:Unit)=>⟨tab 49 (af (af (af (af (af au 0 (.pal 0 [] 0 a0.length none)) 1 (vI a1)) 2 (vI a2)) 6 (vI v1)) 7 (vI v1)),(upd RZ 0 (sO 1 (a0.map (aB .i64))))⟩) () h ?_ ?_)
 ·exact wR
 rintro n ⟨⟩ h -;cases n with
 | zero=>simp [gS] at h
 | succ n=>
 simp only [gS] at h;refine aL ?_;apply aT (fun (c9:Bool)=>⟨tab 49 (af (af (af (af (af (af au 0 (.pal 0 [] 0 a0.length none)) 1 (vI a1)) 2 (vI a2)) 6 (vI v1)) 7 (vI v1)) 30 (vB c9)),(upd RZ 0 (sO 1 (a0.map (aB .i64))))⟩)
 ·intro hJ2;refine iDs h (fun hc3 hc3d h=>?_) fun hc3 hc3d h=>?_
  ·refine d1 hc3d ?_;exact hJ2 _ false wR h
  obtain ⟨x10,hb4,hx5,h⟩:=aI h;obtain ⟨x11,hb6,hx7,h⟩:=aI h;obtain ⟨r12,hr8,h⟩:=bI h;refine d1 (k5 hc3d hb4 hx5 hb6 (k2 hx7 hr8)) ?_;exact hJ2 _ r12 wR h
 intro c9 h;unfold gQ at h;refine cB h (fun hc9 h=>?_) fun hc9 h=>?_
 ·refine aU (pp ?_);unfold gT at h;refine aL (aQ ?_);obtain ⟨x13,hb10,hx11,h⟩:=aI h;obtain ⟨x14,hb12,hx13,h⟩:=aI h;cases h
 refine z1 hc9 ?_;refine ⟨_,cZ _,(IntKind.i64.wrap (v1+1)),?_,h⟩;exact wR
@[go_sem] def gM (N:Nat):FnL:=⟨1,fun cs rest=>match cs,rest with
 | [v0],[c1,c2]=>(C4 1 (dJ (aH .i64)) v0).bind fun q0=>((aH .i64) c1).bind fun q1=>((aH .i64) c2).bind fun q2=>(da N q0 q1 q2).map fun r=>(.tup [],[sO 1 (r.map (aB .i64))])
 | _,_=>none,false⟩
def sX (N:Nat):wJ prog 219 (gM N):=by
 refine IA (xJ _) rfl ?_;intro cs rest r ls hlen h;simp only [gM] at h;split at h
 ·simp only [ck,cj] at h;obtain ⟨q0,h0,q1,h1,q2,h2,r',hr,he⟩:=h;cases he;exact mv.told rfl rfl (y7 (yT (lW .i64) (jo .i64) h0) (Bm)) (LeL.cons (bz h1) (LeL.cons (bz h2) (LeL.nil))) (u6 N q0 q1 q2 r' hr)
 ·cases h
@[go_sem] def ze (N d f:Nat):Option FnL:=AV [(27,219,gM N)] d f
def m6 (N:Nat) (a0:List Int) (a1:Int) (a2:Int) (a3:Int) (r:List Int) (h:ed N a0 a1 a2 a3=some r):(r).length=a0.length:=by
 unfold ed at h; exact (kA h).2
def zf (N:Nat) (a0:List Int) (a1:Int) (a2:Int) (a3:Int) (r:List Int) (h:ed N a0 a1 a2 a3=some r):mv prog 185 1 [sO 1 (a0.map (aB .i64)),vI a1,vI a2,vI a3] (.tup []) [sO 1 (r.map (aB .i64))]:=by
 unfold ed at h;obtain ⟨h,hlen⟩:=kA h;refine zb (G:=(aw [])) (L:=(ze N)) func185 rfl (by decide) (by kernel_rfl) 1 (by kernel_rfl) gn (lc 27 (sX N) ln) [] mix (nb rfl) (nb rfl) rfl (by simp [dC,hlen]) ?_;simp only [f185];refine z0 ?_;refine z0 ?_;refine aQ (gl (fun (b:Unit)=>⟨tab 134 (af (af (af (af (af (af au 0 (.pal 0 [] 0 a0.length none)) 1 (vI a1)) 2 (vI a2)) 3 (vI a3)) 8 (vB true)) 9 (vB true)),(upd RZ 0 (sO 1 (a0.map (aB .i64))))⟩) () h ?_ ?_)
 ·exact wR
 rintro n ⟨⟩ h -;cases n with
 | zero=>simp [jn] at h
 | succ n=>
 simp only [jn] at h;refine z0 ?_;refine z0 ?_;refine cDs h (fun hc1 hc1d h=>?_) fun hc1 hc1d h=>?_
 ·refine z1 hc1d ?_;refine cD h (fun hc3 hc3d h=>?_) fun hc3 hc3d h=>?_
  ·refine aL ?_;cases h
  refine z1 hc3d ?_;refine cf ?_;refine aU (pp (aL ?_));cases h
 obtain ⟨r1,hr2,h⟩:=bI h;refine z1 (k3 hc1d hr2 (kz N a0 a1 a2 r1 hr2)) ?_;refine eZ (pp ?_);obtain rfl:=ng h;refine CI (.inl rfl) (aX.refl _) (by simp only [go_sem,seval]; rfl) (by simp only [go_sem,seval]; rfl) (by (try simp only [go_sem,seval]); first|exact Le.refl _|exact LeI.h) ?_;exact CJ (by simp only [go_sem,seval,kz N a0 a1 a2 r1 hr2]<;>rfl) (by simp only [go_sem,seval]<;>rfl) (EY)
@[go_sem] def ji (N:Nat):FnL:=⟨1,fun cs rest=>match cs,rest with
 | [v0],[c1,c2,c3]=>(C4 1 (dJ (aH .i64)) v0).bind fun q0=>((aH .i64) c1).bind fun q1=>((aH .i64) c2).bind fun q2=>((aH .i64) c3).bind fun q3=>(ed N q0 q1 q2 q3).map fun r=>(.tup [],[sO 1 (r.map (aB .i64))])
 | _,_=>none,false⟩
def vM (N:Nat):wJ prog 185 (ji N):=by
 refine IA (xJ _) rfl ?_;intro cs rest r ls hlen h;simp only [ji] at h;split at h
 ·simp only [ck,cj] at h;obtain ⟨q0,h0,q1,h1,q2,h2,q3,h3,r',hr,he⟩:=h;cases he;exact mv.told rfl rfl (y7 (yT (lW .i64) (jo .i64) h0) (Bm)) (LeL.cons (bz h1) (LeL.cons (bz h2) (LeL.cons (bz h3) (LeL.nil)))) (zf N q0 q1 q2 q3 r' hr)
 ·cases h
@[go_sem] def DD (N d f:Nat):Option FnS:=aw [(9,102,yC N)] d f
@[go_sem] def DC (N d f:Nat):Option FnL:=AV [(10,185,ji N)] d f
def Cq (N:Nat) (a0:List Int) (r:List Int) (h:ib N a0=some r):(r).length=a0.length:=by
 unfold ib at h; exact (kA h).2
def wC (N:Nat) (a0:List Int) (r:List Int) (h:ib N a0=some r):mv prog 109 1 [sO 1 (a0.map (aB .i64))] (.tup []) [sO 1 (r.map (aB .i64))]:=by
 unfold ib at h;obtain ⟨h,hlen⟩:=kA h;refine zb (G:=(DD N)) (L:=(DC N)) func109 rfl (by decide) (by kernel_rfl) 1 (by kernel_rfl) (gc 9 (Af N) gn) (lc 10 (vM N) ln) [] mix (nb rfl) (nb rfl) rfl (by simp [dC,hlen]) ?_;simp only [f109];refine z0 ?_;obtain ⟨r1,hr1,h⟩:=bI h;obtain ⟨r2,hr2,h⟩:=bI h;refine z1 (k3 hr1 hr2 (m6 N a0 0 (a0.length:Int) r1 r2 hr2)) ?_;obtain rfl:=ng h;refine CI (.inr rfl) (aX.refl _) (by simp only [go_sem,seval]; rfl) (by simp only [go_sem,seval]; rfl) (by (try simp only [go_sem,seval]); first|exact Le.refl _|exact LeI.h) ?_;exact CJ (by simp only [go_sem,seval,m6 N a0 0 (a0.length:Int) r1 r2 hr2]<;>rfl) (by simp only [go_sem,seval]<;>rfl) (EY)
@[go_sem] def vp (N:Nat):FnL:=⟨1,fun cs rest=>match cs,rest with
 | [v0],[]=>(C4 1 (dJ (aH .i64)) v0).bind fun q0 =>  (ib N q0).map fun r=>(.tup [],[sO 1 (r.map (aB .i64))])
 | _,_=>none,false⟩
def N6 (N:Nat):wJ prog 109 (vp N):=by
 refine IA (xJ _) rfl ?_;intro cs rest r ls hlen h;simp only [vp] at h;split at h
 ·simp only [ck,cj] at h;obtain ⟨q0,h0,r',hr,he⟩:=h;cases he;exact mv.told rfl rfl (y7 (yT (lW .i64) (jo .i64) h0) (Bm)) (LeL.nil) (wC N q0 r' hr)
 ·cases h
def HC:Go.Shelf.Ren:=⟨fun|125=>102|128=>181|129=>182|189=>109|215=>228|216=>197|257=>185|294=>219|295=>220|296=>221|297=>222|298=>223|299=>224|300=>225|301=>226|328=>232|329=>215|330=>216|331=>233|332=>234|343=>237|n=>n,fun|0=>0|3=>3|4=>4|5=>5|9=>9|28=>35|46=>136|51=>186|53=>188|131=>115|182=>179|183=>180|218=>207|222=>211|228=>219|229=>220|n=>n,fun n=>n⟩
def Hy:Go.Proofs.Lays.n189 prog HC where
 mixed:=by kernel_rfl
 f125:=func102.trans (congrArg some (by kernel_rfl))
 f128:=func181.trans (congrArg some (by kernel_rfl))
 f129:=func182.trans (congrArg some (by kernel_rfl))
 f189:=func109.trans (congrArg some (by kernel_rfl))
 f215:=func228.trans (congrArg some (by kernel_rfl))
 f216:=func197.trans (congrArg some (by kernel_rfl))
 f257:=func185.trans (congrArg some (by kernel_rfl))
 f294:=func219.trans (congrArg some (by kernel_rfl))
 f295:=func220.trans (congrArg some (by kernel_rfl))
 f296:=func221.trans (congrArg some (by kernel_rfl))
 f297:=func222.trans (congrArg some (by kernel_rfl))
 f298:=func223.trans (congrArg some (by kernel_rfl))
 f299:=func224.trans (congrArg some (by kernel_rfl))
 f300:=func225.trans (congrArg some (by kernel_rfl))
 f301:=func226.trans (congrArg some (by kernel_rfl))
 f328:=func232.trans (congrArg some (by kernel_rfl))
 f329:=func215.trans (congrArg some (by kernel_rfl))
 f330:=func216.trans (congrArg some (by kernel_rfl))
 f331:=func233.trans (congrArg some (by kernel_rfl))
 f332:=func234.trans (congrArg some (by kernel_rfl))
 f343:=func237.trans (congrArg some (by kernel_rfl))
 t0:=underlying0
 a0:=Tryz.isAgg0
 z0:=Tryz.sizeOf0
 v0:=Tryz.zeroValue0
 t3:=underlying3
 a3:=Tryz.isAgg3
 z3:=Tryz.sizeOf3
 v3:=Tryz.zeroValue3
 t4:=underlying4
 a4:=Tryz.isAgg4
 z4:=Tryz.sizeOf4
 v4:=Tryz.zeroValue4
 t5:=underlying5
 a5:=Tryz.isAgg5
 z5:=Tryz.sizeOf5
 v5:=Tryz.zeroValue5
 t9:=underlying9
 a9:=Tryz.isAgg9
 z9:=Tryz.sizeOf9
 v9:=Tryz.zeroValue9
 t28:=underlying35
 a28:=Tryz.isAgg35
 z28:=Tryz.sizeOf35
 v28:=Tryz.zeroValue35
 t46:=underlying136
 a46:=Tryz.isAgg136
 z46:=Tryz.sizeOf136
 v46:=Tryz.zeroValue136
 t51:=underlying186
 a51:=Tryz.isAgg186
 z51:=Tryz.sizeOf186
 v51:=Tryz.zeroValue186
 t53:=underlying188
 a53:=Tryz.isAgg188
 z53:=Tryz.sizeOf188
 v53:=Tryz.zeroValue188
 t131:=underlying115
 a131:=Tryz.isAgg115
 z131:=Tryz.sizeOf115
 v131:=Tryz.zeroValue115
 t182:=underlying179
 a182:=Tryz.isAgg179
 z182:=Tryz.sizeOf179
 v182:=Tryz.zeroValue179
 t183:=underlying180
 a183:=Tryz.isAgg180
 z183:=Tryz.sizeOf180
 v183:=Tryz.zeroValue180
 t218:=underlying207
 a218:=Tryz.isAgg207
 z218:=Tryz.sizeOf207
 v218:=Tryz.zeroValue207
 t222:=underlying211
 a222:=Tryz.isAgg211
 z222:=Tryz.sizeOf211
 v222:=Tryz.zeroValue211
 t228:=underlying219
 a228:=Tryz.isAgg219
 z228:=Tryz.sizeOf219
 v228:=Tryz.zeroValue219
 t229:=underlying220
 a229:=Tryz.isAgg220
 z229:=Tryz.sizeOf220
 v229:=Tryz.zeroValue220
def Ae (N:Nat) (a0:List Int) (r:List Int) (h:slices_Sort_int N a0=some r):(r).length=a0.length:=by
 unfold slices_Sort_int at h;split at h
 ·exact Cq N a0 r h
 ·exact N8 h
def JJ (N:Nat) (a0:List Int) (r:List Int) (h:slices_Sort_int N a0=some r):mv prog 109 1 [sO 1 (a0.map (aB .i64))] (.tup []) [sO 1 (r.map (aB .i64))]:=by
 unfold slices_Sort_int at h;split at h
 ·exact wC N a0 r h
 ·rename_i hne;exact UZ Hy rfl (enters_of func109 (by kernel_rfl) rfl) (fun e=>hne (by rw [e]; rfl)) h
@[go_sem] def vD (N:Nat):FnL:=⟨1,fun cs rest=>match cs,rest with
 | [v0],[]=>(C4 1 (dJ (aH .i64)) v0).bind fun q0 =>  (slices_Sort_int N q0).map fun r=>(.tup [],[sO 1 (r.map (aB .i64))])
 | _,_=>none,false⟩
def Fx (N:Nat):wJ prog 109 (vD N):=by
 refine IA (xJ _) rfl ?_;intro cs rest r ls hlen h;simp only [vD] at h;split at h
 ·simp only [ck,cj] at h;obtain ⟨q0,h0,r',hr,he⟩:=h;cases he;exact mv.told rfl rfl (y7 (yT (lW .i64) (jo .i64) h0) (Bm)) (LeL.nil) (JJ N q0 r' hr)
 ·cases h
@[go_sem] def KB (N d f:Nat):Option FnS:=aw [(45,108,fm N),(32,108,fm N)] d f
@[go_sem] def KV (N d f:Nat):Option FnL:=AV [(50,109,vD N)] d f
def KM (N:Nat) (a0:ae) (a1:Int) (r:List Int) (h:oo N a0 a1=some r):Con prog 48 [] true [.agg (ae.row a0),vI a1] (sO 1 (r.map (aB .i64))):=by
 refine SI (G:=(KB N)) (L:=(KV N)) func48 rfl (by decide) (by kernel_rfl) (gc 45 (fy N) (gc 32 (fy N) gn)) (lc 50 (Fx N) ln) [] mix (nb rfl) ?_;simp only [f48];unfold oo at h;refine z0 ?_;refine z0 ?_;refine aL (WT (pp (aQ (gl (fun (b:List Int)=>⟨tab 52 (af (af au 2 (pF 2)) 5 (.pal 39 [] 0 b.length none)),(upd (upd RZ 2 (vA 3 (ae.row a0))) 39 (sO 1 (b.map (aB .i64))))⟩) [a1] h ?_ ?_))))
 ·refine aX.trans (Sb 5 12 39 (by decide) (by decide) (by simp only [go_sem,seval]) (by simp only [go_sem,seval]; rfl) (by simp only [go_sem,seval]; rfl) (by first|(simp; done)|simp only [go_sem,seval,nF,hC,nK,nL])) ?_;refine wr ?_ ?_<;>repeat' first|rfl|constructor|simp only [go_sem,seval,nF,hC,nK,nL]
 rintro n l1 h -;cases n with
 | zero=>simp [ki] at h
 | succ n=>
 simp only [ki] at h;refine z0 ?_;refine aQ (ig fun hreal2=>?_);have hl1:=hreal2.lenT 14 (by decide) (by simp only [go_sem,seval]; rfl);rw [cy] at hl1;refine tB (fun (v4:Nat) (b:Unit)=>⟨tab 52 (af (af (af (af (af au 2 (pF 2)) 5 (.pal 39 [] 0 l1.length none)) 14 (sF 3 (a0.Stacks.map aa.row))) 15 (vI (a0.Stacks.length:Int))) 16 (vI (v4:Int))),(upd (upd RZ 2 (vA 3 (ae.row a0))) 39 (sO 1 (l1.map (aB .i64))))⟩) () h ?_ ?_
 ·refine wr ?_ ?_<;>repeat' first|rfl|constructor|simp only [go_sem,seval,nF,hC,nK,nL]
 rintro v4 ⟨⟩ hi3 h -;rcases (mN a0.Stacks v4 hi3).symm with ⟨hi3',_,hd6⟩|⟨x7,hi3',hx4,hd6⟩
 ·rw [hd6] at h;simp only [iR] at h;refine z1 hi3' ?_;refine cf ?_;refine fx (pp ?_);unfold wM at h;obtain ⟨r33,hr20,h⟩:=bI h;refine z1 (k2 hr20 (Ae N l1 r33 hr20)) ?_;refine z0 ?_;refine eZ (pp ?_);obtain rfl:=ng h;simp only [go_sem,seval,nj (acW (Ae N l1 r33 hr20))];exact ⟨_,rfl,gK.h,qn.h⟩
 rw [hd6] at h;simp only [iR] at h;have hw5:=eG hi3' hl1;refine z1 hi3' ?_;refine ct ?_;refine z1 (k2 hx4 hi3') ?_;refine z0 ?_;refine z0 ?_;refine lT 21 (fun (v11:Nat) (b:Bool)=>⟨tab 52 (af (af (af (af (af (af (af (af (af au 2 (pF 2)) 5 (.pal 39 [] 0 l1.length none)) 8 (vB b)) 14 (sF 3 (a0.Stacks.map aa.row))) 15 (vI (a0.Stacks.length:Int))) 16 (vI (v4:Int))) 21 (sF 3 (x7.Layers.map al.row))) 22 (vI (x7.Layers.length:Int))) 23 (vI (v11:Int))),(upd (upd RZ 2 (vA 3 (ae.row a0))) 39 (sO 1 (l1.map (aB .i64))))⟩) false h ?_ ?_ (h0:=wF (k3 hx4 hi3' hw5))
 ·rintro v11 c10 hi9' h;simp only [fJ] at h;refine z1 hi9' ?_;refine cf ?_;refine z1 hw5 ?_;refine ⟨hi3',(),?_,h⟩;exact wF (k4 hx4 hi3' hw5 hi9')
 rintro v11 c10 x14 hi9' hx10 hw11 h;simp only [fJ] at h;refine z1 hi9' ?_;refine ct ?_;refine z1 (k2 hx10 hi9') ?_;refine aL ?_;apply Da (fun (c29:Bool) (c30:Bool)=>⟨tab 52 (af (af (af (af (af (af (af (af (af (af (af au 2 (pF 2)) 5 (.pal 39 [] 0 l1.length none)) 8 (vB c29)) 10 (pF 10)) 14 (sF 3 (a0.Stacks.map aa.row))) 15 (vI (a0.Stacks.length:Int))) 16 (vI (v4:Int))) 21 (sF 3 (x7.Layers.map al.row))) 22 (vI (x7.Layers.length:Int))) 23 (vI (v11:Int))) 34 (vB c30)),(upd (upd (upd RZ 2 (vA 3 (ae.row a0))) 10 (vA 3 (al.row x14))) 39 (sO 1 (l1.map (aB .i64))))⟩)
 ·intro hJ13;refine iB h (fun hc14 h=>?_) fun hc14 h=>?_
  ·obtain ⟨r31,hr15,h⟩:=bI h;refine z1 (k2 hc14 hr15) ?_;refine hJ13 _ true (!r31) ?_ h;exact wF (k5 hx4 hi3' hw5 hx10 (k4 hi9' hw11 hc14 hr15))
  refine z1 hc14 ?_;refine hJ13 _ false false ?_ h;exact wF (k5 hx4 hi3' hw5 hx10 (k3 hi9' hw11 hc14))
 intro c29 c30 h;unfold mG at h;refine cB h (fun hc16 h=>?_) fun hc16 h=>?_
 ·obtain ⟨ha17,h⟩:=jR h;simp only [cG,cY,cV,Nat.reduceAdd] at ha17;refine z1 (k2 hc16 ha17) ?_;refine fx (pp (⟨_,cZ _,(l1++[x14.Txn_]),?_,h⟩));refine wr ?_ ?_<;>repeat' first|rfl|constructor|simp only [go_sem,seval]
 refine aU (pp ?_);unfold mH at h;refine iB h (fun hc18 h=>?_) fun hc18 h=>?_
 ·refine z1 (k2 hc16 hc18) ?_;refine z1 hw11 ?_;refine ⟨hi9',true,?_,h⟩;exact wF (k5 hx4 hi3' hw5 hx10 (k4 hi9' hw11 hc16 hc18))
 obtain ⟨r32,hr19,h⟩:=bI h;refine z1 (k3 hc16 hc18 hr19) ?_;refine z1 hw11 ?_;refine ⟨hi9',r32,?_,h⟩;exact wF (k5 hx4 hi3' hw5 hx10 (k5 hi9' hw11 hc16 hc18 hr19))
@[go_sem] def B6 (N:Nat):FnS:=⟨[],true,fn2 ae.decA (aH .i64) fun q0 q1=>(oo N q0 q1).map fun r=>sF 1 (r.map (aB .i64)),false⟩
def Gi (N:Nat):aA prog 48 (B6 N):=om2 fun q0 q1 r h=>rs (KM N q0 q1 r h)
@[go_sem] def NL (N d f:Nat):Option FnS:=aw [(7,108,fm N)] d f
def Ni (N:Nat) (a0:Txn) (c0_0:List Int) (r:Bool) (h:oQ N a0 c0_0=some r):Con prog 111 [] true [.agg (Txn.row a0),.iref 1 [[sF 1 (c0_0.map (aB .i64))]] 0 0] (vB r):=by
 refine fk (G:=(NL N)) func111 (gc 7 (fy N) gn) ?_;simp only [f111];unfold oQ at h;refine z0 ?_;obtain ⟨r1,hr1,h⟩:=bI h;refine z1 hr1 ?_;exact e0 h
@[go_sem] def uP (N:Nat):FnS:={ own:=[],pure:=true,fn:=fun cs=>match cs with
 | [c0,.iref 1 [[c1_0]] 0 0]=>(Txn.decA c0).bind fun qc0=>((aJ 1 (dJ (aH .i64))) c1_0).bind fun qc1_0=>(oQ N qc0 qc1_0).map fun r=>vB r
 | _=>none }
def Bu (N:Nat):aA prog 111 (uP N):=by
 refine ⟨fun cs r h=>?_,fun h=>by cases h⟩;simp only [uP] at h;split at h
 ·simp only [ck,cj] at h;obtain ⟨q0,h0,q1,h1,r',hr,rfl⟩:=h;exact (ag (Ni N q0 q1 r' hr))
 ·cases h
@[go_sem] def wg (N d f:Nat):Option FnS:=aw [(16,111,uP N)] d f
def wh (N:Nat) (a0:List Txn) (k1_0_0:List Int) (r:Int) (h:fW N a0 k1_0_0=some r):Con prog 71 [] true [sF 11 (a0.map Txn.row),.clo 111 [.iref 1 [[sF 1 (k1_0_0.map (aB .i64))]] 0 0]] (vI r):=by
 refine fk (G:=(wg N)) func71 (gc 16 (Bu N) gn) ?_;simp only [f71];unfold fW at h;refine z0 ?_;refine z0 ?_;refine lT 0 (fun (v2:Nat) (b:Unit)=>⟨tab 19 (af (af (af (af au 0 (sF 11 (a0.map Txn.row))) 1 (.clo 111 [.iref 1 [[sF 1 (k1_0_0.map (aB .i64))]] 0 0])) 7 (vI (a0.length:Int))) 8 (vI (v2:Int))),RZ⟩) () h ?_ ?_
 ·rintro v2 ⟨⟩ hi3' h;simp only [dL] at h;refine z1 hi3' ?_;refine cf ?_;refine z0 ?_;exact e0 h
 rintro v2 ⟨⟩ x5 hi3' hx4 hw5 h;simp only [dL] at h;refine z1 hi3' ?_;refine ct ?_;refine z0 ?_;obtain ⟨r1,hr7,h⟩:=bI h;refine z1 (k3 hx4 hi3' hr7) ?_;refine cB h (fun hc8 h=>?_) fun hc8 h=>?_
 ·refine z1 hc8 ?_;exact e0 h
 refine z1 (k2 hw5 hc8) ?_;refine ⟨hi3',(),?_,h⟩;exact wR
@[go_sem] def iv (N:Nat):FnS:={ own:=[],pure:=true,fn:=fun cs=>match cs with
 | [c0,.clo 111 [.iref 1 [[k1_0_0]] 0 0]]=>((aJ 11 Txn.dec) c0).bind fun qc0=>((aJ 1 (dJ (aH .i64))) k1_0_0).bind fun qk1_0_0=>(fW N qc0 qk1_0_0).map fun r=>vI r
 | _=>none }
def tU (N:Nat):aA prog 71 (iv N):=by
 refine ⟨fun cs r h=>?_,fun h=>by cases h⟩;simp only [iv] at h;split at h
 ·simp only [ck,cj] at h;obtain ⟨q0,h0,q1,h1,r',hr,rfl⟩:=h;exact (ag (wh N q0 q1 r' hr))
 ·cases h
@[go_sem] def vG (N d f:Nat):Option FnS:=aw [(10,71,iv N),(28,111,uP N)] d f
def vo (N:Nat) (a0:List Txn) (k1_0_0:List Int) (r:List Txn) (h:dX N a0 k1_0_0=some r):Con prog 110 [true,false] false [sO 11 (a0.map Txn.row),.clo 111 [.iref 1 [[sF 1 (k1_0_0.map (aB .i64))]] 0 0]] (sO 11 (r.map Txn.row)):=by
 refine Ap (G:=(vG N)) (L:=noL) func110 rfl (by decide) (by kernel_rfl) (gc 10 (tU N) (gc 28 (Bu N) gn)) (fun _ _ _ h=>by cases h) [] mix (nb rfl) ?_;rw [show gf [true,false] [sO 11 (a0.map Txn.row),.clo 111 [.iref 1 [[sF 1 (k1_0_0.map (aB .i64))]] 0 0]]=(af (af au 0 (.pal 0 [] 0 a0.length none)) 1 (.clo 111 [.iref 1 [[sF 1 (k1_0_0.map (aB .i64))]] 0 0])) from by funext t; match t with|0=>simp [gf,iW,jW,af]|1=>rfl|t+2=>rfl];rw [show R0 [true,false] [sO 11 (a0.map Txn.row),.clo 111 [.iref 1 [[sF 1 (k1_0_0.map (aB .i64))]] 0 0]]=upd RZ 0 (sO 11 (a0.map Txn.row)) from by funext t; match t with|0=>rfl|1=>rfl|t+2=>rfl];simp only [f110];unfold dX at h;refine z0 ?_;obtain ⟨r1,hr1,h⟩:=bI h;refine z1 hr1 ?_;refine z0 ?_;refine mY rfl (fun hc2=>?_) (fun hc2=>?_)
 ·have hc2d:=decide_eq_true hc2;rw [if_pos hc2] at h;refine z1 hc2d ?_;refine eZ (pp ?_);cases h;simp (config := { maxSteps := 4000000 }) only [go_sem,seval,dR];exact ⟨_,rfl,gK.h,qN.h⟩
 have hc2d:=decide_eq_false hc2;rw [if_neg hc2] at h;refine z1 hc2d ?_;refine aQ (gl (fun (b:List Txn × Int × Int)=>⟨tab 42 (af (af (af (af au 0 (.pal 0 [] 0 b.1.length none)) 1 (.clo 111 [.iref 1 [[sF 1 (k1_0_0.map (aB .i64))]] 0 0])) 5 (vI b.2.1)) 6 (vI b.2.2)),(upd RZ 0 (sO 11 (b.1.map Txn.row)))⟩) (a0,r1,IntKind.i64.wrap (r1+1)) h ?_ ?_)
 ·exact wF (k2 hr1 hc2d)
 rintro n ⟨l4,v5,v6⟩ h -;cases n with
 | zero=>simp [bq] at h
 | succ n=>
 simp only [bq] at h;refine z0 ?_;refine sw (mY rfl) (fun hc3=>?_) (fun hc3=>?_)
 ·have hc3d:=decide_eq_false hc3;rw [if_neg hc3] at h;refine fx (pp ?_);unfold eL at h;refine aL ?_;obtain ⟨hs12,h⟩:=iT h;try simp only [cP] at hs12 h
  refine iL fun Z hZ=>?_;simp (config := { maxSteps := 4000000 }) only [go_sem,seval,hc3d,hs12,cT,NH (row:=Txn.row) (rz:=[vI 0,vI 0,vS (⟨#[]⟩),vI 0,.val (.slice none 0 0),vI 0,vI 0,vI 0,vS (⟨#[]⟩),.val (.slice none 0 0),.val (.slice none 0 0)]) (k:=(v5).toNat) (l:=l4) (by have:=hs12; omega),fX,w4,dz,aF.allD Txn.row_ok];refine hZ _ (pp (ll (vP (n:=0) ((tp (Txn.mk 0 0 (⟨#[]⟩) 0 [] 0 (Value.mk 0 0 (⟨#[]⟩) [] [])) (v5).toNat l4).map Txn.row) rfl (by simp only [go_sem,seval]; rfl) (by simp only [iZ,gX,go_sem,seval]; rfl) (hle:=Q1 (by repeat' (first|exact Le.refl _|exact LeL.nil|exact Le.nils|refine LeL.cons ?_ ?_)))) ?_));refine aL ?_;obtain ⟨hs13,h⟩:=iT h;try simp only [xu] at hs13 h
  refine iL fun Z hZ=>?_;simp (config := { maxSteps := 4000000 }) only [go_sem,seval,hs12,cU,tA,hs13];refine hZ _ (pp (eZ (pp ?_)));cases h;simp (config := { maxSteps := 4000000 }) only [go_sem,seval,dR];exact ⟨_,rfl,gK.h,qN.h⟩
 have hc3d:=decide_eq_true hc3;rw [if_pos hc3] at h;obtain ⟨x13,hb4,hx5,h⟩:=aI h;refine z1 (k2 hb4 hx5) ?_;obtain ⟨r14,hr6,h⟩:=bI h;refine z1 hr6 ?_;refine sw (pV rfl) (fun hc7=>?_) (fun hc7=>?_)
 ·first|rw [if_pos hc7] at h|simp only [hc7,nG,nE,nw,nX,nJ,xj,nA,nS,nz,nY,cR,if_true,if_false] at h
  refine z1 hc7 ?_;refine ⟨_,cZ _,(l4,v5,IntKind.i64.wrap (v6+1)),?_,h⟩;exact wF (k5 hr1 hc2d hc3d hb4 (k3 hx5 hr6 hc7))
 rw [if_neg (ne_true_of_eq_false hc7)] at h;obtain ⟨x15,hb8,hx9,h⟩:=aI h;have hx11:=kq (y:=x13) hx9;refine z1 (k4 hc7 hb8 hx9 (mm2 (row:=Txn.row) (y:=x13) (rx:=[vI x15.ID,vI x15.Born,vS x15.Client,vI x15.Seq,sF 4 (x15.Calls.map ah.row),vI x15.Done,vI x15.Last.Kind,vI x15.Last.N,vS x15.Last.S,sF 1 (x15.Last.I.map (aB .i64)),sF 1 (x15.Last.L.map dS)]) (ry:=[vI x13.ID,vI x13.Born,vS x13.Client,vI x13.Seq,sF 4 (x13.Calls.map ah.row),vI x13.Done,vI x13.Last.Kind,vI x13.Last.N,vS x13.Last.S,sF 1 (x13.Last.I.map (aB .i64)),sF 1 (x13.Last.L.map dS)]) hx9 rfl rfl)) ?_;refine z0 ?_;refine z0 ?_;refine ⟨_,cZ _,((l4.set ((v5).toNat) x13),IntKind.i64.wrap (v5+1),IntKind.i64.wrap (v6+1)),?_,h⟩;refine wr ?_ ?_<;>repeat' first|rfl|constructor|simp only [go_sem,seval,hC]
def bp (N:Nat):FnS:={ own:=[true,false],pure:=false,fn:=fun cs=>match cs with
 | [c0,.clo 111 [.iref 1 [[k1_0_0]] 0 0]]=>((vH 11 Txn.dec) c0).bind fun q0=>((aJ 1 (dJ (aH .i64))) k1_0_0).bind fun q1=>(dX N q0 q1).map fun r=>sO 11 (r.map Txn.row)
 | _=>none }
theorem sn (N:Nat):(bp N).own=[true,false]:=rfl
theorem rv (N:Nat):(bp N).pure=false:=rfl
theorem rH (N:Nat):(bp N).peek=false:=rfl
attribute [go_sem] bp sn rv rH
def s4 (N:Nat):aA prog 110 (bp N):=by
 refine ⟨fun cs r h=>?_,fun h=>by cases h⟩;simp only [bp] at h;split at h
 ·simp only [ck,cj] at h;obtain ⟨q0,h0,q1,h1,r',hr,rfl⟩:=h;exact (vo N q0 q1 r' hr).argsO rfl (jP (pX Txn.row_ok Txn.dec_le h0) (qX (Le.clo (LeL.cons (Le.iref1 (LeL.cons (ic (jo .i64) h1) (LeL.nil))) (LeL.nil))) (mZ)))
 ·cases h
@[go_sem] def Nq (N d f:Nat):Option FnS:=aw [(7,108,fm N)] d f
def Nr (N:Nat) (a0:al) (c0_0:List Int) (r:Bool) (h:pb N a0 c0_0=some r):Con prog 113 [] true [.agg (al.row a0),.iref 1 [[sF 1 (c0_0.map (aB .i64))]] 0 0] (vB r):=by
 refine fk (G:=(Nq N)) func113 (gc 7 (fy N) gn) ?_;simp only [f113];unfold pb at h;refine z0 ?_;obtain ⟨r1,hr1,h⟩:=bI h;refine z1 hr1 ?_;exact e0 h
@[go_sem] def uN (N:Nat):FnS:={ own:=[],pure:=true,fn:=fun cs=>match cs with
 | [c0,.iref 1 [[c1_0]] 0 0]=>(al.decA c0).bind fun qc0=>((aJ 1 (dJ (aH .i64))) c1_0).bind fun qc1_0=>(pb N qc0 qc1_0).map fun r=>vB r
 | _=>none }
def BP (N:Nat):aA prog 113 (uN N):=by
 refine ⟨fun cs r h=>?_,fun h=>by cases h⟩;simp only [uN] at h;split at h
 ·simp only [ck,cj] at h;obtain ⟨q0,h0,q1,h1,r',hr,rfl⟩:=h;exact (ag (Nr N q0 q1 r' hr))
 ·cases h
@[go_sem] def uY (N d f:Nat):Option FnS:=aw [(16,113,uN N)] d f
def u4 (N:Nat) (a0:List al) (k1_0_0:List Int) (r:Int) (h:fA N a0 k1_0_0=some r):Con prog 186 [] true [sF 3 (a0.map al.row),.clo 113 [.iref 1 [[sF 1 (k1_0_0.map (aB .i64))]] 0 0]] (vI r):=by
 refine fk (G:=(uY N)) func186 (gc 16 (BP N) gn) ?_;simp only [f186];unfold fA at h;refine z0 ?_;refine z0 ?_;refine lT 0 (fun (v2:Nat) (b:Unit)=>⟨tab 19 (af (af (af (af au 0 (sF 3 (a0.map al.row))) 1 (.clo 113 [.iref 1 [[sF 1 (k1_0_0.map (aB .i64))]] 0 0])) 7 (vI (a0.length:Int))) 8 (vI (v2:Int))),RZ⟩) () h ?_ ?_
 ·rintro v2 ⟨⟩ hi3' h;simp only [du] at h;refine z1 hi3' ?_;refine cf ?_;refine z0 ?_;exact e0 h
 rintro v2 ⟨⟩ x5 hi3' hx4 hw5 h;simp only [du] at h;refine z1 hi3' ?_;refine ct ?_;refine z0 ?_;obtain ⟨r1,hr7,h⟩:=bI h;refine z1 (k3 hx4 hi3' hr7) ?_;refine cB h (fun hc8 h=>?_) fun hc8 h=>?_
 ·refine z1 hc8 ?_;exact e0 h
 refine z1 (k2 hw5 hc8) ?_;refine ⟨hi3',(),?_,h⟩;exact wR
@[go_sem] def gR (N:Nat):FnS:={ own:=[],pure:=true,fn:=fun cs=>match cs with
 | [c0,.clo 113 [.iref 1 [[k1_0_0]] 0 0]]=>((aJ 3 al.dec) c0).bind fun qc0=>((aJ 1 (dJ (aH .i64))) k1_0_0).bind fun qk1_0_0=>(fA N qc0 qk1_0_0).map fun r=>vI r
 | _=>none }
def sW (N:Nat):aA prog 186 (gR N):=by
 refine ⟨fun cs r h=>?_,fun h=>by cases h⟩;simp only [gR] at h;split at h
 ·simp only [ck,cj] at h;obtain ⟨q0,h0,q1,h1,r',hr,rfl⟩:=h;exact (ag (u4 N q0 q1 r' hr))
 ·cases h
@[go_sem] def uK (N d f:Nat):Option FnS:=aw [(10,186,gR N),(28,113,uN N)] d f
def uL (N:Nat) (a0:List al) (k1_0_0:List Int) (r:List al) (h:dK N a0 k1_0_0=some r):Con prog 112 [true,false] false [sO 3 (a0.map al.row),.clo 113 [.iref 1 [[sF 1 (k1_0_0.map (aB .i64))]] 0 0]] (sO 3 (r.map al.row)):=by
 refine Ap (G:=(uK N)) (L:=noL) func112 rfl (by decide) (by kernel_rfl) (gc 10 (sW N) (gc 28 (BP N) gn)) (fun _ _ _ h=>by cases h) [] mix (nb rfl) ?_;rw [show gf [true,false] [sO 3 (a0.map al.row),.clo 113 [.iref 1 [[sF 1 (k1_0_0.map (aB .i64))]] 0 0]]=(af (af au 0 (.pal 0 [] 0 a0.length none)) 1 (.clo 113 [.iref 1 [[sF 1 (k1_0_0.map (aB .i64))]] 0 0])) from by funext t; match t with|0=>simp [gf,iW,jW,af]|1=>rfl|t+2=>rfl];rw [show R0 [true,false] [sO 3 (a0.map al.row),.clo 113 [.iref 1 [[sF 1 (k1_0_0.map (aB .i64))]] 0 0]]=upd RZ 0 (sO 3 (a0.map al.row)) from by funext t; match t with|0=>rfl|1=>rfl|t+2=>rfl];simp only [f112];unfold dK at h;refine z0 ?_;obtain ⟨r1,hr1,h⟩:=bI h;refine z1 hr1 ?_;refine z0 ?_;refine mY rfl (fun hc2=>?_) (fun hc2=>?_)
 ·have hc2d:=decide_eq_true hc2;rw [if_pos hc2] at h;refine z1 hc2d ?_;refine eZ (pp ?_);cases h;simp (config := { maxSteps := 4000000 }) only [go_sem,seval,dR];exact ⟨_,rfl,gK.h,qN.h⟩
 have hc2d:=decide_eq_false hc2;rw [if_neg hc2] at h;refine z1 hc2d ?_;refine aQ (gl (fun (b:List al × Int × Int)=>⟨tab 42 (af (af (af (af au 0 (.pal 0 [] 0 b.1.length none)) 1 (.clo 113 [.iref 1 [[sF 1 (k1_0_0.map (aB .i64))]] 0 0])) 5 (vI b.2.1)) 6 (vI b.2.2)),(upd RZ 0 (sO 3 (b.1.map al.row)))⟩) (a0,r1,IntKind.i64.wrap (r1+1)) h ?_ ?_)
 ·exact wF (k2 hr1 hc2d)
 rintro n ⟨l4,v5,v6⟩ h -;cases n with
 | zero=>simp [bk] at h
 | succ n=>
 simp only [bk] at h;refine z0 ?_;refine sw (mY rfl) (fun hc3=>?_) (fun hc3=>?_)
 ·have hc3d:=decide_eq_false hc3;rw [if_neg hc3] at h;refine fx (pp ?_);unfold eA at h;refine aL ?_;obtain ⟨hs12,h⟩:=iT h;try simp only [cP] at hs12 h
  refine iL fun Z hZ=>?_;simp (config := { maxSteps := 4000000 }) only [go_sem,seval,hc3d,hs12,cT,NH (row:=al.row) (rz:=[vI 0,.val (.slice none 0 0),vB false]) (k:=(v5).toNat) (l:=l4) (by have:=hs12; omega),fX,w4,dz,aF.allD al.row_ok];refine hZ _ (pp (ll (vP (n:=0) ((tp (al.mk 0 [] false) (v5).toNat l4).map al.row) rfl (by simp only [go_sem,seval]; rfl) (by simp only [iZ,gX,go_sem,seval]; rfl) (hle:=Q1 (by repeat' (first|exact Le.refl _|exact LeL.nil|exact Le.nils|refine LeL.cons ?_ ?_)))) ?_));refine aL ?_;obtain ⟨hs13,h⟩:=iT h;try simp only [xu] at hs13 h
  refine iL fun Z hZ=>?_;simp (config := { maxSteps := 4000000 }) only [go_sem,seval,hs12,cU,tA,hs13];refine hZ _ (pp (eZ (pp ?_)));cases h;simp (config := { maxSteps := 4000000 }) only [go_sem,seval,dR];exact ⟨_,rfl,gK.h,qN.h⟩
 have hc3d:=decide_eq_true hc3;rw [if_pos hc3] at h;obtain ⟨x13,hb4,hx5,h⟩:=aI h;refine z1 (k2 hb4 hx5) ?_;obtain ⟨r14,hr6,h⟩:=bI h;refine z1 hr6 ?_;refine sw (pV rfl) (fun hc7=>?_) (fun hc7=>?_)
 ·first|rw [if_pos hc7] at h|simp only [hc7,nG,nE,nw,nX,nJ,xj,nA,nS,nz,nY,cR,if_true,if_false] at h
  refine z1 hc7 ?_;refine ⟨_,cZ _,(l4,v5,IntKind.i64.wrap (v6+1)),?_,h⟩;exact wF (k5 hr1 hc2d hc3d hb4 (k3 hx5 hr6 hc7))
 rw [if_neg (ne_true_of_eq_false hc7)] at h;obtain ⟨x15,hb8,hx9,h⟩:=aI h;have hx11:=kq (y:=x13) hx9;refine z1 (k4 hc7 hb8 hx9 (mm2 (row:=al.row) (y:=x13) (rx:=[vI x15.Txn_,sF 5 (x15.Fields.map Value.row),vB x15.Prepared]) (ry:=[vI x13.Txn_,sF 5 (x13.Fields.map Value.row),vB x13.Prepared]) hx9 rfl rfl)) ?_;refine z0 ?_;refine z0 ?_;refine ⟨_,cZ _,((l4.set ((v5).toNat) x13),IntKind.i64.wrap (v5+1),IntKind.i64.wrap (v6+1)),?_,h⟩;refine wr ?_ ?_<;>repeat' first|rfl|constructor|simp only [go_sem,seval,hC]
def bj (N:Nat):FnS:={ own:=[true,false],pure:=false,fn:=fun cs=>match cs with
 | [c0,.clo 113 [.iref 1 [[k1_0_0]] 0 0]]=>((vH 3 al.dec) c0).bind fun q0=>((aJ 1 (dJ (aH .i64))) k1_0_0).bind fun q1=>(dK N q0 q1).map fun r=>sO 3 (r.map al.row)
 | _=>none }
theorem re (N:Nat):(bj N).own=[true,false]:=rfl
theorem qB (N:Nat):(bj N).pure=false:=rfl
theorem pZ (N:Nat):(bj N).peek=false:=rfl
attribute [go_sem] bj re qB pZ
def rD (N:Nat):aA prog 112 (bj N):=by
 refine ⟨fun cs r h=>?_,fun h=>by cases h⟩;simp only [bj] at h;split at h
 ·simp only [ck,cj] at h;obtain ⟨q0,h0,q1,h1,r',hr,rfl⟩:=h;exact (uL N q0 q1 r' hr).argsO rfl (jP (pX al.row_ok al.dec_le h0) (qX (Le.clo (LeL.cons (Le.iref1 (LeL.cons (ic (jo .i64) h1) (LeL.nil))) (LeL.nil))) (mZ)))
 ·cases h
def NB (N:Nat) (a0:aa) (r:Bool) (h:oF N a0=some r):Con prog 115 [] true [.agg (aa.row a0)] (vB r):=by
 refine fk (G:=(aw [])) func115 gn ?_;simp only [f115];unfold oF at h;refine z0 ?_;refine z0 ?_;exact e0 h
@[go_sem] def zy (N:Nat):FnS:=⟨[],true,fn1 aa.decA fun q0=>(oF N q0).map fun r=>vB r,false⟩
def Bp (N:Nat):aA prog 115 (zy N):=om1 (NB N)
@[go_sem] def sp (N d f:Nat):Option FnS:=aw [(16,115,zy N)] d f
def sr (N:Nat) (a0:List aa) (r:Int) (h:ei N a0=some r):Con prog 105 [] true [sF 3 (a0.map aa.row),.clo 115 []] (vI r):=by
 refine fk (G:=(sp N)) func105 (gc 16 (Bp N) gn) ?_;simp only [f105];unfold ei at h;refine z0 ?_;refine z0 ?_;refine lT 0 (fun (v2:Nat) (b:Unit)=>⟨tab 19 (af (af (af (af au 0 (sF 3 (a0.map aa.row))) 1 (.clo 115 [])) 7 (vI (a0.length:Int))) 8 (vI (v2:Int))),RZ⟩) () h ?_ ?_
 ·rintro v2 ⟨⟩ hi3' h;simp only [bL] at h;refine z1 hi3' ?_;refine cf ?_;refine z0 ?_;exact e0 h
 rintro v2 ⟨⟩ x5 hi3' hx4 hw5 h;simp only [bL] at h;refine z1 hi3' ?_;refine ct ?_;refine z0 ?_;obtain ⟨r1,hr7,h⟩:=bI h;refine z1 (k3 hx4 hi3' hr7) ?_;refine cB h (fun hc8 h=>?_) fun hc8 h=>?_
 ·refine z1 hc8 ?_;exact e0 h
 refine z1 (k2 hw5 hc8) ?_;refine ⟨hi3',(),?_,h⟩;exact wR
@[go_sem] def fH (N:Nat):FnS:={ own:=[],pure:=true,fn:=fun cs=>match cs with
 | [c0,.clo 115 []]=>((aJ 3 aa.dec) c0).bind fun qc0=>(ei N qc0).map fun r=>vI r
 | _=>none }
def pO (N:Nat):aA prog 105 (fH N):=by
 refine ⟨fun cs r h=>?_,fun h=>by cases h⟩;simp only [fH] at h;split at h
 ·simp only [ck,cj] at h;obtain ⟨q0,h0,r',hr,rfl⟩:=h;exact (ag (sr N q0 r' hr))
 ·cases h
@[go_sem] def ru (N d f:Nat):Option FnS:=aw [(10,105,fH N),(28,115,zy N)] d f
def rL (N:Nat) (a0:List aa) (r:List aa) (h:bZ N a0=some r):Con prog 114 [true,false] false [sO 3 (a0.map aa.row),.clo 115 []] (sO 3 (r.map aa.row)):=by
 refine Ap (G:=(ru N)) (L:=noL) func114 rfl (by decide) (by kernel_rfl) (gc 10 (pO N) (gc 28 (Bp N) gn)) (fun _ _ _ h=>by cases h) [] mix (nb rfl) ?_;rw [show gf [true,false] [sO 3 (a0.map aa.row),.clo 115 []]=(af (af au 0 (.pal 0 [] 0 a0.length none)) 1 (.clo 115 [])) from by funext t; match t with|0=>simp [gf,iW,jW,af]|1=>rfl|t+2=>rfl];rw [show R0 [true,false] [sO 3 (a0.map aa.row),.clo 115 []]=upd RZ 0 (sO 3 (a0.map aa.row)) from by funext t; match t with|0=>rfl|1=>rfl|t+2=>rfl];simp only [f114];unfold bZ at h;refine z0 ?_;obtain ⟨r1,hr1,h⟩:=bI h;refine z1 hr1 ?_;refine z0 ?_;refine mY rfl (fun hc2=>?_) (fun hc2=>?_)
 ·have hc2d:=decide_eq_true hc2;rw [if_pos hc2] at h;refine z1 hc2d ?_;refine eZ (pp ?_);cases h;simp (config := { maxSteps := 4000000 }) only [go_sem,seval,dR];exact ⟨_,rfl,gK.h,qN.h⟩
 have hc2d:=decide_eq_false hc2;rw [if_neg hc2] at h;refine z1 hc2d ?_;refine aQ (gl (fun (b:List aa × Int × Int)=>⟨tab 42 (af (af (af (af au 0 (.pal 0 [] 0 b.1.length none)) 1 (.clo 115 [])) 5 (vI b.2.1)) 6 (vI b.2.2)),(upd RZ 0 (sO 3 (b.1.map aa.row)))⟩) (a0,r1,IntKind.i64.wrap (r1+1)) h ?_ ?_)
 ·exact wF (k2 hr1 hc2d)
 rintro n ⟨l4,v5,v6⟩ h -;cases n with
 | zero=>simp [aW] at h
 | succ n=>
 simp only [aW] at h;refine z0 ?_;refine sw (mY rfl) (fun hc3=>?_) (fun hc3=>?_)
 ·have hc3d:=decide_eq_false hc3;rw [if_neg hc3] at h;refine fx (pp ?_);unfold dI at h;refine aL ?_;obtain ⟨hs12,h⟩:=iT h;try simp only [cP] at hs12 h
  refine iL fun Z hZ=>?_;simp (config := { maxSteps := 4000000 }) only [go_sem,seval,hc3d,hs12,cT,NH (row:=aa.row) (rz:=[vS (⟨#[]⟩),vS (⟨#[]⟩),.val (.slice none 0 0)]) (k:=(v5).toNat) (l:=l4) (by have:=hs12; omega),fX,w4,dz,aF.allD aa.row_ok];refine hZ _ (pp (ll (vP (n:=0) ((tp (aa.mk (Ref.mk (⟨#[]⟩) (⟨#[]⟩)) []) (v5).toNat l4).map aa.row) rfl (by simp only [go_sem,seval]; rfl) (by simp only [iZ,gX,go_sem,seval]; rfl) (hle:=Q1 (by repeat' (first|exact Le.refl _|exact LeL.nil|exact Le.nils|refine LeL.cons ?_ ?_)))) ?_));refine aL ?_;obtain ⟨hs13,h⟩:=iT h;try simp only [xu] at hs13 h
  refine iL fun Z hZ=>?_;simp (config := { maxSteps := 4000000 }) only [go_sem,seval,hs12,cU,tA,hs13];refine hZ _ (pp (eZ (pp ?_)));cases h;simp (config := { maxSteps := 4000000 }) only [go_sem,seval,dR];exact ⟨_,rfl,gK.h,qN.h⟩
 have hc3d:=decide_eq_true hc3;rw [if_pos hc3] at h;obtain ⟨x13,hb4,hx5,h⟩:=aI h;refine z1 (k2 hb4 hx5) ?_;obtain ⟨r14,hr6,h⟩:=bI h;refine z1 hr6 ?_;refine sw (pV rfl) (fun hc7=>?_) (fun hc7=>?_)
 ·first|rw [if_pos hc7] at h|simp only [hc7,nG,nE,nw,nX,nJ,xj,nA,nS,nz,nY,cR,if_true,if_false] at h
  refine z1 hc7 ?_;refine ⟨_,cZ _,(l4,v5,IntKind.i64.wrap (v6+1)),?_,h⟩;exact wF (k5 hr1 hc2d hc3d hb4 (k3 hx5 hr6 hc7))
 rw [if_neg (ne_true_of_eq_false hc7)] at h;obtain ⟨x15,hb8,hx9,h⟩:=aI h;have hx11:=kq (y:=x13) hx9;refine z1 (k4 hc7 hb8 hx9 (mm2 (row:=aa.row) (y:=x13) (rx:=[vS x15.Actor.Type_,vS x15.Actor.Key,sF 3 (x15.Layers.map al.row)]) (ry:=[vS x13.Actor.Type_,vS x13.Actor.Key,sF 3 (x13.Layers.map al.row)]) hx9 rfl rfl)) ?_;refine z0 ?_;refine z0 ?_;refine ⟨_,cZ _,((l4.set ((v5).toNat) x13),IntKind.i64.wrap (v5+1),IntKind.i64.wrap (v6+1)),?_,h⟩;refine wr ?_ ?_<;>repeat' first|rfl|constructor|simp only [go_sem,seval,hC]
def aV (N:Nat):FnS:={ own:=[true,false],pure:=false,fn:=fun cs=>match cs with
 | [c0,.clo 115 []]=>((vH 3 aa.dec) c0).bind fun q0=>(bZ N q0).map fun r=>sO 3 (r.map aa.row)
 | _=>none }
theorem og (N:Nat):(aV N).own=[true,false]:=rfl
theorem mP (N:Nat):(aV N).pure=false:=rfl
theorem mV (N:Nat):(aV N).peek=false:=rfl
attribute [go_sem] aV og mP mV
def oX (N:Nat):aA prog 114 (aV N):=by
 refine ⟨fun cs r h=>?_,fun h=>by cases h⟩;simp only [aV] at h;split at h
 ·simp only [ck,cj] at h;obtain ⟨q0,h0,r',hr,rfl⟩:=h;exact (rL N q0 r' hr).argsO rfl (jP (pX aa.row_ok aa.dec_le h0) (qX (Le.clo (LeL.nil)) (mZ)))
 ·cases h
@[go_sem] def PZ (N d f:Nat):Option FnS:=aw [(8,59,pT N),(12,110,bp N),(30,112,bj N),(36,114,aV N)] d f
def P4 (N:Nat) (a0:ae) (a1:List Int) (r:ae) (h:tE N a0 a1=some r):Con prog 49 [] false [.agg (ae.row a0),sF 1 (a1.map (aB .i64))] (.agg [sO 11 (r.Txns.map Txn.row),sO 4 (r.Locks.map ai.row),sF 3 (r.Stacks.map aa.row)]):=by
 refine fk (G:=(PZ N)) func49 (gc 8 (o9 N) (gc 12 (s4 N) (gc 30 (rD N) (gc 36 (oX N) gn)))) ?_;simp only [f49];unfold tE at h;refine z0 ?_;obtain ⟨r1,hr1,h⟩:=bI h;refine z1 hr1 ?_;refine aL (ll (Wp (n:=3) (by simp only [go_sem,seval]; rfl) rfl (by simp only [iZ,gX,NQ,Lq,go_sem,seval]; rfl)) ?_);obtain ⟨r2,hr2,h⟩:=bI h;refine z1 hr2 ?_;refine z0 ?_;refine aQ (ig fun hreal4=>?_);have hl3:=hreal4.cell 5 2 (by simp only [go_sem,seval]; rfl) rfl;rw [cy] at hl3;refine oR (fun (v5:Nat) (b:List aa)=>⟨tab 39 (af (af (af (af (af au 3 (.iref 1 [[sF 1 (a1.map (aB .i64))]] 0 0)) 4 (pF 4)) 5 (pF 5)) 16 (vI (r1.Stacks.length:Int))) 17 (vI (v5:Int))),(upd (upd RZ 4 (vA 3 [.val (.slice none 0 0),.val (.slice none 0 0),.val (.slice none 0 0)])) 5 (vA 3 [sO 11 (r2.map Txn.row),sO 4 (r1.Locks.map ai.row),sO 3 (b.map aa.rowD)]))⟩) r1.Stacks h ?_ ?_
 ·exact wF (k2 hr1 hr2)
 rintro v5 l4 _ h -;rcases (jf r1.Stacks.length v5).symm with ⟨hi5',hd8⟩|⟨hi5',hd8⟩
 ·rw [hd8] at h;simp only [mE] at h;refine z1 hi5' ?_;refine cf ?_;refine fx (pp ?_);unfold yo at h;refine aL (ll (RM aa.rowD aa.row 5 [(0,2)] l4 (by simp only [go_sem,seval]; rfl) (by simp only [iZ,gX,go_sem,seval]; rfl) (by simp only [go_sem,seval]; rfl)) ?_);obtain ⟨r13,hr12,h⟩:=bI h;refine z1 hr12 ?_;refine z0 ?_;refine eZ (pp ?_);cases h;simp (config := { maxSteps := 4000000 }) only [go_sem,seval];exact ⟨_,rfl,(by repeat' (first|exact ROk.refl _|exact ROk.nil _|((refine ROk.of _ ?_ ?_); (focus ((repeat' (first|exact Le.refl _|exact LeL.nil|exact Le.nils|exact dt.refl _|refine dt.mapAppend ?_ ?_|refine dt.cons ?_ ?_|refine Le.sl ?_|refine Le.tup ?_|refine Le.agg ?_|refine LeL.cons ?_ ?_)); done)); (focus ((repeat' (first|exact bU.val _|exact bU.sl _ _ _ _|refine bU.tup ?_|refine bU.agg ?_|exact DY|refine CD ?_ ?_)); done)))|((refine ROk.own ?_ ?_); (focus ((repeat' (first|exact Le.refl _|exact LeL.nil|exact Le.nils|exact dt.refl _|refine dt.mapAppend ?_ ?_|refine dt.cons ?_ ?_|refine Le.sl ?_|refine Le.tup ?_|refine Le.agg ?_|refine LeL.cons ?_ ?_)); done)); (focus ((first|exact aF.noOwn (lW .i64) _|exact aF.noOwn ah.row_ok _|exact aF.noOwn al.row_ok _|exact aF.noOwn aa.row_ok _|exact aF.noOwn ai.row_ok _|exact aF.noOwn Txn.row_ok _|exact aF.noOwn Value.row_ok _|exact aF.noOwn Fe _); done)))|refine ROk.agg rfl ?_|refine ROk.tup rfl ?_|exact NK|refine KT ?_ ?_))⟩
 rw [hd8] at h;simp only [mE] at h;have hw7:=eG hi5' hl3;refine z1 hi5' ?_;refine ct ?_;refine z0 ?_;obtain ⟨x11,hb9,hx10,h⟩:=aI h;try simp only [cP] at hx10
 try simp only [xl,xm,true_and] at hb9
 refine LF [0,1,2,3,4,5,6,7,8,9] [10] [] [11,12,13] [5] (by kernel_rfl) fun Z hZ Y hY=>?_;simp (config := { maxSteps := 4000000 }) only [go_sem,seval,hb9,hx10];refine hY _ (by kernel_rfl) (KJ (by simp only [go_sem,seval,C3,Option.isNone,nJ]; try rfl) fun Y hY=>?_);obtain ⟨r12,hr11,h⟩:=bI h;simp (config := { maxSteps := 4000000 }) only [go_sem,seval,hx10,SG (row:=aa.rowD) (rx:=[vS x11.Actor.Type_,vS x11.Actor.Key,sO 3 (x11.Layers.map al.row)]) hx10 rfl rfl,hr11];refine hY _ (by kernel_rfl) (YN ?_);simp (config := { maxSteps := 4000000 }) only [go_sem,seval,hb9,Gh (row:=aa.rowD) _ hx10,F4 (row:=aa.rowD) hx10 rfl];refine hZ _ (z1 hw7 ?_);refine ⟨hi5',(l4.set v5 (aa.mk x11.Actor r12)),?_,h⟩;refine aX.trans (yX (n:=5) (c':=vA 3 [sO 11 (r2.map Txn.row),sO 4 (r1.Locks.map ai.row),sO 3 ((l4.set v5 (aa.mk x11.Actor r12)).map aa.rowD)]) (by simp only [go_sem,seval]; rfl) (by first|(simp only [oh (row:=aa.rowD) (l:=l4) (i:=v5) (y:=(aa.mk x11.Actor r12)) (rc:=[vS x11.Actor.Type_,vS x11.Actor.Key,sO 3 (r12.map al.row)]) rfl]; done)|(simp only [oh (row:=aa.rowD) (l:=l4) (i:=v5) (y:=(aa.mk x11.Actor r12)) (rc:=[vS x11.Actor.Type_,vS x11.Actor.Key,sO 3 (r12.map al.row)]) rfl,nt,nq,xf]<;>rfl)|(rw [<-oh (row:=aa.rowD) (l:=l4) (i:=v5) (y:=(aa.mk x11.Actor r12)) (rc:=[vS x11.Actor.Type_,vS x11.Actor.Key,sO 3 (r12.map al.row)]) rfl]; simp only [nt,nq,xf]<;>rfl))) ?_
 exact wF (k5 hr1 hr2 hi5' hw7 (k5 hb9 hx10 (ov1 (row:=aa.rowD) (rx:=[vS x11.Actor.Type_,vS x11.Actor.Key,sO 3 (x11.Layers.map al.row)]) hx10 rfl) (ov2 (row:=aa.rowD) hx10) (k2 (ov3 (row:=aa.rowD) hx10) hr11)))
@[go_sem] def B3 (N:Nat):FnS:=⟨[],false,fn2 ae.decA (aJ 1 (dJ (aH .i64))) fun q0 q1=>(tE N q0 q1).map fun r=>.agg (ae.row r),false⟩
def Dv (N:Nat):aA prog 49 (B3 N):=ok2 (fun q0 q1 r h=>by
 obtain ⟨r',hr,rfl⟩:=cj.1 h;exact (P4 N q0 q1 r' hr).res (by first|((try simp only [go_sem]); exact gK.h)|(repeat' (first|exact ROk.refl _|exact ROk.nil _|((refine ROk.of _ ?_ ?_); (focus ((repeat' (first|exact Le.refl _|exact LeL.nil|exact Le.nils|exact dt.refl _|refine dt.mapAppend ?_ ?_|refine dt.cons ?_ ?_|refine Le.sl ?_|refine Le.tup ?_|refine Le.agg ?_|refine LeL.cons ?_ ?_)); done)); (focus ((repeat' (first|exact bU.val _|exact bU.sl _ _ _ _|refine bU.tup ?_|refine bU.agg ?_|exact DY|refine CD ?_ ?_)); done)))|((refine ROk.own ?_ ?_); (focus ((repeat' (first|exact Le.refl _|exact LeL.nil|exact Le.nils|exact dt.refl _|refine dt.mapAppend ?_ ?_|refine dt.cons ?_ ?_|refine Le.sl ?_|refine Le.tup ?_|refine Le.agg ?_|refine LeL.cons ?_ ?_)); done)); (focus ((first|exact aF.noOwn (lW .i64) _|exact aF.noOwn ah.row_ok _|exact aF.noOwn al.row_ok _|exact aF.noOwn aa.row_ok _|exact aF.noOwn ai.row_ok _|exact aF.noOwn Txn.row_ok _|exact aF.noOwn Value.row_ok _|exact aF.noOwn Fe _); done)))|refine ROk.agg rfl ?_|refine ROk.tup rfl ?_|exact NK|refine KT ?_ ?_)))) (ae.decA_le) (fun h=>ic (jo .i64) h)
def Iu (N:Nat) (a0:Int) (c0_0:Int) (r:Bool) (h:kZ N a0 c0_0=some r):Con prog 119 [] true [vI a0,.iref 1 [[vI c0_0]] 0 0] (vB r):=by
 refine fk (G:=(aw [])) func119 gn ?_;simp only [f119];unfold kZ at h;refine z0 ?_;refine z0 ?_;exact e0 h
@[go_sem] def pn (N:Nat):FnS:={ own:=[],pure:=true,fn:=fun cs=>match cs with
 | [c0,.iref 1 [[c1_0]] 0 0]=>((aH .i64) c0).bind fun qc0=>((aH .i64) c1_0).bind fun qc1_0=>(kZ N qc0 qc1_0).map fun r=>vB r
 | _=>none }
def wW (N:Nat):aA prog 119 (pn N):=by
 refine ⟨fun cs r h=>?_,fun h=>by cases h⟩;simp only [pn] at h;split at h
 ·simp only [ck,cj] at h;obtain ⟨q0,h0,q1,h1,r',hr,rfl⟩:=h;exact (ag (Iu N q0 q1 r' hr))
 ·cases h
@[go_sem] def uf (N d f:Nat):Option FnS:=aw [(16,119,pn N)] d f
def ub (N:Nat) (a0:List Int) (k1_0_0:Int) (r:Int) (h:dH N a0 k1_0_0=some r):Con prog 189 [] true [sF 1 (a0.map (aB .i64)),.clo 119 [.iref 1 [[vI k1_0_0]] 0 0]] (vI r):=by
 refine fk (G:=(uf N)) func189 (gc 16 (wW N) gn) ?_;simp only [f189];unfold dH at h;refine z0 ?_;refine z0 ?_;refine lT 0 (fun (v2:Nat) (b:Unit)=>⟨tab 19 (af (af (af (af au 0 (sF 1 (a0.map (aB .i64)))) 1 (.clo 119 [.iref 1 [[vI k1_0_0]] 0 0])) 7 (vI (a0.length:Int))) 8 (vI (v2:Int))),RZ⟩) () h ?_ ?_
 ·rintro v2 ⟨⟩ hi3' h;simp only [bh] at h;refine z1 hi3' ?_;refine cf ?_;refine z0 ?_;exact e0 h
 rintro v2 ⟨⟩ x5 hi3' hx4 hw5 h;simp only [bh] at h;refine z1 hi3' ?_;refine ct ?_;refine z0 ?_;obtain ⟨r1,hr7,h⟩:=bI h;refine z1 (k3 hx4 hi3' hr7) ?_;refine cB h (fun hc8 h=>?_) fun hc8 h=>?_
 ·refine z1 hc8 ?_;exact e0 h
 refine z1 (k2 hw5 hc8) ?_;refine ⟨hi3',(),?_,h⟩;exact wR
@[go_sem] def gr (N:Nat):FnS:={ own:=[],pure:=true,fn:=fun cs=>match cs with
 | [c0,.clo 119 [.iref 1 [[k1_0_0]] 0 0]]=>((aJ 1 (dJ (aH .i64))) c0).bind fun qc0=>((aH .i64) k1_0_0).bind fun qk1_0_0=>(dH N qc0 qk1_0_0).map fun r=>vI r
 | _=>none }
def rJ (N:Nat):aA prog 189 (gr N):=by
 refine ⟨fun cs r h=>?_,fun h=>by cases h⟩;simp only [gr] at h;split at h
 ·simp only [ck,cj] at h;obtain ⟨q0,h0,q1,h1,r',hr,rfl⟩:=h;exact (ag (ub N q0 q1 r' hr))
 ·cases h
@[go_sem] def th (N d f:Nat):Option FnS:=aw [(10,189,gr N),(28,119,pn N)] d f
def tK (N:Nat) (a0:List Int) (k1_0_0:Int) (r:List Int) (h:bA N a0 k1_0_0=some r):Con prog 118 [true,false] true [sO 1 (a0.map (aB .i64)),.clo 119 [.iref 1 [[vI k1_0_0]] 0 0]] (sO 1 (r.map (aB .i64))):=by
 refine Ap (G:=(th N)) (L:=noL) func118 rfl (by decide) (by kernel_rfl) (gc 10 (rJ N) (gc 28 (wW N) gn)) (fun _ _ _ h=>by cases h) [] mix (nb rfl) ?_;rw [show gf [true,false] [sO 1 (a0.map (aB .i64)),.clo 119 [.iref 1 [[vI k1_0_0]] 0 0]]=(af (af au 0 (.pal 0 [] 0 a0.length none)) 1 (.clo 119 [.iref 1 [[vI k1_0_0]] 0 0])) from by funext t; match t with|0=>simp [gf,iW,jW,af]|1=>rfl|t+2=>rfl];rw [show R0 [true,false] [sO 1 (a0.map (aB .i64)),.clo 119 [.iref 1 [[vI k1_0_0]] 0 0]]=upd RZ 0 (sO 1 (a0.map (aB .i64))) from by funext t; match t with|0=>rfl|1=>rfl|t+2=>rfl];simp only [f118];unfold bA at h;refine z0 ?_;obtain ⟨r1,hr1,h⟩:=bI h;refine z1 hr1 ?_;refine z0 ?_;refine cD h (fun hc2 hc2d h=>?_) fun hc2 hc2d h=>?_
 ·refine z1 hc2d ?_;refine eZ (pp ?_);cases h;simp only [go_sem,seval,dR];exact ⟨_,rfl,gK.h,qN.h,qn.h⟩
 refine z1 hc2d ?_;refine aQ (gl (fun (b:List Int × Int × Int)=>⟨tab 42 (af (af (af (af au 0 (.pal 0 [] 0 b.1.length none)) 1 (.clo 119 [.iref 1 [[vI k1_0_0]] 0 0])) 5 (vI b.2.1)) 6 (vI b.2.2)),(upd RZ 0 (sO 1 (b.1.map (aB .i64))))⟩) (a0,r1,IntKind.i64.wrap (r1+1)) h ?_ ?_)
 ·exact wF (k2 hr1 hc2d)
 rintro n ⟨l4,v5,v6⟩ h -;cases n with
 | zero=>simp [bf] at h
 | succ n=>
 simp only [bf] at h;refine z0 ?_;refine cDs h (fun hc3 hc3d h=>?_) fun hc3 hc3d h=>?_
 ·refine fx (pp ?_);unfold dW at h;refine aL ?_;obtain ⟨hs12,h⟩:=iT h;try simp only [cP] at hs12 h
  refine iL fun Z hZ=>?_;simp only [go_sem,seval,hc3d,hs12,cT,PR (row:=(aB .i64)) (z:=0) (rz:=[vI 0]) (k:=(v5).toNat) (l:=l4) (by have:=hs12; omega) rfl,fX,w4,dz,aF.allD (lW .i64)];refine hZ _ (pp (aL ?_));obtain ⟨hs13,h⟩:=iT h;try simp only [xu] at hs13 h
  refine iL fun Z hZ=>?_;simp only [go_sem,seval,hs12,cU,tA,hs13];refine hZ _ (pp (eZ (pp ?_)));cases h;simp only [go_sem,seval,dR];exact ⟨_,rfl,gK.h,qN.h,qn.h⟩
 obtain ⟨x13,hb4,hx5,h⟩:=aI h;refine z1 (k2 hb4 hx5) ?_;obtain ⟨r14,hr6,h⟩:=bI h;refine z1 hr6 ?_;refine cMs h (fun hc7 h=>?_) fun hc7 h=>?_
 ·refine z1 hc7 ?_;refine ⟨_,cZ _,(l4,v5,IntKind.i64.wrap (v6+1)),?_,h⟩;exact wF (k5 hr1 hc2d hc3d hb4 (k3 hx5 hr6 hc7))
 obtain ⟨x15,hb8,hx9,h⟩:=aI h;have hx11:=kq (y:=x13) hx9;refine z1 (k4 hc7 hb8 hx9 (mm2 (row:=(aB .i64)) (y:=x13) (rx:=[vI x15]) (ry:=[vI x13]) hx9 rfl rfl)) ?_;refine z0 ?_;refine z0 ?_;refine ⟨_,cZ _,((l4.set ((v5).toNat) x13),IntKind.i64.wrap (v5+1),IntKind.i64.wrap (v6+1)),?_,h⟩;refine wr ?_ ?_<;>repeat' first|rfl|constructor|simp only [go_sem,seval,hC]
def bc (N:Nat):FnS:={ own:=[true,false],pure:=true,fn:=fun cs=>match cs with
 | [c0,.clo 119 [.iref 1 [[k1_0_0]] 0 0]]=>((vH 1 (dJ (aH .i64))) c0).bind fun q0=>((aH .i64) k1_0_0).bind fun q1=>(bA N q0 q1).map fun r=>sO 1 (r.map (aB .i64))
 | _=>none }
theorem pD (N:Nat):(bc N).own=[true,false]:=rfl
theorem pA (N:Nat):(bc N).pure=true:=rfl
theorem pw (N:Nat):(bc N).peek=false:=rfl
attribute [go_sem] bc pD pA pw
def qf (N:Nat):aA prog 118 (bc N):=by
 refine ⟨fun cs r h=>?_,fun h=>by cases h⟩;simp only [bc] at h;split at h
 ·simp only [ck,cj] at h;obtain ⟨q0,h0,q1,h1,r',hr,rfl⟩:=h;exact (tK N q0 q1 r' hr).argsO rfl (jP (pX (lW .i64) (jo .i64) h0) (qX (Le.clo (LeL.cons (Le.iref1 (LeL.cons (bz h1) (LeL.nil))) (LeL.nil))) (mZ)))
 ·cases h
@[go_sem] def K8 (N d f:Nat):Option FnS:=aw [(8,116,ld N),(11,117,zU N),(25,118,bc N)] d f
def Kv (N:Nat) (a0:List ai) (a1:Int) (r:List ai) (h:ou N a0 a1=some r):Con prog 50 [] false [sF 4 (a0.map ai.row),vI a1] (sO 4 (r.map ai.rowD)):=by
 refine fk (G:=(K8 N)) func50 (gc 8 (km N) (gc 11 (BE N) (gc 25 (qf N) gn))) ?_;simp only [f50];unfold ou at h;refine z0 ?_;obtain ⟨r1,hr1,h⟩:=bI h;refine z1 hr1 ?_;refine cM h (fun hc2 h=>?_) fun hc2 h=>?_
 ·refine z1 hc2 ?_;exact f0 h
 obtain ⟨r2,hr3,h⟩:=bI h;refine z1 (k2 hc2 hr3) ?_;refine z0 ?_;refine aQ (ig fun hreal5=>?_);have hl4:=hreal5.lenX 11 (by simp only [go_sem,seval]; rfl);rw [cy] at hl4;refine oR (fun (v6:Nat) (b:List ai)=>⟨tab 30 (af (af (af (af au 3 (pF 3)) 5 (.pal 11 [] 0 b.length none)) 13 (vI (r2.length:Int))) 14 (vI (v6:Int))),(upd (upd RZ 3 (vA 1 [vI a1])) 11 (sO 4 (b.map ai.rowD)))⟩) r2 h ?_ ?_
 ·exact wF (k3 hr1 hc2 hr3)
 rintro v6 l5 _ h -;rcases (jf r2.length v6).symm with ⟨hi6',hd9⟩|⟨hi6',hd9⟩
 ·rw [hd9] at h;simp only [iS] at h;refine z1 hi6' ?_;refine cf ?_;refine z0 ?_;exact f0 h
 rw [hd9] at h;simp only [iS] at h;have hw8:=eG hi6' hl4;refine z1 hi6' ?_;refine ct ?_;refine z0 ?_;obtain ⟨x3,hb10,hx11,h⟩:=aI h;try simp only [cP] at hx11
 try simp only [xl,xm,true_and] at hb10
 obtain ⟨r4,hr12,h⟩:=bI h;refine z1 (k5 hb10 hx11 (ov1 (row:=ai.rowD) (rx:=[vS x3.Actor.Type_,vS x3.Actor.Key,vI x3.Owner,sO 1 (x3.Waiters.map (aB .i64))]) hx11 rfl) (ov2 (row:=ai.rowD) hx11) (k2 (ov3 (row:=ai.rowD) hx11) hr12)) ?_;refine z1 hw8 ?_;refine ⟨hi6',(l5.set v6 (ai.mk x3.Actor x3.Owner r4)),?_,h⟩;refine aX.trans (Uq (n:=11) (ai.mk x3.Actor x3.Owner r4) (by simp only [go_sem,seval]; rfl) rfl rfl) ?_;refine wr ?_ ?_<;>repeat' first|rfl|constructor|simp only [go_sem,seval,nF,hC]
@[go_sem] def Cb (N:Nat):FnS:=⟨[],false,fn2 (aJ 4 ai.dec) (aH .i64) fun q0 q1=>(ou N q0 q1).map fun r=>sF 4 (r.map ai.row),false⟩
def GR (N:Nat):aA prog 50 (Cb N):=om2 fun q0 q1 r h=>rs (Kv N q0 q1 r h)
def mJ:Env:={ T:=ey prog,G:=fun d f=>none }
theorem Ev:mJ.T=ey prog:=rfl
theorem wX (d:Nat):mJ.F d=none:=rfl
def DB:GOk prog { T:=ey prog,G:=mJ.G }:=by
 refine ⟨?_,fun _ _ _ h=>by cases h⟩;intro d f fs hfs;cases hfs
theorem E0:DJ prog 190 f190 f190.body.get! := ⟨func190,rfl,by decide,by kernel_rfl⟩
set_option maxHeartbeats 4000000 in
section
attribute [local go_sem] Ev Nat.le_refl fX Option.map_some List.isEmpty_nil
def Ft {α:Type} (row:α->List C) (ok:aF row) (l:List α) (i j:Nat) (r:List α) (hr:r=l.take i++l.drop j) (hij:i<=j) (hj:j<=l.length) :
  Con prog 190 [true,false,false] false [sO 4 (l.map row),vI i,vI j] (sO 4 (r.map row)):=by
 refine Jm (E:=mJ) (yW prog _) DB mix E0 (nb rfl) ?_;intro _;rw [vu (by simp)];rw [show gf [true,false,false] [C.sl true none 4 none (l.map row),C.val (.int .i64 i),C.val (.int .i64 j)]=(af (af (af au 0 (.pal 0 [] 0 l.length none)) 1 (vI i)) 2 (vI j)) from by funext t; match t with|0=>simp [gf,iW,jW,af]|1=>rfl|2=>rfl|t+3=>rfl];rw [show R0 [true,false,false] [C.sl true none 4 none (l.map row),C.val (.int .i64 i),C.val (.int .i64 j)]=upd RZ 0 (C.sl true none 4 none (l.map row)) from by funext t; match t with|0=>rfl|1=>rfl|2=>rfl|t+3=>rfl];apply Ju;simp only [f190,Option.get!];have hi1:(i:Int)<=(j:Int):=by omega
 have hj1:(j:Int)<=(l.length:Int):=by omega
 have hj0:i<=l.length:=by omega
 simp only [go_sem,seval,hij,hj];refine tg rfl (fun hc=>?_) (fun hc=>?_)
 ·have e:i=j:=by omega
  subst e;simp only [go_sem,seval,dR];refine sA ok ?_;rw [hr];simp []
 ·have hc1:decide ((i:Int)=(j:Int))=false:=decide_eq_false hc;have hlt:i < j:=by omega
  have hlt2:i < l.length:=by omega
  have hm3:(l.drop j).take (l.length - j)=l.drop j:=nj (by simp);have hd:(l.drop j).length=l.length - j:=by simp
  have hle:i+(l.length - j)<=l.length:=by omega
  have hnle:¬ l.length<=i+(l.length - j):=by omega
  obtain ⟨A,hA⟩:∃ A,aK (List.map row l) i (List.map row (List.drop j l))=A:=⟨_,rfl⟩;have hAp:bJ A:=by rw [<-hA]; exact fT (fV ok _) (fV ok _)
  have hAl:A.length=l.length:=by rw [<-hA]; simp [aK]; omega
  obtain ⟨B,hB⟩:∃ B,aK A (i+(l.length - j)) (List.replicate (l.length - (i+(l.length - j))) [C.val (Value.string ⟨#[]⟩),C.val (Value.string ⟨#[]⟩),C.val (Value.int .i64 0),C.val (Value.slice none 0 0)])=B:=⟨_,rfl⟩;have hBp:bJ B:=by rw [<-hB]; exact fT hAp (zK _ [Value.string ⟨#[]⟩,Value.string ⟨#[]⟩,Value.int .i64 0,Value.slice none 0 0] (by simp [Value.oneCell']))
  have hBe:B.take (i+(l.length - j))=r.map row:=by
   have:=V1 (L:=l.map row) (List.replicate (l.length - (i+(l.length - j))) [C.val (Value.string ⟨#[]⟩),C.val (Value.string ⟨#[]⟩),C.val (Value.int .i64 0),C.val (Value.slice none 0 0)]) hij (by simpa using hj);rw [cy,<-nQ,hA,hB] at this;rw [this,hr]; simp
  simp only [go_sem,seval,wX,hj,hj0,aF.frzRows ok,aF.allPlain ok,aF.allD ok,dz,PU,tf,CA,Br,w4,J6,cT,cU,tA,hc1,hlt2,hm3,hd,hle,hnle,hA,hAl,hAp.1,hAp.2];repeat' ((with_reducible refine gE ?_ ?_); kernel_rfl)
  simp only [go_sem,seval,hB,dR];repeat' ((with_reducible refine gE ?_ ?_); kernel_rfl)
  try simp only [go_sem,seval,wX,hi1,hj1,hij,hj,hj0,aF.frzRows ok,aF.all ok,aF.allPlain ok,aF.allD ok,dz,PU,tf,CA,Br,w4,J6,RN,cT,cU,tA,decide_not,xq,dR,R9,hBp.1,hBp.2]
  refine sA ok ?_;rw [<-hBe]
end
def GH (N:Nat) (a0:List ai) (a1:Int) (a2:Int) (r:List ai) (h:lH N a0 a1 a2=some r) :
  Con prog 190 [true,false,false] false [sO 4 (a0.map ai.row),vI a1,vI a2] (sO 4 (r.map ai.row)):=by
 unfold lH at h;obtain ⟨n,m,rfl,rfl,h1,h2,h3⟩:=Vu h;exact Ft ai.row ai.row_ok a0 n m r (ng h3).symm h1 h2
def fg (N:Nat):FnS:={ own:=[true,false,false],pure:=false,fn:=fun cs=>match cs with
 | [c0,c1,c2]=>(vH 4 ai.dec c0).bind fun q0=>(aH .i64 c1).bind fun q1=>(aH .i64 c2).bind fun q2=>(lH N q0 q1 q2).map fun r=>sO 4 (r.map ai.row)
 | _=>none }
theorem BV (N:Nat):(fg N).own=[true,false,false]:=rfl
theorem Bi (N:Nat):(fg N).pure=false:=rfl
theorem Bd (N:Nat):(fg N).peek=false:=rfl
attribute [go_sem] fg BV Bi Bd
def CC (N:Nat):aA prog 190 (fg N):=by
 refine ⟨fun cs r h=>?_,fun h=>by cases h⟩;simp only [fg] at h;split at h
 ·simp only [ck,cj] at h;obtain ⟨q0,h0,q1,h1,q2,h2,r',hr,rfl⟩:=h;exact (GH N q0 q1 q2 r' hr).argsO rfl (jP (pX ai.row_ok ai.dec_le h0) (qX (bz h1) (qX (bz h2) mZ)))
 ·cases h
@[go_sem] def PJ (N d f:Nat):Option FnS:=aw [(20,190,fg N)] d f
def Rb (N:Nat) (a0:List ai) (a1:Int) (r:(List ai) × Int) (h:tI N a0 a1=some r):Con prog 120 [true,false] false [sO 4 (a0.map ai.row),vI a1] (.tup [sO 4 (r.1.map ai.row),vI r.2]):=by
 refine Ap (G:=(PJ N)) (L:=noL) func120 rfl (by decide) (by kernel_rfl) (gc 20 (CC N) gn) (fun _ _ _ h=>by cases h) [] mix (nb rfl) ?_;rw [show gf [true,false] [sO 4 (a0.map ai.row),vI a1]=(af (af au 0 (.pal 0 [] 0 a0.length none)) 1 (vI a1)) from by funext t; match t with|0=>simp [gf,iW,jW,af]|1=>rfl|t+2=>rfl];rw [show R0 [true,false] [sO 4 (a0.map ai.row),vI a1]=upd RZ 0 (sO 4 (a0.map ai.row)) from by funext t; match t with|0=>rfl|1=>rfl|t+2=>rfl];simp only [f120];unfold tI at h;refine z0 ?_;obtain ⟨x1,hb1,hx2,h⟩:=aI h;refine z1 (k2 hb1 hx2) ?_;refine z0 ?_;refine cD h (fun hc3 hc3d h=>?_) fun hc3 hc3d h=>?_
 ·obtain ⟨r2,hr4,h⟩:=bI h;refine z1 (k2 hc3d hr4) ?_;refine eZ (pp ?_);cases h;simp only [go_sem,seval,dR];exact ⟨_,rfl,gK.h,qN.h⟩
 obtain ⟨x3,hb5,hx6,h⟩:=aI h;refine z1 (k5 hb1 hx2 hc3d hb5 hx6) ?_;obtain ⟨hs7,ht8,h⟩:=Q4 h;try simp only [cP] at hs7 ht8 h
 have hx10:=kq (y:=(ai.mk x1.Actor x3 x1.Waiters)) hx2;refine d1 (k5 hb1 hx2 hb5 hs7 (k5 @cU @cT @cr (mm2 (row:=ai.row) (y:=(ai.mk x1.Actor x3 x1.Waiters)) (rx:=[vS x1.Actor.Type_,vS x1.Actor.Key,vI x1.Owner,sF 1 (x1.Waiters.map (aB .i64))]) (ry:=[vS x1.Actor.Type_,vS x1.Actor.Key,vI x3,sF 1 (x1.Waiters.map (aB .i64))]) hx2 rfl rfl) (k2 hx10 (ov1 (row:=ai.row) (rx:=[vS x1.Actor.Type_,vS x1.Actor.Key,vI x3,sF 1 (x1.Waiters.map (aB .i64))]) hx10 rfl)))) ?_;refine z0 ?_;refine eZ (pp ?_);cases h;simp only [go_sem,seval,dR];exact ⟨_,rfl,gK.h,qN.h⟩
def ju (N:Nat):FnS:={ own:=[true,false],pure:=false,fn:=fun cs=>match cs with
 | [c0,c1]=>((vH 4 ai.dec) c0).bind fun q0=>((aH .i64) c1).bind fun q1=>(tI N q0 q1).map fun r=>.tup [sO 4 (r.1.map ai.row),vI r.2]
 | _=>none }
theorem It (N:Nat):(ju N).own=[true,false]:=rfl
theorem HI (N:Nat):(ju N).pure=false:=rfl
theorem Hw (N:Nat):(ju N).peek=false:=rfl
attribute [go_sem] ju It HI Hw
def Ch (N:Nat):aA prog 120 (ju N):=by
 refine ⟨fun cs r h=>?_,fun h=>by cases h⟩;simp only [ju] at h;split at h
 ·simp only [ck,cj] at h;obtain ⟨q0,h0,q1,h1,r',hr,rfl⟩:=h;exact (Rb N q0 q1 r' hr).argsO rfl (jP (pX ai.row_ok ai.dec_le h0) (qX (bz h1) (mZ)))
 ·cases h
@[go_sem] def H5 (N d f:Nat):Option FnS:=aw [(12,116,ld N),(15,117,j8 N),(37,120,ju N)] d f
def HT (N:Nat) (a0:List ai) (a1:Int) (r:(List ai) × (List ay)) (h:kL N a0 a1=some r):Con prog 51 [] false [sF 4 (a0.map ai.row),vI a1] (.tup [sO 4 (r.1.map ai.row),sO 3 (r.2.map ay.row)]):=by
 refine fk (G:=(H5 N)) func51 (gc 12 (km N) (gc 15 (jF N) (gc 37 (Ch N) gn))) ?_;simp only [f51];unfold kL at h;refine z0 ?_;obtain ⟨r1,hr1,h⟩:=bI h;refine z1 hr1 ?_;refine cM h (fun hc2 h=>?_) fun hc2 h=>?_
 ·refine z1 hc2 ?_;exact f0 h
 obtain ⟨r2,hr3,h⟩:=bI h;refine z1 (k2 hc2 hr3) ?_;refine z0 ?_;refine z0 ?_;refine aQ (gl (fun (b:List ai × List ay × Int)=>⟨tab 52 (af (af (af (af au 1 (vI a1)) 6 (.pal 15 [] 0 b.1.length none)) 7 (.pal 47 [] 0 b.2.1.length none)) 8 (vI b.2.2)),(upd (upd RZ 15 (sO 4 (b.1.map ai.row))) 47 (sO 3 (b.2.1.map ay.row)))⟩) (r2,[],0) h ?_ ?_)
 ·refine aX.trans (mR 7 47 3 (by simp only [go_sem,seval]) (by simp only [go_sem,seval])) ?_;exact wF (k3 hr1 hc2 hr3)
 rintro n ⟨l5,l6,v7⟩ h -;cases n with
 | zero=>simp [eE] at h
 | succ n=>
 simp only [eE] at h;refine z0 ?_;refine cDs h (fun hc4 hc4d h=>?_) fun hc4 hc4d h=>?_
 ·refine z1 hc4d ?_;exact f0 h
 obtain ⟨x3,hb5,hx6,h⟩:=aI h;refine z1 (k2 hb5 hx6) ?_;refine cN h (fun hc7 hc7d h=>?_) fun hc7 hc7d h=>?_
 ·refine z1 hc7d ?_;refine fx (pp (⟨_,cZ _,(l5,l6,IntKind.i64.wrap (v7+1)),?_,h⟩));exact wF (k5 hr1 hc2 hr3 hc4d (k3 hb5 hx6 hc7d))
 refine z1 (k3 hb5 hx6 hc7d) ?_;obtain ⟨r4,hr8,h⟩:=bI h;refine z1 hr8 ?_;refine z0 ?_;refine cNs h (fun hc9 hc9d h=>?_) fun hc9 hc9d h=>?_
 ·refine aU (pp (⟨_,cZ _,(r4.1,l6,v7),?_,h⟩));refine aX.trans (Og 6 37 [(0,0)] 15 (by decide) (by decide) (by simp only [go_sem,seval]) (by simp only [go_sem,seval]; rfl) (by simp only [go_sem,seval,hc9d]; rfl) (by simp) (by simp only [iZ,gX,go_sem,seval]; rfl) (by simp only [go_sem,seval]; rfl)) ?_;exact wF (k5 hr1 hc2 hr3 hc4d (k5 hb5 hx6 hc7d hr8 hc9d))
 obtain ⟨ha10,h⟩:=jR h;simp only [cG,cY,cV,Nat.reduceAdd] at ha10;refine z1 (k2 hc9d ha10) ?_;refine z0 ?_;refine ⟨_,cZ _,(r4.1,(l6++[(ay.mk x3.Actor r4.2)]),IntKind.i64.wrap (v7+1)),?_,h⟩;refine aX.trans (Og 6 37 [(0,0)] 15 (by decide) (by decide) (by simp only [go_sem,seval]) (by simp only [go_sem,seval]; rfl) (by simp only [go_sem,seval]; rfl) (by simp) (by simp only [iZ,gX,go_sem,seval]; rfl) (by simp only [go_sem,seval]; rfl)) ?_;refine wr ?_ ?_<;>repeat' first|rfl|constructor|simp only [go_sem,seval]
@[go_sem] def Ad (N:Nat):FnS:=⟨[],false,fn2 (aJ 4 ai.dec) (aH .i64) fun q0 q1=>(kL N q0 q1).map fun r=>.tup [sF 4 (r.1.map ai.row),sF 3 (r.2.map ay.row)],false⟩
def ET (N:Nat):aA prog 51 (Ad N):=om2 fun q0 q1 r h=>rs (HT N q0 q1 r h)
@[go_sem] def R5 (N d f:Nat):Option FnS:=aw [(13,23,lz N),(19,40,gD N),(24,48,B6 N),(27,49,B3 N),(37,50,Cb N),(50,51,Ad N)] d f
def RL (N:Nat) (a0:ae) (a1:Int) (r:ae × (List Int) × Int) (h:ky N a0 a1=some r):Con prog 20 [] false [.agg (ae.row a0),vI a1] (.tup [.agg (ae.row r.1),sF 1 (r.2.1.map (aB .i64)),vI r.2.2]):=by
 refine fk (G:=(R5 N)) func20 (gc 13 (j5 N) (gc 19 (eU N) (gc 24 (Gi N) (gc 27 (Dv N) (gc 37 (GR N) (gc 50 (ET N) gn)))))) ?_;simp only [f20];unfold ky at h;refine z0 ?_;obtain ⟨r1,hr1,h⟩:=bI h;refine z1 hr1 ?_;refine cM h (fun hc2 h=>?_) fun hc2 h=>?_
 ·refine z1 hc2 ?_;exact f0 h
 obtain ⟨r2,hr3,h⟩:=bI h;refine z1 (k2 hc2 hr3) ?_;refine cD h (fun hc4 hc4d h=>?_) fun hc4 hc4d h=>?_
 ·refine z1 hc4d ?_;exact f0 h
 obtain ⟨r3,hr5,h⟩:=bI h;refine z1 (k2 hc4d hr5) ?_;obtain ⟨r4,hr6,h⟩:=bI h;refine z1 hr6 ?_;refine z0 ?_;refine lTs 5 (fun (v8:Nat) (b:List ai)=>⟨tab 57 (af (af (af (af (af au 4 (pF 4)) 5 (sF 1 (r3.map (aB .i64)))) 28 (sF 1 (r3.map (aB .i64)))) 29 (vI (r3.length:Int))) 30 (vI (v8:Int))),(upd RZ 4 (vA 3 [sF 11 (r4.Txns.map Txn.row),sF 4 (b.map ai.row),sF 3 (r4.Stacks.map aa.row)]))⟩) r4.Locks h ?_ ?_
 ·rintro v8 l7 x11 hi9' hx10 hw11 h;simp only [oZ] at h;refine z1 hi9' ?_;refine ct ?_;refine z1 (k2 hx10 hi9') ?_;obtain ⟨r13,hr13,h⟩:=bI h;refine z1 hr13 ?_;refine z1 hw11 ?_;refine ⟨hi9',r13,?_,h⟩;exact wR
 rintro v8 l7 hi9' h;simp only [oZ] at h;refine z1 hi9' ?_;refine cf ?_;unfold Dh at h;refine z0 ?_;refine lT 5 (fun (v18:Nat) (b:List ai)=>⟨tab 57 (af (af (af (af (af au 4 (pF 4)) 5 (sF 1 (r3.map (aB .i64)))) 40 (sF 1 (r3.map (aB .i64)))) 41 (vI (r3.length:Int))) 42 (vI (v18:Int))),(upd RZ 4 (vA 3 [sF 11 (r4.Txns.map Txn.row),sF 4 (b.map ai.row),sF 3 (r4.Stacks.map aa.row)]))⟩) l7 h ?_ ?_
 ·rintro v18 l17 hi16' h;simp only [oY] at h;refine z1 hi16' ?_;refine cf ?_;refine z0 ?_;exact f0 h
 rintro v18 l17 x21 hi16' hx17 hw18 h;simp only [oY] at h;refine z1 hi16' ?_;refine ct ?_;refine z1 (k2 hx17 hi16') ?_;obtain ⟨r14,hr20,h⟩:=bI h;refine z1 hr20 ?_;refine z1 hw18 ?_;refine ⟨hi16',r14.1,?_,h⟩;exact wR
@[go_sem] def zY (N:Nat):FnS:=⟨[],false,fn2 ae.decA (aH .i64) fun q0 q1=>(ky N q0 q1).map fun r=>.tup [.agg (ae.row r.1),sF 1 (r.2.1.map (aB .i64)),vI r.2.2],false⟩
def zV (N:Nat):aA prog 20 (zY N):=om2 (RL N)
@[go_sem] def Ui (N d f:Nat):Option FnS:=aw [(12,23,lz N),(18,24,Bc N),(30,58,Ce N),(43,20,zY N),(52,59,pT N)] d f
def Uu (N:Nat) (a0:ae) (a1:Int) (r:ae × Int × (List Int) × Int) (h:gN N a0 a1=some r):Con prog 25 [] false [.agg (ae.row a0),vI a1] (.tup [.agg (ae.row r.1),vI r.2.1,sF 1 (r.2.2.1.map (aB .i64)),vI r.2.2.2]):=by
 refine fk (G:=(Ui N)) func25 (gc 12 (j5 N) (gc 18 (AL N) (gc 30 (Gx N) (gc 43 (zV N) (gc 52 (o9 N) gn))))) ?_;simp only [f25];unfold gN at h;refine z0 ?_;obtain ⟨r1,hr1,h⟩:=bI h;refine z1 hr1 ?_;refine cM h (fun hc2 h=>?_) fun hc2 h=>?_
 ·refine z1 hc2 ?_;exact f0 h
 obtain ⟨r2,hr3,h⟩:=bI h;refine z1 (k2 hc2 hr3) ?_;refine z0 ?_;refine cM h (fun hc4 h=>?_) fun hc4 h=>?_
 ·refine z1 hc4 ?_;exact f0 h
 obtain ⟨r3,hr5,h⟩:=bI h;refine z1 (k2 hc4 hr5) ?_;refine z0 ?_;refine cN h (fun hc6 hc6d h=>?_) fun hc6 hc6d h=>?_
 ·refine z1 hc6d ?_;exact f0 h
 refine z1 hc6d ?_;refine cD h (fun hc7 hc7d h=>?_) fun hc7 hc7d h=>?_
 ·obtain ⟨r4,hr8,h⟩:=bI h;refine z1 (k2 hc7d hr8) ?_;refine z0 ?_;exact f0 h
 obtain ⟨r5,hr9,h⟩:=bI h;refine z1 (k2 hc7d hr9) ?_;refine z0 ?_;refine z0 ?_;exact f0 h
@[go_sem] def wZ (N:Nat):FnS:=⟨[],false,fn2 ae.decA (aH .i64) fun q0 q1=>(gN N q0 q1).map fun r=>.tup [.agg (ae.row r.1),vI r.2.1,sF 1 (r.2.2.1.map (aB .i64)),vI r.2.2.2],false⟩
def wv (N:Nat):aA prog 25 (wZ N):=om2 (Uu N)
def Ul (N:Nat) (a0:Int) (r:Value) (h:lj N a0=some r):Con prog 34 [] true [vI a0] (.agg (Value.row r)):=by
 refine fk (G:=(aw [])) func34 gn ?_;simp only [f34];unfold lj at h;refine z0 ?_;refine z0 ?_;exact e0 h
@[go_sem] def qS (N:Nat):FnS:=⟨[],true,fn1 (aH .i64) fun q0=>(lj N q0).map fun r=>.agg (Value.row r),false⟩
def oq (N:Nat):aA prog 34 (qS N):=om1 (Ul N)
end
end Go.Proofs.YtmacaidmhchpgaaGreat
