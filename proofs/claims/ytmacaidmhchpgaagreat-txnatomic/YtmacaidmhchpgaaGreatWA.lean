/- Walks: each function computes its model. No condition. -/
import Derived.Test.YtmacaidmhchpgaaGreatB
/- Each Go function computes its model: proofs laid by a program of ours. -/
set_option linter.defProp false
set_option maxHeartbeats 40000000
set_option synthInstance.maxHeartbeats 2000000
set_option synthInstance.maxSize 4000
set_option linter.unusedSimpArgs false
set_option linter.unusedVariables false
set_option maxRecDepth 100000
namespace Go.Proofs.YtmacaidmhchpgaaGreat
open Go Go.Proofs Go.Abs Tryz
noncomputable section
def JZ (N:Nat) (a0:Value) (r:Bool) (h:gS N a0=some r):Con prog 61 [] true [.agg (Value.row a0)] (vB r):=by
 refine fk (G:=(aw [])) func61 gn ?_;simp only [f61];unfold gS at h;refine z0 ?_;refine aM ?_;apply aS (fun (c3:Bool)=>⟨tab 86 (af (af au 1 (pF 1)) 12 (vB c3)),(upd RZ 1 (vA 5 (Value.row a0)))⟩)
 ·intro hJ1;refine iD h (fun hc2 hc2d h=>?_) fun hc2 hc2d h=>?_
  ·refine z1 hc2d ?_;exact hJ1 _ true (wF hc2d) h
  refine z1 hc2d ?_;exact hJ1 _ (decide (5 < a0.Kind)) (wF hc2d) h
 intro c3 h;unfold qU at h;refine cB h (fun hc3 h=>?_) fun hc3 h=>?_
 ·refine z1 hc3 ?_;exact e0 h
 refine aZ (pp ?_);unfold qj at h;refine aM (aT ?_);apply aS (fun (c12:Bool)=>⟨tab 86 (af (af au 1 (pF 1)) 13 (vB c12)),(upd RZ 1 (vA 5 (Value.row a0)))⟩)
 ·intro hJ4;refine iD h (fun hc5 hc5d h=>?_) fun hc5 hc5d h=>?_
  ·refine z1 (k2 hc3 hc5d) ?_;exact hJ4 _ false (wF (k2 hc3 hc5d)) h
  refine iD h (fun hc6 hc6d h=>?_) fun hc6 hc6d h=>?_
  ·refine z1 (k3 hc3 hc5d hc6d) ?_;exact hJ4 _ false (wF (k3 hc3 hc5d hc6d)) h
  refine iDs h (fun hc7 hc7d h=>?_) fun hc7 hc7d h=>?_
  ·refine z1 (k4 hc3 hc5d hc6d hc7d) ?_;exact hJ4 _ true (wF (k4 hc3 hc5d hc6d hc7d)) h
  refine z1 (k4 hc3 hc5d hc6d hc7d) ?_;exact hJ4 _ (!decide (a0.N=1)) (wF (k4 hc3 hc5d hc6d hc7d)) h
 intro c12 h;unfold jH at h;refine cB h (fun hc8 h=>?_) fun hc8 h=>?_
 ·refine z1 hc8 ?_;exact e0 h
 apply aS (fun (c17:Bool)=>⟨tab 86 (af (af au 1 (pF 1)) 32 (vB c17)),(upd RZ 1 (vA 5 (Value.row a0)))⟩)
 ·intro hJ9;apply aS (fun (c18:Bool)=>⟨tab 86 (af (af au 1 (pF 1)) 32 (vB c18)),(upd RZ 1 (vA 5 (Value.row a0)))⟩)
  ·intro hJ10;refine iBs h (fun hc11 h=>?_) fun hc11 h=>?_
   ·refine z1 (k2 hc8 hc11) ?_;exact hJ10 _ (!decide (a0.Kind=3)) (wF (k3 hc3 hc8 hc11)) h
   refine z1 (k2 hc8 hc11) ?_;exact hJ10 _ false (wF (k3 hc3 hc8 hc11)) h
  intro c18 h;unfold ql at h;refine cB h (fun hc12 h=>?_) fun hc12 h=>?_
  ·refine aZ (pp (hJ9 _ true ?_ h));exact wF hc12
  apply aS (fun (c19:Bool)=>⟨tab 86 (af (af au 1 (pF 1)) 32 (vB c19)),(upd RZ 1 (vA 5 (Value.row a0)))⟩)
  ·intro hJ13;refine iD h (fun hc14 hc14d h=>?_) fun hc14 hc14d h=>?_
   ·refine z1 (k2 hc12 hc14d) ?_;exact hJ13 _ (!decide (a0.Kind=4)) (wF (k4 hc3 hc8 hc12 hc14d)) h
   refine z1 (k2 hc12 hc14d) ?_;exact hJ13 _ false (wF (k4 hc3 hc8 hc12 hc14d)) h
  intro c19 h;unfold qS at h;refine cB h (fun hc15 h=>?_) fun hc15 h=>?_
  ·refine aZ (pp (hJ9 _ true ?_ h));exact wF hc15
  refine iD h (fun hc16 hc16d h=>?_) fun hc16 hc16d h=>?_
  ·refine z1 (k2 hc15 hc16d) ?_;exact hJ9 _ (!decide (a0.Kind=5)) (wF (k5 hc3 hc8 hc12 hc15 hc16d)) h
  refine z1 (k2 hc15 hc16d) ?_;exact hJ9 _ false (wF (k5 hc3 hc8 hc12 hc15 hc16d)) h
 intro c17 h;unfold qx at h;refine cB h (fun hc17 h=>?_) fun hc17 h=>?_
 ·refine z1 hc17 ?_;exact e0 h
 refine aZ (pp ?_);unfold jF at h;refine aM ?_;apply aS (fun (c22:Bool)=>⟨tab 86 (af (af au 1 (pF 1)) 74 (vB c22)),(upd RZ 1 (vA 5 (Value.row a0)))⟩)
 ·intro hJ18;refine iD h (fun hc19 hc19d h=>?_) fun hc19 hc19d h=>?_
  ·refine z1 (k2 hc17 hc19d) ?_;exact hJ18 _ true (wF (k4 hc3 hc8 hc17 hc19d)) h
  refine iD h (fun hc20 hc20d h=>?_) fun hc20 hc20d h=>?_
  ·refine z1 (k3 hc17 hc19d hc20d) ?_;exact hJ18 _ true (wF (k5 hc3 hc8 hc17 hc19d hc20d)) h
  refine z1 (k3 hc17 hc19d hc20d) ?_;exact hJ18 _ (decide (16 < (a0.L.length:Int))) (wF (k5 hc3 hc8 hc17 hc19d hc20d)) h
 intro c22 h;unfold lK at h;refine cB h (fun hc21 h=>?_) fun hc21 h=>?_
 ·refine z1 hc21 ?_;exact e0 h
 unfold lM at h;refine z1 hc21 ?_;refine lT 76 (fun (v17:Nat) (b:Unit)=>⟨tab 86 (af (af (af au 76 (sF 1 (a0.L.map dE))) 77 (vI (a0.L.length:Int))) 78 (vI (v17:Int))),RZ⟩) () h ?_ ?_ (h0:=wF (k4 hc3 hc8 hc17 hc21))
 ·rintro v17 ⟨⟩ hi24' h;simp only [jx] at h;refine z1 hi24' ?_;refine cf ?_;refine z0 ?_;exact e0 h
 rintro v17 ⟨⟩ x20 hi24' hx25 hw26 h;simp only [jx] at h;refine z1 hi24' ?_;refine ct ?_;refine z1 (k2 hx25 hi24') ?_;refine z0 ?_;refine cD h (fun hc28 hc28d h=>?_) fun hc28 hc28d h=>?_
 ·refine z1 hc28d ?_;exact e0 h
 refine z1 (k2 hw26 hc28d) ?_;refine ⟨hi24',(),?_,h⟩;exact wF (k5 hc3 hc8 hc17 hc21 (k4 hx25 hi24' hw26 hc28d))
@[go_sem] def lH (N:Nat):FnS:=⟨[],true,fn1 Value.decA fun q0=>(gS N q0).map fun r=>vB r,false⟩
def lY (N:Nat):az prog 61 (lH N):=om1 (JZ N)
@[go_sem] def J6 (N d f:Nat):Option FnS:=aw [(8,61,lH N)] d f
def J0 (N:Nat) (a0:Value) (r:Bool) (h:mn N a0=some r):Con prog 213 [] true [.agg (Value.row a0)] (vB r):=by
 refine fk (G:=(J6 N)) func213 (gc 8 (lY N) gn) ?_;simp only [f213];unfold mn at h;refine z0 ?_;refine iD h (fun hc1 hc1d h=>?_) fun hc1 hc1d h=>?_
 ·refine z1 hc1d ?_;exact e0 h
 obtain ⟨r1,hr2,h⟩:=bI h;refine z1 (k2 hc1d hr2) ?_;exact e0 h
@[go_sem] def B3 (N:Nat):FnS:=⟨[],true,fn1 Value.decA fun q0=>(mn N q0).map fun r=>vB r,false⟩
def FB (N:Nat):az prog 213 (B3 N):=om1 (J0 N)
@[go_sem] def tp (N d f:Nat):Option FnS:=aw [(16,213,B3 N)] d f
def tN (N:Nat) (a0:List Value) (r:Int) (h:dA N a0=some r):Con prog 201 [] true [sF 5 (a0.map Value.row),.clo 213 []] (vI r):=by
 refine fk (G:=(tp N)) func201 (gc 16 (FB N) gn) ?_;simp only [f201];unfold dA at h;refine z0 ?_;refine z0 ?_;refine lT 0 (fun (v2:Nat) (b:Unit)=>⟨tab 19 (af (af (af (af au 0 (sF 5 (a0.map Value.row))) 1 (.clo 213 [])) 7 (vI (a0.length:Int))) 8 (vI (v2:Int))),RZ⟩) () h ?_ ?_
 ·rintro v2 ⟨⟩ hi3' h;simp only [b8] at h;refine z1 hi3' ?_;refine cf ?_;refine z0 ?_;exact e0 h
 rintro v2 ⟨⟩ x5 hi3' hx4 hw5 h;simp only [b8] at h;refine z1 hi3' ?_;refine ct ?_;refine z0 ?_;obtain ⟨r1,hr7,h⟩:=bI h;refine z1 (k3 hx4 hi3' hr7) ?_;refine cB h (fun hc8 h=>?_) fun hc8 h=>?_
 ·refine z1 hc8 ?_;exact e0 h
 refine z1 (k2 hw5 hc8) ?_;refine ⟨hi3',(),?_,h⟩;exact wR
@[go_sem] def fY (N:Nat):FnS:={ own:=[],pure:=true,fn:=fun cs=>match cs with
 | [c0,.clo 213 []]=>((aJ 5 Value.dec) c0).bind fun qc0=>(dA N qc0).map fun r=>vI r
 | _=>none }
def re (N:Nat):az prog 201 (fY N):=by
 refine ⟨fun cs r h=>?_,fun h=>by cases h⟩;simp only [fY] at h;split at h
 ·simp only [ck,cj] at h;obtain ⟨q0,h0,r',hr,rfl⟩:=h;exact (ag (tN N q0 r' hr))
 ·cases h
@[go_sem] def rO (N d f:Nat):Option FnS:=aw [(7,201,fY N)] d f
def rP (N:Nat) (a0:List Value) (r:Bool) (h:bu N a0=some r):Con prog 134 [] true [sF 5 (a0.map Value.row),.clo 213 []] (vB r):=by
 refine fk (G:=(rO N)) func134 (gc 7 (re N) gn) ?_;simp only [f134];unfold bu at h;refine z0 ?_;obtain ⟨r1,hr1,h⟩:=bI h;refine z1 hr1 ?_;exact e0 h
@[go_sem] def fm (N:Nat):FnS:={ own:=[],pure:=true,fn:=fun cs=>match cs with
 | [c0,.clo 213 []]=>((aJ 5 Value.dec) c0).bind fun qc0=>(bu N qc0).map fun r=>vB r
 | _=>none }
def pG (N:Nat):az prog 134 (fm N):=by
 refine ⟨fun cs r h=>?_,fun h=>by cases h⟩;simp only [fm] at h;split at h
 ·simp only [ck,cj] at h;obtain ⟨q0,h0,r',hr,rfl⟩:=h;exact (ag (rP N q0 r' hr))
 ·cases h
@[go_sem] def MK (N d f:Nat):Option FnS:=aw [(42,134,fm N)] d f
def LN (N:Nat) (a0:ah) (r:Bool) (h:p7 N a0=some r):Con prog 172 [] true [.agg (ah.row a0)] (vB r):=by
 refine fk (G:=(MK N)) func172 (gc 42 (pG N) gn) ?_;simp only [f172];unfold p7 at h;refine z0 ?_;refine aM ?_;apply aS (fun (c3:Bool)=>⟨tab 44 (af (af au 1 (pF 1)) 39 (vB c3)),(upd RZ 1 (vA 4 (ah.row a0)))⟩)
 ·intro hJ1;refine iD h (fun hc2 hc2d h=>?_) fun hc2 hc2d h=>?_
  ·refine z1 hc2d ?_;exact hJ1 _ true wR h
  refine iD h (fun hc3 hc3d h=>?_) fun hc3 hc3d h=>?_
  ·refine z1 (k2 hc2d hc3d) ?_;exact hJ1 _ true wR h
  refine iD h (fun hc4 hc4d h=>?_) fun hc4 hc4d h=>?_
  ·refine z1 (k3 hc2d hc3d hc4d) ?_;exact hJ1 _ true wR h
  refine iD h (fun hc5 hc5d h=>?_) fun hc5 hc5d h=>?_
  ·refine z1 (k4 hc2d hc3d hc4d hc5d) ?_;exact hJ1 _ true wR h
  refine iD h (fun hc6 hc6d h=>?_) fun hc6 hc6d h=>?_
  ·refine z1 (k5 hc2d hc3d hc4d hc5d hc6d) ?_;exact hJ1 _ true wR h
  refine z1 (k5 hc2d hc3d hc4d hc5d hc6d) ?_;exact hJ1 _ (decide (4 < (a0.Args.length:Int))) wR h
 intro c3 h;unfold iH at h;refine cB h (fun hc7 h=>?_) fun hc7 h=>?_
 ·refine z1 hc7 ?_;exact e0 h
 refine aZ (pp ?_);unfold iz at h;obtain ⟨r4,hr8,h⟩:=bI h;refine z1 (k2 hc7 hr8) ?_;exact e0 h
@[go_sem] def DO (N:Nat):FnS:=⟨[],true,fn1 ah.decA fun q0=>(p7 N q0).map fun r=>vB r,false⟩
def HP (N:Nat):az prog 172 (DO N):=om1 (LN N)
@[go_sem] def KN (N d f:Nat):Option FnS:=aw [(4,172,DO N)] d f
def LB (N:Nat) (a0:ah) (r:Bool) (h:oc N a0=some r):Con prog 171 [] true [.agg (ah.row a0)] (vB r):=by
 refine fk (G:=(KN N)) func171 (gc 4 (HP N) gn) ?_;simp only [f171];unfold oc at h;refine z0 ?_;obtain ⟨r1,hr1,h⟩:=bI h;refine z1 hr1 ?_;exact e0 h
@[go_sem] def Cl (N:Nat):FnS:=⟨[],true,fn1 ah.decA fun q0=>(oc N q0).map fun r=>vB r,false⟩
def GQ (N:Nat):az prog 171 (Cl N):=om1 (LB N)
@[go_sem] def rT (N d f:Nat):Option FnS:=aw [(16,171,Cl N)] d f
def rQ (N:Nat) (a0:List ah) (r:Int) (h:b9 N a0=some r):Con prog 203 [] true [sF 4 (a0.map ah.row),.clo 171 []] (vI r):=by
 refine fk (G:=(rT N)) func203 (gc 16 (GQ N) gn) ?_;simp only [f203];unfold b9 at h;refine z0 ?_;refine z0 ?_;refine lT 0 (fun (v2:Nat) (b:Unit)=>⟨tab 19 (af (af (af (af au 0 (sF 4 (a0.map ah.row))) 1 (.clo 171 [])) 7 (vI (a0.length:Int))) 8 (vI (v2:Int))),RZ⟩) () h ?_ ?_
 ·rintro v2 ⟨⟩ hi3' h;simp only [bF] at h;refine z1 hi3' ?_;refine cf ?_;refine z0 ?_;exact e0 h
 rintro v2 ⟨⟩ x5 hi3' hx4 hw5 h;simp only [bF] at h;refine z1 hi3' ?_;refine ct ?_;refine z0 ?_;obtain ⟨r1,hr7,h⟩:=bI h;refine z1 (k3 hx4 hi3' hr7) ?_;refine cB h (fun hc8 h=>?_) fun hc8 h=>?_
 ·refine z1 hc8 ?_;exact e0 h
 refine z1 (k2 hw5 hc8) ?_;refine ⟨hi3',(),?_,h⟩;exact wR
@[go_sem] def fq (N:Nat):FnS:={ own:=[],pure:=true,fn:=fun cs=>match cs with
 | [c0,.clo 171 []]=>((aJ 4 ah.dec) c0).bind fun qc0=>(b9 N qc0).map fun r=>vI r
 | _=>none }
def pB (N:Nat):az prog 203 (fq N):=by
 refine ⟨fun cs r h=>?_,fun h=>by cases h⟩;simp only [fq] at h;split at h
 ·simp only [ck,cj] at h;obtain ⟨q0,h0,r',hr,rfl⟩:=h;exact (ag (rQ N q0 r' hr))
 ·cases h
@[go_sem] def pI (N d f:Nat):Option FnS:=aw [(7,203,fq N)] d f
def pS (N:Nat) (a0:List ah) (r:Bool) (h:bn N a0=some r):Con prog 140 [] true [sF 4 (a0.map ah.row),.clo 171 []] (vB r):=by
 refine fk (G:=(pI N)) func140 (gc 7 (pB N) gn) ?_;simp only [f140];unfold bn at h;refine z0 ?_;obtain ⟨r1,hr1,h⟩:=bI h;refine z1 hr1 ?_;exact e0 h
@[go_sem] def eI (N:Nat):FnS:={ own:=[],pure:=true,fn:=fun cs=>match cs with
 | [c0,.clo 171 []]=>((aJ 4 ah.dec) c0).bind fun qc0=>(bn N qc0).map fun r=>vB r
 | _=>none }
def mM (N:Nat):az prog 140 (eI N):=by
 refine ⟨fun cs r h=>?_,fun h=>by cases h⟩;simp only [eI] at h;split at h
 ·simp only [ck,cj] at h;obtain ⟨q0,h0,r',hr,rfl⟩:=h;exact (ag (pS N q0 r' hr))
 ·cases h
@[go_sem] def Nm (N d f:Nat):Option FnS:=aw [(69,61,lH N),(85,140,eI N)] d f
def Nr (N:Nat) (a0:Txn) (r:Bool) (h:oM N a0=some r):Con prog 98 [] true [.agg (Txn.row a0)] (vB r):=by
 refine fk (G:=(Nm N)) func98 (gc 69 (lY N) (gc 85 (mM N) gn)) ?_;simp only [f98];unfold oM at h;refine z0 ?_;refine aM ?_;apply aS (fun (c3:Bool)=>⟨tab 87 (af (af au 1 (pF 1)) 42 (vB c3)),(upd RZ 1 (vA 11 (Txn.row a0)))⟩)
 ·intro hJ1;refine iD h (fun hc2 hc2d h=>?_) fun hc2 hc2d h=>?_
  ·refine z1 hc2d ?_;exact hJ1 _ true wR h
  refine iD h (fun hc3 hc3d h=>?_) fun hc3 hc3d h=>?_
  ·refine z1 (k2 hc2d hc3d) ?_;exact hJ1 _ true wR h
  refine iD h (fun hc4 hc4d h=>?_) fun hc4 hc4d h=>?_
  ·refine z1 (k3 hc2d hc3d hc4d) ?_;exact hJ1 _ true wR h
  refine iD h (fun hc5 hc5d h=>?_) fun hc5 hc5d h=>?_
  ·refine z1 (k4 hc2d hc3d hc4d hc5d) ?_;exact hJ1 _ true wR h
  refine iD h (fun hc6 hc6d h=>?_) fun hc6 hc6d h=>?_
  ·refine z1 (k5 hc2d hc3d hc4d hc5d hc6d) ?_;exact hJ1 _ true wR h
  refine iD h (fun hc7 hc7d h=>?_) fun hc7 hc7d h=>?_
  ·refine z1 (k5 hc2d hc3d hc4d hc5d (k2 hc6d hc7d)) ?_;exact hJ1 _ true wR h
  refine iD h (fun hc8 hc8d h=>?_) fun hc8 hc8d h=>?_
  ·refine z1 (k5 hc2d hc3d hc4d hc5d (k3 hc6d hc7d hc8d)) ?_;exact hJ1 _ true wR h
  refine z1 (k5 hc2d hc3d hc4d hc5d (k3 hc6d hc7d hc8d)) ?_;exact hJ1 _ (decide (1099511627776 < a0.Seq)) wR h
 intro c3 h;unfold fT at h;refine cB h (fun hc9 h=>?_) fun hc9 h=>?_
 ·refine z1 hc9 ?_;exact e0 h
 refine aZ (pp ?_);unfold fR at h;refine aM ?_;apply aS (fun (c8:Bool)=>⟨tab 87 (af (af au 1 (pF 1)) 82 (vB c8)),(upd RZ 1 (vA 11 (Txn.row a0)))⟩)
 ·intro hJ10;refine iD h (fun hc11 hc11d h=>?_) fun hc11 hc11d h=>?_
  ·refine z1 (k2 hc9 hc11d) ?_;exact hJ10 _ true wR h
  refine iD h (fun hc12 hc12d h=>?_) fun hc12 hc12d h=>?_
  ·refine z1 (k3 hc9 hc11d hc12d) ?_;exact hJ10 _ true wR h
  refine iD h (fun hc13 hc13d h=>?_) fun hc13 hc13d h=>?_
  ·refine z1 (k4 hc9 hc11d hc12d hc13d) ?_;exact hJ10 _ true wR h
  refine iD h (fun hc14 hc14d h=>?_) fun hc14 hc14d h=>?_
  ·refine z1 (k5 hc9 hc11d hc12d hc13d hc14d) ?_;exact hJ10 _ true wR h
  obtain ⟨r9,hr15,h⟩:=bI h;refine iBs h (fun hc16 h=>?_) fun hc16 h=>?_
  ·refine z1 (k5 hc9 hc11d hc12d hc13d (k3 hc14d hr15 hc16)) ?_;exact hJ10 _ true wR h
  refine iD h (fun hc17 hc17d h=>?_) fun hc17 hc17d h=>?_
  ·refine z1 (k5 hc9 hc11d hc12d hc13d (k4 hc14d hr15 hc16 hc17d)) ?_;exact hJ10 _ (!decide (a0.Last.Kind=0)) wR h
  refine z1 (k5 hc9 hc11d hc12d hc13d (k4 hc14d hr15 hc16 hc17d)) ?_;exact hJ10 _ false wR h
 intro c8 h;unfold gT at h;refine cB h (fun hc18 h=>?_) fun hc18 h=>?_
 ·refine z1 hc18 ?_;exact e0 h
 refine aZ (pp ?_);unfold gU at h;obtain ⟨r10,hr19,h⟩:=bI h;refine z1 (k2 hc18 hr19) ?_;exact e0 h
@[go_sem] def zt (N:Nat):FnS:=⟨[],true,fn1 Txn.decA fun q0=>(oM N q0).map fun r=>vB r,false⟩
def BG (N:Nat):az prog 98 (zt N):=om1 (Nr N)
@[go_sem] def MW (N d f:Nat):Option FnS:=aw [(14,98,zt N)] d f
def Mb (N:Nat) (a0:ae) (r:Bool) (h:ub N a0=some r):Con prog 52 [] true [.agg (ae.row a0)] (vB r):=by
 refine fk (G:=(MW N)) func52 (gc 14 (BG N) gn) ?_;simp only [f52];unfold ub at h;refine z0 ?_;refine z0 ?_;refine lT 6 (fun (v2:Nat) (b:Unit)=>⟨tab 37 (af (af (af (af au 1 (pF 1)) 6 (sF 11 (a0.Txns.map Txn.row))) 7 (vI (a0.Txns.length:Int))) 8 (vI (v2:Int))),(upd RZ 1 (vA 3 (ae.row a0)))⟩) () h ?_ ?_
 ·rintro v2 ⟨⟩ hi3' h;simp only [gB] at h;refine z1 hi3' ?_;refine cf ?_;refine z0 ?_;exact e0 h
 rintro v2 ⟨⟩ x5 hi3' hx4 hw5 h;simp only [gB] at h;refine z1 hi3' ?_;refine ct ?_;refine z1 (k2 hx4 hi3') ?_;apply aS (fun (c3:Bool)=>⟨tab 37 (af (af (af (af (af au 1 (pF 1)) 6 (sF 11 (a0.Txns.map Txn.row))) 7 (vI (a0.Txns.length:Int))) 8 (vI (v2:Int))) 31 (vB c3)),(upd RZ 1 (vA 3 (ae.row a0)))⟩)
 ·intro hJ7;obtain ⟨r4,hr8,h⟩:=bI h;refine lB fun Z hZ=>?_;simp only [go_sem,seval,hr8];repeat with_reducible refine fL (by kernel_rfl) ?_
  refine lq rfl (fun hc9=>?_) (fun hc9=>?_)
  ·rw [if_neg (ne_true_of_eq_false hc9)] at h;simp only [go_sem,seval,hc9];exact hZ _ (by kernel_rfl) (pp (hJ7 _ true wR h))
  rw [if_pos hc9] at h;simp only [go_sem,seval,hc9];refine lU rfl (fun hc10=>?_) (fun hc10=>?_)
  ·have hc10d:=decide_eq_true hc10;rw [if_pos hc10] at h;obtain ⟨x6,hb11,hx12,h⟩:=aG h;simp only [go_sem,seval,hc10d,hb11,hx12];exact hZ _ (by kernel_rfl) (pp (hJ7 _ (decide (x5.ID<=x6.ID)) wR h))
  have hc10d:=decide_eq_false hc10;rw [if_neg hc10] at h;simp only [go_sem,seval,hc10d];exact hZ _ (by kernel_rfl) (pp (hJ7 _ false wR h))
 intro c3 h;unfold ld at h;refine cB h (fun hc13 h=>?_) fun hc13 h=>?_
 ·refine z1 hc13 ?_;exact e0 h
 refine z1 (k2 hw5 hc13) ?_;refine ⟨hi3',(),?_,h⟩;exact wR
@[go_sem] def Dd (N:Nat):FnS:=⟨[],true,fn1 ae.decA fun q0=>(ub N q0).map fun r=>vB r,false⟩
def HH (N:Nat):az prog 52 (Dd N):=om1 (Mb N)
def I0 (N:Nat) (a0:Ref) (r:Bool) (h:ig N a0=some r):Con prog 124 [] true [.agg [vS a0.Type_,vS a0.Key]] (vB r):=by
 refine fk (G:=(aw [])) func124 gn ?_;simp only [f124];unfold ig at h;refine z0 ?_;refine iDs h (fun hc1 hc1d h=>?_) fun hc1 hc1d h=>?_
 ·refine z1 hc1d ?_;exact e0 h
 refine iD h (fun hc2 hc2d h=>?_) fun hc2 hc2d h=>?_
 ·refine z1 (k2 hc1d hc2d) ?_;exact e0 h
 refine z1 (k2 hc1d hc2d) ?_;exact e0 h
@[go_sem] def pt (N:Nat):FnS:=⟨[],true,fn1 Ref.decA fun q0=>(ig N q0).map fun r=>vB r,false⟩
def rq (N:Nat):az prog 124 (pt N):=om1 (I0 N)
def KH (N:Nat) (a0:Int) (r:Bool) (h:js N a0=some r):Con prog 125 [] true [vI a0] (vB r):=by
 refine fk (G:=(aw [])) func125 gn ?_;simp only [f125];unfold js at h;refine z0 ?_;refine iD h (fun hc1 hc1d h=>?_) fun hc1 hc1d h=>?_
 ·refine z1 hc1d ?_;exact e0 h
 refine z1 hc1d ?_;exact e0 h
@[go_sem] def rX (N:Nat):FnS:=⟨[],true,fn1 (aH .i64) fun q0=>(js N q0).map fun r=>vB r,false⟩
def tI (N:Nat):az prog 125 (rX N):=om1 (KH N)
@[go_sem] def JS (N d f:Nat):Option FnS:=aw [(7,124,pt N),(12,125,rX N)] d f
def JQ (N:Nat) (a0:ai) (r:Bool) (h:mg N a0=some r):Con prog 187 [] true [.agg (ai.row a0)] (vB r):=by
 refine fk (G:=(JS N)) func187 (gc 7 (rq N) (gc 12 (tI N) gn)) ?_;simp only [f187];unfold mg at h;refine z0 ?_;refine aM ?_;apply aS (fun (c7:Bool)=>⟨tab 52 (af (af au 1 (pF 1)) 20 (vB c7)),(upd RZ 1 (vA 4 (ai.row a0)))⟩)
 ·intro hJ1;obtain ⟨r8,hr2,h⟩:=bI h;refine iBs h (fun hc3 h=>?_) fun hc3 h=>?_
  ·refine z1 (k2 hr2 hc3) ?_;exact hJ1 _ true wR h
  obtain ⟨r9,hr4,h⟩:=bI h;refine iBs h (fun hc5 h=>?_) fun hc5 h=>?_
  ·refine z1 (k4 hr2 hc3 hr4 hc5) ?_;exact hJ1 _ true wR h
  refine z1 (k4 hr2 hc3 hr4 hc5) ?_;exact hJ1 _ (decide (32 < (a0.Waiters.length:Int))) wR h
 intro c7 h;unfold lP at h;refine cB h (fun hc6 h=>?_) fun hc6 h=>?_
 ·refine z1 hc6 ?_;exact e0 h
 unfold lN at h;refine z1 hc6 ?_;refine lT 22 (fun (v7:Nat) (b:Unit)=>⟨tab 52 (af (af (af (af au 1 (pF 1)) 22 (sF 1 (a0.Waiters.map (aB .i64)))) 23 (vI (a0.Waiters.length:Int))) 24 (vI (v7:Int))),(upd RZ 1 (vA 4 (ai.row a0)))⟩) () h ?_ ?_
 ·rintro v7 ⟨⟩ hi9' h;simp only [eY] at h;refine z1 hi9' ?_;refine cf ?_;refine z0 ?_;exact e0 h
 rintro v7 ⟨⟩ x10 hi9' hx10 hw11 h;simp only [eY] at h;refine z1 hi9' ?_;refine ct ?_;refine z1 (k2 hx10 hi9') ?_;apply aS (fun (c12:Bool)=>⟨tab 52 (af (af (af (af (af au 1 (pF 1)) 22 (sF 1 (a0.Waiters.map (aB .i64)))) 23 (vI (a0.Waiters.length:Int))) 24 (vI (v7:Int))) 50 (vB c12)),(upd RZ 1 (vA 4 (ai.row a0)))⟩)
 ·intro hJ13;refine iD h (fun hc14 hc14d h=>?_) fun hc14 hc14d h=>?_
  ·refine z1 hc14d ?_;exact hJ13 _ true wR h
  refine iD h (fun hc15 hc15d h=>?_) fun hc15 hc15d h=>?_
  ·refine z1 (k2 hc14d hc15d) ?_;exact hJ13 _ true wR h
  refine iD h (fun hc16 hc16d h=>?_) fun hc16 hc16d h=>?_
  ·obtain ⟨x13,hb17,hx18,h⟩:=aG h;refine z1 (k5 hc14d hc15d hc16d hb17 hx18) ?_;exact hJ13 _ (decide (x10<=x13)) wR h
  refine z1 (k3 hc14d hc15d hc16d) ?_;exact hJ13 _ false wR h
 intro c12 h;unfold ir at h;refine cB h (fun hc19 h=>?_) fun hc19 h=>?_
 ·refine z1 hc19 ?_;exact e0 h
 refine z1 (k2 hw11 hc19) ?_;refine ⟨hi9',(),?_,h⟩;exact wR
@[go_sem] def BX (N:Nat):FnS:=⟨[],true,fn1 ai.decA fun q0=>(mg N q0).map fun r=>vB r,false⟩
def FA (N:Nat):az prog 187 (BX N):=om1 (JQ N)
def IV (N:Nat) (a0:ByteArray) (r:Bool) (h:kW N a0=some r):Con prog 183 [] true [vS a0] (vB r):=by
 refine fk (G:=(aw [])) func183 gn ?_;simp only [f183];unfold kW at h;refine z0 ?_;refine z0 ?_;exact e0 h
@[go_sem] def uK (N:Nat):FnS:=⟨[],true,fn1 bR fun q0=>(kW N q0).map fun r=>vB r,false⟩
def wV (N:Nat):az prog 183 (uK N):=om1 (IV N)
@[go_sem] def Gb (N d f:Nat):Option FnS:=aw [(8,183,uK N),(10,183,uK N)] d f
def F8 (N:Nat) (a0:ByteArray) (a1:ByteArray) (r:Int) (h:fb N a0 a1=some r):Con prog 104 [] true [vS a0,vS a1] (vI r):=by
 refine fk (G:=(Gb N)) func104 (gc 8 (wV N) (gc 10 (wV N) gn)) ?_;simp only [f104];unfold fb at h;refine z0 ?_;obtain ⟨r1,hr1,h⟩:=bI h;refine z1 hr1 ?_;obtain ⟨r2,hr2,h⟩:=bI h;refine z1 hr2 ?_;refine z0 ?_;refine pc rfl (fun hc3=>?_) (fun hc3=>?_)
 ·first|rw [if_pos hc3] at h|simp only [hc3,nE,nD,nr,nU,nG,xb,nA,nX,ny,nV,cR,if_true,if_false] at h
  refine z1 hc3 ?_;refine pc rfl (fun hc4=>?_) (fun hc4=>?_)
  ·first|rw [if_pos hc4] at h|simp only [hc4,hc3,nE,nD,nr,nU,nG,xb,nA,nX,ny,nV,cR,if_true,if_false] at h
   refine z1 hc4 ?_;exact e0 h
  rw [if_neg (ne_true_of_eq_false hc4)] at h;refine z1 hc4 ?_;exact e0 h
 rw [if_neg (ne_true_of_eq_false hc3)] at h;refine z1 hc3 ?_;refine pc rfl (fun hc5=>?_) (fun hc5=>?_)
 ·first|rw [if_pos hc5] at h|simp only [hc5,hc3,nE,nD,nr,nU,nG,xb,nA,nX,ny,nV,cR,if_true,if_false] at h
  refine z1 hc5 ?_;exact e0 h
 rw [if_neg (ne_true_of_eq_false hc5)] at h;refine z1 hc5 ?_;refine pc rfl (fun hc6=>?_) (fun hc6=>?_)
 ·first|rw [if_pos hc6] at h|simp only [hc6,hc3,hc5,nE,nD,nr,nU,nG,xb,nA,nX,ny,nV,cR,if_true,if_false] at h
  refine z1 hc6 ?_;exact e0 h
 rw [if_neg (ne_true_of_eq_false hc6)] at h;refine z1 hc6 ?_;refine pU rfl (fun hc7=>?_) (fun hc7=>?_)
 ·first|rw [if_neg (ne_true_of_eq_false hc7)] at h|simp only [hc7,hc6,nE,cR,if_false] at h
  refine z1 hc7 ?_;exact e0 h
 simp only [hc7,hc6,nD,if_true] at h;refine z1 hc7 ?_;exact e0 h
@[go_sem] def jK (N:Nat):FnS:=⟨[],true,fn2 bR bR fun q0 q1=>(fb N q0 q1).map fun r=>vI r,false⟩
def kf (N:Nat):az prog 104 (jK N):=om2 (F8 N)
def Rx (N:Nat) (a0:List Int) (r:Int) (h:tO N a0=some r):Con prog 103 [] true [sF 1 (a0.map (aB .i64))] (vI r):=by
 refine fk (G:=(aw [])) func103 gn ?_;simp only [f103];unfold tO at h;refine z0 ?_;refine z0 ?_;refine z0 ?_;refine lT 0 (fun (v2:Nat) (b:Unit)=>⟨tab 18 (af (af (af (af au 3 (vI 0)) 6 (sF 1 (a0.map (aB .i64)))) 7 (vI (a0.length:Int))) 8 (vI (v2:Int))),RZ⟩) () h ?_ ?_
 ·rintro v2 ⟨⟩ hi3' h;simp only [pV] at h;refine z1 hi3' ?_;refine cf ?_;refine z0 ?_;exact e0 h
 rintro v2 ⟨⟩ x5 hi3' hx4 hw5 h;simp only [pV] at h;refine z1 hi3' ?_;refine ct ?_;refine z1 (k2 hx4 hi3') ?_;refine z0 ?_;refine cN h (fun hc7 hc7d h=>?_) fun hc7 hc7d h=>?_
 ·refine z1 hc7d ?_;exact e0 h
 refine z1 (k2 hw5 hc7d) ?_;refine ⟨hi3',(),?_,h⟩;exact wR
@[go_sem] def B4 (N:Nat):FnS:=⟨[],true,fn1 (aJ 1 (dq (aH .i64))) fun q0=>(tO N q0).map fun r=>vI r,false⟩
def Di (N:Nat):az prog 103 (B4 N):=om1 (Rx N)
@[go_sem] def Mo (N d f:Nat):Option FnS:=aw [(9,104,jK N),(14,104,jK N),(16,103,B4 N)] d f
def Me (N:Nat) (a0:Ref) (a1:Ref) (r:Int) (h:mC N a0 a1=some r):Con prog 188 [] true [.agg [vS a0.Type_,vS a0.Key],.agg [vS a1.Type_,vS a1.Key]] (vI r):=by
 refine fk (G:=(Mo N)) func188 (gc 9 (kf N) (gc 14 (kf N) (gc 16 (Di N) gn))) ?_;simp only [f188];unfold mC at h;refine z0 ?_;obtain ⟨r1,hr1,h⟩:=bI h;obtain ⟨r2,hr2,h⟩:=bI h;obtain ⟨r3,hr3,h⟩:=bI h;refine d1 (k3 hr1 hr2 hr3) ?_;exact e0 h
@[go_sem] def yU (N:Nat):FnS:=⟨[],true,fn2 Ref.decA Ref.decA fun q0 q1=>(mC N q0 q1).map fun r=>vI r,false⟩
def Aj (N:Nat):az prog 188 (yU N):=om2 (Me N)
@[go_sem] def OP (N d f:Nat):Option FnS:=aw [(16,187,BX N),(30,188,yU N)] d f
def Pl (N:Nat) (a0:List ai) (r:Bool) (h:ji N a0=some r):Con prog 116 [] true [sF 4 (a0.map ai.row)] (vB r):=by
 refine fk (G:=(OP N)) func116 (gc 16 (FA N) (gc 30 (Aj N) gn)) ?_;simp only [f116];unfold ji at h;refine z0 ?_;refine z0 ?_;refine cD h (fun hc1 hc1d h=>?_) fun hc1 hc1d h=>?_
 ·refine z1 hc1d ?_;exact e0 h
 refine z1 hc1d ?_;refine lT 0 (fun (v3:Nat) (b:Unit)=>⟨tab 35 (af (af (af (af au 0 (sF 4 (a0.map ai.row))) 8 (sF 4 (a0.map ai.row))) 9 (vI (a0.length:Int))) 10 (vI (v3:Int))),RZ⟩) () h ?_ ?_
 ·rintro v3 ⟨⟩ hi4' h;simp only [jv] at h;refine z1 hi4' ?_;refine cf ?_;refine z0 ?_;exact e0 h
 rintro v3 ⟨⟩ x6 hi4' hx5 hw6 h;simp only [jv] at h;refine z1 hi4' ?_;refine ct ?_;refine z1 (k2 hx5 hi4') ?_;apply aS (fun (c4:Bool)=>⟨tab 35 (af (af (af (af (af au 0 (sF 4 (a0.map ai.row))) 8 (sF 4 (a0.map ai.row))) 9 (vI (a0.length:Int))) 10 (vI (v3:Int))) 33 (vB c4)),RZ⟩)
 ·intro hJ8;obtain ⟨r5,hr9,h⟩:=bI h;refine lB fun Z hZ=>?_;simp only [go_sem,seval,hr9];repeat with_reducible refine fL (by kernel_rfl) ?_
  refine lq rfl (fun hc10=>?_) (fun hc10=>?_)
  ·rw [if_neg (ne_true_of_eq_false hc10)] at h;simp only [go_sem,seval,hc10];exact hZ _ (by kernel_rfl) (pp (hJ8 _ true wR h))
  rw [if_pos hc10] at h;simp only [go_sem,seval,hc10];refine lU rfl (fun hc11=>?_) (fun hc11=>?_)
  ·have hc11d:=decide_eq_true hc11;rw [if_pos hc11] at h;obtain ⟨x7,hb12,hx13,h⟩:=aG h;obtain ⟨r8,hr14,h⟩:=bI h;simp only [go_sem,seval,hc11d,hb12,hx13,hr14];repeat with_reducible refine fL (by kernel_rfl) ?_
   exact hZ _ (by kernel_rfl) (pp (hJ8 _ (decide (0<=r8)) wR h))
  have hc11d:=decide_eq_false hc11;rw [if_neg hc11] at h;simp only [go_sem,seval,hc11d];exact hZ _ (by kernel_rfl) (pp (hJ8 _ false wR h))
 intro c4 h;unfold oh at h;refine cB h (fun hc15 h=>?_) fun hc15 h=>?_
 ·refine z1 hc15 ?_;exact e0 h
 refine z1 (k2 hw6 hc15) ?_;refine ⟨hi4',(),?_,h⟩;exact wR
@[go_sem] def k8 (N:Nat):FnS:=⟨[],true,fn1 (aJ 4 ai.dec) fun q0=>(ji N q0).map fun r=>vB r,false⟩
def kv (N:Nat):az prog 116 (k8 N):=om1 (Pl N)
def O5 (N:Nat) (a0:Txn) (c0_0:Int) (r:Bool) (h:w7 N a0 c0_0=some r):Con prog 99 [] true [.agg (Txn.row a0),.iref 1 [[vI c0_0]] 0 0] (vB r):=by
 refine fk (G:=(aw [])) func99 gn ?_;simp only [f99];unfold w7 at h;refine z0 ?_;refine z0 ?_;exact e0 h
@[go_sem] def AY (N:Nat):FnS:={ own:=[],pure:=true,fn:=fun cs=>match cs with
 | [c0,.iref 1 [[c1_0]] 0 0]=>(Txn.decA c0).bind fun qc0=>((aH .i64) c1_0).bind fun qc1_0=>(w7 N qc0 qc1_0).map fun r=>vB r
 | _=>none }
def JW (N:Nat):az prog 99 (AY N):=by
 refine ⟨fun cs r h=>?_,fun h=>by cases h⟩;simp only [AY] at h;split at h
 ·simp only [ck,cj] at h;obtain ⟨q0,h0,q1,h1,r',hr,rfl⟩:=h;exact (ag (O5 N q0 q1 r' hr))
 ·cases h
@[go_sem] def wS (N d f:Nat):Option FnS:=aw [(16,99,AY N)] d f
def wO (N:Nat) (a0:List Txn) (k1_0_0:Int) (r:Int) (h:eE N a0 k1_0_0=some r):Con prog 71 [] true [sF 11 (a0.map Txn.row),.clo 99 [.iref 1 [[vI k1_0_0]] 0 0]] (vI r):=by
 refine fk (G:=(wS N)) func71 (gc 16 (JW N) gn) ?_;simp only [f71];unfold eE at h;refine z0 ?_;refine z0 ?_;refine lT 0 (fun (v2:Nat) (b:Unit)=>⟨tab 19 (af (af (af (af au 0 (sF 11 (a0.map Txn.row))) 1 (.clo 99 [.iref 1 [[vI k1_0_0]] 0 0])) 7 (vI (a0.length:Int))) 8 (vI (v2:Int))),RZ⟩) () h ?_ ?_
 ·rintro v2 ⟨⟩ hi3' h;simp only [dO] at h;refine z1 hi3' ?_;refine cf ?_;refine z0 ?_;exact e0 h
 rintro v2 ⟨⟩ x5 hi3' hx4 hw5 h;simp only [dO] at h;refine z1 hi3' ?_;refine ct ?_;refine z0 ?_;obtain ⟨r1,hr7,h⟩:=bI h;refine z1 (k3 hx4 hi3' hr7) ?_;refine cB h (fun hc8 h=>?_) fun hc8 h=>?_
 ·refine z1 hc8 ?_;exact e0 h
 refine z1 (k2 hw5 hc8) ?_;refine ⟨hi3',(),?_,h⟩;exact wR
@[go_sem] def iK (N:Nat):FnS:={ own:=[],pure:=true,fn:=fun cs=>match cs with
 | [c0,.clo 99 [.iref 1 [[k1_0_0]] 0 0]]=>((aJ 11 Txn.dec) c0).bind fun qc0=>((aH .i64) k1_0_0).bind fun qk1_0_0=>(eE N qc0 qk1_0_0).map fun r=>vI r
 | _=>none }
def uN (N:Nat):az prog 71 (iK N):=by
 refine ⟨fun cs r h=>?_,fun h=>by cases h⟩;simp only [iK] at h;split at h
 ·simp only [ck,cj] at h;obtain ⟨q0,h0,q1,h1,r',hr,rfl⟩:=h;exact (ag (wO N q0 q1 r' hr))
 ·cases h
@[go_sem] def R5 (N d f:Nat):Option FnS:=aw [(8,71,iK N)] d f
def R9 (N:Nat) (a0:ae) (a1:Int) (r:Int) (h:eW N a0 a1=some r):Con prog 40 [] true [.agg (ae.row a0),vI a1] (vI r):=by
 refine fk (G:=(R5 N)) func40 (gc 8 (uN N) gn) ?_;simp only [f40];unfold eW at h;refine z0 ?_;obtain ⟨r1,hr1,h⟩:=bI h;refine z1 hr1 ?_;exact e0 h
@[go_sem] def gC (N:Nat):FnS:=⟨[],true,fn2 ae.decA (aH .i64) fun q0 q1=>(eW N q0 q1).map fun r=>vI r,false⟩
def eV (N:Nat):az prog 40 (gC N):=om2 (R9 N)
@[go_sem] def Jf (N d f:Nat):Option FnS:=aw [(6,40,gC N)] d f
def IY (N:Nat) (a0:Int) (c0_0:List Txn) (c0_1:List ai) (c0_2:List aa) (r:Bool) (h:lx N a0 c0_0 c0_1 c0_2=some r):Con prog 122 [] true [vI a0,.iref 3 [[sF 11 (c0_0.map Txn.row),sF 4 (c0_1.map ai.row),sF 3 (c0_2.map aa.row)]] 0 0] (vB r):=by
 refine fk (G:=(Jf N)) func122 (gc 6 (eV N) gn) ?_;simp only [f122];unfold lx at h;refine z0 ?_;obtain ⟨r1,hr1,h⟩:=bI h;refine z1 hr1 ?_;exact e0 h
@[go_sem] def uP (N:Nat):FnS:={ own:=[],pure:=true,fn:=fun cs=>match cs with
 | [c0,.iref 3 [[c1_0,c1_1,c1_2]] 0 0]=>((aH .i64) c0).bind fun qc0=>((aJ 11 Txn.dec) c1_0).bind fun qc1_0=>((aJ 4 ai.dec) c1_1).bind fun qc1_1=>((aJ 3 aa.dec) c1_2).bind fun qc1_2=>(lx N qc0 qc1_0 qc1_1 qc1_2).map fun r=>vB r
 | _=>none }
def Fa (N:Nat):az prog 122 (uP N):=by
 refine ⟨fun cs r h=>?_,fun h=>by cases h⟩;simp only [uP] at h;split at h
 ·simp only [ck,cj] at h;obtain ⟨q0,h0,q1,h1,q2,h2,q3,h3,r',hr,rfl⟩:=h;exact (ag (IY N q0 q1 q2 q3 r' hr))
 ·cases h
@[go_sem] def tU (N d f:Nat):Option FnS:=aw [(16,122,uP N)] d f
def tV (N:Nat) (a0:List Int) (k1_0_0:List Txn) (k1_0_1:List ai) (k1_0_2:List aa) (r:Int) (h:dI N a0 k1_0_0 k1_0_1 k1_0_2=some r):Con prog 189 [] true [sF 1 (a0.map (aB .i64)),.clo 122 [.iref 3 [[sF 11 (k1_0_0.map Txn.row),sF 4 (k1_0_1.map ai.row),sF 3 (k1_0_2.map aa.row)]] 0 0]] (vI r):=by
 refine fk (G:=(tU N)) func189 (gc 16 (Fa N) gn) ?_;simp only [f189];unfold dI at h;refine z0 ?_;refine z0 ?_;refine lT 0 (fun (v2:Nat) (b:Unit)=>⟨tab 19 (af (af (af (af au 0 (sF 1 (a0.map (aB .i64)))) 1 (.clo 122 [.iref 3 [[sF 11 (k1_0_0.map Txn.row),sF 4 (k1_0_1.map ai.row),sF 3 (k1_0_2.map aa.row)]] 0 0])) 7 (vI (a0.length:Int))) 8 (vI (v2:Int))),RZ⟩) () h ?_ ?_
 ·rintro v2 ⟨⟩ hi3' h;simp only [dj] at h;refine z1 hi3' ?_;refine cf ?_;refine z0 ?_;exact e0 h
 rintro v2 ⟨⟩ x5 hi3' hx4 hw5 h;simp only [dj] at h;refine z1 hi3' ?_;refine ct ?_;refine z0 ?_;obtain ⟨r1,hr7,h⟩:=bI h;refine z1 (k3 hx4 hi3' hr7) ?_;refine cB h (fun hc8 h=>?_) fun hc8 h=>?_
 ·refine z1 hc8 ?_;exact e0 h
 refine z1 (k2 hw5 hc8) ?_;refine ⟨hi3',(),?_,h⟩;exact wR
@[go_sem] def gA (N:Nat):FnS:={ own:=[],pure:=true,fn:=fun cs=>match cs with
 | [c0,.clo 122 [.iref 3 [[k1_0_0,k1_0_1,k1_0_2]] 0 0]]=>((aJ 1 (dq (aH .i64))) c0).bind fun qc0=>((aJ 11 Txn.dec) k1_0_0).bind fun qk1_0_0=>((aJ 4 ai.dec) k1_0_1).bind fun qk1_0_1=>((aJ 3 aa.dec) k1_0_2).bind fun qk1_0_2=>(dI N qc0 qk1_0_0 qk1_0_1 qk1_0_2).map fun r=>vI r
 | _=>none }
def rL (N:Nat):az prog 189 (gA N):=by
 refine ⟨fun cs r h=>?_,fun h=>by cases h⟩;simp only [gA] at h;split at h
 ·simp only [ck,cj] at h;obtain ⟨q0,h0,q1,h1,q2,h2,q3,h3,r',hr,rfl⟩:=h;exact (ag (tV N q0 q1 q2 q3 r' hr))
 ·cases h
@[go_sem] def sg (N d f:Nat):Option FnS:=aw [(7,189,gA N)] d f
def sa (N:Nat) (a0:List Int) (k1_0_0:List Txn) (k1_0_1:List ai) (k1_0_2:List aa) (r:Bool) (h:dc N a0 k1_0_0 k1_0_1 k1_0_2=some r):Con prog 121 [] true [sF 1 (a0.map (aB .i64)),.clo 122 [.iref 3 [[sF 11 (k1_0_0.map Txn.row),sF 4 (k1_0_1.map ai.row),sF 3 (k1_0_2.map aa.row)]] 0 0]] (vB r):=by
 refine fk (G:=(sg N)) func121 (gc 7 (rL N) gn) ?_;simp only [f121];unfold dc at h;refine z0 ?_;obtain ⟨r1,hr1,h⟩:=bI h;refine z1 hr1 ?_;exact e0 h
@[go_sem] def fC (N:Nat):FnS:={ own:=[],pure:=true,fn:=fun cs=>match cs with
 | [c0,.clo 122 [.iref 3 [[k1_0_0,k1_0_1,k1_0_2]] 0 0]]=>((aJ 1 (dq (aH .i64))) c0).bind fun qc0=>((aJ 11 Txn.dec) k1_0_0).bind fun qk1_0_0=>((aJ 4 ai.dec) k1_0_1).bind fun qk1_0_1=>((aJ 3 aa.dec) k1_0_2).bind fun qk1_0_2=>(dc N qc0 qk1_0_0 qk1_0_1 qk1_0_2).map fun r=>vB r
 | _=>none }
def pN (N:Nat):az prog 121 (fC N):=by
 refine ⟨fun cs r h=>?_,fun h=>by cases h⟩;simp only [fC] at h;split at h
 ·simp only [ck,cj] at h;obtain ⟨q0,h0,q1,h1,q2,h2,q3,h3,r',hr,rfl⟩:=h;exact (ag (sa N q0 q1 q2 q3 r' hr))
 ·cases h
@[go_sem] def Ll (N d f:Nat):Option FnS:=aw [(7,116,k8 N),(19,40,gC N),(25,121,fC N)] d f
def K7 (N:Nat) (a0:ae) (r:Bool) (h:oD N a0=some r):Con prog 53 [] true [.agg (ae.row a0)] (vB r):=by
 refine fk (G:=(Ll N)) func53 (gc 7 (kv N) (gc 19 (eV N) (gc 25 (pN N) gn))) ?_;simp only [f53];unfold oD at h;refine z0 ?_;obtain ⟨r1,hr1,h⟩:=bI h;refine z1 hr1 ?_;refine cM h (fun hc2 h=>?_) fun hc2 h=>?_
 ·refine z1 hc2 ?_;exact e0 h
 refine z1 hc2 ?_;refine lT 6 (fun (v4:Nat) (b:Unit)=>⟨tab 28 (af (af (af (af au 1 (pF 1)) 10 (sF 4 (a0.Locks.map ai.row))) 11 (vI (a0.Locks.length:Int))) 12 (vI (v4:Int))),(upd RZ 1 (vA 3 (ae.row a0)))⟩) () h ?_ ?_
 ·rintro v4 ⟨⟩ hi5' h;simp only [iW] at h;refine z1 hi5' ?_;refine cf ?_;refine z0 ?_;exact e0 h
 rintro v4 ⟨⟩ x7 hi5' hx6 hw7 h;simp only [iW] at h;refine z1 hi5' ?_;refine ct ?_;refine z1 (k2 hx6 hi5') ?_;apply aS (fun (c4:Bool)=>⟨tab 28 (af (af (af (af (af au 1 (pF 1)) 10 (sF 4 (a0.Locks.map ai.row))) 11 (vI (a0.Locks.length:Int))) 12 (vI (v4:Int))) 26 (vB c4)),(upd RZ 1 (vA 3 (ae.row a0)))⟩)
 ·intro hJ9;obtain ⟨r5,hr10,h⟩:=bI h;refine iD h (fun hc11 hc11d h=>?_) fun hc11 hc11d h=>?_
  ·refine z1 (k2 hr10 hc11d) ?_;exact hJ9 _ true wR h
  obtain ⟨r6,hr12,h⟩:=bI h;refine z1 (k3 hr10 hc11d hr12) ?_;exact hJ9 _ r6 wR h
 intro c4 h;unfold wN at h;refine cB h (fun hc13 h=>?_) fun hc13 h=>?_
 ·refine z1 hc13 ?_;exact e0 h
 refine z1 (k2 hw7 hc13) ?_;refine ⟨hi5',(),?_,h⟩;exact wR
@[go_sem] def Ch (N:Nat):FnS:=⟨[],true,fn1 ae.decA fun q0=>(oD N q0).map fun r=>vB r,false⟩
def GJ (N:Nat):az prog 53 (Ch N):=om1 (K7 N)
@[go_sem] def HW (N d f:Nat):Option FnS:=aw [(4,61,lH N)] d f
def HU (N:Nat) (a0:Value) (r:Bool) (h:kn N a0=some r):Con prog 135 [] true [.agg (Value.row a0)] (vB r):=by
 refine fk (G:=(HW N)) func135 (gc 4 (lY N) gn) ?_;simp only [f135];unfold kn at h;refine z0 ?_;obtain ⟨r1,hr1,h⟩:=bI h;refine z1 hr1 ?_;exact e0 h
@[go_sem] def zZ (N:Nat):FnS:=⟨[],true,fn1 Value.decA fun q0=>(kn N q0).map fun r=>vB r,false⟩
def DV (N:Nat):az prog 135 (zZ N):=om1 (HU N)
@[go_sem] def sJ (N d f:Nat):Option FnS:=aw [(16,135,zZ N)] d f
def sN (N:Nat) (a0:List Value) (r:Int) (h:dg N a0=some r):Con prog 201 [] true [sF 5 (a0.map Value.row),.clo 135 []] (vI r):=by
 refine fk (G:=(sJ N)) func201 (gc 16 (DV N) gn) ?_;simp only [f201];unfold dg at h;refine z0 ?_;refine z0 ?_;refine lT 0 (fun (v2:Nat) (b:Unit)=>⟨tab 19 (af (af (af (af au 0 (sF 5 (a0.map Value.row))) 1 (.clo 135 [])) 7 (vI (a0.length:Int))) 8 (vI (v2:Int))),RZ⟩) () h ?_ ?_
 ·rintro v2 ⟨⟩ hi3' h;simp only [bL] at h;refine z1 hi3' ?_;refine cf ?_;refine z0 ?_;exact e0 h
 rintro v2 ⟨⟩ x5 hi3' hx4 hw5 h;simp only [bL] at h;refine z1 hi3' ?_;refine ct ?_;refine z0 ?_;obtain ⟨r1,hr7,h⟩:=bI h;refine z1 (k3 hx4 hi3' hr7) ?_;refine cB h (fun hc8 h=>?_) fun hc8 h=>?_
 ·refine z1 hc8 ?_;exact e0 h
 refine z1 (k2 hw5 hc8) ?_;refine ⟨hi3',(),?_,h⟩;exact wR
@[go_sem] def fA (N:Nat):FnS:={ own:=[],pure:=true,fn:=fun cs=>match cs with
 | [c0,.clo 135 []]=>((aJ 5 Value.dec) c0).bind fun qc0=>(dg N qc0).map fun r=>vI r
 | _=>none }
def pK (N:Nat):az prog 201 (fA N):=by
 refine ⟨fun cs r h=>?_,fun h=>by cases h⟩;simp only [fA] at h;split at h
 ·simp only [ck,cj] at h;obtain ⟨q0,h0,r',hr,rfl⟩:=h;exact (ag (sN N q0 r' hr))
 ·cases h
@[go_sem] def qA (N d f:Nat):Option FnS:=aw [(7,201,fA N)] d f
def qF (N:Nat) (a0:List Value) (r:Bool) (h:bQ N a0=some r):Con prog 134 [] true [sF 5 (a0.map Value.row),.clo 135 []] (vB r):=by
 refine fk (G:=(qA N)) func134 (gc 7 (pK N) gn) ?_;simp only [f134];unfold bQ at h;refine z0 ?_;obtain ⟨r1,hr1,h⟩:=bI h;refine z1 hr1 ?_;exact e0 h
@[go_sem] def eP (N:Nat):FnS:={ own:=[],pure:=true,fn:=fun cs=>match cs with
 | [c0,.clo 135 []]=>((aJ 5 Value.dec) c0).bind fun qc0=>(bQ N qc0).map fun r=>vB r
 | _=>none }
def oz (N:Nat):az prog 134 (eP N):=by
 refine ⟨fun cs r h=>?_,fun h=>by cases h⟩;simp only [eP] at h;split at h
 ·simp only [ck,cj] at h;obtain ⟨q0,h0,r',hr,rfl⟩:=h;exact (ag (qF N q0 r' hr))
 ·cases h
@[go_sem] def Kd (N d f:Nat):Option FnS:=aw [(8,134,eP N)] d f
def J9 (N:Nat) (a0:List Value) (r:Bool) (h:ke N a0=some r):Con prog 60 [] true [sF 5 (a0.map Value.row)] (vB r):=by
 refine fk (G:=(Kd N)) func60 (gc 8 (oz N) gn) ?_;simp only [f60];unfold ke at h;refine z0 ?_;refine iD h (fun hc1 hc1d h=>?_) fun hc1 hc1d h=>?_
 ·obtain ⟨r1,hr2,h⟩:=bI h;refine z1 (k2 hc1d hr2) ?_;exact e0 h
 refine z1 hc1d ?_;exact e0 h
@[go_sem] def ve (N:Nat):FnS:=⟨[],true,fn1 (aJ 5 Value.dec) fun q0=>(ke N q0).map fun r=>vB r,false⟩
def y9 (N:Nat):az prog 60 (ve N):=om1 (J9 N)
def HJ (N:Nat) (a0:al) (c0_0:Int) (c0_1:List Value) (c0_2:Bool) (r:Bool) (h:kz N a0 c0_0 c0_1 c0_2=some r):Con prog 192 [] true [.agg (al.row a0),.iref 3 [[vI c0_0,sF 5 (c0_1.map Value.row),vB c0_2]] 0 0] (vB r):=by
 refine fk (G:=(aw [])) func192 gn ?_;simp only [f192];unfold kz at h;refine z0 ?_;refine z0 ?_;exact e0 h
@[go_sem] def tl (N:Nat):FnS:={ own:=[],pure:=true,fn:=fun cs=>match cs with
 | [c0,.iref 3 [[c1_0,c1_1,c1_2]] 0 0]=>(al.decA c0).bind fun qc0=>((aH .i64) c1_0).bind fun qc1_0=>((aJ 5 Value.dec) c1_1).bind fun qc1_1=>(C9 c1_2).bind fun qc1_2=>(kz N qc0 qc1_0 qc1_1 qc1_2).map fun r=>vB r
 | _=>none }
def DX (N:Nat):az prog 192 (tl N):=by
 refine ⟨fun cs r h=>?_,fun h=>by cases h⟩;simp only [tl] at h;split at h
 ·simp only [ck,cj] at h;obtain ⟨q0,h0,q1,h1,q2,h2,q3,h3,r',hr,rfl⟩:=h;exact (ag (HJ N q0 q1 q2 q3 r' hr))
 ·cases h
@[go_sem] def sE (N d f:Nat):Option FnS:=aw [(16,192,tl N)] d f
def sZ (N:Nat) (a0:List al) (k1_0_0:Int) (k1_0_1:List Value) (k1_0_2:Bool) (r:Int) (h:de N a0 k1_0_0 k1_0_1 k1_0_2=some r):Con prog 186 [] true [sF 3 (a0.map al.row),.clo 192 [.iref 3 [[vI k1_0_0,sF 5 (k1_0_1.map Value.row),vB k1_0_2]] 0 0]] (vI r):=by
 refine fk (G:=(sE N)) func186 (gc 16 (DX N) gn) ?_;simp only [f186];unfold de at h;refine z0 ?_;refine z0 ?_;refine lT 0 (fun (v2:Nat) (b:Unit)=>⟨tab 19 (af (af (af (af au 0 (sF 3 (a0.map al.row))) 1 (.clo 192 [.iref 3 [[vI k1_0_0,sF 5 (k1_0_1.map Value.row),vB k1_0_2]] 0 0])) 7 (vI (a0.length:Int))) 8 (vI (v2:Int))),RZ⟩) () h ?_ ?_
 ·rintro v2 ⟨⟩ hi3' h;simp only [bN] at h;refine z1 hi3' ?_;refine cf ?_;refine z0 ?_;exact e0 h
 rintro v2 ⟨⟩ x5 hi3' hx4 hw5 h;simp only [bN] at h;refine z1 hi3' ?_;refine ct ?_;refine z0 ?_;obtain ⟨r1,hr7,h⟩:=bI h;refine z1 (k3 hx4 hi3' hr7) ?_;refine cB h (fun hc8 h=>?_) fun hc8 h=>?_
 ·refine z1 hc8 ?_;exact e0 h
 refine z1 (k2 hw5 hc8) ?_;refine ⟨hi3',(),?_,h⟩;exact wR
@[go_sem] def fE (N:Nat):FnS:={ own:=[],pure:=true,fn:=fun cs=>match cs with
 | [c0,.clo 192 [.iref 3 [[k1_0_0,k1_0_1,k1_0_2]] 0 0]]=>((aJ 3 al.dec) c0).bind fun qc0=>((aH .i64) k1_0_0).bind fun qk1_0_0=>((aJ 5 Value.dec) k1_0_1).bind fun qk1_0_1=>(C9 k1_0_2).bind fun qk1_0_2=>(de N qc0 qk1_0_0 qk1_0_1 qk1_0_2).map fun r=>vI r
 | _=>none }
def pJ (N:Nat):az prog 186 (fE N):=by
 refine ⟨fun cs r h=>?_,fun h=>by cases h⟩;simp only [fE] at h;split at h
 ·simp only [ck,cj] at h;obtain ⟨q0,h0,q1,h1,q2,h2,q3,h3,r',hr,rfl⟩:=h;exact (ag (sZ N q0 q1 q2 q3 r' hr))
 ·cases h
@[go_sem] def qn (N d f:Nat):Option FnS:=aw [(7,186,fE N)] d f
def qH (N:Nat) (a0:List al) (k1_0_0:Int) (k1_0_1:List Value) (k1_0_2:Bool) (r:Bool) (h:aX N a0 k1_0_0 k1_0_1 k1_0_2=some r):Con prog 191 [] true [sF 3 (a0.map al.row),.clo 192 [.iref 3 [[vI k1_0_0,sF 5 (k1_0_1.map Value.row),vB k1_0_2]] 0 0]] (vB r):=by
 refine fk (G:=(qn N)) func191 (gc 7 (pJ N) gn) ?_;simp only [f191];unfold aX at h;refine z0 ?_;obtain ⟨r1,hr1,h⟩:=bI h;refine z1 hr1 ?_;exact e0 h
@[go_sem] def eN (N:Nat):FnS:={ own:=[],pure:=true,fn:=fun cs=>match cs with
 | [c0,.clo 192 [.iref 3 [[k1_0_0,k1_0_1,k1_0_2]] 0 0]]=>((aJ 3 al.dec) c0).bind fun qc0=>((aH .i64) k1_0_0).bind fun qk1_0_0=>((aJ 5 Value.dec) k1_0_1).bind fun qk1_0_1=>(C9 k1_0_2).bind fun qk1_0_2=>(aX N qc0 qk1_0_0 qk1_0_1 qk1_0_2).map fun r=>vB r
 | _=>none }
def oo (N:Nat):az prog 191 (eN N):=by
 refine ⟨fun cs r h=>?_,fun h=>by cases h⟩;simp only [eN] at h;split at h
 ·simp only [ck,cj] at h;obtain ⟨q0,h0,q1,h1,q2,h2,q3,h3,r',hr,rfl⟩:=h;exact (ag (qH N q0 q1 q2 q3 r' hr))
 ·cases h
@[go_sem] def JY (N d f:Nat):Option FnS:=aw [(17,40,gC N),(22,60,ve N),(42,191,eN N)] d f
def JV (N:Nat) (a0:ae) (a1:List al) (r:Bool) (h:jZ N a0 a1=some r):Con prog 123 [] true [.agg (ae.row a0),sF 3 (a1.map al.row)] (vB r):=by
 refine fk (G:=(JY N)) func123 (gc 17 (eV N) (gc 22 (y9 N) (gc 42 (oo N) gn))) ?_;simp only [f123];unfold jZ at h;refine z0 ?_;refine z0 ?_;refine aT (gZ fun hreal2=>?_);have hl1:=hreal2.lenT 1 (by decide) (by simp only [go_sem,seval]; rfl);rw [cx] at hl1;refine tA (fun (v2:Nat) (b:Unit)=>⟨tab 48 (af (af (af (af (af au 1 (sF 3 (a1.map al.row))) 2 (pF 2)) 7 (sF 3 (a1.map al.row))) 8 (vI (a1.length:Int))) 9 (vI (v2:Int))),(upd RZ 2 (vA 3 (ae.row a0)))⟩) () h ?_ ?_
 ·refine wr ?_ ?_<;>repeat' first|rfl|constructor|simp only [go_sem,seval,nH,hU,nS,nT]
 rintro v2 ⟨⟩ hi3 h -;rcases (mR a1 v2 hi3).symm with ⟨hi3',_,hd6⟩|⟨x5,hi3',hx4,hd6⟩
 ·rw [hd6] at h;simp only [eu] at h;refine z1 hi3' ?_;refine cf ?_;refine z0 ?_;refine fe (pp ?_);cases h;simp (config := { maxSteps := 4000000 }) only [go_sem,seval];exact ⟨_,rfl,(by exact ROk.refl _),(by repeat' (first|exact bB.val _|refine bB.tup ?_|refine bB.agg ?_|exact vG|refine jc ?_ ?_))⟩
 rw [hd6] at h;simp only [eu] at h;have hw5:=eH hi3' hl1;refine z1 hi3' ?_;refine ct ?_;refine z1 (k2 hx4 hi3') ?_;apply aS (fun (c7:Bool)=>⟨tab 48 (af (af (af (af (af (af au 1 (sF 3 (a1.map al.row))) 2 (pF 2)) 7 (sF 3 (a1.map al.row))) 8 (vI (a1.length:Int))) 9 (vI (v2:Int))) 43 (vB c7)),(upd RZ 2 (vA 3 (ae.row a0)))⟩)
 ·intro hJ7;obtain ⟨r8,hr8,h⟩:=bI h;refine iL fun Z hZ=>?_;simp (config := { maxSteps := 4000000 }) only [go_sem,seval,hr8];refine lU rfl (fun hc9=>?_) (fun hc9=>?_)
  ·have hc9d:=decide_eq_true hc9;rw [if_pos hc9] at h;simp (config := { maxSteps := 4000000 }) only [go_sem,seval,hc9d];exact hZ _ (pp (hJ7 _ true (wF (k5 hx4 hi3' hw5 hr8 hc9d)) h))
  have hc9d:=decide_eq_false hc9;rw [if_neg hc9] at h;obtain ⟨r9,hr10,h⟩:=bI h;simp (config := { maxSteps := 4000000 }) only [go_sem,seval,hc9d,hr10];refine lq rfl (fun hc11=>?_) (fun hc11=>?_)
  ·first|rw [if_neg (ne_true_of_eq_false hc11)] at h|simp only [hc11,nE,nD,nr,nU,nG,xb,nA,nX,ny,nV,cR,if_true,if_false] at h
   simp (config := { maxSteps := 4000000 }) only [go_sem,seval,hc11];refine hZ _ (pp (hJ7 _ true ?_ h));exact wF (k5 hx4 hi3' hw5 hr8 (k3 hc9d hr10 hc11))
  rw [if_pos hc11] at h;simp (config := { maxSteps := 4000000 }) only [go_sem,seval,hc11];refine sw (lq rfl) (fun hc12=>?_) (fun hc12=>?_)
  ·first|rw [if_pos hc12] at h|simp only [hc12,hc11,nE,nD,nr,nU,nG,xb,nA,nX,ny,nV,cR,if_true,if_false] at h
   obtain ⟨hs16,h⟩:=iV h;try simp only [cH,xr,cU,nO] at hs16 h
   obtain ⟨r11,hr17,h⟩:=bI h;try simp only [hc12] at hr17
   simp (config := { maxSteps := 4000000 }) only [go_sem,seval,hc12,hs16,cU,hr17];refine hZ _ (pp (hJ7 _ r11 ?_ h));exact wF (k5 hx4 hi3' hw5 hr8 (k5 hc9d hr10 hc11 hc12 (k4 hs16 @cU @cT hr17)))
  rw [if_neg (ne_true_of_eq_false hc12)] at h;simp (config := { maxSteps := 4000000 }) only [go_sem,seval,hc12];refine lU rfl (fun hc13=>?_) (fun hc13=>?_)
  ·have hc13d:=decide_eq_true hc13;rw [if_pos hc13] at h;simp (config := { maxSteps := 4000000 }) only [go_sem,seval,hc13d];refine hZ _ (pp (hJ7 _ true ?_ h));exact wF (k5 hx4 hi3' hw5 hr8 (k5 hc9d hr10 hc11 hc12 hc13d))
  have hc13d:=decide_eq_false hc13;rw [if_neg hc13] at h;obtain ⟨hs14,h⟩:=iV h;try simp only [cH,xr,cU,nO] at hs14 h
  obtain ⟨r10,hr15,h⟩:=bI h;try simp only [hc12] at hr15
  simp (config := { maxSteps := 4000000 }) only [go_sem,seval,hc13d,hs14,cU,hr15];refine hZ _ (pp (hJ7 _ r10 ?_ h));exact wF (k5 hx4 hi3' hw5 hr8 (k5 hc9d hr10 hc11 hc12 (k5 hc13d hs14 @cU @cT hr15)))
 intro c7 h;unfold jJ at h;refine pc rfl (fun hc18=>?_) (fun hc18=>?_)
 ·first|rw [if_pos hc18] at h|simp only [hc18,nE,nD,nr,nU,nG,xb,nA,nX,ny,nV,cR,if_true,if_false] at h
  refine z1 hc18 ?_;refine fe (pp ?_);cases h;simp (config := { maxSteps := 4000000 }) only [go_sem,seval];exact ⟨_,rfl,(by exact ROk.refl _),(by repeat' (first|exact bB.val _|refine bB.tup ?_|refine bB.agg ?_|exact vG|refine jc ?_ ?_))⟩
 rw [if_neg (ne_true_of_eq_false hc18)] at h;refine z1 (k2 hw5 hc18) ?_;refine ⟨hi3',(),?_,h⟩;exact wF (k4 hx4 hi3' hw5 hc18)
@[go_sem] def Bp (N:Nat):FnS:=⟨[],true,fn2 ae.decA (aJ 3 al.dec) fun q0 q1=>(jZ N q0 q1).map fun r=>vB r,false⟩
def FI (N:Nat):az prog 123 (Bp N):=om2 (JV N)
@[go_sem] def N6 (N d f:Nat):Option FnS:=aw [(8,188,yU N)] d f
def N5 (N:Nat) (a0:ai) (a1:Ref) (r:Int) (h:oX N a0 a1=some r):Con prog 194 [] true [.agg (ai.row a0),.agg [vS a1.Type_,vS a1.Key]] (vI r):=by
 refine fk (G:=(N6 N)) func194 (gc 8 (Aj N) gn) ?_;simp only [f194];unfold oX at h;refine z0 ?_;obtain ⟨r1,hr1,h⟩:=bI h;refine z1 hr1 ?_;exact e0 h
@[go_sem] def zY (N:Nat):FnS:=⟨[],true,fn2 ai.decA Ref.decA fun q0 q1=>(oX N q0 q1).map fun r=>vI r,false⟩
def BV (N:Nat):az prog 194 (zY N):=om2 (N5 N)
@[go_sem] def sd (N d f:Nat):Option FnS:=aw [(30,194,zY N),(46,194,zY N)] d f
def sV (N:Nat) (a0:List ai) (a1:Ref) (r:Int × Bool) (h:dp N a0 a1=some r):Con prog 193 [] true [sF 4 (a0.map ai.row),.agg [vS a1.Type_,vS a1.Key],.clo 194 []] (.tup [vI r.1,vB r.2]):=by
 refine fk (G:=(sd N)) func193 (gc 30 (BV N) (gc 46 (BV N) gn)) ?_;simp only [f193];unfold dp at h;refine z0 ?_;refine z0 ?_;refine z0 ?_;refine aM (aT (gl (fun (b:Int × Int)=>⟨tab 49 (af (af (af (af (af (af au 0 (sF 4 (a0.map ai.row))) 2 (.clo 194 [])) 4 (pF 4)) 8 (vI (a0.length:Int))) 9 (vI b.1)) 10 (vI b.2)),(upd RZ 4 (vA 2 [vS a1.Type_,vS a1.Key]))⟩) (0,(a0.length:Int)) h ?_ ?_))
 ·exact wR
 rintro n ⟨v2,v3⟩ h -;cases n with
 | zero=>simp [aY] at h
 | succ n=>
 simp only [aY] at h;refine z0 ?_;refine cDs h (fun hc1 hc1d h=>?_) fun hc1 hc1d h=>?_
 ·refine gi (pp ?_);unfold dN at h;refine iD h (fun hc6 hc6d h=>?_) fun hc6 hc6d h=>?_
  ·obtain ⟨x11,hb7,hx8,h⟩:=aG h;obtain ⟨r12,hr9,h⟩:=bI h;refine d1 (k4 hc1d hb7 hx8 hr9) ?_;exact e0 h
  refine d1 (k2 hc1d hc6d) ?_;exact e0 h
 refine z1 hc1d ?_;obtain ⟨x9,hb2,hx3,h⟩:=aG h;obtain ⟨r10,hr4,h⟩:=bI h;refine d1 (k3 hb2 hx3 hr4) ?_;refine cD h (fun hc5 hc5d h=>?_) fun hc5 hc5d h=>?_
 ·refine z1 hc5d ?_;refine ⟨_,cZ _,(IntKind.i64.wrap ((IntKind.i64.wrap (jW .u64 (IntKind.u64.wrap (IntKind.i64.wrap (v2+v3))) 1))+1),v3),?_,h⟩;exact wR
 refine z1 hc5d ?_;refine ⟨_,cZ _,(v2,IntKind.i64.wrap (jW .u64 (IntKind.u64.wrap (IntKind.i64.wrap (v2+v3))) 1)),?_,h⟩;exact wR
@[go_sem] def fB (N:Nat):FnS:={ own:=[],pure:=true,fn:=fun cs=>match cs with
 | [c0,c1,.clo 194 []]=>((aJ 4 ai.dec) c0).bind fun qc0=>(Ref.decA c1).bind fun qc1=>(dp N qc0 qc1).map fun r=>.tup [vI r.1,vB r.2]
 | _=>none }
def pR (N:Nat):az prog 193 (fB N):=by
 refine ⟨fun cs r h=>?_,fun h=>by cases h⟩;simp only [fB] at h;split at h
 ·simp only [ck,cj] at h;obtain ⟨q0,h0,q1,h1,r',hr,rfl⟩:=h;exact (ag (sV N q0 q1 r' hr))
 ·cases h
@[go_sem] def RF (N d f:Nat):Option FnS:=aw [(8,193,fB N)] d f
def Qq (N:Nat) (a0:List ai) (a1:Ref) (r:Int × Bool) (h:qk N a0 a1=some r):Con prog 126 [] true [sF 4 (a0.map ai.row),.agg [vS a1.Type_,vS a1.Key]] (.tup [vI r.1,vB r.2]):=by
 refine fk (G:=(RF N)) func126 (gc 8 (pR N) gn) ?_;simp only [f126];unfold qk at h;refine z0 ?_;obtain ⟨r1,hr1,h⟩:=bI h;refine z1 hr1 ?_;exact e0 h
@[go_sem] def yr (N:Nat):FnS:=⟨[],true,fn2 (aJ 4 ai.dec) Ref.decA fun q0 q1=>(qk N q0 q1).map fun r=>.tup [vI r.1,vB r.2],false⟩
def yC (N:Nat):az prog 126 (yr N):=om2 (Qq N)
@[go_sem] def Pb (N d f:Nat):Option FnS:=aw [(8,116,k8 N),(13,126,yr N)] d f
def O6 (N:Nat) (a0:List ai) (a1:Ref) (r:Int) (h:m7 N a0 a1=some r):Con prog 62 [] true [sF 4 (a0.map ai.row),.agg [vS a1.Type_,vS a1.Key]] (vI r):=by
 refine fk (G:=(Pb N)) func62 (gc 8 (kv N) (gc 13 (yC N) gn)) ?_;simp only [f62];unfold m7 at h;refine z0 ?_;obtain ⟨r1,hr1,h⟩:=bI h;refine z1 hr1 ?_;refine cM h (fun hc2 h=>?_) fun hc2 h=>?_
 ·refine z1 hc2 ?_;exact e0 h
 obtain ⟨r2,hr3,h⟩:=bI h;refine z1 (k2 hc2 hr3) ?_;refine z0 ?_;refine cB h (fun hc4 h=>?_) fun hc4 h=>?_
 ·obtain ⟨x3,hb5,hx6,h⟩:=aG h;refine z1 (k3 hc4 hb5 hx6) ?_;exact e0 h
 refine z1 hc4 ?_;exact e0 h
@[go_sem] def AW (N:Nat):FnS:=⟨[],true,fn2 (aJ 4 ai.dec) Ref.decA fun q0 q1=>(m7 N q0 q1).map fun r=>vI r,false⟩
def Cj (N:Nat):az prog 62 (AW N):=om2 (O6 N)
def Ml (N:Nat) (a0:ah) (c0_0:ByteArray) (c0_1:ByteArray) (r:Bool) (h:uk N a0 c0_0 c0_1=some r):Con prog 141 [] true [.agg (ah.row a0),.iref 2 [[vS c0_0,vS c0_1]] 0 0] (vB r):=by
 refine fk (G:=(aw [])) func141 gn ?_;simp only [f141];unfold uk at h;refine z0 ?_;refine z0 ?_;exact e0 h
@[go_sem] def yQ (N:Nat):FnS:={ own:=[],pure:=true,fn:=fun cs=>match cs with
 | [c0,.iref 2 [[c1_0,c1_1]] 0 0]=>(ah.decA c0).bind fun qc0=>(bR c1_0).bind fun qc1_0=>(bR c1_1).bind fun qc1_1=>(uk N qc0 qc1_0 qc1_1).map fun r=>vB r
 | _=>none }
def HF (N:Nat):az prog 141 (yQ N):=by
 refine ⟨fun cs r h=>?_,fun h=>by cases h⟩;simp only [yQ] at h;split at h
 ·simp only [ck,cj] at h;obtain ⟨q0,h0,q1,h1,q2,h2,r',hr,rfl⟩:=h;exact (ag (Ml N q0 q1 q2 r' hr))
 ·cases h
@[go_sem] def sx (N d f:Nat):Option FnS:=aw [(16,141,yQ N)] d f
def sr (N:Nat) (a0:List ah) (k1_0_0:ByteArray) (k1_0_1:ByteArray) (r:Int) (h:dh N a0 k1_0_0 k1_0_1=some r):Con prog 203 [] true [sF 4 (a0.map ah.row),.clo 141 [.iref 2 [[vS k1_0_0,vS k1_0_1]] 0 0]] (vI r):=by
 refine fk (G:=(sx N)) func203 (gc 16 (HF N) gn) ?_;simp only [f203];unfold dh at h;refine z0 ?_;refine z0 ?_;refine lT 0 (fun (v2:Nat) (b:Unit)=>⟨tab 19 (af (af (af (af au 0 (sF 4 (a0.map ah.row))) 1 (.clo 141 [.iref 2 [[vS k1_0_0,vS k1_0_1]] 0 0])) 7 (vI (a0.length:Int))) 8 (vI (v2:Int))),RZ⟩) () h ?_ ?_
 ·rintro v2 ⟨⟩ hi3' h;simp only [bP] at h;refine z1 hi3' ?_;refine cf ?_;refine z0 ?_;exact e0 h
 rintro v2 ⟨⟩ x5 hi3' hx4 hw5 h;simp only [bP] at h;refine z1 hi3' ?_;refine ct ?_;refine z0 ?_;obtain ⟨r1,hr7,h⟩:=bI h;refine z1 (k3 hx4 hi3' hr7) ?_;refine cB h (fun hc8 h=>?_) fun hc8 h=>?_
 ·refine z1 hc8 ?_;exact e0 h
 refine z1 (k2 hw5 hc8) ?_;refine ⟨hi3',(),?_,h⟩;exact wR
@[go_sem] def fF (N:Nat):FnS:={ own:=[],pure:=true,fn:=fun cs=>match cs with
 | [c0,.clo 141 [.iref 2 [[k1_0_0,k1_0_1]] 0 0]]=>((aJ 4 ah.dec) c0).bind fun qc0=>(bR k1_0_0).bind fun qk1_0_0=>(bR k1_0_1).bind fun qk1_0_1=>(dh N qc0 qk1_0_0 qk1_0_1).map fun r=>vI r
 | _=>none }
def pP (N:Nat):az prog 203 (fF N):=by
 refine ⟨fun cs r h=>?_,fun h=>by cases h⟩;simp only [fF] at h;split at h
 ·simp only [ck,cj] at h;obtain ⟨q0,h0,q1,h1,q2,h2,r',hr,rfl⟩:=h;exact (ag (sr N q0 q1 q2 r' hr))
 ·cases h
@[go_sem] def qC (N d f:Nat):Option FnS:=aw [(7,203,fF N)] d f
def qq (N:Nat) (a0:List ah) (k1_0_0:ByteArray) (k1_0_1:ByteArray) (r:Bool) (h:bO N a0 k1_0_0 k1_0_1=some r):Con prog 140 [] true [sF 4 (a0.map ah.row),.clo 141 [.iref 2 [[vS k1_0_0,vS k1_0_1]] 0 0]] (vB r):=by
 refine fk (G:=(qC N)) func140 (gc 7 (pP N) gn) ?_;simp only [f140];unfold bO at h;refine z0 ?_;obtain ⟨r1,hr1,h⟩:=bI h;refine z1 hr1 ?_;exact e0 h
@[go_sem] def eS (N:Nat):FnS:={ own:=[],pure:=true,fn:=fun cs=>match cs with
 | [c0,.clo 141 [.iref 2 [[k1_0_0,k1_0_1]] 0 0]]=>((aJ 4 ah.dec) c0).bind fun qc0=>(bR k1_0_0).bind fun qk1_0_0=>(bR k1_0_1).bind fun qk1_0_1=>(bO N qc0 qk1_0_0 qk1_0_1).map fun r=>vB r
 | _=>none }
def oq (N:Nat):az prog 140 (eS N):=by
 refine ⟨fun cs r h=>?_,fun h=>by cases h⟩;simp only [eS] at h;split at h
 ·simp only [ck,cj] at h;obtain ⟨q0,h0,q1,h1,q2,h2,r',hr,rfl⟩:=h;exact (ag (qq N q0 q1 q2 r' hr))
 ·cases h
@[go_sem] def O3 (N d f:Nat):Option FnS:=aw [(7,140,eS N)] d f
def O9 (N:Nat) (a0:List ah) (a1:Ref) (r:Bool) (h:m8 N a0 a1=some r):Con prog 68 [] true [sF 4 (a0.map ah.row),.agg [vS a1.Type_,vS a1.Key]] (vB r):=by
 refine fk (G:=(O3 N)) func68 (gc 7 (oq N) gn) ?_;simp only [f68];unfold m8 at h;refine z0 ?_;obtain ⟨r1,hr1,h⟩:=bI h;refine z1 hr1 ?_;exact e0 h
@[go_sem] def AS (N:Nat):FnS:=⟨[],true,fn2 (aJ 4 ah.dec) Ref.decA fun q0 q1=>(m8 N q0 q1).map fun r=>vB r,false⟩
def Cv (N:Nat):az prog 68 (AS N):=om2 (O9 N)
@[go_sem] def OU (N d f:Nat):Option FnS:=aw [(9,104,jK N),(14,104,jK N),(16,103,B4 N)] d f
def HE (N:Nat) (a0:Ref) (a1:Ref) (r:Int) (h:gE N a0 a1=some r):Con prog 43 [] true [.agg [vS a0.Type_,vS a0.Key],.agg [vS a1.Type_,vS a1.Key]] (vI r):=by
 refine fk (G:=(OU N)) func43 (gc 9 (kf N) (gc 14 (kf N) (gc 16 (Di N) gn))) ?_;simp only [f43];unfold gE at h;refine z0 ?_;obtain ⟨r1,hr1,h⟩:=bI h;obtain ⟨r2,hr2,h⟩:=bI h;obtain ⟨r3,hr3,h⟩:=bI h;refine d1 (k3 hr1 hr2 hr3) ?_;exact e0 h
@[go_sem] def vX (N:Nat):FnS:=⟨[],true,fn2 Ref.decA Ref.decA fun q0 q1=>(gE N q0 q1).map fun r=>vI r,false⟩
def wI (N:Nat):az prog 43 (vX N):=om2 (HE N)
@[go_sem] def JR (N d f:Nat):Option FnS:=aw [(36,123,Bp N),(55,62,AW N),(72,40,gC N),(82,68,AS N),(29,43,vX N)] d f
def JT (N:Nat) (a0:ae) (r:Bool) (h:mv N a0=some r):Con prog 54 [] true [.agg (ae.row a0)] (vB r):=by
 refine fk (G:=(JR N)) func54 (gc 36 (FI N) (gc 55 (Cj N) (gc 72 (eV N) (gc 82 (Cv N) (gc 29 (wI N) gn))))) ?_;simp only [f54];unfold mv at h;refine z0 ?_;refine z0 ?_;refine lT 10 (fun (v2:Nat) (b:Unit)=>⟨tab 98 (af (af (af (af au 1 (pF 1)) 10 (sF 3 (a0.Stacks.map aa.row))) 11 (vI (a0.Stacks.length:Int))) 12 (vI (v2:Int))),(upd RZ 1 (vA 3 (ae.row a0)))⟩) () h ?_ ?_
 ·rintro v2 ⟨⟩ hi3' h;simp only [ew] at h;refine z1 hi3' ?_;refine cf ?_;refine z0 ?_;exact e0 h
 rintro v2 ⟨⟩ x5 hi3' hx4 hw5 h;simp only [ew] at h;refine z1 hi3' ?_;refine ct ?_;refine z1 (k2 hx4 hi3') ?_;refine aM ?_;apply aS (fun (c11:Bool)=>⟨tab 98 (af (af (af (af (af (af au 1 (pF 1)) 4 (pF 4)) 10 (sF 3 (a0.Stacks.map aa.row))) 11 (vI (a0.Stacks.length:Int))) 12 (vI (v2:Int))) 38 (vB c11)),(upd (upd RZ 1 (vA 3 (ae.row a0))) 4 (vA 3 (aa.row x5)))⟩)
 ·intro hJ7;refine lB fun Z hZ=>?_;simp only [go_sem,seval];refine sw (lU rfl) (fun hc8=>?_) (fun hc8=>?_)
  ·have hc8d:=decide_eq_false hc8;rw [if_neg hc8] at h;obtain ⟨r15,hr14,h⟩:=bI h;simp only [go_sem,seval,hc8d,hr14];repeat with_reducible refine fL (by kernel_rfl) ?_
   exact hZ _ (by kernel_rfl) (pp (hJ7 _ (!r15) wR h))
  have hc8d:=decide_eq_true hc8;rw [if_pos hc8] at h;obtain ⟨x12,hb9,hx10,h⟩:=aG h;obtain ⟨r13,hr11,h⟩:=bI h;simp only [go_sem,seval,hc8d,hb9,hx10,hr11];repeat with_reducible refine fL (by kernel_rfl) ?_
  refine lU rfl (fun hc12=>?_) (fun hc12=>?_)
  ·have hc12d:=decide_eq_true hc12;rw [if_pos hc12] at h;simp only [go_sem,seval,hc12d];exact hZ _ (by kernel_rfl) (pp (hJ7 _ true wR h))
  have hc12d:=decide_eq_false hc12;rw [if_neg hc12] at h;obtain ⟨r14,hr13,h⟩:=bI h;simp only [go_sem,seval,hc12d,hr13];repeat with_reducible refine fL (by kernel_rfl) ?_
  exact hZ _ (by kernel_rfl) (pp (hJ7 _ (!r14) wR h))
 intro c11 h;unfold ju at h;refine cB h (fun hc15 h=>?_) fun hc15 h=>?_
 ·refine z1 hc15 ?_;exact e0 h
 refine aZ (pp ?_);unfold jA at h;obtain ⟨x16,hb16,hx17,h⟩:=aG h;refine z1 (k3 hc15 hb16 hx17) ?_;refine aM ?_;apply aS (fun (c21:Bool)=>⟨tab 98 (af (af (af (af (af (af au 1 (pF 1)) 4 (pF 4)) 10 (sF 3 (a0.Stacks.map aa.row))) 11 (vI (a0.Stacks.length:Int))) 12 (vI (v2:Int))) 59 (vB c21)),(upd (upd RZ 1 (vA 3 (ae.row a0))) 4 (vA 3 (aa.row x5)))⟩)
 ·intro hJ18;refine iBs h (fun hc19 h=>?_) fun hc19 h=>?_
  ·obtain ⟨r22,hr20,h⟩:=bI h;refine d1 (k2 hc19 hr20) ?_;exact hJ18 _ (!decide (r22=x16.Txn_)) wR h
  refine d1 hc19 ?_;exact hJ18 _ false wR h
 intro c21 h;unfold lV at h;refine cB h (fun hc21 h=>?_) fun hc21 h=>?_
 ·refine z1 hc21 ?_;exact e0 h
 unfold lI at h;refine z1 hc21 ?_;refine lT 61 (fun (v20:Nat) (b:Unit)=>⟨tab 98 (af (af (af (af (af (af (af (af au 1 (pF 1)) 4 (pF 4)) 10 (sF 3 (a0.Stacks.map aa.row))) 11 (vI (a0.Stacks.length:Int))) 12 (vI (v2:Int))) 61 (sF 3 (x5.Layers.map al.row))) 62 (vI (x5.Layers.length:Int))) 63 (vI (v20:Int))),(upd (upd RZ 1 (vA 3 (ae.row a0))) 4 (vA 3 (aa.row x5)))⟩) () h ?_ ?_
 ·rintro v20 ⟨⟩ hi24' h;simp only [eX] at h;refine z1 hi24' ?_;refine cf ?_;refine z1 hw5 ?_;refine ⟨hi3',(),?_,h⟩;exact wR
 rintro v20 ⟨⟩ x23 hi24' hx25 hw26 h;simp only [eX] at h;refine z1 hi24' ?_;refine ct ?_;refine z1 (k2 hx25 hi24') ?_;obtain ⟨r23,hr28,h⟩:=bI h;obtain ⟨x24,hb29,hx30,h⟩:=aG h;refine d1 (k3 hr28 hb29 hx30) ?_;apply aS (fun (c27:Bool)=>⟨tab 98 (af (af (af (af (af (af (af (af (af au 1 (pF 1)) 4 (pF 4)) 10 (sF 3 (a0.Stacks.map aa.row))) 11 (vI (a0.Stacks.length:Int))) 12 (vI (v2:Int))) 61 (sF 3 (x5.Layers.map al.row))) 62 (vI (x5.Layers.length:Int))) 63 (vI (v20:Int))) 95 (vB c27)),(upd (upd RZ 1 (vA 3 (ae.row a0))) 4 (vA 3 (aa.row x5)))⟩)
 ·intro hJ31;obtain ⟨hs32,h⟩:=iV h;try simp only [xr,cU,nO] at hs32 h
  obtain ⟨r28,hr33,h⟩:=bI h;refine lB fun Z hZ=>?_;simp only [go_sem,seval,hs32,cU,hr33];repeat with_reducible refine fL (by kernel_rfl) ?_
  refine lq rfl (fun hc34=>?_) (fun hc34=>?_)
  ·rw [if_neg (ne_true_of_eq_false hc34)] at h;simp only [go_sem,seval,hc34];exact hZ _ (by kernel_rfl) (pp (hJ31 _ true wR h))
  rw [if_pos hc34] at h;simp only [go_sem,seval,hc34];refine Ph rfl (fun hc35=>?_) (fun hc35=>?_)
  ·rw [if_pos hc35] at h;simp only [go_sem,seval,hc35];repeat with_reducible refine fL (by kernel_rfl) ?_
   exact hZ _ (by kernel_rfl) (pp (hJ31 _ (decide (x24.Done < (x24.Calls.length:Int))) wR h))
  rw [if_neg (ne_true_of_eq_false hc35)] at h;simp only [go_sem,seval,hc35];exact hZ _ (by kernel_rfl) (pp (hJ31 _ false wR h))
 intro c27 h;unfold jG at h;refine cB h (fun hc36 h=>?_) fun hc36 h=>?_
 ·refine z1 hc36 ?_;exact e0 h
 refine z1 (k2 hw26 hc36) ?_;refine ⟨hi24',(),?_,h⟩;exact wR
@[go_sem] def BO (N:Nat):FnS:=⟨[],true,fn1 ae.decA fun q0=>(mv N q0).map fun r=>vB r,false⟩
def Fh (N:Nat):az prog 54 (BO N):=om1 (JT N)
def OZ (N:Nat) (a0:aa) (c0_0:ByteArray) (c0_1:ByteArray) (r:Bool) (h:wW N a0 c0_0 c0_1=some r):Con prog 106 [] true [.agg (aa.row a0),.iref 2 [[vS c0_0,vS c0_1]] 0 0] (vB r):=by
 refine fk (G:=(aw [])) func106 gn ?_;simp only [f106];unfold wW at h;refine z0 ?_;refine z0 ?_;exact e0 h
@[go_sem] def AH (N:Nat):FnS:={ own:=[],pure:=true,fn:=fun cs=>match cs with
 | [c0,.iref 2 [[c1_0,c1_1]] 0 0]=>(aa.decA c0).bind fun qc0=>(bR c1_0).bind fun qc1_0=>(bR c1_1).bind fun qc1_1=>(wW N qc0 qc1_0 qc1_1).map fun r=>vB r
 | _=>none }
def JX (N:Nat):az prog 106 (AH N):=by
 refine ⟨fun cs r h=>?_,fun h=>by cases h⟩;simp only [AH] at h;split at h
 ·simp only [ck,cj] at h;obtain ⟨q0,h0,q1,h1,q2,h2,r',hr,rfl⟩:=h;exact (ag (OZ N q0 q1 q2 r' hr))
 ·cases h
@[go_sem] def s7 (N d f:Nat):Option FnS:=aw [(16,106,AH N)] d f
def tc (N:Nat) (a0:List aa) (k1_0_0:ByteArray) (k1_0_1:ByteArray) (r:Int) (h:du N a0 k1_0_0 k1_0_1=some r):Con prog 105 [] true [sF 3 (a0.map aa.row),.clo 106 [.iref 2 [[vS k1_0_0,vS k1_0_1]] 0 0]] (vI r):=by
 refine fk (G:=(s7 N)) func105 (gc 16 (JX N) gn) ?_;simp only [f105];unfold du at h;refine z0 ?_;refine z0 ?_;refine lT 0 (fun (v2:Nat) (b:Unit)=>⟨tab 19 (af (af (af (af au 0 (sF 3 (a0.map aa.row))) 1 (.clo 106 [.iref 2 [[vS k1_0_0,vS k1_0_1]] 0 0])) 7 (vI (a0.length:Int))) 8 (vI (v2:Int))),RZ⟩) () h ?_ ?_
 ·rintro v2 ⟨⟩ hi3' h;simp only [bT] at h;refine z1 hi3' ?_;refine cf ?_;refine z0 ?_;exact e0 h
 rintro v2 ⟨⟩ x5 hi3' hx4 hw5 h;simp only [bT] at h;refine z1 hi3' ?_;refine ct ?_;refine z0 ?_;obtain ⟨r1,hr7,h⟩:=bI h;refine z1 (k3 hx4 hi3' hr7) ?_;refine cB h (fun hc8 h=>?_) fun hc8 h=>?_
 ·refine z1 hc8 ?_;exact e0 h
 refine z1 (k2 hw5 hc8) ?_;refine ⟨hi3',(),?_,h⟩;exact wR
@[go_sem] def fN (N:Nat):FnS:={ own:=[],pure:=true,fn:=fun cs=>match cs with
 | [c0,.clo 106 [.iref 2 [[k1_0_0,k1_0_1]] 0 0]]=>((aJ 3 aa.dec) c0).bind fun qc0=>(bR k1_0_0).bind fun qk1_0_0=>(bR k1_0_1).bind fun qk1_0_1=>(du N qc0 qk1_0_0 qk1_0_1).map fun r=>vI r
 | _=>none }
def qg (N:Nat):az prog 105 (fN N):=by
 refine ⟨fun cs r h=>?_,fun h=>by cases h⟩;simp only [fN] at h;split at h
 ·simp only [ck,cj] at h;obtain ⟨q0,h0,q1,h1,q2,h2,r',hr,rfl⟩:=h;exact (ag (tc N q0 q1 q2 r' hr))
 ·cases h
@[go_sem] def SD (N d f:Nat):Option FnS:=aw [(8,105,fN N)] d f
def Sm (N:Nat) (a0:ae) (a1:Ref) (r:Int) (h:lW N a0 a1=some r):Con prog 46 [] true [.agg (ae.row a0),.agg [vS a1.Type_,vS a1.Key]] (vI r):=by
 refine fk (G:=(SD N)) func46 (gc 8 (qg N) gn) ?_;simp only [f46];unfold lW at h;refine z0 ?_;obtain ⟨r1,hr1,h⟩:=bI h;refine z1 hr1 ?_;exact e0 h
@[go_sem] def vi (N:Nat):FnS:=⟨[],true,fn2 ae.decA Ref.decA fun q0 q1=>(lW N q0 q1).map fun r=>vI r,false⟩
def uT (N:Nat):az prog 46 (vi N):=om2 (Sm N)
@[go_sem] def RR (N d f:Nat):Option FnS:=aw [(13,46,vi N)] d f
def R4 (N:Nat) (a0:ae) (a1:Ref) (a2:Int) (r:al × Bool) (h:jb N a0 a1 a2=some r):Con prog 69 [] false [.agg (ae.row a0),.agg [vS a1.Type_,vS a1.Key],vI a2] (.tup [.agg (al.row r.1),vB r.2]):=by
 refine fk (G:=(RR N)) func69 (gc 13 (uT N) gn) ?_;simp only [f69];unfold jb at h;refine z0 ?_;obtain ⟨r1,hr1,h⟩:=bI h;refine z1 hr1 ?_;refine z0 ?_;refine cDs h (fun hc2 hc2d h=>?_) fun hc2 hc2d h=>?_
 ·refine z1 hc2d ?_;exact f0 h
 obtain ⟨x2,hb3,hx4,h⟩:=aG h;refine z1 (k2 hb3 hx4) ?_;refine lT 21 (fun (v4:Nat) (b:Unit)=>⟨tab 34 (af (af (af (af (af au 2 (vI a2)) 6 (pF 6)) 21 (sF 3 (x2.Layers.map al.row))) 22 (vI (x2.Layers.length:Int))) 23 (vI (v4:Int))),(upd RZ 6 (vA 3 [vI 0,.val (.slice none 0 0),vB false]))⟩) () h ?_ ?_
 ·rintro v4 ⟨⟩ hi7' h;simp only [s3] at h;refine z1 hi7' ?_;refine cf ?_;refine z0 ?_;exact f0 h
 rintro v4 ⟨⟩ x7 hi7' hx8 hw9 h;simp only [s3] at h;refine z1 hi7' ?_;refine ct ?_;refine z1 (k2 hx8 hi7') ?_;refine z0 ?_;refine cD h (fun hc11 hc11d h=>?_) fun hc11 hc11d h=>?_
 ·refine z1 hc11d ?_;exact f0 h
 refine z1 (k2 hw9 hc11d) ?_;refine ⟨hi7',(),?_,h⟩;exact wR
@[go_sem] def sY (N:Nat):FnS:=⟨[],false,fn3 ae.decA Ref.decA (aH .i64) fun q0 q1 q2=>(jb N q0 q1 q2).map fun r=>.tup [.agg (al.row r.1),vB r.2],false⟩
def qW (N:Nat):az prog 69 (sY N):=om3 (R4 N)
@[go_sem] def H3 (N d f:Nat):Option FnS:=aw [(41,69,sY N),(60,40,gC N),(69,69,sY N),(115,40,gC N)] d f
def HZ (N:Nat) (a0:ae) (r:Bool) (h:ki N a0=some r):Con prog 55 [] true [.agg (ae.row a0)] (vB r):=by
 refine fk (G:=(H3 N)) func55 (gc 41 (qW N) (gc 60 (eV N) (gc 69 (qW N) (gc 115 (eV N) gn)))) ?_;simp only [f55];unfold ki at h;refine z0 ?_;refine z0 ?_;refine lTs 19 (fun (v2:Nat) (b:Unit)=>⟨tab 138 (af (af (af (af au 1 (pF 1)) 19 (sF 11 (a0.Txns.map Txn.row))) 20 (vI (a0.Txns.length:Int))) 21 (vI (v2:Int))),(upd RZ 1 (vA 3 (ae.row a0)))⟩) () h ?_ ?_
 ·rintro v2 ⟨⟩ x5 hi3' hx4 hw5 h;simp only [iO] at h;refine z1 hi3' ?_;refine ct ?_;refine z1 (k2 hx4 hi3') ?_;obtain ⟨hs7,h⟩:=iV h;try simp only [xr,cU,nO] at hs7 h
  refine z1 (k2 hs7 @cU) ?_;refine lT 29 (fun (v9:Nat) (b:Unit)=>⟨tab 138 (af (af (af (af (af (af (af (af au 1 (pF 1)) 4 (pF 4)) 19 (sF 11 (a0.Txns.map Txn.row))) 20 (vI (a0.Txns.length:Int))) 21 (vI (v2:Int))) 29 (sF 4 ((x5.Calls.take ((x5.Done).toNat)).map ah.row))) 30 (vI (((x5.Calls.take ((x5.Done).toNat)).length:Nat):Int))) 31 (vI (v9:Int))),(upd (upd RZ 1 (vA 3 (ae.row a0))) 4 (vA 11 (Txn.row x5)))⟩) () h ?_ ?_
  ·rintro v9 ⟨⟩ hi10' h;simp only [gv] at h;refine z1 hi10' ?_;refine cf ?_;refine z1 hw5 ?_;refine ⟨hi3',(),?_,h⟩;exact wR
  rintro v9 ⟨⟩ x12 hi10' hx11 hw12 h;simp only [gv] at h;refine z1 hi10' ?_;refine ct ?_;refine z1 (k2 hx11 hi10') ?_;obtain ⟨r15,hr14,h⟩:=bI h;refine z1 hr14 ?_;refine z0 ?_;refine cM h (fun hc15 h=>?_) fun hc15 h=>?_
  ·refine z1 hc15 ?_;exact e0 h
  refine z1 (k2 hw12 hc15) ?_;refine ⟨hi10',(),?_,h⟩;exact wR
 rintro v2 ⟨⟩ hi3' h;simp only [iO] at h;refine z1 hi3' ?_;refine cf ?_;unfold mQ at h;refine z0 ?_;refine lT 49 (fun (v17:Nat) (b:Unit)=>⟨tab 138 (af (af (af (af au 1 (pF 1)) 49 (sF 4 (a0.Locks.map ai.row))) 50 (vI (a0.Locks.length:Int))) 51 (vI (v17:Int))),(upd RZ 1 (vA 3 (ae.row a0)))⟩) () h ?_ ?_
 ·rintro v17 ⟨⟩ hi18' h;simp only [bH] at h;refine z1 hi18' ?_;refine cf ?_;refine z0 ?_;exact e0 h
 rintro v17 ⟨⟩ x20 hi18' hx19 hw20 h;simp only [bH] at h;refine z1 hi18' ?_;refine ct ?_;refine z1 (k2 hx19 hi18') ?_;obtain ⟨r16,hr22,h⟩:=bI h;obtain ⟨x17,hb23,hx24,h⟩:=aG h;refine d1 (k3 hr22 hb23 hx24) ?_;obtain ⟨r18,hr25,h⟩:=bI h;refine z1 hr25 ?_;refine z0 ?_;refine aM ?_;apply aS (fun (c24:Bool)=>⟨tab 138 (af (af (af (af (af (af au 1 (pF 1)) 10 (pF 10)) 49 (sF 4 (a0.Locks.map ai.row))) 50 (vI (a0.Locks.length:Int))) 51 (vI (v17:Int))) 103 (vB c24)),(upd (upd RZ 1 (vA 3 (ae.row a0))) 10 (vA 4 (ai.row x20)))⟩)
 ·intro hJ26;refine iD h (fun hc27 hc27d h=>?_) fun hc27 hc27d h=>?_
  ·refine iBs h (fun hc30 h=>?_) fun hc30 h=>?_
   ·obtain ⟨x25,hb31,hx32,h⟩:=aG h;refine d1 (k4 hc27d hc30 hb31 hx32) ?_;exact hJ26 _ (!(sEq x25.Target.Type_ x20.Actor.Type_ && sEq x25.Target.Key x20.Actor.Key)) wR h
   refine d1 (k2 hc27d hc30) ?_;exact hJ26 _ false wR h
  refine iBs h (fun hc28 h=>?_) fun hc28 h=>?_
  ·refine d1 (k2 hc27d hc28) ?_;exact hJ26 _ true wR h
  refine iB h (fun hc29 h=>?_) fun hc29 h=>?_
  ·refine d1 (k3 hc27d hc28 hc29) ?_;exact hJ26 _ true wR h
  refine d1 (k3 hc27d hc28 hc29) ?_;exact hJ26 _ false wR h
 intro c24 h;unfold eU at h;refine cB h (fun hc33 h=>?_) fun hc33 h=>?_
 ·refine z1 hc33 ?_;exact e0 h
 unfold fc at h;refine z1 hc33 ?_;refine lT 105 (fun (v30:Nat) (b:Unit)=>⟨tab 138 (af (af (af (af (af (af (af (af au 1 (pF 1)) 10 (pF 10)) 49 (sF 4 (a0.Locks.map ai.row))) 50 (vI (a0.Locks.length:Int))) 51 (vI (v17:Int))) 105 (sF 1 (x20.Waiters.map (aB .i64)))) 106 (vI (x20.Waiters.length:Int))) 107 (vI (v30:Int))),(upd (upd RZ 1 (vA 3 (ae.row a0))) 10 (vA 4 (ai.row x20)))⟩) () h ?_ ?_
 ·rintro v30 ⟨⟩ hi36' h;simp only [eZ] at h;refine z1 hi36' ?_;refine cf ?_;refine z1 hw20 ?_;refine ⟨hi18',(),?_,h⟩;exact wR
 rintro v30 ⟨⟩ x33 hi36' hx37 hw38 h;simp only [eZ] at h;refine z1 hi36' ?_;refine ct ?_;refine z1 (k2 hx37 hi36') ?_;obtain ⟨r26,hr40,h⟩:=bI h;obtain ⟨x27,hb41,hx42,h⟩:=aG h;refine d1 (k3 hr40 hb41 hx42) ?_;apply aS (fun (c29:Bool)=>⟨tab 138 (af (af (af (af (af (af (af (af (af au 1 (pF 1)) 10 (pF 10)) 49 (sF 4 (a0.Locks.map ai.row))) 50 (vI (a0.Locks.length:Int))) 51 (vI (v17:Int))) 105 (sF 1 (x20.Waiters.map (aB .i64)))) 106 (vI (x20.Waiters.length:Int))) 107 (vI (v30:Int))) 135 (vB c29)),(upd (upd RZ 1 (vA 3 (ae.row a0))) 10 (vA 4 (ai.row x20)))⟩)
 ·intro hJ43;refine lB fun Z hZ=>?_;simp only [go_sem,seval];repeat with_reducible refine fL (by kernel_rfl) ?_
  refine lU rfl (fun hc44=>?_) (fun hc44=>?_)
  ·have hc44d:=decide_eq_true hc44;rw [if_pos hc44] at h;simp only [go_sem,seval,hc44d];exact hZ _ (by kernel_rfl) (pp (hJ43 _ true wR h))
  have hc44d:=decide_eq_false hc44;rw [if_neg hc44] at h;obtain ⟨x30,hb45,hx46,h⟩:=aG h;simp only [go_sem,seval,hc44d,hb45,hx46];exact hZ _ (by kernel_rfl) (pp (hJ43 _ (!(sEq x30.Target.Type_ x20.Actor.Type_ && sEq x30.Target.Key x20.Actor.Key)) wR h))
 intro c29 h;unfold mW at h;refine cB h (fun hc47 h=>?_) fun hc47 h=>?_
 ·refine z1 hc47 ?_;exact e0 h
 refine z1 (k2 hw38 hc47) ?_;refine ⟨hi36',(),?_,h⟩;exact wR
@[go_sem] def zI (N:Nat):FnS:=⟨[],true,fn1 ae.decA fun q0=>(ki N q0).map fun r=>vB r,false⟩
def DT (N:Nat):az prog 55 (zI N):=om1 (HZ N)
def H4 (N:Nat) (a0:List Int) (a1:Int) (r:Int) (h:pj N a0 a1=some r):Con prog 184 [] true [sF 1 (a0.map (aB .i64)),vI a1] (vI r):=by
 refine fk (G:=(aw [])) func184 gn ?_;simp only [f184];unfold pj at h;refine z0 ?_;refine z0 ?_;refine lT 0 (fun (v2:Nat) (b:Unit)=>⟨tab 19 (af (af (af (af au 0 (sF 1 (a0.map (aB .i64)))) 1 (vI a1)) 7 (vI (a0.length:Int))) 8 (vI (v2:Int))),RZ⟩) () h ?_ ?_
 ·rintro v2 ⟨⟩ hi3' h;simp only [jd] at h;refine z1 hi3' ?_;refine cf ?_;refine z0 ?_;exact e0 h
 rintro v2 ⟨⟩ x5 hi3' hx4 hw5 h;simp only [jd] at h;refine z1 hi3' ?_;refine ct ?_;refine z0 ?_;refine z1 (k2 hx4 hi3') ?_;refine cD h (fun hc7 hc7d h=>?_) fun hc7 hc7d h=>?_
 ·refine z1 hc7d ?_;exact e0 h
 refine z1 (k2 hw5 hc7d) ?_;refine ⟨hi3',(),?_,h⟩;exact wR
@[go_sem] def Af (N:Nat):FnS:=⟨[],true,fn2 (aJ 1 (dq (aH .i64))) (aH .i64) fun q0 q1=>(pj N q0 q1).map fun r=>vI r,false⟩
def E6 (N:Nat):az prog 184 (Af N):=om2 (H4 N)
@[go_sem] def Fj (N d f:Nat):Option FnS:=aw [(7,184,Af N)] d f
def FO (N:Nat) (a0:List Int) (a1:Int) (r:Bool) (h:dy N a0 a1=some r):Con prog 108 [] true [sF 1 (a0.map (aB .i64)),vI a1] (vB r):=by
 refine fk (G:=(Fj N)) func108 (gc 7 (E6 N) gn) ?_;simp only [f108];unfold dy at h;refine z0 ?_;obtain ⟨r1,hr1,h⟩:=bI h;refine z1 hr1 ?_;exact e0 h
@[go_sem] def fp (N:Nat):FnS:=⟨[],true,fn2 (aJ 1 (dq (aH .i64))) (aH .i64) fun q0 q1=>(dy N q0 q1).map fun r=>vB r,false⟩
def fx (N:Nat):az prog 108 (fp N):=om2 (FO N)
@[go_sem] def Sa (N d f:Nat):Option FnS:=aw [(38,108,fp N)] d f
def RY (N:Nat) (a0:ae) (a1:Int) (a2:List Int) (r:Bool) (h:vE N a0 a1 a2=some r):Con prog 74 [] true [.agg (ae.row a0),vI a1,sF 1 (a2.map (aB .i64))] (vB r):=by
 refine fk (G:=(Sa N)) func74 (gc 38 (fx N) gn) ?_;simp only [f74];unfold vE at h;refine z0 ?_;refine z0 ?_;refine lT 13 (fun (v2:Nat) (b:Unit)=>⟨tab 43 (af (af (af (af (af au 1 (vI a1)) 2 (sF 1 (a2.map (aB .i64)))) 13 (sF 3 (a0.Stacks.map aa.row))) 14 (vI (a0.Stacks.length:Int))) 15 (vI (v2:Int))),RZ⟩) () h ?_ ?_
 ·rintro v2 ⟨⟩ hi3' h;simp only [pf] at h;refine z1 hi3' ?_;refine cf ?_;refine z0 ?_;exact e0 h
 rintro v2 ⟨⟩ x5 hi3' hx4 hw5 h;simp only [pf] at h;refine z1 hi3' ?_;refine ct ?_;refine z1 (k2 hx4 hi3') ?_;refine z0 ?_;refine z0 ?_;refine lT 20 (fun (v9:Nat) (b:Bool)=>⟨tab 43 (af (af (af (af (af (af (af (af (af au 1 (vI a1)) 2 (sF 1 (a2.map (aB .i64)))) 9 (vB b)) 13 (sF 3 (a0.Stacks.map aa.row))) 14 (vI (a0.Stacks.length:Int))) 15 (vI (v2:Int))) 20 (sF 3 (x5.Layers.map al.row))) 21 (vI (x5.Layers.length:Int))) 22 (vI (v9:Int))),RZ⟩) false h ?_ ?_
 ·rintro v9 c8 hi9' h;simp only [jT] at h;refine z1 hi9' ?_;refine cf ?_;refine z1 hw5 ?_;refine ⟨hi3',(),?_,h⟩;exact wR
 rintro v9 c8 x12 hi9' hx10 hw11 h;simp only [jT] at h;refine z1 hi9' ?_;refine ct ?_;refine z1 (k2 hx10 hi9') ?_;refine aM ?_;apply aS (fun (c3:Bool)=>⟨tab 43 (af (af (af (af (af (af (af (af (af (af (af au 1 (vI a1)) 2 (sF 1 (a2.map (aB .i64)))) 9 (vB c8)) 11 (pF 11)) 13 (sF 3 (a0.Stacks.map aa.row))) 14 (vI (a0.Stacks.length:Int))) 15 (vI (v2:Int))) 20 (sF 3 (x5.Layers.map al.row))) 21 (vI (x5.Layers.length:Int))) 22 (vI (v9:Int))) 32 (vB c3)),(upd RZ 11 (vA 3 (al.row x12)))⟩)
 ·intro hJ13;refine iD h (fun hc14 hc14d h=>?_) fun hc14 hc14d h=>?_
  ·refine z1 hc14d ?_;exact hJ13 _ c8 wR h
  refine z1 hc14d ?_;exact hJ13 _ false wR h
 intro c3 h;unfold zy at h;refine cB h (fun hc15 h=>?_) fun hc15 h=>?_
 ·refine z1 hc15 ?_;exact e0 h
 refine aZ (pp ?_);unfold vC at h;refine iB h (fun hc16 h=>?_) fun hc16 h=>?_
 ·refine z1 (k2 hc15 hc16) ?_;refine z1 hw11 ?_;refine ⟨hi9',true,?_,h⟩;exact wR
 obtain ⟨r4,hr17,h⟩:=bI h;refine z1 (k3 hc15 hc16 hr17) ?_;refine z1 hw11 ?_;refine ⟨hi9',(!r4),?_,h⟩;exact wR
@[go_sem] def DP (N:Nat):FnS:=⟨[],true,fn3 ae.decA (aH .i64) (aJ 1 (dq (aH .i64))) fun q0 q1 q2=>(vE N q0 q1 q2).map fun r=>vB r,false⟩
def Er (N:Nat):az prog 74 (DP N):=om3 (RY N)
@[go_sem] def OX (N d f:Nat):Option FnS:=aw [(21,108,fp N),(28,74,DP N)] d f
def Pj (N:Nat) (a0:ae) (r:Bool) (h:uD N a0=some r):Con prog 56 [] true [.agg (ae.row a0)] (vB r):=by
 refine fk (G:=(OX N)) func56 (gc 21 (fx N) (gc 28 (Er N) gn)) ?_;simp only [f56];unfold uD at h;refine z0 ?_;refine z0 ?_;refine z0 ?_;refine aT (gZ fun hreal2=>?_);have hl1:=hreal2.lenT 7 (by decide) (by simp only [go_sem,seval]; rfl);rw [cx] at hl1;refine oO (fun (v3:Nat) (b:List Int)=>⟨tab 43 (af (af (af (af au 1 (pF 1)) 3 (.pal 34 [] 0 b.length none)) 8 (vI (a0.Txns.length:Int))) 9 (vI (v3:Int))),(upd (upd RZ 1 (vA 3 (ae.row a0))) 34 (sO 1 (b.map (aB .i64))))⟩) [] h ?_ ?_
 ·refine aW.trans (qD 3 34 1 (by simp only [go_sem,seval]) (by simp only [go_sem,seval])) ?_;refine wr ?_ ?_<;>repeat' first|rfl|constructor|simp only [go_sem,seval,nH,hU,nS,nT]
 rintro v3 l2 _ h -;rcases (jh a0.Txns.length v3).symm with ⟨hi3',hd6⟩|⟨hi3',hd6⟩
 ·rw [hd6] at h;simp only [lj] at h;refine z1 hi3' ?_;refine cf ?_;refine z0 ?_;exact e0 h
 rw [hd6] at h;simp only [lj] at h;have hw5:=eH hi3' hl1;refine z1 hi3' ?_;refine ct ?_;refine z0 ?_;refine lT 12 (fun (v9:Nat) (b:List Int)=>⟨tab 43 (af (af (af (af (af (af (af au 1 (pF 1)) 3 (.pal 34 [] 0 b.length none)) 8 (vI (a0.Txns.length:Int))) 9 (vI (v3:Int))) 12 (sF 11 (a0.Txns.map Txn.row))) 13 (vI (a0.Txns.length:Int))) 14 (vI (v9:Int))),(upd (upd RZ 1 (vA 3 (ae.row a0))) 34 (sO 1 (b.map (aB .i64))))⟩) l2 h ?_ ?_ (h0:=wF (k2 hi3' hw5))
 ·rintro v9 l8 hi9' h;simp only [jN] at h;refine z1 hi9' ?_;refine cf ?_;refine z1 hw5 ?_;refine ⟨hi3',l8,?_,h⟩;exact wF (k3 hi3' hw5 hi9')
 rintro v9 l8 x12 hi9' hx10 hw11 h;simp only [jN] at h;refine z1 hi9' ?_;refine ct ?_;refine z1 (k2 hx10 hi9') ?_;apply aS (fun (c3:Bool)=>⟨tab 43 (af (af (af (af (af (af (af (af (af au 1 (pF 1)) 3 (.pal 34 [] 0 l8.length none)) 5 (pF 5)) 8 (vI (a0.Txns.length:Int))) 9 (vI (v3:Int))) 12 (sF 11 (a0.Txns.map Txn.row))) 13 (vI (a0.Txns.length:Int))) 14 (vI (v9:Int))) 29 (vB c3)),(upd (upd (upd RZ 1 (vA 3 (ae.row a0))) 5 (vA 11 (Txn.row x12))) 34 (sO 1 (l8.map (aB .i64))))⟩)
 ·intro hJ13;obtain ⟨r4,hr14,h⟩:=bI h;refine iBs h (fun hc15 h=>?_) fun hc15 h=>?_
  ·obtain ⟨r5,hr16,h⟩:=bI h;refine z1 (k3 hr14 hc15 hr16) ?_;refine hJ13 _ r5 ?_ h;exact wF (k5 hi3' hw5 hx10 hi9' (k4 hw11 hr14 hc15 hr16))
  refine z1 (k2 hr14 hc15) ?_;refine hJ13 _ false ?_ h;exact wF (k5 hi3' hw5 hx10 hi9' (k3 hw11 hr14 hc15))
 intro c3 h;unfold sW at h;refine cBs h (fun hc17 h=>?_) fun hc17 h=>?_
 ·refine z1 (k2 hw11 hc17) ?_;refine ⟨hi9',l8,?_,h⟩;exact wF (k5 hi3' hw5 hx10 hi9' (k2 hw11 hc17))
 obtain ⟨ha18,h⟩:=kQ h;simp only [cC,cY,cV,Nat.reduceAdd] at ha18;refine z1 (k2 hc17 ha18) ?_;refine z1 hw11 ?_;refine ⟨hi9',(l8++[x12.ID]),?_,h⟩;refine wr ?_ ?_<;>repeat' first|rfl|constructor|simp only [go_sem,seval]
@[go_sem] def FF (N:Nat):FnS:=⟨[],true,fn1 ae.decA fun q0=>(uD N q0).map fun r=>vB r,false⟩
def JO (N:Nat):az prog 56 (FF N):=om1 (Pj N)
@[go_sem] def Ss (N d f:Nat):Option FnS:=aw [(4,52,Dd N),(7,53,Ch N),(11,54,BO N),(15,55,zI N),(19,56,FF N)] d f
def Sd (N:Nat) (a0:ae) (r:Bool) (h:jC N a0=some r):Con prog 23 [] true [.agg (ae.row a0)] (vB r):=by
 refine fk (G:=(Ss N)) func23 (gc 4 (HH N) (gc 7 (GJ N) (gc 11 (Fh N) (gc 15 (DT N) (gc 19 (JO N) gn))))) ?_;simp only [f23];unfold jC at h;refine z0 ?_;refine aM ?_;obtain ⟨r1,hr1,h⟩:=bI h;refine iBs h (fun hc2 h=>?_) fun hc2 h=>?_
 ·refine z1 (k2 hr1 hc2) ?_;exact e0 h
 obtain ⟨r2,hr3,h⟩:=bI h;refine iBs h (fun hc4 h=>?_) fun hc4 h=>?_
 ·refine z1 (k4 hr1 hc2 hr3 hc4) ?_;exact e0 h
 obtain ⟨r3,hr5,h⟩:=bI h;refine iBs h (fun hc6 h=>?_) fun hc6 h=>?_
 ·refine z1 (k5 hr1 hc2 hr3 hc4 (k2 hr5 hc6)) ?_;exact e0 h
 obtain ⟨r4,hr7,h⟩:=bI h;refine iB h (fun hc8 h=>?_) fun hc8 h=>?_
 ·obtain ⟨r5,hr9,h⟩:=bI h;refine z1 (k5 hr1 hc2 hr3 hc4 (k5 hr5 hc6 hr7 hc8 hr9)) ?_;exact e0 h
 refine z1 (k5 hr1 hc2 hr3 hc4 (k4 hr5 hc6 hr7 hc8)) ?_;exact e0 h
@[go_sem] def lS (N:Nat):FnS:=⟨[],true,fn1 ae.decA fun q0=>(jC N q0).map fun r=>vB r,false⟩
def j4 (N:Nat):az prog 23 (lS N):=om1 (Sd N)
def FZ (N:Nat) (a0:List Txn) (r:List Txn) (h:iy N a0=some r):Con prog 130 [] false [.sl false (some false) 11 none (a0.map Txn.row)] (sO 11 (r.map Txn.row)):=by
 refine fk (G:=(aw [])) func130 gn ?_;simp only [f130];unfold iy at h;refine z0 ?_;refine z0 ?_;refine cf ?_;refine aZ (pp (aM ?_));obtain ⟨ha1,h⟩:=oR h;simp only [Nat.reduceAdd] at ha1;refine z1 ha1 ?_;exact f0 h
def EY (N:Nat)  (r:List Txn) (h:iy N []=some r):Con prog 130 [] false [.val (.slice none 0 0)] (sO 11 (r.map Txn.row)):=by
 refine fk (G:=(aw [])) func130 gn ?_;simp only [f130];unfold iy at h;refine z0 ?_;refine z0 ?_;refine ct ?_;refine z0 ?_;refine fe (pp ?_);obtain rfl:r=[]:=by simpa [apn] using h.symm
 simp only [go_sem,seval];exact ⟨_,rfl,gI.h⟩
def Ik (N:Nat) (a0:List Txn) (r:List Txn) (h:iy N a0=some r):Con prog 130 [] false [sF 11 (a0.map Txn.row)] (sO 11 (r.map Txn.row)):=
 Bx (fun e=>by obtain rfl:a0=[]:=xH.1 e; exact EY N r h) (FZ N a0 r h)
@[go_sem] def z8 (N:Nat):FnS:=⟨[],false,fn1 (aJ 11 Txn.dec) fun q0=>(iy N q0).map fun r=>sO 11 (r.map Txn.row),false⟩
def DW (N:Nat):az prog 130 (z8 N):=om1 (Ik N)
def EU (N:Nat) (a0:List ai) (r:List ai) (h:eK N a0=some r):Con prog 131 [] false [.sl false (some false) 4 none (a0.map ai.row)] (sO 4 (r.map ai.row)):=by
 refine fk (G:=(aw [])) func131 gn ?_;simp only [f131];unfold eK at h;refine z0 ?_;refine z0 ?_;refine cf ?_;refine aZ (pp (aM ?_));obtain ⟨ha1,h⟩:=oR h;simp only [Nat.reduceAdd] at ha1;refine z1 ha1 ?_;exact f0 h
def DR (N:Nat)  (r:List ai) (h:eK N []=some r):Con prog 131 [] false [.val (.slice none 0 0)] (sO 4 (r.map ai.row)):=by
 refine fk (G:=(aw [])) func131 gn ?_;simp only [f131];unfold eK at h;refine z0 ?_;refine z0 ?_;refine ct ?_;refine z0 ?_;refine fe (pp ?_);obtain rfl:r=[]:=by simpa [apn] using h.symm
 simp only [go_sem,seval];exact ⟨_,rfl,gI.h⟩
def HR (N:Nat) (a0:List ai) (r:List ai) (h:eK N a0=some r):Con prog 131 [] false [sF 4 (a0.map ai.row)] (sO 4 (r.map ai.row)):=
 Bx (fun e=>by obtain rfl:a0=[]:=xH.1 e; exact DR N r h) (EU N a0 r h)
@[go_sem] def sB (N:Nat):FnS:=⟨[],false,fn1 (aJ 4 ai.dec) fun q0=>(eK N q0).map fun r=>sO 4 (r.map ai.row),false⟩
def vF (N:Nat):az prog 131 (sB N):=om1 (HR N)
def Ax (N:Nat) (a0:List aa) (r:List aa) (h:dV N a0=some r):Con prog 132 [] false [.sl false (some false) 3 none (a0.map aa.row)] (sO 3 (r.map aa.row)):=by
 refine fk (G:=(aw [])) func132 gn ?_;simp only [f132];unfold dV at h;refine z0 ?_;refine z0 ?_;refine cf ?_;refine aZ (pp (aM ?_));obtain ⟨ha1,h⟩:=oR h;simp only [Nat.reduceAdd] at ha1;refine z1 ha1 ?_;exact f0 h
def Ae (N:Nat)  (r:List aa) (h:dV N []=some r):Con prog 132 [] false [.val (.slice none 0 0)] (sO 3 (r.map aa.row)):=by
 refine fk (G:=(aw [])) func132 gn ?_;simp only [f132];unfold dV at h;refine z0 ?_;refine z0 ?_;refine ct ?_;refine z0 ?_;refine fe (pp ?_);obtain rfl:r=[]:=by simpa [apn] using h.symm
 simp only [go_sem,seval];exact ⟨_,rfl,gI.h⟩
def CG (N:Nat) (a0:List aa) (r:List aa) (h:dV N a0=some r):Con prog 132 [] false [sF 3 (a0.map aa.row)] (sO 3 (r.map aa.row)):=
 Bx (fun e=>by obtain rfl:a0=[]:=xH.1 e; exact Ae N r h) (Ax N a0 r h)
@[go_sem] def tg (N:Nat):FnS:=⟨[],false,fn1 (aJ 3 aa.dec) fun q0=>(dV N q0).map fun r=>sO 3 (r.map aa.row),false⟩
def zX (N:Nat):az prog 132 (tg N):=om1 (CG N)
def BB (N:Nat) (a0:List ah) (r:List ah) (h:et N a0=some r):Con prog 100 [] false [.sl false (some false) 4 none (a0.map ah.row)] (sO 4 (r.map ah.row)):=by
 refine fk (G:=(aw [])) func100 gn ?_;simp only [f100];unfold et at h;refine z0 ?_;refine z0 ?_;refine cf ?_;refine aZ (pp (aM ?_));obtain ⟨ha1,h⟩:=oR h;simp only [Nat.reduceAdd] at ha1;refine z1 ha1 ?_;exact f0 h
def AP (N:Nat)  (r:List ah) (h:et N []=some r):Con prog 100 [] false [.val (.slice none 0 0)] (sO 4 (r.map ah.row)):=by
 refine fk (G:=(aw [])) func100 gn ?_;simp only [f100];unfold et at h;refine z0 ?_;refine z0 ?_;refine ct ?_;refine z0 ?_;refine fe (pp ?_);obtain rfl:r=[]:=by simpa [apn] using h.symm
 simp only [go_sem,seval];exact ⟨_,rfl,gI.h⟩
def DH (N:Nat) (a0:List ah) (r:List ah) (h:et N a0=some r):Con prog 100 [] false [sF 4 (a0.map ah.row)] (sO 4 (r.map ah.row)):=
 Bx (fun e=>by obtain rfl:a0=[]:=xH.1 e; exact AP N r h) (BB N a0 r h)
@[go_sem] def tZ (N:Nat):FnS:=⟨[],false,fn1 (aJ 4 ah.dec) fun q0=>(et N q0).map fun r=>sO 4 (r.map ah.row),false⟩
def Ac (N:Nat):az prog 100 (tZ N):=om1 (DH N)
def DS (N:Nat) (a0:List Value) (r:List Value) (h:gb N a0=some r):Con prog 139 [] false [.sl false (some false) 5 none (a0.map Value.row)] (sO 5 (r.map Value.row)):=by
 refine fk (G:=(aw [])) func139 gn ?_;simp only [f139];unfold gb at h;refine z0 ?_;refine z0 ?_;refine cf ?_;refine aZ (pp (aM ?_));obtain ⟨ha1,h⟩:=oR h;simp only [Nat.reduceAdd] at ha1;refine z1 ha1 ?_;exact f0 h
def Dg (N:Nat)  (r:List Value) (h:gb N []=some r):Con prog 139 [] false [.val (.slice none 0 0)] (sO 5 (r.map Value.row)):=by
 refine fk (G:=(aw [])) func139 gn ?_;simp only [f139];unfold gb at h;refine z0 ?_;refine z0 ?_;refine ct ?_;refine z0 ?_;refine fe (pp ?_);obtain rfl:r=[]:=by simpa [apn] using h.symm
 simp only [go_sem,seval];exact ⟨_,rfl,gI.h⟩
def Hc (N:Nat) (a0:List Value) (r:List Value) (h:gb N a0=some r):Con prog 139 [] false [sF 5 (a0.map Value.row)] (sO 5 (r.map Value.row)):=
 Bx (fun e=>by obtain rfl:a0=[]:=xH.1 e; exact Dg N r h) (DS N a0 r h)
@[go_sem] def ym (N:Nat):FnS:=⟨[],false,fn1 (aJ 5 Value.dec) fun q0=>(gb N q0).map fun r=>sO 5 (r.map Value.row),false⟩
def CO (N:Nat):az prog 139 (ym N):=om1 (Hc N)
def Ft (N:Nat) (a0:List Int) (r:List Int) (h:dR N a0=some r):Con prog 133 [] true [.sl false (some false) 1 none (a0.map (aB .i64))] (sO 1 (r.map (aB .i64))):=by
 refine fk (G:=(aw [])) func133 gn ?_;simp only [f133];unfold dR at h;refine z0 ?_;refine z0 ?_;refine cf ?_;refine aZ (pp (aM ?_));obtain ⟨ha1,h⟩:=oR h;simp only [Nat.reduceAdd] at ha1;refine z1 ha1 ?_;exact e0 h
def EW (N:Nat)  (r:List Int) (h:dR N []=some r):Con prog 133 [] true [.val (.slice none 0 0)] (sO 1 (r.map (aB .i64))):=by
 refine fk (G:=(aw [])) func133 gn ?_;simp only [f133];unfold dR at h;refine z0 ?_;refine z0 ?_;refine ct ?_;refine z0 ?_;refine fe (pp ?_);obtain rfl:r=[]:=by simpa [apn] using h.symm
 simp only [go_sem,seval];exact ⟨_,rfl,gI.h,qy.h⟩
def Bz (N:Nat) (a0:List Int) (r:List Int) (h:dR N a0=some r):Con prog 133 [] true [sF 1 (a0.map (aB .i64))] (sO 1 (r.map (aB .i64))):=
 Bx (fun e=>by obtain rfl:a0=[]:=xH.1 e; exact EW N r h) (Ft N a0 r h)
@[go_sem] def Ap (N:Nat):FnS:=⟨[],true,fn1 (aJ 1 (dq (aH .i64))) fun q0=>(dR N q0).map fun r=>sF 1 (r.map (aB .i64)),false⟩
def E8 (N:Nat):az prog 133 (Ap N):=om1 fun q0 r h=>rs (Bz N q0 r h)
@[go_sem] def tk (N:Nat):FnS:=⟨[],true,fn1 (aJ 1 (dq (aH .i64))) fun q0=>(dR N q0).map fun r=>sO 1 (r.map (aB .i64)),false⟩
def wD (N:Nat):az prog 133 (tk N):=om1 (Bz N)
def Ds (N:Nat) (a0:List ByteArray) (r:List ByteArray) (h:fG N a0=some r):Con prog 136 [] true [.sl false (some false) 1 none (a0.map dE)] (sO 1 (r.map dE)):=by
 refine fk (G:=(aw [])) func136 gn ?_;simp only [f136];unfold fG at h;refine z0 ?_;refine z0 ?_;refine cf ?_;refine aZ (pp (aM ?_));obtain ⟨ha1,h⟩:=oR h;simp only [Nat.reduceAdd] at ha1;refine z1 ha1 ?_;exact e0 h
def CT (N:Nat)  (r:List ByteArray) (h:fG N []=some r):Con prog 136 [] true [.val (.slice none 0 0)] (sO 1 (r.map dE)):=by
 refine fk (G:=(aw [])) func136 gn ?_;simp only [f136];unfold fG at h;refine z0 ?_;refine z0 ?_;refine ct ?_;refine z0 ?_;refine fe (pp ?_);obtain rfl:r=[]:=by simpa [apn] using h.symm
 simp only [go_sem,seval];exact ⟨_,rfl,gI.h,qy.h⟩
def FH (N:Nat) (a0:List ByteArray) (r:List ByteArray) (h:fG N a0=some r):Con prog 136 [] true [sF 1 (a0.map dE)] (sO 1 (r.map dE)):=
 Bx (fun e=>by obtain rfl:a0=[]:=xH.1 e; exact CT N r h) (Ds N a0 r h)
@[go_sem] def wE (N:Nat):FnS:=⟨[],true,fn1 (aJ 1 (dq bR)) fun q0=>(fG N q0).map fun r=>sO 1 (r.map dE),false⟩
def Cc (N:Nat):az prog 136 (wE N):=om1 (FH N)
@[go_sem] def Ls (N d f:Nat):Option FnS:=aw [(5,133,tk N),(8,136,wE N)] d f
def Dy (N:Nat) (a0:Value) (r:Value) (h:gD N a0=some r):Con prog 63 [] true [.agg (Value.row a0)] (.agg [vI r.Kind,vI r.N,vS r.S,sO 1 (r.I.map (aB .i64)),sO 1 (r.L.map dE)]):=by
 refine fk (G:=(Ls N)) func63 (gc 5 (wD N) (gc 8 (Cc N) gn)) ?_;simp only [f63];unfold gD at h;refine z0 ?_;obtain ⟨r1,hr1,h⟩:=bI h;obtain ⟨r2,hr2,h⟩:=bI h;refine d1 (k2 hr1 hr2) ?_;refine z0 ?_;exact e0 h
@[go_sem] def rW (N:Nat):FnS:=⟨[],true,fn1 Value.decA fun q0=>(gD N q0).map fun r=>.agg (Value.row r),false⟩
def tP (N:Nat):az prog 63 (rW N):=om1 fun q0 r h=>rs (Dy N q0 r h)
@[go_sem] def BJ (N:Nat):FnS:=⟨[],true,fn1 Value.decA fun q0=>(gD N q0).map fun r=>.agg [vI r.Kind,vI r.N,vS r.S,sO 1 (r.I.map (aB .i64)),sO 1 (r.L.map dE)],false⟩
def FC (N:Nat):az prog 63 (BJ N):=om1 (Dy N)
@[go_sem] def J8 (N d f:Nat):Option FnS:=aw [(6,139,ym N),(18,63,rW N)] d f
def Ct (N:Nat) (a0:List Value) (r:List Value) (h:eC N a0=some r):Con prog 67 [] false [sF 5 (a0.map Value.row)] (sO 5 (r.map Value.row)):=by
 refine fk (G:=(J8 N)) func67 (gc 6 (CO N) (gc 18 (tP N) gn)) ?_;simp only [f67];unfold eC at h;refine z0 ?_;obtain ⟨r1,hr1,h⟩:=bI h;refine z1 hr1 ?_;refine z0 ?_;refine aT (gZ fun hreal3=>?_);have hl2:=hreal3.lenX 6 (by simp only [go_sem,seval]; rfl);rw [cx] at hl2;refine oO (fun (v4:Nat) (b:List Value)=>⟨tab 22 (af (af (af au 3 (.pal 6 [] 0 b.length none)) 8 (vI (r1.length:Int))) 9 (vI (v4:Int))),(upd RZ 6 (sO 5 (b.map Value.row)))⟩) r1 h ?_ ?_
 ·exact wF hr1
 rintro v4 l3 _ h -;rcases (jh r1.length v4).symm with ⟨hi4',hd7⟩|⟨hi4',hd7⟩
 ·rw [hd7] at h;simp only [iv] at h;refine z1 hi4' ?_;refine cf ?_;refine z0 ?_;exact f0 h
 rw [hd7] at h;simp only [iv] at h;have hw6:=eH hi4' hl2;refine z1 hi4' ?_;refine ct ?_;refine z0 ?_;obtain ⟨x2,hb8,hx9,h⟩:=aG h;try simp only [cH] at hx9
 try simp only [nI,nJ,true_and] at hb8
 obtain ⟨r3,hr10,h⟩:=bI h;have hx12:=kr (y:=r3) hx9;refine z1 (k4 hb8 hx9 hr10 (mm2 (row:=Value.row) (y:=r3) (rx:=[vI x2.Kind,vI x2.N,vS x2.S,sF 1 (x2.I.map (aB .i64)),sF 1 (x2.L.map dE)]) (ry:=[vI r3.Kind,vI r3.N,vS r3.S,sF 1 (r3.I.map (aB .i64)),sF 1 (r3.L.map dE)]) hx9 rfl rfl)) ?_;refine z1 hw6 ?_;refine ⟨hi4',(l3.set v4 r3),?_,h⟩;refine wr ?_ ?_<;>repeat' first|rfl|constructor|simp only [go_sem,seval,hU]
@[go_sem] def qL (N:Nat):FnS:=⟨[],false,fn1 (aJ 5 Value.dec) fun q0=>(eC N q0).map fun r=>sF 5 (r.map Value.row),false⟩
def sI (N:Nat):az prog 67 (qL N):=om1 fun q0 r h=>rs (Ct N q0 r h)
@[go_sem] def pw (N:Nat):FnS:=⟨[],false,fn1 (aJ 5 Value.dec) fun q0=>(eC N q0).map fun r=>sO 5 (r.map Value.row),false⟩
def rr (N:Nat):az prog 67 (pw N):=om1 (Ct N)
@[go_sem] def M5 (N d f:Nat):Option FnS:=aw [(5,67,pw N)] d f
def Eu (N:Nat) (a0:ah) (r:ah) (h:kF N a0=some r):Con prog 57 [] false [.agg (ah.row a0)] (.agg [vS r.Target.Type_,vS r.Target.Key,vS r.Method,sO 5 (r.Args.map Value.row)]):=by
 refine fk (G:=(M5 N)) func57 (gc 5 (rr N) gn) ?_;simp only [f57];unfold kF at h;refine z0 ?_;obtain ⟨r1,hr1,h⟩:=bI h;refine z1 hr1 ?_;refine z0 ?_;exact f0 h
@[go_sem] def DK (N:Nat):FnS:=⟨[],false,fn1 ah.decA fun q0=>(kF N q0).map fun r=>.agg (ah.row r),false⟩
def HI (N:Nat):az prog 57 (DK N):=om1 fun q0 r h=>rs (Eu N q0 r h)
@[go_sem] def Cu (N:Nat):FnS:=⟨[],false,fn1 ah.decA fun q0=>(kF N q0).map fun r=>.agg [vS r.Target.Type_,vS r.Target.Key,vS r.Method,sO 5 (r.Args.map Value.row)],false⟩
def GZ (N:Nat):az prog 57 (Cu N):=om1 (Eu N)
@[go_sem] def NK (N d f:Nat):Option FnS:=aw [(6,100,tZ N),(22,57,DK N),(27,63,BJ N)] d f
def Fw (N:Nat) (a0:Txn) (r:Txn) (h:jV N a0=some r):Con prog 41 [] false [.agg (Txn.row a0)] (.agg [vI r.ID,vI r.Born,vS r.Client,vI r.Seq,sO 4 (r.Calls.map ah.row),vI r.Done,vI r.Last.Kind,vI r.Last.N,vS r.Last.S,sO 1 (r.Last.I.map (aB .i64)),sO 1 (r.Last.L.map dE)]):=by
 refine fk (G:=(NK N)) func41 (gc 6 (Ac N) (gc 22 (HI N) (gc 27 (FC N) gn))) ?_;simp only [f41];unfold jV at h;refine z0 ?_;obtain ⟨r1,hr1,h⟩:=bI h;refine z1 hr1 ?_;refine z0 ?_;refine aT (gZ fun hreal3=>?_);have hl2:=hreal3.cell 1 4 (by simp only [go_sem,seval]; rfl) rfl;rw [cx] at hl2;refine oO (fun (v4:Nat) (b:List ah)=>⟨tab 30 (af (af (af (af au 1 (pF 1)) 2 (pF 2)) 10 (vI (r1.length:Int))) 11 (vI (v4:Int))),(upd (upd RZ 1 (vA 11 [vI a0.ID,vI a0.Born,vS a0.Client,vI a0.Seq,sO 4 (b.map ah.row),vI a0.Done,vI a0.Last.Kind,vI a0.Last.N,vS a0.Last.S,sF 1 (a0.Last.I.map (aB .i64)),sF 1 (a0.Last.L.map dE)])) 2 (vA 11 [vI 0,vI 0,vS (⟨#[]⟩),vI 0,.val (.slice none 0 0),vI 0,vI 0,vI 0,vS (⟨#[]⟩),.val (.slice none 0 0),.val (.slice none 0 0)]))⟩) r1 h ?_ ?_
 ·exact wR
 rintro v4 l3 _ h -;rcases (jh r1.length v4).symm with ⟨hi4',hd7⟩|⟨hi4',hd7⟩
 ·rw [hd7] at h;simp only [j9] at h;refine z1 hi4' ?_;refine cf ?_;refine gi (pp ?_);unfold uU at h;obtain ⟨r12,hr13,h⟩:=bI h;refine z1 hr13 ?_;refine z0 ?_;exact f0 h
 rw [hd7] at h;simp only [j9] at h;have hw6:=eH hi4' hl2;refine z1 hi4' ?_;refine ct ?_;refine z0 ?_;obtain ⟨x10,hb8,hx9,h⟩:=aG h;try simp only [cH] at hx9
 try simp only [nI,nJ,true_and] at hb8
 obtain ⟨r11,hr10,h⟩:=bI h;have hx12:=kr (y:=r11) hx9;refine d1 (k4 hb8 hx9 hr10 (mm2 (row:=ah.row) (y:=r11) (rx:=[vS x10.Target.Type_,vS x10.Target.Key,vS x10.Method,sF 5 (x10.Args.map Value.row)]) (ry:=[vS r11.Target.Type_,vS r11.Target.Key,vS r11.Method,sF 5 (r11.Args.map Value.row)]) hx9 rfl rfl)) ?_;refine z1 hw6 ?_;refine ⟨hi4',(l3.set v4 r11),?_,h⟩;exact wR
@[go_sem] def z6 (N:Nat):FnS:=⟨[],false,fn1 Txn.decA fun q0=>(jV N q0).map fun r=>.agg (Txn.row r),false⟩
def BW (N:Nat):az prog 41 (z6 N):=om1 fun q0 r h=>rs (Fw N q0 r h)
@[go_sem] def Dz (N:Nat):FnS:=⟨[],false,fn1 Txn.decA fun q0=>(jV N q0).map fun r=>.agg [vI r.ID,vI r.Born,vS r.Client,vI r.Seq,sO 4 (r.Calls.map ah.row),vI r.Done,vI r.Last.Kind,vI r.Last.N,vS r.Last.S,sO 1 (r.Last.I.map (aB .i64)),sO 1 (r.Last.L.map dE)],false⟩
def HG (N:Nat):az prog 41 (Dz N):=om1 (Fw N)
def D4 (N:Nat) (a0:List al) (r:List al) (h:gg N a0=some r):Con prog 107 [] false [.sl false (some false) 3 none (a0.map al.row)] (sO 3 (r.map al.row)):=by
 refine fk (G:=(aw [])) func107 gn ?_;simp only [f107];unfold gg at h;refine z0 ?_;refine z0 ?_;refine cf ?_;refine aZ (pp (aM ?_));obtain ⟨ha1,h⟩:=oR h;simp only [Nat.reduceAdd] at ha1;refine z1 ha1 ?_;exact f0 h
def DL (N:Nat)  (r:List al) (h:gg N []=some r):Con prog 107 [] false [.val (.slice none 0 0)] (sO 3 (r.map al.row)):=by
 refine fk (G:=(aw [])) func107 gn ?_;simp only [f107];unfold gg at h;refine z0 ?_;refine z0 ?_;refine ct ?_;refine z0 ?_;refine fe (pp ?_);obtain rfl:r=[]:=by simpa [apn] using h.symm
 simp only [go_sem,seval];exact ⟨_,rfl,gI.h⟩
def GC (N:Nat) (a0:List al) (r:List al) (h:gg N a0=some r):Con prog 107 [] false [sF 3 (a0.map al.row)] (sO 3 (r.map al.row)):=
 Bx (fun e=>by obtain rfl:a0=[]:=xH.1 e; exact DL N r h) (D4 N a0 r h)
@[go_sem] def yl (N:Nat):FnS:=⟨[],false,fn1 (aJ 3 al.dec) fun q0=>(gg N q0).map fun r=>sO 3 (r.map al.row),false⟩
def CR (N:Nat):az prog 107 (yl N):=om1 (GC N)
@[go_sem] def Kf (N d f:Nat):Option FnS:=aw [(6,107,yl N),(19,67,qL N)] d f
def J4 (N:Nat) (a0:List al) (r:List al) (h:kg N a0=some r):Con prog 47 [] false [sF 3 (a0.map al.row)] (sO 3 (r.map al.row)):=by
 refine fk (G:=(Kf N)) func47 (gc 6 (CR N) (gc 19 (sI N) gn)) ?_;simp only [f47];unfold kg at h;refine z0 ?_;obtain ⟨r1,hr1,h⟩:=bI h;refine z1 hr1 ?_;refine z0 ?_;refine aT (gZ fun hreal3=>?_);have hl2:=hreal3.lenX 6 (by simp only [go_sem,seval]; rfl);rw [cx] at hl2;refine oO (fun (v4:Nat) (b:List al)=>⟨tab 24 (af (af (af au 3 (.pal 6 [] 0 b.length none)) 8 (vI (r1.length:Int))) 9 (vI (v4:Int))),(upd RZ 6 (sO 3 (b.map al.row)))⟩) r1 h ?_ ?_
 ·exact wF hr1
 rintro v4 l3 _ h -;rcases (jh r1.length v4).symm with ⟨hi4',hd7⟩|⟨hi4',hd7⟩
 ·rw [hd7] at h;simp only [iE] at h;refine z1 hi4' ?_;refine cf ?_;refine z0 ?_;exact f0 h
 rw [hd7] at h;simp only [iE] at h;have hw6:=eH hi4' hl2;refine z1 hi4' ?_;refine ct ?_;refine z0 ?_;obtain ⟨x2,hb8,hx9,h⟩:=aG h;try simp only [cH] at hx9
 try simp only [nI,nJ,true_and] at hb8
 obtain ⟨r3,hr10,h⟩:=bI h;have hx12:=kr (y:=(al.mk x2.Txn_ r3 x2.Prepared)) hx9;refine z1 (k4 hb8 hx9 hr10 (mm2 (row:=al.row) (y:=(al.mk x2.Txn_ r3 x2.Prepared)) (rx:=[vI x2.Txn_,sF 5 (x2.Fields.map Value.row),vB x2.Prepared]) (ry:=[vI x2.Txn_,sF 5 (r3.map Value.row),vB x2.Prepared]) hx9 rfl rfl)) ?_;refine z1 hw6 ?_;refine ⟨hi4',(l3.set v4 (al.mk x2.Txn_ r3 x2.Prepared)),?_,h⟩;refine wr ?_ ?_<;>repeat' first|rfl|constructor|simp only [go_sem,seval,hU]
@[go_sem] def uR (N:Nat):FnS:=⟨[],false,fn1 (aJ 3 al.dec) fun q0=>(kg N q0).map fun r=>sO 3 (r.map al.row),false⟩
def yc (N:Nat):az prog 47 (uR N):=om1 (J4 N)
@[go_sem] def RO (N d f:Nat):Option FnS:=aw [(9,130,z8 N),(12,131,sB N),(15,132,tg N),(31,41,z6 N),(49,133,Ap N),(68,47,uR N)] d f
def Km (N:Nat) (a0:ae) (r:ae) (h:kD N a0=some r):Con prog 59 [] false [.agg (ae.row a0)] (.agg [sO 11 (r.Txns.map Txn.row),sO 4 (r.Locks.map ai.row),sO 3 (r.Stacks.map aa.rowD)]):=by
 refine fk (G:=(RO N)) func59 (gc 9 (DW N) (gc 12 (vF N) (gc 15 (zX N) (gc 31 (BW N) (gc 49 (E8 N) (gc 68 (yc N) gn)))))) ?_;simp only [f59];unfold kD at h;refine z0 ?_;obtain ⟨r1,hr1,h⟩:=bI h;obtain ⟨r2,hr2,h⟩:=bI h;obtain ⟨r3,hr3,h⟩:=bI h;refine d1 (k3 hr1 hr2 hr3) ?_;refine z0 ?_;refine aT (gZ fun hreal5=>?_);have hl4:=hreal5.cell 3 0 (by simp only [go_sem,seval]; rfl) rfl;rw [cx] at hl4;refine oO (fun (v6:Nat) (b:List Txn)=>⟨tab 73 (af (af (af (af au 2 (pF 2)) 3 (pF 3)) 19 (vI (r1.length:Int))) 20 (vI (v6:Int))),(upd (upd RZ 2 (vA 3 [.val (.slice none 0 0),.val (.slice none 0 0),.val (.slice none 0 0)])) 3 (vA 3 [sO 11 (b.map Txn.row),sO 4 (r2.map ai.row),sO 3 (r3.map aa.row)]))⟩) r1 h ?_ ?_
 ·exact wR
 rintro v6 l5 _ h -;rcases (jh r1.length v6) with ⟨hi6',hd9⟩|⟨hi6',hd9⟩
 ·rw [hd9] at h;simp only [oE] at h;have hw8:=eH hi6' hl4;refine z1 hi6' ?_;refine ct ?_;refine z0 ?_;obtain ⟨x12,hb10,hx11,h⟩:=aG h;try simp only [cH] at hx11
  try simp only [nI,nJ,true_and] at hb10
  obtain ⟨r13,hr12,h⟩:=bI h;have hx14:=kr (y:=r13) hx11;refine d1 (k4 hb10 hx11 hr12 (mm2 (row:=Txn.row) (y:=r13) (rx:=[vI x12.ID,vI x12.Born,vS x12.Client,vI x12.Seq,sF 4 (x12.Calls.map ah.row),vI x12.Done,vI x12.Last.Kind,vI x12.Last.N,vS x12.Last.S,sF 1 (x12.Last.I.map (aB .i64)),sF 1 (x12.Last.L.map dE)]) (ry:=[vI r13.ID,vI r13.Born,vS r13.Client,vI r13.Seq,sF 4 (r13.Calls.map ah.row),vI r13.Done,vI r13.Last.Kind,vI r13.Last.N,vS r13.Last.S,sF 1 (r13.Last.I.map (aB .i64)),sF 1 (r13.Last.L.map dE)]) hx11 rfl rfl)) ?_;refine z1 hw8 ?_;refine ⟨hi6',(l5.set v6 r13),?_,h⟩;exact wR
 rw [hd9] at h;simp only [oE] at h;refine z1 hi6' ?_;refine cf ?_;unfold zj at h;refine z0 ?_;refine aT (gZ fun hreal16=>?_);have hl15:=hreal16.cell 3 1 (by simp only [go_sem,seval]; rfl) rfl;rw [cx] at hl15;refine oO (fun (v16:Nat) (b:List ai)=>⟨tab 73 (af (af (af (af au 2 (pF 2)) 3 (pF 3)) 36 (vI (r2.length:Int))) 37 (vI (v16:Int))),(upd (upd RZ 2 (vA 3 [.val (.slice none 0 0),.val (.slice none 0 0),.val (.slice none 0 0)])) 3 (vA 3 [sO 11 (l5.map Txn.row),sO 4 (b.map ai.row),sO 3 (r3.map aa.row)]))⟩) r2 h ?_ ?_
 ·exact wR
 rintro v16 l15 _ h -;rcases (jh r2.length v16) with ⟨hi17',hd20⟩|⟨hi17',hd20⟩
 ·rw [hd20] at h;simp only [oU] at h;have hw19:=eH hi17' hl15;refine z1 hi17' ?_;refine ct ?_;refine z0 ?_;obtain ⟨x22,hb21,hx22,h⟩:=aG h;try simp only [cH] at hx22
  try simp only [nI,nJ,true_and] at hb21
  obtain ⟨r23,hr23,h⟩:=bI h;have hx25:=kr (y:=(ai.mk x22.Actor x22.Owner r23)) hx22;refine d1 (k4 hb21 hx22 hr23 (mm2 (row:=ai.row) (y:=(ai.mk x22.Actor x22.Owner r23)) (rx:=[vS x22.Actor.Type_,vS x22.Actor.Key,vI x22.Owner,sF 1 (x22.Waiters.map (aB .i64))]) (ry:=[vS x22.Actor.Type_,vS x22.Actor.Key,vI x22.Owner,sF 1 (r23.map (aB .i64))]) hx22 rfl rfl)) ?_;refine z1 hw19 ?_;refine ⟨hi17',(l15.set v16 (ai.mk x22.Actor x22.Owner r23)),?_,h⟩;exact wR
 rw [hd20] at h;simp only [oU] at h;refine z1 hi17' ?_;refine cf ?_;unfold zR at h;refine z0 ?_;refine aT (gZ fun hreal27=>?_);have hl26:=hreal27.cell 3 2 (by simp only [go_sem,seval]; rfl) rfl;rw [cx] at hl26;refine oO (fun (v26:Nat) (b:List aa)=>⟨tab 73 (af (af (af (af au 2 (pF 2)) 3 (pF 3)) 55 (vI (r3.length:Int))) 56 (vI (v26:Int))),(upd (upd RZ 2 (vA 3 [.val (.slice none 0 0),.val (.slice none 0 0),.val (.slice none 0 0)])) 3 (vA 3 [sO 11 (l5.map Txn.row),sO 4 (l15.map ai.row),sO 3 (mxR aa.rowD aa.row v26 b)]))⟩) r3 h ?_ ?_
 ·exact wR
 rintro v26 l25 _ h -;rcases (jh r3.length v26).symm with ⟨hi28',hd31⟩|⟨hi28',hd31⟩
 ·rw [hd31] at h;simp only [oK] at h;obtain ⟨hg35,h⟩:=Ot h;refine z1 (k2 hi28' (mi4 hg35)) ?_;refine cf ?_;refine z0 ?_;exact f0 h
 rw [hd31] at h;simp only [oK] at h;have hw30:=eH hi28' hl26;refine z1 hi28' ?_;refine ct ?_;refine z0 ?_;obtain ⟨x24,hb32,hx33,h⟩:=aG h;try simp only [cH] at hx33
 try simp only [nI,nJ,true_and] at hb32
 obtain ⟨r25,hr34,h⟩:=bI h;refine lB fun Z hZ=>?_;simp only [go_sem,seval,hb32,Nl (f:=aa.rowD) (g:=aa.row) hx33,CU,hr34,Vp (f:=aa.rowD) (g:=aa.row) (rx:=[vS x24.Actor.Type_,vS x24.Actor.Key,sF 3 (x24.Layers.map al.row)]) hx33 rfl rfl];repeat with_reducible refine fL (by kernel_rfl) ?_
 refine hZ _ (by kernel_rfl) (z1 hw30 ?_);refine ⟨hi28',(l25.set v26 (aa.mk x24.Actor r25)),?_,h⟩;refine aW.trans (y7 (n:=3) (c':=vA 3 [sO 11 (l5.map Txn.row),sO 4 (l15.map ai.row),sO 3 (mxR aa.rowD aa.row (v26+1) (l25.set v26 (aa.mk x24.Actor r25)))]) (by simp only [go_sem,seval]; rfl) (by first|(simp only [<-KO (f:=_) (g:=_) hx33 (aa.mk x24.Actor r25)]; done)|(rw [<-KO (f:=_) (g:=_) hx33 (aa.mk x24.Actor r25)]; rfl))) ?_;exact wR
@[go_sem] def Ij (N:Nat):FnS:=⟨[],false,fn1 ae.decA fun q0=>(kD N q0).map fun r=>.agg (ae.row r),false⟩
def MY (N:Nat):az prog 59 (Ij N):=om1 fun q0 r h=>rs (Km N q0 r h)
@[go_sem] def pZ (N:Nat):FnS:=⟨[],false,fn1 ae.decA fun q0=>(kD N q0).map fun r=>.agg [sO 11 (r.Txns.map Txn.row),sO 4 (r.Locks.map ai.row),sO 3 (r.Stacks.map aa.rowD)],false⟩
def oF (N:Nat):az prog 59 (pZ N):=om1 (Km N)
@[go_sem] def Sg (N d f:Nat):Option FnS:=aw [(24,23,lS N),(27,98,zt N),(56,59,pZ N),(60,41,z6 N)] d f
def RK (N:Nat) (a0:ae) (a1:Int) (a2:Int) (a3:ByteArray) (a4:Int) (a5:List ah) (r:ae × Int) (h:jP N a0 a1 a2 a3 a4 a5=some r):Con prog 38 [] false [.agg (ae.row a0),vI a1,vI a2,vS a3,vI a4,sF 4 (a5.map ah.row)] (.tup [.agg [sO 11 (r.1.Txns.map Txn.row),sO 4 (r.1.Locks.map ai.row),sO 3 (r.1.Stacks.map aa.row)],vI r.2]):=by
 refine fk (G:=(Sg N)) func38 (gc 24 (j4 N) (gc 27 (BG N) (gc 56 (oF N) (gc 60 (BW N) gn)))) ?_;simp only [f38];unfold jP at h;refine z0 ?_;refine z0 ?_;refine aM (aT ?_);apply aS (fun (c10:Bool)=>⟨tab 65 (af (af (af (af (af au 1 (vI a1)) 6 (pF 6)) 12 (pF 12)) 14 (pF 14)) 22 (vB c10)),(upd (upd (upd RZ 6 (vA 3 (ae.row a0))) 12 (vA 3 [.val (.slice none 0 0),.val (.slice none 0 0),.val (.slice none 0 0)])) 14 (vA 11 [vI a1,vI a2,vS a3,vI a4,sF 4 (a5.map ah.row),vI 0,vI 0,vI 0,vS (⟨#[]⟩),.val (.slice none 0 0),.val (.slice none 0 0)]))⟩)
 ·intro hJ1;obtain ⟨r11,hr2,h⟩:=bI h;refine z1 hr2 ?_;refine cM h (fun hc3 h=>?_) fun hc3 h=>?_
  ·refine aZ (pp (hJ1 _ true ?_ h));exact wF hc3
  obtain ⟨r12,hr4,h⟩:=bI h;refine z1 (k2 hc3 hr4) ?_;exact hJ1 _ (!r12) (wF (k3 hr2 hc3 hr4)) h
 intro c10 h;unfold zs at h;refine cB h (fun hc5 h=>?_) fun hc5 h=>?_
 ·refine z1 hc5 ?_;exact f0 h
 apply aS (fun (c14:Bool)=>⟨tab 65 (af (af (af (af au 6 (pF 6)) 12 (pF 12)) 14 (pF 14)) 30 (vB c14)),(upd (upd (upd RZ 6 (vA 3 (ae.row a0))) 12 (vA 3 [.val (.slice none 0 0),.val (.slice none 0 0),.val (.slice none 0 0)])) 14 (vA 11 [vI a1,vI a2,vS a3,vI a4,sF 4 (a5.map ah.row),vI 0,vI 0,vI 0,vS (⟨#[]⟩),.val (.slice none 0 0),.val (.slice none 0 0)]))⟩)
 ·intro hJ6;refine iD h (fun hc7 hc7d h=>?_) fun hc7 hc7d h=>?_
  ·obtain ⟨x15,hb8,hx9,h⟩:=aG h;refine z1 (k4 hc5 hc7d hb8 hx9) ?_;exact hJ6 _ (decide (a1<=x15.ID)) (wF (k4 hc5 hc7d hb8 hx9)) h
  refine z1 (k2 hc5 hc7d) ?_;exact hJ6 _ false (wF (k2 hc5 hc7d)) h
 intro c14 h;unfold pn at h;refine cB h (fun hc10 h=>?_) fun hc10 h=>?_
 ·refine z1 hc10 ?_;exact f0 h
 refine z1 hc10 ?_;refine cD h (fun hc11 hc11d h=>?_) fun hc11 hc11d h=>?_
 ·refine z1 hc11d ?_;exact f0 h
 refine aZ (pp ?_);unfold o7 at h;obtain ⟨r16,hr12,h⟩:=bI h;refine z1 (k2 hc11d hr12) ?_;obtain ⟨r17,hr13,h⟩:=bI h;obtain ⟨ha14,h⟩:=kQ h;simp only [cC,cY,cV,Nat.reduceAdd] at ha14;refine d1 (k2 hr13 ha14) ?_;refine z0 ?_;exact f0 h
@[go_sem] def zH (N:Nat):FnS:=⟨[],false,fn6 ae.decA (aH .i64) (aH .i64) bR (aH .i64) (aJ 4 ah.dec) fun q0 q1 q2 q3 q4 q5=>(jP N q0 q1 q2 q3 q4 q5).map fun r=>.tup [.agg (ae.row r.1),vI r.2],false⟩
def zm (N:Nat):az prog 38 (zH N):=om6 fun q0 q1 q2 q3 q4 q5 r h=>rs (RK N q0 q1 q2 q3 q4 q5 r h)
@[go_sem] def TF (N d f:Nat):Option FnS:=aw [(9,40,gC N),(52,57,Cu N)] d f
def UF (N:Nat) (a0:ae) (a1:Int) (r:ah × Bool) (h:oS N a0 a1=some r):Con prog 24 [] false [.agg (ae.row a0),vI a1] (.tup [.agg [vS r.1.Target.Type_,vS r.1.Target.Key,vS r.1.Method,sO 5 (r.1.Args.map Value.row)],vB r.2]):=by
 refine fk (G:=(TF N)) func24 (gc 9 (eV N) (gc 52 (GZ N) gn)) ?_;simp only [f24];unfold oS at h;refine z0 ?_;obtain ⟨r1,hr1,h⟩:=bI h;refine z1 hr1 ?_;refine aM ?_;apply aS (fun (c6:Bool)=>⟨tab 53 (af (af (af (af au 2 (pF 2)) 4 (pF 4)) 6 (vI r1)) 36 (vB c6)),(upd (upd RZ 2 (vA 3 (ae.row a0))) 4 (vA 4 [vS (⟨#[]⟩),vS (⟨#[]⟩),vS (⟨#[]⟩),.val (.slice none 0 0)]))⟩)
 ·intro hJ2;refine iD h (fun hc3 hc3d h=>?_) fun hc3 hc3d h=>?_
  ·refine d1 hc3d ?_;exact hJ2 _ true wR h
  obtain ⟨x7,hb4,hx5,h⟩:=aG h;refine iD h (fun hc6 hc6d h=>?_) fun hc6 hc6d h=>?_
  ·refine d1 (k4 hc3d hb4 hx5 hc6d) ?_;exact hJ2 _ true wR h
  refine d1 (k4 hc3d hb4 hx5 hc6d) ?_;exact hJ2 _ (decide ((x7.Calls.length:Int)<=x7.Done)) wR h
 intro c6 h;unfold rp at h;refine cB h (fun hc7 h=>?_) fun hc7 h=>?_
 ·refine z1 hc7 ?_;exact f0 h
 refine aZ (pp ?_);unfold yf at h;obtain ⟨x8,hb8,hx9,h⟩:=aG h;obtain ⟨x9,hb10,hx11,h⟩:=aG h;obtain ⟨r10,hr12,h⟩:=bI h;refine d1 (k5 hc7 hb8 hx9 hb10 (k2 hx11 hr12)) ?_;exact f0 h
@[go_sem] def EZ (N:Nat):FnS:=⟨[],false,fn2 ae.decA (aH .i64) fun q0 q1=>(oS N q0 q1).map fun r=>.tup [.agg (ah.row r.1),vB r.2],false⟩
def F0 (N:Nat):az prog 24 (EZ N):=om2 fun q0 q1 r h=>rs (UF N q0 q1 r h)
@[go_sem] def O7 (N d f:Nat):Option FnS:=aw [(6,131,sB N),(19,133,tk N)] d f
def Hu (N:Nat) (a0:List ai) (r:List ai) (h:fW N a0=some r):Con prog 117 [] false [sF 4 (a0.map ai.row)] (sO 4 (r.map ai.rowD)):=by
 refine fk (G:=(O7 N)) func117 (gc 6 (vF N) (gc 19 (wD N) gn)) ?_;simp only [f117];unfold fW at h;refine z0 ?_;obtain ⟨r1,hr1,h⟩:=bI h;refine z1 hr1 ?_;refine z0 ?_;refine aT (gZ fun hreal3=>?_);have hl2:=hreal3.lenX 6 (by simp only [go_sem,seval]; rfl);rw [cx] at hl2;refine oO (fun (v4:Nat) (b:List ai)=>⟨tab 24 (af (af (af au 3 (.pal 6 [] 0 b.length none)) 8 (vI (r1.length:Int))) 9 (vI (v4:Int))),(upd RZ 6 (sO 4 (mxR ai.rowD ai.row v4 b)))⟩) r1 h ?_ ?_
 ·exact wF hr1
 rintro v4 l3 _ h -;rcases (jh r1.length v4).symm with ⟨hi4',hd7⟩|⟨hi4',hd7⟩
 ·rw [hd7] at h;simp only [ly] at h;obtain ⟨hg11,h⟩:=Ot h;refine z1 (k2 hi4' (mi4 hg11)) ?_;refine cf ?_;refine z0 ?_;exact f0 h
 rw [hd7] at h;simp only [ly] at h;have hw6:=eH hi4' hl2;refine z1 hi4' ?_;refine ct ?_;refine z0 ?_;obtain ⟨x2,hb8,hx9,h⟩:=aG h;try simp only [cH] at hx9
 try simp only [nI,nJ,true_and] at hb8
 obtain ⟨r3,hr10,h⟩:=bI h;refine z1 (k4 hb8 (Nl (f:=ai.rowD) (g:=ai.row) hx9) hr10 (mi1 (f:=ai.rowD) (g:=ai.row) (rx:=[vS x2.Actor.Type_,vS x2.Actor.Key,vI x2.Owner,sF 1 (x2.Waiters.map (aB .i64))]) hx9 rfl)) ?_;refine z1 hw6 ?_;refine ⟨hi4',(l3.set v4 (ai.mk x2.Actor x2.Owner r3)),?_,h⟩;refine aW.trans (TL (n:=6) (ai.mk x2.Actor x2.Owner r3) hx9 (by simp only [go_sem,seval]; rfl) rfl rfl) ?_;refine wr ?_ ?_<;>repeat' first|rfl|constructor|simp only [go_sem,seval,nH,hU]
@[go_sem] def jY (N:Nat):FnS:=⟨[],false,fn1 (aJ 4 ai.dec) fun q0=>(fW N q0).map fun r=>sO 4 (r.map ai.row),false⟩
def jI (N:Nat):az prog 117 (jY N):=om1 fun q0 r h=>rs (Hu N q0 r h)
@[go_sem] def zM (N:Nat):FnS:=⟨[],false,fn1 (aJ 4 ai.dec) fun q0=>(fW N q0).map fun r=>sO 4 (r.map ai.rowD),false⟩
def BI (N:Nat):az prog 117 (zM N):=om1 (Hu N)
def dP:FnS:={ own:=[true,true],pure:=false,fn:=fun _=>none,peek:=true }
theorem wQ:dP.own=[true,true]:=rfl
theorem wo:dP.peek=true:=rfl
theorem B2:I6 prog 195:=
 Ny (fn:=f195) (tS:=25) (tR:=4) (e:=100) (size:=4) func195 rfl rfl (by kernel_rfl) (by kernel_rfl) (by kernel_rfl) (by kernel_rfl)
def yi:az prog 195 dP:=⟨(fun cs r h=>by simp [dP] at h),fun _=>B2⟩
def gw:Env:={ T:=eA prog,G:=fun d f=>if d=67/\f=195 then some dP else none }
theorem rv:gw.T=eA prog:=rfl
theorem EX (d:Nat):gw.F d=none:=rfl
theorem EN (d f:Nat):gw.L d f=none:=rfl
theorem EJ:gw.G 67 195=some dP:=rfl
def D3:GOk prog { T:=eA prog,G:=gw.G }:=by
 refine ⟨?_,fun _ _ _ h=>by cases h⟩;intro d f fs hfs;simp only [gw] at hfs;split at hfs
 ·rename_i hc; obtain ⟨rfl,rfl⟩:=hc; obtain rfl:=nf hfs; exact yi
 cases hfs
theorem FJ:Ee prog 127 f127 f127.body.get! := ⟨func127,rfl,by decide,by kernel_rfl⟩
set_option maxHeartbeats 4000000 in
section
attribute [local go_sem] rv fX CH Option.map_some Nat.sub_zero Nat.le_refl dB tD List.isEmpty_nil
def FT {α:Type} (row:α->List C) (ok:aF row) (l:List α) (i:Nat) (x:α) (k:Nat) (r:List α) (hr:r=l.take i++[x]++l.drop i) (hi:i<=l.length) (hsz:(l.length+1) * 64<=140737488355328) (hk1:l.length<=k) (hk2:k<=maxLen) :
  Con prog 127 [true,false,true] false [.sl true none 4 (some k) (l.map row),vI i,sO 4 ([x].map row)] (sO 4 (r.map row)):=by
 refine JJ (E:=gw) (ze prog _) D3 mix FJ (na rfl) ?_;intro _;rw [vk (by simp)];rw [show gh [true,false,true] [C.sl true none 4 (some k) (l.map row),C.val (.int .i64 i),C.sl true none 4 none ([x].map row)]=(af (af (af au 0 (.pal 0 [] 0 l.length none)) 1 (vI i)) 2 (.pal 2 [] 0 1 none)) from by funext t; match t with|0=>simp [gh,iT,jU,af]|1=>rfl|2=>rfl|t+3=>rfl];rw [show R0 [true,false,true] [C.sl true none 4 (some k) (l.map row),C.val (.int .i64 i),C.sl true none 4 none ([x].map row)]=upd (upd RZ 0 (C.sl true none 4 (some k) (l.map row))) 2 (C.sl true none 4 none ([x].map row)) from by funext t; match t with|0=>rfl|1=>rfl|2=>rfl|t+3=>rfl];apply JI;simp only [f127,Option.get!];have hi1:(i:Int)<=(l.length:Int):=by omega
 have hi2:i<=l.length:=hi;have h10:(((1:Nat):Int)=0)=False:=by simp
 have hp:(row x).all Abs.plainCell=true:=ok.plain x;have hf:(row x).map C.frz=(row x):=ok.frz x;have hpD:(row x).all qt=true:=by have:=(aF.allD ok [x]); simpa using this
 have hw1:IntKind.i64.wrap ((l.length:Int)+((1:Nat):Int))=((l.length+1:Nat):Int):=by rw [lQ (by omega) (by omega)]; rfl
 have hlt0:(l.take i).length=i:=by simp; omega
 have hes:(4 != 0)=true:=rfl;have hm1:min 1 (l.length+1 - i)=1:=by omega
 have hm2:min (l.length - i) (l.length+1 - (i+1))=l.length - i:=by omega
 have hm3:(l.drop i).take (l.length - i)=l.drop i:=ni (by simp);have hm4:i+1<=l.length+1:=by omega
 have hw2:IntKind.i64.wrap (((l.length+1:Nat):Int) - (i:Int))=((l.length+1 - i:Nat):Int):=by rw [lQ (by omega) (by omega)]; omega
 have hw1b:IntKind.i64.wrap ((l.length:Int)+1)=((l.length+1:Nat):Int):=hw1;have hw3:IntKind.i64.wrap ((i:Int)+((1:Nat):Int))=((i+1:Nat):Int):=by rw [lQ (by omega) (by omega)]; rfl
 have hw3b:IntKind.i64.wrap ((i:Int)+1)=((i+1:Nat):Int):=hw3;simp only [go_sem,seval,rv,hi2,cw,fX,cy,acV];refine K8 rfl ?_;simp only [go_sem,seval,rv,acV];refine tu rfl (fun hc=>?_) (fun hc=>?_)
 ·have e:i=l.length:=by omega
  subst e;simp only [go_sem,seval,EX,hp,hf,aF.allD ok,acH,dU,hsz];refine sS ok ?_;rw [hr];simp [ni]
 ·have hc1:decide ((i:Int)=(l.length:Int))=false:=decide_eq_false hc;have hlt:i < l.length:=by omega
  simp only [go_sem,seval,PG,tJ,hw1b,hc1];refine tu rfl (fun hk=>?_) (fun hk=>?_)
  ·have hk1:decide (k < l.length+1)=true:=decide_eq_true hk;have hk2:k < i+(l.length+1 - i):=by omega
   have e1:i+(l.length+1 - i)=l.length+1:=by omega
   have hi3:(i:Int)<=((l.length+1:Nat):Int):=by omega
   have hi4:i<=l.length+1:=by omega
   obtain ⟨A,hA⟩:∃ A,List.map row (List.take i l)++List.replicate (l.length+1 - i) [C.val (Value.string ⟨#[]⟩),C.val (Value.string ⟨#[]⟩),C.val (Value.int .i64 0),C.val (Value.slice none 0 0)]=A:=⟨_,rfl⟩;have hAp:bK A:=by rw [<-hA]; exact jO (fP ok _) (zS _ [Value.string ⟨#[]⟩,Value.string ⟨#[]⟩,Value.int .i64 0,Value.slice none 0 0] (by simp [Value.oneCell']))
   have hAl:A.length=l.length+1:=by rw [<-hA,ng,cx,hlt0,xm]; omega
   obtain ⟨B,hB⟩:∃ B,aK A i [(row x)]=B:=⟨_,rfl⟩;have hBp:bK B:=by rw [<-hB]; exact fQ hAp ⟨by simp [frzRows,hf],by simp [hpD]⟩
   have hBl:B.length=l.length+1:=by rw [<-hB]; simp [aK,hAl]; omega
   obtain ⟨D,hD⟩:∃ D,aK B (i+1) (List.map row (List.drop i l))=D:=⟨_,rfl⟩;have hDp:bK D:=by rw [<-hD]; exact fQ hBp (fP ok _)
   have hDl:D.length=l.length+1:=by rw [<-hD]; simp [aK,hBl]; omega
   have hDe:D=(l.take i++[x]++l.drop i).map row:=by
    rw [<-hD,<-hB,<-hA,xd,nR,NU (A:=l.map row) (n:=l.length) (by simp) hi2 (by simp)];simp
   simp only [go_sem,seval,hi2,hp,hf,aF.frzRows ok,aF.allPlain ok,CX,tJ,Gk,CA,gy,Ed,Ext.all,hw2,hw1b,hw3b,adg,cT,xm,hlt0,hm1,hm3,hm4,hk,e1,hi4,hA,hAl,hAp.1,hAp.2,hB,hBp.1,hBp.2,hD,hsz];repeat' ((with_reducible refine fL ?_ ?_); kernel_rfl)
   simp only [go_sem,seval,dU];refine sS ok ?_;rw [hr,<-hDe,<-hDl,xw]
  ·have hk1:decide (k < l.length+1)=false:=decide_eq_false hk;have hk2:¬ k < i+(l.length+1 - i):=by omega
   have hk3:l.length+1<=k:=by omega
   have e2:l.length+1 - l.length=1:=by omega
   have e3:l.length<=l.length+1:=by omega
   have hi3:(i:Int)<=((l.length+1:Nat):Int):=by omega
   have hi4:i<=l.length+1:=by omega
   have hne:¬ l.length+1 - (i+1)=0:=by omega
   have hne2:¬ l.length - i=0:=by omega
   obtain ⟨A,hA⟩:∃ A,List.map row l++[[C.dead,C.dead,C.dead,C.dead]]=A:=⟨_,rfl⟩;have hAp:bK A:=by rw [<-hA]; exact jO (fP ok _) (Da 1 4)
   have hAl:A.length=l.length+1:=by rw [<-hA]; simp
   have hm5:min (l.length+1 - i) (l.length+1 - (i+1))=l.length - i:=by omega
   have hm5b:min (l.length+1 - i) (l.length - i)=l.length - i:=by omega
   obtain ⟨A2,hA2⟩:∃ A2,(A.drop i).take (l.length - i)=A2:=⟨_,rfl⟩;have hA2e:A2=List.map row (l.drop i):=by
    rw [<-hA2,<-hA,acG,cx,show i - l.length=0 by omega,nO,xq,ni (by simp),show l.length - i - (List.drop i (List.map row l)).length=0 by simp];simp [nR]
   have hA2p:(A2.all fun r=>r.all Abs.plainCell)=true:=by rw [hA2e]; exact ok.allPlain _
   have hA2f:frzRows A2=A2:=by rw [hA2e]; exact ok.frzRows _
   have hA2d:bK A2:=by rw [hA2e]; exact fP ok _
   obtain ⟨B,hB⟩:∃ B,aK A (i+1) A2=B:=⟨_,rfl⟩;have hBp:bK B:=by rw [<-hB]; exact fQ hAp hA2d
   have hBl:B.length=l.length+1:=by rw [<-hB]; simp [aK,hAl,hA2e]; omega
   obtain ⟨D,hD⟩:∃ D,aK B i [(row x)]=D:=⟨_,rfl⟩;have hDp:bK D:=by rw [<-hD]; exact fQ hBp ⟨by simp [frzRows,hf],by simp [hpD]⟩
   have hDl:D.length=l.length+1:=by rw [<-hD]; simp [aK,hBl]; omega
   have hDe:D=(l.take i++[x]++l.drop i).map row:=by
    rw [<-hD,<-hB,<-hA2,<-hA,La (A:=l.map row) (n:=l.length) (by simp) hi2];simp [xd,nR]
   simp only [go_sem,seval,EN,EJ,aF.frzRows ok,aF.allD ok,AM,Jq,qI,hw1b,hw3b,cT,hm4,wQ,wo,acH,hk,hk3,e2,e3,hne2,hA,hes];refine K1 rfl ?_;simp only [go_sem,seval,hp,hf,CX,Gk,CA,hw3b,hm1,hm4,hi4,hAp.1,hAp.2,hA2,hA2p,hA2f,hB,hBp.1,hBp.2,hD,hm5b];repeat' ((with_reducible refine fL ?_ ?_); kernel_rfl)
   simp only [go_sem,seval,dU];refine sS ok ?_;rw [hr,<-hDe,<-hDl,xw]
end
def Hi (N:Nat) (a0:List ai) (a1:Int) (a2:List ai) (r:List ai) (h:lF N a0 a1 a2=some r) :
  Con prog 127 [true,false,true] false [sO 4 (a0.map ai.row),vI a1,sO 4 (a2.map ai.row)] (sO 4 (r.map ai.row)):=by
 unfold lF at h;obtain ⟨n,x,rfl,rfl,h1,h2,h3⟩:=BM h;exact JF fun k hk1 hk2=>FT ai.row ai.row_ok a0 n x k r (nf h3).symm h1 h2 (by simpa using hk1) hk2
def fu (N:Nat):FnS:={ own:=[true,false,true],pure:=false,fn:=fun cs=>match cs with
 | [c0,c1,c2]=>(vK 4 ai.dec c0).bind fun q0=>(aH .i64 c1).bind fun q1=>(vK 4 ai.dec c2).bind fun q2=>(lF N q0 q1 q2).map fun r=>sO 4 (r.map ai.row)
 | _=>none }
theorem B5 (N:Nat):(fu N).own=[true,false,true]:=rfl
theorem Bq (N:Nat):(fu N).pure=false:=rfl
theorem BA (N:Nat):(fu N).peek=false:=rfl
attribute [go_sem] fu B5 Bq BA
def CL (N:Nat):az prog 127 (fu N):=by
 refine ⟨fun cs r h=>?_,fun h=>by cases h⟩;simp only [fu] at h;split at h
 ·simp only [ck,cj] at h;obtain ⟨q0,h0,q1,h1,q2,h2,r',hr,rfl⟩:=h;exact (Hi N q0 q1 q2 r' hr).argsO rfl (jE (qc ai.row_ok ai.dec_le h0) (rm (bz h1) (jE (qc ai.row_ok ai.dec_le h2) oa)))
 ·cases h
def ME (N:Nat) (a0:Int) (r:Bool) (h:qd N a0=some r):Con prog 228 [] true [vI a0] (vB r):=by
 refine fk (G:=(aw [])) func228 gn ?_;simp only [f228];unfold qd at h;refine z0 ?_;refine z0 ?_;exact e0 h
@[go_sem] def yN (N:Nat):FnS:=⟨[],true,fn1 (aH .i64) fun q0=>(qd N q0).map fun r=>vB r,false⟩
def Ao (N:Nat):az prog 228 (yN N):=om1 (ME N)
@[go_sem] def Np (N d f:Nat):Option FnS:=aw [(6,228,yN N),(9,228,yN N)] d f
def NO (N:Nat) (a0:Int) (a1:Int) (r:Bool) (h:o8 N a0 a1=some r):Con prog 197 [] true [vI a0,vI a1] (vB r):=by
 refine fk (G:=(Np N)) func197 (gc 6 (Ao N) (gc 9 (Ao N) gn)) ?_;simp only [f197];unfold o8 at h;refine z0 ?_;refine aM ?_;obtain ⟨r1,hr1,h⟩:=bI h;refine iBs h (fun hc2 h=>?_) fun hc2 h=>?_
 ·refine z1 (k2 hr1 hc2) ?_;exact e0 h
 obtain ⟨r2,hr3,h⟩:=bI h;refine iBs h (fun hc4 h=>?_) fun hc4 h=>?_
 ·refine z1 (k4 hr1 hc2 hr3 hc4) ?_;exact e0 h
 refine z1 (k4 hr1 hc2 hr3 hc4) ?_;exact e0 h
@[go_sem] def zU (N:Nat):FnS:=⟨[],true,fn2 (aH .i64) (aH .i64) fun q0 q1=>(o8 N q0 q1).map fun r=>vB r,false⟩
def BZ (N:Nat):az prog 197 (zU N):=om2 (NO N)
def IG (N:Nat) (a0:Int) (r:Bool) (h:k7 N a0=some r):Con prog 198 [] true [vI a0] (vB r):=by
 refine fk (G:=(aw [])) func198 gn ?_;simp only [f198];unfold k7 at h;refine z0 ?_;refine z0 ?_;exact e0 h
@[go_sem] def uQ (N:Nat):FnS:=⟨[],true,fn1 (aH .i64) fun q0=>(k7 N q0).map fun r=>vB r,false⟩
def yo (N:Nat):az prog 198 (uQ N):=om1 (IG N)
@[go_sem] def CN (N d f:Nat):Option FnS:=aw [(27,197,zU N),(47,198,uQ N),(50,198,uQ N)] d f
def CP (N:Nat) (a0:List Int) (a1:Int) (r:Int × Bool) (h:gp N a0 a1=some r):Con prog 128 [] true [sF 1 (a0.map (aB .i64)),vI a1] (.tup [vI r.1,vB r.2]):=by
 refine fk (G:=(CN N)) func128 (gc 27 (BZ N) (gc 47 (yo N) (gc 50 (yo N) gn))) ?_;simp only [f128];unfold gp at h;refine z0 ?_;refine z0 ?_;refine z0 ?_;refine aM (aT (gl (fun (b:Int × Int)=>⟨tab 54 (af (af (af (af (af au 0 (sF 1 (a0.map (aB .i64)))) 1 (vI a1)) 6 (vI (a0.length:Int))) 7 (vI b.1)) 8 (vI b.2)),RZ⟩) (0,(a0.length:Int)) h ?_ ?_))
 ·exact wR
 rintro n ⟨v2,v3⟩ h -;cases n with
 | zero=>simp [dT] at h
 | succ n=>
 simp only [dT] at h;refine z0 ?_;refine cD h (fun hc1 hc1d h=>?_) fun hc1 hc1d h=>?_
 ·refine z1 hc1d ?_;obtain ⟨x9,hb2,hx3,h⟩:=aG h;obtain ⟨r10,hr4,h⟩:=bI h;refine z1 (k3 hb2 hx3 hr4) ?_;refine cB h (fun hc5 h=>?_) fun hc5 h=>?_
  ·refine z1 hc5 ?_;refine ⟨_,cZ _,(IntKind.i64.wrap ((IntKind.i64.wrap (jW .u64 (IntKind.u64.wrap (IntKind.i64.wrap (v2+v3))) 1))+1),v3),?_,h⟩;exact wR
  refine z1 hc5 ?_;refine ⟨_,cZ _,(v2,IntKind.i64.wrap (jW .u64 (IntKind.u64.wrap (IntKind.i64.wrap (v2+v3))) 1)),?_,h⟩;exact wR
 refine gi (pp ?_);unfold jm at h;refine iDs h (fun hc6 hc6d h=>?_) fun hc6 hc6d h=>?_
 ·refine z1 (k2 hc1d hc6d) ?_;exact e0 h
 obtain ⟨x11,hb7,hx8,h⟩:=aG h;refine iD h (fun hc9 hc9d h=>?_) fun hc9 hc9d h=>?_
 ·refine z1 (k4 hc1d hb7 hx8 hc9d) ?_;exact e0 h
 obtain ⟨r12,hr10,h⟩:=bI h;refine iB h (fun hc11 h=>?_) fun hc11 h=>?_
 ·obtain ⟨r13,hr12,h⟩:=bI h;refine z1 (k5 hc1d hb7 hx8 hc9d (k3 hr10 hc11 hr12)) ?_;exact e0 h
 refine z1 (k5 hc1d hb7 hx8 hc9d (k2 hr10 hc11)) ?_;exact e0 h
@[go_sem] def uy (N:Nat):FnS:=⟨[],true,fn2 (aJ 1 (dq (aH .i64))) (aH .i64) fun q0 q1=>(gp N q0 q1).map fun r=>.tup [vI r.1,vB r.2],false⟩
def Ad (N:Nat):az prog 128 (uy N):=om2 (CP N)
def ee:FnS:={ own:=[true,true],pure:=false,fn:=fun _=>none,peek:=true }
theorem w9:ee.own=[true,true]:=rfl
theorem wH:ee.peek=true:=rfl
theorem B6:I6 prog 199:=
 Ny (fn:=f199) (tS:=35) (tR:=4) (e:=3) (size:=1) func199 rfl rfl (by kernel_rfl) (by kernel_rfl) (by kernel_rfl) (by kernel_rfl)
def yO:az prog 199 ee:=⟨(fun cs r h=>by simp [ee] at h),fun _=>B6⟩
def gN:Env:={ T:=eA prog,G:=fun d f=>if d=67/\f=199 then some ee else none }
theorem sy:gN.T=eA prog:=rfl
theorem FG (d:Nat):gN.F d=none:=rfl
theorem Fu (d f:Nat):gN.L d f=none:=rfl
theorem Fk:gN.G 67 199=some ee:=rfl
def Fc:GOk prog { T:=eA prog,G:=gN.G }:=by
 refine ⟨?_,fun _ _ _ h=>by cases h⟩;intro d f fs hfs;simp only [gN] at hfs;split at hfs
 ·rename_i hc; obtain ⟨rfl,rfl⟩:=hc; obtain rfl:=nf hfs; exact yO
 cases hfs
theorem GN:Ee prog 129 f129 f129.body.get! := ⟨func129,rfl,by decide,by kernel_rfl⟩
set_option maxHeartbeats 4000000 in
section
attribute [local go_sem] sy fX CH Option.map_some Nat.sub_zero Nat.le_refl dB tD List.isEmpty_nil
def Gd {α:Type} (row:α->List C) (ok:aF row) (l:List α) (i:Nat) (x:α) (k:Nat) (r:List α) (hr:r=l.take i++[x]++l.drop i) (hi:i<=l.length) (hsz:(l.length+1) * 8<=140737488355328) (hk1:l.length<=k) (hk2:k<=maxLen) :
  Con prog 129 [true,false,true] false [.sl true none 1 (some k) (l.map row),vI i,sO 1 ([x].map row)] (sO 1 (r.map row)):=by
 refine JJ (E:=gN) (ze prog _) Fc mix GN (na rfl) ?_;intro _;rw [vk (by simp)];rw [show gh [true,false,true] [C.sl true none 1 (some k) (l.map row),C.val (.int .i64 i),C.sl true none 1 none ([x].map row)]=(af (af (af au 0 (.pal 0 [] 0 l.length none)) 1 (vI i)) 2 (.pal 2 [] 0 1 none)) from by funext t; match t with|0=>simp [gh,iT,jU,af]|1=>rfl|2=>rfl|t+3=>rfl];rw [show R0 [true,false,true] [C.sl true none 1 (some k) (l.map row),C.val (.int .i64 i),C.sl true none 1 none ([x].map row)]=upd (upd RZ 0 (C.sl true none 1 (some k) (l.map row))) 2 (C.sl true none 1 none ([x].map row)) from by funext t; match t with|0=>rfl|1=>rfl|2=>rfl|t+3=>rfl];apply JI;simp only [f129,Option.get!];have hi1:(i:Int)<=(l.length:Int):=by omega
 have hi2:i<=l.length:=hi;have h10:(((1:Nat):Int)=0)=False:=by simp
 have hp:(row x).all Abs.plainCell=true:=ok.plain x;have hf:(row x).map C.frz=(row x):=ok.frz x;have hpD:(row x).all qt=true:=by have:=(aF.allD ok [x]); simpa using this
 have hw1:IntKind.i64.wrap ((l.length:Int)+((1:Nat):Int))=((l.length+1:Nat):Int):=by rw [lQ (by omega) (by omega)]; rfl
 have hlt0:(l.take i).length=i:=by simp; omega
 have hes:(1 != 0)=true:=rfl;have hm1:min 1 (l.length+1 - i)=1:=by omega
 have hm2:min (l.length - i) (l.length+1 - (i+1))=l.length - i:=by omega
 have hm3:(l.drop i).take (l.length - i)=l.drop i:=ni (by simp);have hm4:i+1<=l.length+1:=by omega
 have hw2:IntKind.i64.wrap (((l.length+1:Nat):Int) - (i:Int))=((l.length+1 - i:Nat):Int):=by rw [lQ (by omega) (by omega)]; omega
 have hw1b:IntKind.i64.wrap ((l.length:Int)+1)=((l.length+1:Nat):Int):=hw1;have hw3:IntKind.i64.wrap ((i:Int)+((1:Nat):Int))=((i+1:Nat):Int):=by rw [lQ (by omega) (by omega)]; rfl
 have hw3b:IntKind.i64.wrap ((i:Int)+1)=((i+1:Nat):Int):=hw3;simp only [go_sem,seval,sy,hi2,cw,fX,cy,acV];refine K8 rfl ?_;simp only [go_sem,seval,sy,acV];refine tu rfl (fun hc=>?_) (fun hc=>?_)
 ·have e:i=l.length:=by omega
  subst e;simp only [go_sem,seval,FG,hp,hf,aF.allD ok,acH,dU,hsz];refine sS ok ?_;rw [hr];simp [ni]
 ·have hc1:decide ((i:Int)=(l.length:Int))=false:=decide_eq_false hc;have hlt:i < l.length:=by omega
  simp only [go_sem,seval,PG,tJ,hw1b,hc1];refine tu rfl (fun hk=>?_) (fun hk=>?_)
  ·have hk1:decide (k < l.length+1)=true:=decide_eq_true hk;have hk2:k < i+(l.length+1 - i):=by omega
   have e1:i+(l.length+1 - i)=l.length+1:=by omega
   have hi3:(i:Int)<=((l.length+1:Nat):Int):=by omega
   have hi4:i<=l.length+1:=by omega
   obtain ⟨A,hA⟩:∃ A,List.map row (List.take i l)++List.replicate (l.length+1 - i) [C.val (Value.int .i64 0)]=A:=⟨_,rfl⟩;have hAp:bK A:=by rw [<-hA]; exact jO (fP ok _) (zS _ [Value.int .i64 0] (by simp [Value.oneCell']))
   have hAl:A.length=l.length+1:=by rw [<-hA,ng,cx,hlt0,xm]; omega
   obtain ⟨B,hB⟩:∃ B,aK A i [(row x)]=B:=⟨_,rfl⟩;have hBp:bK B:=by rw [<-hB]; exact fQ hAp ⟨by simp [frzRows,hf],by simp [hpD]⟩
   have hBl:B.length=l.length+1:=by rw [<-hB]; simp [aK,hAl]; omega
   obtain ⟨D,hD⟩:∃ D,aK B (i+1) (List.map row (List.drop i l))=D:=⟨_,rfl⟩;have hDp:bK D:=by rw [<-hD]; exact fQ hBp (fP ok _)
   have hDl:D.length=l.length+1:=by rw [<-hD]; simp [aK,hBl]; omega
   have hDe:D=(l.take i++[x]++l.drop i).map row:=by
    rw [<-hD,<-hB,<-hA,xd,nR,NU (A:=l.map row) (n:=l.length) (by simp) hi2 (by simp)];simp
   simp only [go_sem,seval,hi2,hp,hf,aF.frzRows ok,aF.allPlain ok,CX,tJ,Gk,CA,gy,Ed,Ext.all,hw2,hw1b,hw3b,adg,cT,xm,hlt0,hm1,hm3,hm4,hk,e1,hi4,hA,hAl,hAp.1,hAp.2,hB,hBp.1,hBp.2,hD,hsz];repeat' ((with_reducible refine fL ?_ ?_); kernel_rfl)
   simp only [go_sem,seval,dU];refine sS ok ?_;rw [hr,<-hDe,<-hDl,xw]
  ·have hk1:decide (k < l.length+1)=false:=decide_eq_false hk;have hk2:¬ k < i+(l.length+1 - i):=by omega
   have hk3:l.length+1<=k:=by omega
   have e2:l.length+1 - l.length=1:=by omega
   have e3:l.length<=l.length+1:=by omega
   have hi3:(i:Int)<=((l.length+1:Nat):Int):=by omega
   have hi4:i<=l.length+1:=by omega
   have hne:¬ l.length+1 - (i+1)=0:=by omega
   have hne2:¬ l.length - i=0:=by omega
   obtain ⟨A,hA⟩:∃ A,List.map row l++[[C.dead]]=A:=⟨_,rfl⟩;have hAp:bK A:=by rw [<-hA]; exact jO (fP ok _) (Da 1 1)
   have hAl:A.length=l.length+1:=by rw [<-hA]; simp
   have hm5:min (l.length+1 - i) (l.length+1 - (i+1))=l.length - i:=by omega
   have hm5b:min (l.length+1 - i) (l.length - i)=l.length - i:=by omega
   obtain ⟨A2,hA2⟩:∃ A2,(A.drop i).take (l.length - i)=A2:=⟨_,rfl⟩;have hA2e:A2=List.map row (l.drop i):=by
    rw [<-hA2,<-hA,acG,cx,show i - l.length=0 by omega,nO,xq,ni (by simp),show l.length - i - (List.drop i (List.map row l)).length=0 by simp];simp [nR]
   have hA2p:(A2.all fun r=>r.all Abs.plainCell)=true:=by rw [hA2e]; exact ok.allPlain _
   have hA2f:frzRows A2=A2:=by rw [hA2e]; exact ok.frzRows _
   have hA2d:bK A2:=by rw [hA2e]; exact fP ok _
   obtain ⟨B,hB⟩:∃ B,aK A (i+1) A2=B:=⟨_,rfl⟩;have hBp:bK B:=by rw [<-hB]; exact fQ hAp hA2d
   have hBl:B.length=l.length+1:=by rw [<-hB]; simp [aK,hAl,hA2e]; omega
   obtain ⟨D,hD⟩:∃ D,aK B i [(row x)]=D:=⟨_,rfl⟩;have hDp:bK D:=by rw [<-hD]; exact fQ hBp ⟨by simp [frzRows,hf],by simp [hpD]⟩
   have hDl:D.length=l.length+1:=by rw [<-hD]; simp [aK,hBl]; omega
   have hDe:D=(l.take i++[x]++l.drop i).map row:=by
    rw [<-hD,<-hB,<-hA2,<-hA,La (A:=l.map row) (n:=l.length) (by simp) hi2];simp [xd,nR]
   simp only [go_sem,seval,Fu,Fk,aF.frzRows ok,aF.allD ok,AM,Jq,qI,hw1b,hw3b,cT,hm4,w9,wH,acH,hk,hk3,e2,e3,hne2,hA,hes];refine K1 rfl ?_;simp only [go_sem,seval,hp,hf,CX,Gk,CA,hw3b,hm1,hm4,hi4,hAp.1,hAp.2,hA2,hA2p,hA2f,hB,hBp.1,hBp.2,hD,hm5b];repeat' ((with_reducible refine fL ?_ ?_); kernel_rfl)
   simp only [go_sem,seval,dU];refine sS ok ?_;rw [hr,<-hDe,<-hDl,xw]
end
def HY (N:Nat) (a0:List Int) (a1:Int) (a2:List Int) (r:List Int) (h:mJ N a0 a1 a2=some r) :
  Con prog 129 [true,false,true] false [sO 1 (a0.map (aB .i64)),vI a1,sO 1 (a2.map (aB .i64))] (sO 1 (r.map (aB .i64))):=by
 unfold mJ at h;obtain ⟨n,x,rfl,rfl,h1,h2,h3⟩:=BM h;exact JF fun k hk1 hk2=>Gd (aB .i64) (mo .i64) a0 n x k r (nf h3).symm h1 h2 (by simpa using hk1) hk2
def fO (N:Nat):FnS:={ own:=[true,false,true],pure:=false,fn:=fun cs=>match cs with
 | [c0,c1,c2]=>(vK 1 (dq (aH .i64)) c0).bind fun q0=>(aH .i64 c1).bind fun q1=>(vK 1 (dq (aH .i64)) c2).bind fun q2=>(mJ N q0 q1 q2).map fun r=>sO 1 (r.map (aB .i64))
 | _=>none }
theorem CQ (N:Nat):(fO N).own=[true,false,true]:=rfl
theorem B9 (N:Nat):(fO N).pure=false:=rfl
theorem B8 (N:Nat):(fO N).peek=false:=rfl
attribute [go_sem] fO CQ B9 B8
def Du (N:Nat):az prog 129 (fO N):=by
 refine ⟨fun cs r h=>?_,fun h=>by cases h⟩;simp only [fO] at h;split at h
 ·simp only [ck,cj] at h;obtain ⟨q0,h0,q1,h1,q2,h2,r',hr,rfl⟩:=h;exact (HY N q0 q1 q2 r' hr).argsO rfl (jE (qc (mo .i64) (jo .i64) h0) (rm (bz h1) (jE (qc (mo .i64) (jo .i64) h2) oa)))
 ·cases h
@[go_sem] def Md (N d f:Nat):Option FnS:=aw [(14,116,k8 N),(18,124,pt N),(23,125,rX N),(29,126,yr N),(38,117,jY N),(44,127,fu N),(52,128,uy N),(64,117,jY N),(74,117,jY N),(78,117,jY N),(88,117,zM N),(99,129,fO N)] d f
def MX (N:Nat) (a0:List ai) (a1:Ref) (a2:Int) (r:(List ai) × Int × Int) (h:pX N a0 a1 a2=some r):Con prog 58 [] false [sF 4 (a0.map ai.row),.agg [vS a1.Type_,vS a1.Key],vI a2] (.tup [sO 4 (r.1.map ai.row),vI r.2.1,vI r.2.2]):=by
 refine fk (G:=(Md N)) func58 (gc 14 (kv N) (gc 18 (rq N) (gc 23 (tI N) (gc 29 (yC N) (gc 38 (jI N) (gc 44 (CL N) (gc 52 (Ad N) (gc 64 (jI N) (gc 74 (jI N) (gc 78 (jI N) (gc 88 (BI N) (gc 99 (Du N) gn)))))))))))) ?_;simp only [f58];unfold pX at h;refine z0 ?_;refine aM ?_;apply aS (fun (c9:Bool)=>⟨tab 103 (af (af (af (af au 0 (sF 4 (a0.map ai.row))) 2 (vI a2)) 4 (pF 4)) 25 (vB c9)),(upd RZ 4 (vA 2 [vS a1.Type_,vS a1.Key]))⟩)
 ·intro hJ1;obtain ⟨r10,hr2,h⟩:=bI h;refine iBs h (fun hc3 h=>?_) fun hc3 h=>?_
  ·refine z1 (k2 hr2 hc3) ?_;exact hJ1 _ true wR h
  obtain ⟨r11,hr4,h⟩:=bI h;refine iBs h (fun hc5 h=>?_) fun hc5 h=>?_
  ·refine z1 (k4 hr2 hc3 hr4 hc5) ?_;exact hJ1 _ true wR h
  obtain ⟨r12,hr6,h⟩:=bI h;refine z1 (k5 hr2 hc3 hr4 hc5 hr6) ?_;exact hJ1 _ (!r12) wR h
 intro c9 h;unfold pe at h;refine cB h (fun hc7 h=>?_) fun hc7 h=>?_
 ·refine z1 hc7 ?_;exact f0 h
 refine aZ (pp ?_);unfold o6 at h;obtain ⟨r13,hr8,h⟩:=bI h;refine z1 (k2 hc7 hr8) ?_;refine z0 ?_;refine cM h (fun hc9 h=>?_) fun hc9 h=>?_
 ·refine z1 hc9 ?_;refine cD h (fun hc10 hc10d h=>?_) fun hc10 hc10d h=>?_
  ·refine z1 hc10d ?_;exact f0 h
  obtain ⟨r14,hr11,h⟩:=bI h;obtain ⟨r15,hr12,h⟩:=bI h;refine d1 (k3 hc10d hr11 hr12) ?_;exact f0 h
 obtain ⟨x16,hb13,hx14,h⟩:=aG h;obtain ⟨r17,hr15,h⟩:=bI h;refine z1 (k4 hc9 hb13 hx14 hr15) ?_;refine z1 (k2 hb13 hx14) ?_;refine cD h (fun hc16 hc16d h=>?_) fun hc16 hc16d h=>?_
 ·obtain ⟨r18,hr17,h⟩:=bI h;refine z1 (k2 hc16d hr17) ?_;exact f0 h
 refine z1 (k3 hb13 hx14 hc16d) ?_;refine cD h (fun hc18 hc18d h=>?_) fun hc18 hc18d h=>?_
 ·obtain ⟨r19,hr19,h⟩:=bI h;refine z1 (k2 hc18d hr19) ?_;exact f0 h
 refine z1 hc18d ?_;refine cB h (fun hc20 h=>?_) fun hc20 h=>?_
 ·obtain ⟨r20,hr21,h⟩:=bI h;refine z1 (k2 hc20 hr21) ?_;exact f0 h
 refine z1 (k3 hb13 hx14 hc20) ?_;refine cD h (fun hc22 hc22d h=>?_) fun hc22 hc22d h=>?_
 ·refine z1 hc22d ?_;exact f0 h
 obtain ⟨r21,hr23,h⟩:=bI h;refine z1 (k2 hc22d hr23) ?_;obtain ⟨x22,hb24,hx25,h⟩:=aG h;obtain ⟨r23,hr26,h⟩:=bI h;refine z1 (k5 hb13 hb24 hx25 (ov1 (row:=ai.rowD) (rx:=[vS x22.Actor.Type_,vS x22.Actor.Key,vI x22.Owner,sO 1 (x22.Waiters.map (aB .i64))]) hx25 rfl) (k3 (ov2 (row:=ai.rowD) hx25) (ov3 (row:=ai.rowD) hx25) hr26)) ?_;refine z0 ?_;exact f0 h
@[go_sem] def Cm (N:Nat):FnS:=⟨[],false,fn3 (aJ 4 ai.dec) Ref.decA (aH .i64) fun q0 q1 q2=>(pX N q0 q1 q2).map fun r=>.tup [sO 4 (r.1.map ai.row),vI r.2.1,vI r.2.2],false⟩
def Gl (N:Nat):az prog 58 (Cm N):=om3 (MX N)
def J5 (N:Nat) (a0:Int) (r:Int) (h:u4 N a0=some r):Con prog 182 [] true [.val (.int .u64 a0)] (vI r):=by
 refine fk (G:=(aw [])) func182 gn ?_;simp only [f182];unfold u4 at h;refine z0 ?_;apply C5 (fun (v1:Int) (v2:Int)=>⟨tab 25 (af (af au 0 (.val (.int .u64 v1))) 2 (vI v2)),RZ⟩)
 ·intro hJ1;refine z0 ?_;refine cD h (fun hc2 hc2d h=>?_) fun hc2 hc2d h=>?_
  ·refine z1 hc2d ?_;refine z0 ?_;exact hJ1 _ (jW .u64 a0 32) 32 wR h
  refine aZ (pp (hJ1 _ a0 0 ?_ h));exact wR
 intro v1 v2 h;unfold vw at h;apply C5 (fun (v3:Int) (v4:Int)=>⟨tab 25 (af (af au 0 (.val (.int .u64 v3))) 2 (vI v4)),RZ⟩)
 ·intro hJ3;refine z0 ?_;refine cD h (fun hc4 hc4d h=>?_) fun hc4 hc4d h=>?_
  ·refine z1 hc4d ?_;refine z0 ?_;exact hJ3 _ (jW .u64 v1 16) (IntKind.i64.wrap (v2+16)) wR h
  refine aZ (pp (hJ3 _ v1 v2 ?_ h));exact wR
 intro v3 v4 h;unfold vp at h;apply C5 (fun (v5:Int) (v6:Int)=>⟨tab 25 (af (af au 0 (.val (.int .u64 v5))) 2 (vI v6)),RZ⟩)
 ·intro hJ5;refine z0 ?_;refine cD h (fun hc6 hc6d h=>?_) fun hc6 hc6d h=>?_
  ·refine z1 hc6d ?_;refine z0 ?_;exact hJ5 _ (jW .u64 v3 8) (IntKind.i64.wrap (v4+8)) wR h
  refine aZ (pp (hJ5 _ v3 v4 ?_ h));exact wR
 intro v5 v6 h;unfold vd at h;obtain ⟨b7,hb7,hx8,h⟩:=WN h;refine z1 (k2 hb7 hx8) ?_;exact e0 h
@[go_sem] def Bn (N:Nat):FnS:=⟨[],true,fn1 (aH .u64) fun q0=>(u4 N q0).map fun r=>vI r,false⟩
def Fg (N:Nat):az prog 182 (Bn N):=om1 (J5 N)
@[go_sem] def ML (N d f:Nat):Option FnS:=aw [(7,182,Bn N)] d f
def MQ (N:Nat) (a0:Int) (r:Int) (h:ue N a0=some r):Con prog 102 [] true [.val (.int .u64 a0)] (vI r):=by
 refine fk (G:=(ML N)) func102 (gc 7 (Fg N) gn) ?_;simp only [f102];unfold ue at h;refine z0 ?_;refine cf ?_;obtain ⟨r1,hr1,h⟩:=bI h;refine z1 hr1 ?_;exact e0 h
@[go_sem] def yS (N:Nat):FnS:=⟨[],true,fn1 (aH .u64) fun q0=>(ue N q0).map fun r=>vI r,false⟩
def Ag (N:Nat):az prog 102 (yS N):=om1 (MQ N)
@[go_sem] def vc (N d f:Nat):Option FnS:=aw [(29,197,zU N)] d f
def kG (N:Nat) (a0:List Int) (a1:Int) (a2:Int) (r:List Int) (h:da N a0 a1 a2=some r):(r).length=a0.length:=by
 unfold da at h; exact (kA h).2
def vb (N:Nat) (a0:List Int) (a1:Int) (a2:Int) (r:List Int) (h:da N a0 a1 a2=some r):my prog 219 1 [sO 1 (a0.map (aB .i64)),vI a1,vI a2] (.tup []) [sO 1 (r.map (aB .i64))]:=by
 unfold da at h;obtain ⟨h,hlen⟩:=kA h;refine yW (G:=(vc N)) (L:=noL) func219 rfl (by decide) (by kernel_rfl) 1 (by kernel_rfl) (gc 29 (BZ N) gn) (fun _ _ _ h=>by cases h) [] mix (na rfl) (na rfl) rfl (by simp [dG,hlen]) ?_;simp only [f219];refine z0 ?_;refine aT (gl (fun (b:Int)=>⟨tab 49 (af (af (af (af au 0 (.pal 0 [] 0 a0.length none)) 1 (vI a1)) 2 (vI a2)) 6 (vI b)),(upd RZ 0 (sO 1 (a0.map (aB .i64))))⟩) (IntKind.i64.wrap (a1+1)) h ?_ ?_)
 ·exact wR
 rintro n v1 h -;cases n with
 | zero=>simp [eF] at h
 | succ n=>
 simp only [eF] at h;refine z0 ?_;refine cDs h (fun hc1 hc1d h=>?_) fun hc1 hc1d h=>?_
 ·refine gi (pp ?_);obtain rfl:=nf h;refine CW (.inr rfl) (aW.refl _) (by simp only [go_sem,seval,hc1d]; rfl) (by simp only [go_sem,seval]; rfl) (by (try simp only [go_sem,seval]); first|exact Le.refl _|exact LeI.h) ?_;exact CY (by simp only [go_sem,seval,hc1d]<;>rfl) (by simp only [go_sem,seval]<;>rfl) (FU)
 refine z1 hc1d ?_;refine aT (gl (fun (b:Unit)=>⟨tab 49 (af (af (af (af (af au 0 (.pal 0 [] 0 a0.length none)) 1 (vI a1)) 2 (vI a2)) 6 (vI v1)) 7 (vI v1)),(upd RZ 0 (sO 1 (a0.map (aB .i64))))⟩) () h ?_ ?_)
 ·exact wR
 rintro n ⟨⟩ h -;cases n with
 | zero=>simp [gP] at h
 | succ n=>
 simp only [gP] at h;refine aM ?_;apply aS (fun (c9:Bool)=>⟨tab 49 (af (af (af (af (af (af au 0 (.pal 0 [] 0 a0.length none)) 1 (vI a1)) 2 (vI a2)) 6 (vI v1)) 7 (vI v1)) 30 (vB c9)),(upd RZ 0 (sO 1 (a0.map (aB .i64))))⟩)
 ·intro hJ2;refine iDs h (fun hc3 hc3d h=>?_) fun hc3 hc3d h=>?_
  ·refine d1 hc3d ?_;exact hJ2 _ false wR h
  obtain ⟨x10,hb4,hx5,h⟩:=aG h;obtain ⟨x11,hb6,hx7,h⟩:=aG h;obtain ⟨r12,hr8,h⟩:=bI h;refine d1 (k5 hc3d hb4 hx5 hb6 (k2 hx7 hr8)) ?_;exact hJ2 _ r12 wR h
 intro c9 h;unfold gO at h;refine cB h (fun hc9 h=>?_) fun hc9 h=>?_
 ·refine aZ (pp ?_);unfold gG at h;refine aM (aT ?_);obtain ⟨x13,hb10,hx11,h⟩:=aG h;obtain ⟨x14,hb12,hx13,h⟩:=aG h;cases h
 refine z1 hc9 ?_;refine ⟨_,cZ _,(IntKind.i64.wrap (v1+1)),?_,h⟩;exact wR
@[go_sem] def gQ (N:Nat):FnL:=⟨1,fun cs rest=>match cs,rest with
 | [v0],[c1,c2]=>(Dm 1 (dq (aH .i64)) v0).bind fun q0=>((aH .i64) c1).bind fun q1=>((aH .i64) c2).bind fun q2=>(da N q0 q1 q2).map fun r=>(.tup [],[sO 1 (r.map (aB .i64))])
 | _,_=>none,false⟩
def s5 (N:Nat):wL prog 219 (gQ N):=by
 refine Ii (xI _) rfl ?_;intro cs rest r ls hlen h;simp only [gQ] at h;split at h
 ·simp only [ck,cj] at h;obtain ⟨q0,h0,q1,h1,q2,h2,r',hr,he⟩:=h;cases he;exact my.told rfl rfl (y6 (zd (mo .i64) (jo .i64) h0) (BT)) (LeL.cons (bz h1) (LeL.cons (bz h2) (LeL.nil))) (vb N q0 q1 q2 r' hr)
 ·cases h
@[go_sem] def zi (N d f:Nat):Option FnL:=Bi [(27,219,gQ N)] d f
def m6 (N:Nat) (a0:List Int) (a1:Int) (a2:Int) (a3:Int) (r:List Int) (h:ed N a0 a1 a2 a3=some r):(r).length=a0.length:=by
 unfold ed at h; exact (kA h).2
def zh (N:Nat) (a0:List Int) (a1:Int) (a2:Int) (a3:Int) (r:List Int) (h:ed N a0 a1 a2 a3=some r):my prog 185 1 [sO 1 (a0.map (aB .i64)),vI a1,vI a2,vI a3] (.tup []) [sO 1 (r.map (aB .i64))]:=by
 unfold ed at h;obtain ⟨h,hlen⟩:=kA h;refine yW (G:=(aw [])) (L:=(zi N)) func185 rfl (by decide) (by kernel_rfl) 1 (by kernel_rfl) gn (lc 27 (s5 N) ln) [] mix (na rfl) (na rfl) rfl (by simp [dG,hlen]) ?_;simp only [f185];refine z0 ?_;refine z0 ?_;refine aT (gl (fun (b:Unit)=>⟨tab 134 (af (af (af (af (af (af au 0 (.pal 0 [] 0 a0.length none)) 1 (vI a1)) 2 (vI a2)) 3 (vI a3)) 8 (vB true)) 9 (vB true)),(upd RZ 0 (sO 1 (a0.map (aB .i64))))⟩) () h ?_ ?_)
 ·exact wR
 rintro n ⟨⟩ h -;cases n with
 | zero=>simp [jq] at h
 | succ n=>
 simp only [jq] at h;refine z0 ?_;refine z0 ?_;refine cDs h (fun hc1 hc1d h=>?_) fun hc1 hc1d h=>?_
 ·refine z1 hc1d ?_;refine cD h (fun hc3 hc3d h=>?_) fun hc3 hc3d h=>?_
  ·refine aM ?_;cases h
  refine z1 hc3d ?_;refine cf ?_;refine aZ (pp (aM ?_));cases h
 obtain ⟨r1,hr2,h⟩:=bI h;refine z1 (k3 hc1d hr2 (kG N a0 a1 a2 r1 hr2)) ?_;refine fe (pp ?_);obtain rfl:=nf h;refine CW (.inl rfl) (aW.refl _) (by simp only [go_sem,seval]; rfl) (by simp only [go_sem,seval]; rfl) (by (try simp only [go_sem,seval]); first|exact Le.refl _|exact LeI.h) ?_;exact CY (by simp only [go_sem,seval,kG N a0 a1 a2 r1 hr2]<;>rfl) (by simp only [go_sem,seval]<;>rfl) (FU)
@[go_sem] def jr (N:Nat):FnL:=⟨1,fun cs rest=>match cs,rest with
 | [v0],[c1,c2,c3]=>(Dm 1 (dq (aH .i64)) v0).bind fun q0=>((aH .i64) c1).bind fun q1=>((aH .i64) c2).bind fun q2=>((aH .i64) c3).bind fun q3=>(ed N q0 q1 q2 q3).map fun r=>(.tup [],[sO 1 (r.map (aB .i64))])
 | _,_=>none,false⟩
def wA (N:Nat):wL prog 185 (jr N):=by
 refine Ii (xI _) rfl ?_;intro cs rest r ls hlen h;simp only [jr] at h;split at h
 ·simp only [ck,cj] at h;obtain ⟨q0,h0,q1,h1,q2,h2,q3,h3,r',hr,he⟩:=h;cases he;exact my.told rfl rfl (y6 (zd (mo .i64) (jo .i64) h0) (BT)) (LeL.cons (bz h1) (LeL.cons (bz h2) (LeL.cons (bz h3) (LeL.nil)))) (zh N q0 q1 q2 q3 r' hr)
 ·cases h
@[go_sem] def DU (N d f:Nat):Option FnS:=aw [(9,102,yS N)] d f
@[go_sem] def DQ (N d f:Nat):Option FnL:=Bi [(10,185,jr N)] d f
def CJ (N:Nat) (a0:List Int) (r:List Int) (h:gX N a0=some r):(r).length=a0.length:=by
 unfold gX at h; exact (kA h).2
def wG (N:Nat) (a0:List Int) (r:List Int) (h:gX N a0=some r):my prog 109 1 [sO 1 (a0.map (aB .i64))] (.tup []) [sO 1 (r.map (aB .i64))]:=by
 unfold gX at h;obtain ⟨h,hlen⟩:=kA h;refine yW (G:=(DU N)) (L:=(DQ N)) func109 rfl (by decide) (by kernel_rfl) 1 (by kernel_rfl) (gc 9 (Ag N) gn) (lc 10 (wA N) ln) [] mix (na rfl) (na rfl) rfl (by simp [dG,hlen]) ?_;simp only [f109];refine z0 ?_;obtain ⟨r1,hr1,h⟩:=bI h;obtain ⟨r2,hr2,h⟩:=bI h;refine z1 (k3 hr1 hr2 (m6 N a0 0 (a0.length:Int) r1 r2 hr2)) ?_;obtain rfl:=nf h;refine CW (.inr rfl) (aW.refl _) (by simp only [go_sem,seval]; rfl) (by simp only [go_sem,seval]; rfl) (by (try simp only [go_sem,seval]); first|exact Le.refl _|exact LeI.h) ?_;exact CY (by simp only [go_sem,seval,m6 N a0 0 (a0.length:Int) r1 r2 hr2]<;>rfl) (by simp only [go_sem,seval]<;>rfl) (FU)
@[go_sem] def vn (N:Nat):FnL:=⟨1,fun cs rest=>match cs,rest with
 | [v0],[]=>(Dm 1 (dq (aH .i64)) v0).bind fun q0 =>  (gX N q0).map fun r=>(.tup [],[sO 1 (r.map (aB .i64))])
 | _,_=>none,false⟩
def ON (N:Nat):wL prog 109 (vn N):=by
 refine Ii (xI _) rfl ?_;intro cs rest r ls hlen h;simp only [vn] at h;split at h
 ·simp only [ck,cj] at h;obtain ⟨q0,h0,r',hr,he⟩:=h;cases he;exact my.told rfl rfl (y6 (zd (mo .i64) (jo .i64) h0) (BT)) (LeL.nil) (wG N q0 r' hr)
 ·cases h
def HV:Go.Shelf.Ren:=⟨fun|125=>102|128=>181|129=>182|189=>109|215=>228|216=>197|257=>185|294=>219|295=>220|296=>221|297=>222|298=>223|299=>224|300=>225|301=>226|328=>232|329=>215|330=>216|331=>233|332=>234|343=>237|n=>n,fun|0=>0|3=>3|4=>4|5=>5|9=>9|28=>35|46=>136|51=>186|53=>188|131=>115|182=>179|183=>180|218=>207|222=>211|228=>219|229=>220|n=>n,fun n=>n⟩
def HL:Go.Proofs.Lays.n189 prog HV where
 mixed:=by kernel_rfl
 f125:=func102.trans (congrArg some (by kernel_rfl))
 f128:=func181.trans (congrArg some (by kernel_rfl))
 f129:=func182.trans (congrArg some (by kernel_rfl))
 f189:=func109.trans (congrArg some (by kernel_rfl))
 f215:=func228.trans (congrArg some (by kernel_rfl))
 f216:=func197.trans (congrArg some (by kernel_rfl))
 f257:=func185.trans (congrArg some (by kernel_rfl))
 f294:=func219.trans (congrArg some (by kernel_rfl))
 f295:=func220.trans (congrArg some (by kernel_rfl))
 f296:=func221.trans (congrArg some (by kernel_rfl))
 f297:=func222.trans (congrArg some (by kernel_rfl))
 f298:=func223.trans (congrArg some (by kernel_rfl))
 f299:=func224.trans (congrArg some (by kernel_rfl))
 f300:=func225.trans (congrArg some (by kernel_rfl))
 f301:=func226.trans (congrArg some (by kernel_rfl))
 f328:=func232.trans (congrArg some (by kernel_rfl))
 f329:=func215.trans (congrArg some (by kernel_rfl))
 f330:=func216.trans (congrArg some (by kernel_rfl))
 f331:=func233.trans (congrArg some (by kernel_rfl))
 f332:=func234.trans (congrArg some (by kernel_rfl))
 f343:=func237.trans (congrArg some (by kernel_rfl))
 t0:=underlying0
 a0:=Tryz.isAgg0
 z0:=Tryz.sizeOf0
 v0:=Tryz.zeroValue0
 t3:=underlying3
 a3:=Tryz.isAgg3
 z3:=Tryz.sizeOf3
 v3:=Tryz.zeroValue3
 t4:=underlying4
 a4:=Tryz.isAgg4
 z4:=Tryz.sizeOf4
 v4:=Tryz.zeroValue4
 t5:=underlying5
 a5:=Tryz.isAgg5
 z5:=Tryz.sizeOf5
 v5:=Tryz.zeroValue5
 t9:=underlying9
 a9:=Tryz.isAgg9
 z9:=Tryz.sizeOf9
 v9:=Tryz.zeroValue9
 t28:=underlying35
 a28:=Tryz.isAgg35
 z28:=Tryz.sizeOf35
 v28:=Tryz.zeroValue35
 t46:=underlying136
 a46:=Tryz.isAgg136
 z46:=Tryz.sizeOf136
 v46:=Tryz.zeroValue136
 t51:=underlying186
 a51:=Tryz.isAgg186
 z51:=Tryz.sizeOf186
 v51:=Tryz.zeroValue186
 t53:=underlying188
 a53:=Tryz.isAgg188
 z53:=Tryz.sizeOf188
 v53:=Tryz.zeroValue188
 t131:=underlying115
 a131:=Tryz.isAgg115
 z131:=Tryz.sizeOf115
 v131:=Tryz.zeroValue115
 t182:=underlying179
 a182:=Tryz.isAgg179
 z182:=Tryz.sizeOf179
 v182:=Tryz.zeroValue179
 t183:=underlying180
 a183:=Tryz.isAgg180
 z183:=Tryz.sizeOf180
 v183:=Tryz.zeroValue180
 t218:=underlying207
 a218:=Tryz.isAgg207
 z218:=Tryz.sizeOf207
 v218:=Tryz.zeroValue207
 t222:=underlying211
 a222:=Tryz.isAgg211
 z222:=Tryz.sizeOf211
 v222:=Tryz.zeroValue211
 t228:=underlying219
 a228:=Tryz.isAgg219
 z228:=Tryz.sizeOf219
 v228:=Tryz.zeroValue219
 t229:=underlying220
 a229:=Tryz.isAgg220
 z229:=Tryz.sizeOf220
 v229:=Tryz.zeroValue220
def Ak (N:Nat) (a0:List Int) (r:List Int) (h:slices_Sort_int N a0=some r):(r).length=a0.length:=by
 unfold slices_Sort_int at h;split at h
 ·exact CJ N a0 r h
 ·exact OL h
def Kb (N:Nat) (a0:List Int) (r:List Int) (h:slices_Sort_int N a0=some r):my prog 109 1 [sO 1 (a0.map (aB .i64))] (.tup []) [sO 1 (r.map (aB .i64))]:=by
 unfold slices_Sort_int at h;split at h
 ·exact wG N a0 r h
 ·rename_i hne;exact VR HL rfl (enters_of func109 (by kernel_rfl) rfl) (fun e=>hne (by rw [e]; rfl)) h
@[go_sem] def vO (N:Nat):FnL:=⟨1,fun cs rest=>match cs,rest with
 | [v0],[]=>(Dm 1 (dq (aH .i64)) v0).bind fun q0 =>  (slices_Sort_int N q0).map fun r=>(.tup [],[sO 1 (r.map (aB .i64))])
 | _,_=>none,false⟩
def FN (N:Nat):wL prog 109 (vO N):=by
 refine Ii (xI _) rfl ?_;intro cs rest r ls hlen h;simp only [vO] at h;split at h
 ·simp only [ck,cj] at h;obtain ⟨q0,h0,r',hr,he⟩:=h;cases he;exact my.told rfl rfl (y6 (zd (mo .i64) (jo .i64) h0) (BT)) (LeL.nil) (Kb N q0 r' hr)
 ·cases h
@[go_sem] def K3 (N d f:Nat):Option FnS:=aw [(45,108,fp N),(32,108,fp N)] d f
@[go_sem] def Lm (N d f:Nat):Option FnL:=Bi [(50,109,vO N)] d f
def KM (N:Nat) (a0:ae) (a1:Int) (r:List Int) (h:og N a0 a1=some r):Con prog 48 [] true [.agg (ae.row a0),vI a1] (sO 1 (r.map (aB .i64))):=by
 refine SY (G:=(K3 N)) (L:=(Lm N)) func48 rfl (by decide) (by kernel_rfl) (gc 45 (fx N) (gc 32 (fx N) gn)) (lc 50 (FN N) ln) [] mix (na rfl) ?_;simp only [f48];unfold og at h;refine z0 ?_;refine z0 ?_;refine aM (WR (pp (aT (gl (fun (b:List Int)=>⟨tab 52 (af (af au 2 (pF 2)) 5 (.pal 39 [] 0 b.length none)),(upd (upd RZ 2 (vA 3 (ae.row a0))) 39 (sO 1 (b.map (aB .i64))))⟩) [a1] h ?_ ?_))))
 ·refine aW.trans (Se 5 12 39 (by decide) (by decide) (by simp only [go_sem,seval]) (by simp only [go_sem,seval]; rfl) (by simp only [go_sem,seval]; rfl) (by first|(simp; done)|simp only [go_sem,seval,nH,hU,nS,nT])) ?_;refine wr ?_ ?_<;>repeat' first|rfl|constructor|simp only [go_sem,seval,nH,hU,nS,nT]
 rintro n l1 h -;cases n with
 | zero=>simp [ky] at h
 | succ n=>
 simp only [ky] at h;refine z0 ?_;refine aT (gZ fun hreal2=>?_);have hl1:=hreal2.lenT 14 (by decide) (by simp only [go_sem,seval]; rfl);rw [cx] at hl1;refine tA (fun (v4:Nat) (b:Unit)=>⟨tab 52 (af (af (af (af (af au 2 (pF 2)) 5 (.pal 39 [] 0 l1.length none)) 14 (sF 3 (a0.Stacks.map aa.row))) 15 (vI (a0.Stacks.length:Int))) 16 (vI (v4:Int))),(upd (upd RZ 2 (vA 3 (ae.row a0))) 39 (sO 1 (l1.map (aB .i64))))⟩) () h ?_ ?_
 ·refine wr ?_ ?_<;>repeat' first|rfl|constructor|simp only [go_sem,seval,nH,hU,nS,nT]
 rintro v4 ⟨⟩ hi3 h -;rcases (mR a0.Stacks v4 hi3).symm with ⟨hi3',_,hd6⟩|⟨x7,hi3',hx4,hd6⟩
 ·rw [hd6] at h;simp only [iS] at h;refine z1 hi3' ?_;refine cf ?_;refine gi (pp ?_);unfold wT at h;obtain ⟨r33,hr20,h⟩:=bI h;refine z1 (k2 hr20 (Ak N l1 r33 hr20)) ?_;refine z0 ?_;refine fe (pp ?_);obtain rfl:=nf h;simp only [go_sem,seval,ni (ac1 (Ak N l1 r33 hr20))];exact ⟨_,rfl,gI.h,qy.h⟩
 rw [hd6] at h;simp only [iS] at h;have hw5:=eH hi3' hl1;refine z1 hi3' ?_;refine ct ?_;refine z1 (k2 hx4 hi3') ?_;refine z0 ?_;refine z0 ?_;refine lT 21 (fun (v11:Nat) (b:Bool)=>⟨tab 52 (af (af (af (af (af (af (af (af (af au 2 (pF 2)) 5 (.pal 39 [] 0 l1.length none)) 8 (vB b)) 14 (sF 3 (a0.Stacks.map aa.row))) 15 (vI (a0.Stacks.length:Int))) 16 (vI (v4:Int))) 21 (sF 3 (x7.Layers.map al.row))) 22 (vI (x7.Layers.length:Int))) 23 (vI (v11:Int))),(upd (upd RZ 2 (vA 3 (ae.row a0))) 39 (sO 1 (l1.map (aB .i64))))⟩) false h ?_ ?_ (h0:=wF (k3 hx4 hi3' hw5))
 ·rintro v11 c10 hi9' h;simp only [fH] at h;refine z1 hi9' ?_;refine cf ?_;refine z1 hw5 ?_;refine ⟨hi3',(),?_,h⟩;exact wF (k4 hx4 hi3' hw5 hi9')
 rintro v11 c10 x14 hi9' hx10 hw11 h;simp only [fH] at h;refine z1 hi9' ?_;refine ct ?_;refine z1 (k2 hx10 hi9') ?_;refine aM ?_;apply C5 (fun (c29:Bool) (c30:Bool)=>⟨tab 52 (af (af (af (af (af (af (af (af (af (af (af au 2 (pF 2)) 5 (.pal 39 [] 0 l1.length none)) 8 (vB c29)) 10 (pF 10)) 14 (sF 3 (a0.Stacks.map aa.row))) 15 (vI (a0.Stacks.length:Int))) 16 (vI (v4:Int))) 21 (sF 3 (x7.Layers.map al.row))) 22 (vI (x7.Layers.length:Int))) 23 (vI (v11:Int))) 34 (vB c30)),(upd (upd (upd RZ 2 (vA 3 (ae.row a0))) 10 (vA 3 (al.row x14))) 39 (sO 1 (l1.map (aB .i64))))⟩)
 ·intro hJ13;refine iB h (fun hc14 h=>?_) fun hc14 h=>?_
  ·obtain ⟨r31,hr15,h⟩:=bI h;refine z1 (k2 hc14 hr15) ?_;refine hJ13 _ true (!r31) ?_ h;exact wF (k5 hx4 hi3' hw5 hx10 (k4 hi9' hw11 hc14 hr15))
  refine z1 hc14 ?_;refine hJ13 _ false false ?_ h;exact wF (k5 hx4 hi3' hw5 hx10 (k3 hi9' hw11 hc14))
 intro c29 c30 h;unfold mI at h;refine cB h (fun hc16 h=>?_) fun hc16 h=>?_
 ·obtain ⟨ha17,h⟩:=kQ h;simp only [cC,cY,cV,Nat.reduceAdd] at ha17;refine z1 (k2 hc16 ha17) ?_;refine gi (pp (⟨_,cZ _,(l1++[x14.Txn_]),?_,h⟩));refine wr ?_ ?_<;>repeat' first|rfl|constructor|simp only [go_sem,seval]
 refine aZ (pp ?_);unfold mK at h;refine iB h (fun hc18 h=>?_) fun hc18 h=>?_
 ·refine z1 (k2 hc16 hc18) ?_;refine z1 hw11 ?_;refine ⟨hi9',true,?_,h⟩;exact wF (k5 hx4 hi3' hw5 hx10 (k4 hi9' hw11 hc16 hc18))
 obtain ⟨r32,hr19,h⟩:=bI h;refine z1 (k3 hc16 hc18 hr19) ?_;refine z1 hw11 ?_;refine ⟨hi9',r32,?_,h⟩;exact wF (k5 hx4 hi3' hw5 hx10 (k5 hi9' hw11 hc16 hc18 hr19))
@[go_sem] def Ck (N:Nat):FnS:=⟨[],true,fn2 ae.decA (aH .i64) fun q0 q1=>(og N q0 q1).map fun r=>sF 1 (r.map (aB .i64)),false⟩
def GP (N:Nat):az prog 48 (Ck N):=om2 fun q0 q1 r h=>rs (KM N q0 q1 r h)
@[go_sem] def NX (N d f:Nat):Option FnS:=aw [(7,108,fp N)] d f
def N3 (N:Nat) (a0:Txn) (c0_0:List Int) (r:Bool) (h:oJ N a0 c0_0=some r):Con prog 111 [] true [.agg (Txn.row a0),.iref 1 [[sF 1 (c0_0.map (aB .i64))]] 0 0] (vB r):=by
 refine fk (G:=(NX N)) func111 (gc 7 (fx N) gn) ?_;simp only [f111];unfold oJ at h;refine z0 ?_;obtain ⟨r1,hr1,h⟩:=bI h;refine z1 hr1 ?_;exact e0 h
@[go_sem] def uX (N:Nat):FnS:={ own:=[],pure:=true,fn:=fun cs=>match cs with
 | [c0,.iref 1 [[c1_0]] 0 0]=>(Txn.decA c0).bind fun qc0=>((aJ 1 (dq (aH .i64))) c1_0).bind fun qc1_0=>(oJ N qc0 qc1_0).map fun r=>vB r
 | _=>none }
def Bo (N:Nat):az prog 111 (uX N):=by
 refine ⟨fun cs r h=>?_,fun h=>by cases h⟩;simp only [uX] at h;split at h
 ·simp only [ck,cj] at h;obtain ⟨q0,h0,q1,h1,r',hr,rfl⟩:=h;exact (ag (N3 N q0 q1 r' hr))
 ·cases h
@[go_sem] def wv (N d f:Nat):Option FnS:=aw [(16,111,uX N)] d f
def wx (N:Nat) (a0:List Txn) (k1_0_0:List Int) (r:Int) (h:fV N a0 k1_0_0=some r):Con prog 71 [] true [sF 11 (a0.map Txn.row),.clo 111 [.iref 1 [[sF 1 (k1_0_0.map (aB .i64))]] 0 0]] (vI r):=by
 refine fk (G:=(wv N)) func71 (gc 16 (Bo N) gn) ?_;simp only [f71];unfold fV at h;refine z0 ?_;refine z0 ?_;refine lT 0 (fun (v2:Nat) (b:Unit)=>⟨tab 19 (af (af (af (af au 0 (sF 11 (a0.map Txn.row))) 1 (.clo 111 [.iref 1 [[sF 1 (k1_0_0.map (aB .i64))]] 0 0])) 7 (vI (a0.length:Int))) 8 (vI (v2:Int))),RZ⟩) () h ?_ ?_
 ·rintro v2 ⟨⟩ hi3' h;simp only [dL] at h;refine z1 hi3' ?_;refine cf ?_;refine z0 ?_;exact e0 h
 rintro v2 ⟨⟩ x5 hi3' hx4 hw5 h;simp only [dL] at h;refine z1 hi3' ?_;refine ct ?_;refine z0 ?_;obtain ⟨r1,hr7,h⟩:=bI h;refine z1 (k3 hx4 hi3' hr7) ?_;refine cB h (fun hc8 h=>?_) fun hc8 h=>?_
 ·refine z1 hc8 ?_;exact e0 h
 refine z1 (k2 hw5 hc8) ?_;refine ⟨hi3',(),?_,h⟩;exact wR
@[go_sem] def iA (N:Nat):FnS:={ own:=[],pure:=true,fn:=fun cs=>match cs with
 | [c0,.clo 111 [.iref 1 [[k1_0_0]] 0 0]]=>((aJ 11 Txn.dec) c0).bind fun qc0=>((aJ 1 (dq (aH .i64))) k1_0_0).bind fun qk1_0_0=>(fV N qc0 qk1_0_0).map fun r=>vI r
 | _=>none }
def uw (N:Nat):az prog 71 (iA N):=by
 refine ⟨fun cs r h=>?_,fun h=>by cases h⟩;simp only [iA] at h;split at h
 ·simp only [ck,cj] at h;obtain ⟨q0,h0,q1,h1,r',hr,rfl⟩:=h;exact (ag (wx N q0 q1 r' hr))
 ·cases h
@[go_sem] def vu (N d f:Nat):Option FnS:=aw [(10,71,iA N),(28,111,uX N)] d f
def vj (N:Nat) (a0:List Txn) (k1_0_0:List Int) (r:List Txn) (h:dX N a0 k1_0_0=some r):Con prog 110 [true,false] false [sO 11 (a0.map Txn.row),.clo 111 [.iref 1 [[sF 1 (k1_0_0.map (aB .i64))]] 0 0]] (sO 11 (r.map Txn.row)):=by
 refine As (G:=(vu N)) (L:=noL) func110 rfl (by decide) (by kernel_rfl) (gc 10 (uw N) (gc 28 (Bo N) gn)) (fun _ _ _ h=>by cases h) [] mix (na rfl) ?_;rw [show gh [true,false] [sO 11 (a0.map Txn.row),.clo 111 [.iref 1 [[sF 1 (k1_0_0.map (aB .i64))]] 0 0]]=(af (af au 0 (.pal 0 [] 0 a0.length none)) 1 (.clo 111 [.iref 1 [[sF 1 (k1_0_0.map (aB .i64))]] 0 0])) from by funext t; match t with|0=>simp [gh,iT,jU,af]|1=>rfl|t+2=>rfl];rw [show R0 [true,false] [sO 11 (a0.map Txn.row),.clo 111 [.iref 1 [[sF 1 (k1_0_0.map (aB .i64))]] 0 0]]=upd RZ 0 (sO 11 (a0.map Txn.row)) from by funext t; match t with|0=>rfl|1=>rfl|t+2=>rfl];simp only [f110];unfold dX at h;refine z0 ?_;obtain ⟨r1,hr1,h⟩:=bI h;refine z1 hr1 ?_;refine z0 ?_;refine m9 rfl (fun hc2=>?_) (fun hc2=>?_)
 ·have hc2d:=decide_eq_true hc2;rw [if_pos hc2] at h;refine z1 hc2d ?_;refine fe (pp ?_);cases h;simp (config := { maxSteps := 4000000 }) only [go_sem,seval,dU];exact ⟨_,rfl,gI.h,qz.h⟩
 have hc2d:=decide_eq_false hc2;rw [if_neg hc2] at h;refine z1 hc2d ?_;refine aT (gl (fun (b:List Txn × Int × Int)=>⟨tab 42 (af (af (af (af au 0 (.pal 0 [] 0 b.1.length none)) 1 (.clo 111 [.iref 1 [[sF 1 (k1_0_0.map (aB .i64))]] 0 0])) 5 (vI b.2.1)) 6 (vI b.2.2)),(upd RZ 0 (sO 11 (b.1.map Txn.row)))⟩) (a0,r1,IntKind.i64.wrap (r1+1)) h ?_ ?_)
 ·exact wF (k2 hr1 hc2d)
 rintro n ⟨l4,v5,v6⟩ h -;cases n with
 | zero=>simp [bq] at h
 | succ n=>
 simp only [bq] at h;refine z0 ?_;refine sw (m9 rfl) (fun hc3=>?_) (fun hc3=>?_)
 ·have hc3d:=decide_eq_false hc3;rw [if_neg hc3] at h;refine gi (pp ?_);unfold eL at h;refine aM ?_;obtain ⟨hs12,h⟩:=iV h;try simp only [cH] at hs12 h
  refine iL fun Z hZ=>?_;simp (config := { maxSteps := 4000000 }) only [go_sem,seval,hc3d,hs12,cT,ND (row:=Txn.row) (rz:=[vI 0,vI 0,vS (⟨#[]⟩),vI 0,.val (.slice none 0 0),vI 0,vI 0,vI 0,vS (⟨#[]⟩),.val (.slice none 0 0),.val (.slice none 0 0)]) (k:=(v5).toNat) (l:=l4) (by have:=hs12; omega),fX,yh,dB,aF.allD Txn.row_ok];refine hZ _ (pp (mi (vZ (n:=0) ((tn (Txn.mk 0 0 (⟨#[]⟩) 0 [] 0 (Value.mk 0 0 (⟨#[]⟩) [] [])) (v5).toNat l4).map Txn.row) rfl (by simp only [go_sem,seval]; rfl) (by simp only [iZ,gR,go_sem,seval]; rfl) (hle:=Qg (by repeat' (first|exact Le.refl _|exact LeL.nil|exact Le.nils|refine LeL.cons ?_ ?_)))) ?_));refine aM ?_;obtain ⟨hs13,h⟩:=iV h;try simp only [xr] at hs13 h
  refine iL fun Z hZ=>?_;simp (config := { maxSteps := 4000000 }) only [go_sem,seval,hs12,cU,tD,hs13];refine hZ _ (pp (fe (pp ?_)));cases h;simp (config := { maxSteps := 4000000 }) only [go_sem,seval,dU];exact ⟨_,rfl,gI.h,qz.h⟩
 have hc3d:=decide_eq_true hc3;rw [if_pos hc3] at h;obtain ⟨x13,hb4,hx5,h⟩:=aG h;refine z1 (k2 hb4 hx5) ?_;obtain ⟨r14,hr6,h⟩:=bI h;refine z1 hr6 ?_;refine sw (pU rfl) (fun hc7=>?_) (fun hc7=>?_)
 ·first|rw [if_pos hc7] at h|simp only [hc7,nE,nD,nr,nU,nG,xb,nA,nX,ny,nV,cR,if_true,if_false] at h
  refine z1 hc7 ?_;refine ⟨_,cZ _,(l4,v5,IntKind.i64.wrap (v6+1)),?_,h⟩;exact wF (k5 hr1 hc2d hc3d hb4 (k3 hx5 hr6 hc7))
 rw [if_neg (ne_true_of_eq_false hc7)] at h;obtain ⟨x15,hb8,hx9,h⟩:=aG h;have hx11:=kr (y:=x13) hx9;refine z1 (k4 hc7 hb8 hx9 (mm2 (row:=Txn.row) (y:=x13) (rx:=[vI x15.ID,vI x15.Born,vS x15.Client,vI x15.Seq,sF 4 (x15.Calls.map ah.row),vI x15.Done,vI x15.Last.Kind,vI x15.Last.N,vS x15.Last.S,sF 1 (x15.Last.I.map (aB .i64)),sF 1 (x15.Last.L.map dE)]) (ry:=[vI x13.ID,vI x13.Born,vS x13.Client,vI x13.Seq,sF 4 (x13.Calls.map ah.row),vI x13.Done,vI x13.Last.Kind,vI x13.Last.N,vS x13.Last.S,sF 1 (x13.Last.I.map (aB .i64)),sF 1 (x13.Last.L.map dE)]) hx9 rfl rfl)) ?_;refine z0 ?_;refine z0 ?_;refine ⟨_,cZ _,((l4.set ((v5).toNat) x13),IntKind.i64.wrap (v5+1),IntKind.i64.wrap (v6+1)),?_,h⟩;refine wr ?_ ?_<;>repeat' first|rfl|constructor|simp only [go_sem,seval,hU]
def bp (N:Nat):FnS:={ own:=[true,false],pure:=false,fn:=fun cs=>match cs with
 | [c0,.clo 111 [.iref 1 [[k1_0_0]] 0 0]]=>((vK 11 Txn.dec) c0).bind fun q0=>((aJ 1 (dq (aH .i64))) k1_0_0).bind fun q1=>(dX N q0 q1).map fun r=>sO 11 (r.map Txn.row)
 | _=>none }
theorem sH (N:Nat):(bp N).own=[true,false]:=rfl
theorem rS (N:Nat):(bp N).pure=false:=rfl
theorem rI (N:Nat):(bp N).peek=false:=rfl
attribute [go_sem] bp sH rS rI
def s8 (N:Nat):az prog 110 (bp N):=by
 refine ⟨fun cs r h=>?_,fun h=>by cases h⟩;simp only [bp] at h;split at h
 ·simp only [ck,cj] at h;obtain ⟨q0,h0,q1,h1,r',hr,rfl⟩:=h;exact (vj N q0 q1 r' hr).argsO rfl (jE (qc Txn.row_ok Txn.dec_le h0) (rm (Le.clo (LeL.cons (Le.iref1 (LeL.cons (ia (jo .i64) h1) (LeL.nil))) (LeL.nil))) (oa)))
 ·cases h
@[go_sem] def N2 (N d f:Nat):Option FnS:=aw [(7,108,fp N)] d f
def NQ (N:Nat) (a0:al) (c0_0:List Int) (r:Bool) (h:oY N a0 c0_0=some r):Con prog 113 [] true [.agg (al.row a0),.iref 1 [[sF 1 (c0_0.map (aB .i64))]] 0 0] (vB r):=by
 refine fk (G:=(N2 N)) func113 (gc 7 (fx N) gn) ?_;simp only [f113];unfold oY at h;refine z0 ?_;obtain ⟨r1,hr1,h⟩:=bI h;refine z1 hr1 ?_;exact e0 h
@[go_sem] def uV (N:Nat):FnS:={ own:=[],pure:=true,fn:=fun cs=>match cs with
 | [c0,.iref 1 [[c1_0]] 0 0]=>(al.decA c0).bind fun qc0=>((aJ 1 (dq (aH .i64))) c1_0).bind fun qc1_0=>(oY N qc0 qc1_0).map fun r=>vB r
 | _=>none }
def BF (N:Nat):az prog 113 (uV N):=by
 refine ⟨fun cs r h=>?_,fun h=>by cases h⟩;simp only [uV] at h;split at h
 ·simp only [ck,cj] at h;obtain ⟨q0,h0,q1,h1,r',hr,rfl⟩:=h;exact (ag (NQ N q0 q1 r' hr))
 ·cases h
@[go_sem] def va (N d f:Nat):Option FnS:=aw [(16,113,uV N)] d f
def u9 (N:Nat) (a0:List al) (k1_0_0:List Int) (r:Int) (h:fw N a0 k1_0_0=some r):Con prog 186 [] true [sF 3 (a0.map al.row),.clo 113 [.iref 1 [[sF 1 (k1_0_0.map (aB .i64))]] 0 0]] (vI r):=by
 refine fk (G:=(va N)) func186 (gc 16 (BF N) gn) ?_;simp only [f186];unfold fw at h;refine z0 ?_;refine z0 ?_;refine lT 0 (fun (v2:Nat) (b:Unit)=>⟨tab 19 (af (af (af (af au 0 (sF 3 (a0.map al.row))) 1 (.clo 113 [.iref 1 [[sF 1 (k1_0_0.map (aB .i64))]] 0 0])) 7 (vI (a0.length:Int))) 8 (vI (v2:Int))),RZ⟩) () h ?_ ?_
 ·rintro v2 ⟨⟩ hi3' h;simp only [dz] at h;refine z1 hi3' ?_;refine cf ?_;refine z0 ?_;exact e0 h
 rintro v2 ⟨⟩ x5 hi3' hx4 hw5 h;simp only [dz] at h;refine z1 hi3' ?_;refine ct ?_;refine z0 ?_;obtain ⟨r1,hr7,h⟩:=bI h;refine z1 (k3 hx4 hi3' hr7) ?_;refine cB h (fun hc8 h=>?_) fun hc8 h=>?_
 ·refine z1 hc8 ?_;exact e0 h
 refine z1 (k2 hw5 hc8) ?_;refine ⟨hi3',(),?_,h⟩;exact wR
@[go_sem] def gM (N:Nat):FnS:={ own:=[],pure:=true,fn:=fun cs=>match cs with
 | [c0,.clo 113 [.iref 1 [[k1_0_0]] 0 0]]=>((aJ 3 al.dec) c0).bind fun qc0=>((aJ 1 (dq (aH .i64))) k1_0_0).bind fun qk1_0_0=>(fw N qc0 qk1_0_0).map fun r=>vI r
 | _=>none }
def s9 (N:Nat):az prog 186 (gM N):=by
 refine ⟨fun cs r h=>?_,fun h=>by cases h⟩;simp only [gM] at h;split at h
 ·simp only [ck,cj] at h;obtain ⟨q0,h0,q1,h1,r',hr,rfl⟩:=h;exact (ag (u9 N q0 q1 r' hr))
 ·cases h
@[go_sem] def uM (N d f:Nat):Option FnS:=aw [(10,186,gM N),(28,113,uV N)] d f
def uL (N:Nat) (a0:List al) (k1_0_0:List Int) (r:List al) (h:dM N a0 k1_0_0=some r):Con prog 112 [true,false] false [sO 3 (a0.map al.row),.clo 113 [.iref 1 [[sF 1 (k1_0_0.map (aB .i64))]] 0 0]] (sO 3 (r.map al.row)):=by
 refine As (G:=(uM N)) (L:=noL) func112 rfl (by decide) (by kernel_rfl) (gc 10 (s9 N) (gc 28 (BF N) gn)) (fun _ _ _ h=>by cases h) [] mix (na rfl) ?_;rw [show gh [true,false] [sO 3 (a0.map al.row),.clo 113 [.iref 1 [[sF 1 (k1_0_0.map (aB .i64))]] 0 0]]=(af (af au 0 (.pal 0 [] 0 a0.length none)) 1 (.clo 113 [.iref 1 [[sF 1 (k1_0_0.map (aB .i64))]] 0 0])) from by funext t; match t with|0=>simp [gh,iT,jU,af]|1=>rfl|t+2=>rfl];rw [show R0 [true,false] [sO 3 (a0.map al.row),.clo 113 [.iref 1 [[sF 1 (k1_0_0.map (aB .i64))]] 0 0]]=upd RZ 0 (sO 3 (a0.map al.row)) from by funext t; match t with|0=>rfl|1=>rfl|t+2=>rfl];simp only [f112];unfold dM at h;refine z0 ?_;obtain ⟨r1,hr1,h⟩:=bI h;refine z1 hr1 ?_;refine z0 ?_;refine m9 rfl (fun hc2=>?_) (fun hc2=>?_)
 ·have hc2d:=decide_eq_true hc2;rw [if_pos hc2] at h;refine z1 hc2d ?_;refine fe (pp ?_);cases h;simp (config := { maxSteps := 4000000 }) only [go_sem,seval,dU];exact ⟨_,rfl,gI.h,qz.h⟩
 have hc2d:=decide_eq_false hc2;rw [if_neg hc2] at h;refine z1 hc2d ?_;refine aT (gl (fun (b:List al × Int × Int)=>⟨tab 42 (af (af (af (af au 0 (.pal 0 [] 0 b.1.length none)) 1 (.clo 113 [.iref 1 [[sF 1 (k1_0_0.map (aB .i64))]] 0 0])) 5 (vI b.2.1)) 6 (vI b.2.2)),(upd RZ 0 (sO 3 (b.1.map al.row)))⟩) (a0,r1,IntKind.i64.wrap (r1+1)) h ?_ ?_)
 ·exact wF (k2 hr1 hc2d)
 rintro n ⟨l4,v5,v6⟩ h -;cases n with
 | zero=>simp [bk] at h
 | succ n=>
 simp only [bk] at h;refine z0 ?_;refine sw (m9 rfl) (fun hc3=>?_) (fun hc3=>?_)
 ·have hc3d:=decide_eq_false hc3;rw [if_neg hc3] at h;refine gi (pp ?_);unfold eB at h;refine aM ?_;obtain ⟨hs12,h⟩:=iV h;try simp only [cH] at hs12 h
  refine iL fun Z hZ=>?_;simp (config := { maxSteps := 4000000 }) only [go_sem,seval,hc3d,hs12,cT,ND (row:=al.row) (rz:=[vI 0,.val (.slice none 0 0),vB false]) (k:=(v5).toNat) (l:=l4) (by have:=hs12; omega),fX,yh,dB,aF.allD al.row_ok];refine hZ _ (pp (mi (vZ (n:=0) ((tn (al.mk 0 [] false) (v5).toNat l4).map al.row) rfl (by simp only [go_sem,seval]; rfl) (by simp only [iZ,gR,go_sem,seval]; rfl) (hle:=Qg (by repeat' (first|exact Le.refl _|exact LeL.nil|exact Le.nils|refine LeL.cons ?_ ?_)))) ?_));refine aM ?_;obtain ⟨hs13,h⟩:=iV h;try simp only [xr] at hs13 h
  refine iL fun Z hZ=>?_;simp (config := { maxSteps := 4000000 }) only [go_sem,seval,hs12,cU,tD,hs13];refine hZ _ (pp (fe (pp ?_)));cases h;simp (config := { maxSteps := 4000000 }) only [go_sem,seval,dU];exact ⟨_,rfl,gI.h,qz.h⟩
 have hc3d:=decide_eq_true hc3;rw [if_pos hc3] at h;obtain ⟨x13,hb4,hx5,h⟩:=aG h;refine z1 (k2 hb4 hx5) ?_;obtain ⟨r14,hr6,h⟩:=bI h;refine z1 hr6 ?_;refine sw (pU rfl) (fun hc7=>?_) (fun hc7=>?_)
 ·first|rw [if_pos hc7] at h|simp only [hc7,nE,nD,nr,nU,nG,xb,nA,nX,ny,nV,cR,if_true,if_false] at h
  refine z1 hc7 ?_;refine ⟨_,cZ _,(l4,v5,IntKind.i64.wrap (v6+1)),?_,h⟩;exact wF (k5 hr1 hc2d hc3d hb4 (k3 hx5 hr6 hc7))
 rw [if_neg (ne_true_of_eq_false hc7)] at h;obtain ⟨x15,hb8,hx9,h⟩:=aG h;have hx11:=kr (y:=x13) hx9;refine z1 (k4 hc7 hb8 hx9 (mm2 (row:=al.row) (y:=x13) (rx:=[vI x15.Txn_,sF 5 (x15.Fields.map Value.row),vB x15.Prepared]) (ry:=[vI x13.Txn_,sF 5 (x13.Fields.map Value.row),vB x13.Prepared]) hx9 rfl rfl)) ?_;refine z0 ?_;refine z0 ?_;refine ⟨_,cZ _,((l4.set ((v5).toNat) x13),IntKind.i64.wrap (v5+1),IntKind.i64.wrap (v6+1)),?_,h⟩;refine wr ?_ ?_<;>repeat' first|rfl|constructor|simp only [go_sem,seval,hU]
def bh (N:Nat):FnS:={ own:=[true,false],pure:=false,fn:=fun cs=>match cs with
 | [c0,.clo 113 [.iref 1 [[k1_0_0]] 0 0]]=>((vK 3 al.dec) c0).bind fun q0=>((aJ 1 (dq (aH .i64))) k1_0_0).bind fun q1=>(dM N q0 q1).map fun r=>sO 3 (r.map al.row)
 | _=>none }
theorem rC (N:Nat):(bh N).own=[true,false]:=rfl
theorem qB (N:Nat):(bh N).pure=false:=rfl
theorem qE (N:Nat):(bh N).peek=false:=rfl
attribute [go_sem] bh rC qB qE
def rU (N:Nat):az prog 112 (bh N):=by
 refine ⟨fun cs r h=>?_,fun h=>by cases h⟩;simp only [bh] at h;split at h
 ·simp only [ck,cj] at h;obtain ⟨q0,h0,q1,h1,r',hr,rfl⟩:=h;exact (uL N q0 q1 r' hr).argsO rfl (jE (qc al.row_ok al.dec_le h0) (rm (Le.clo (LeL.cons (Le.iref1 (LeL.cons (ia (jo .i64) h1) (LeL.nil))) (LeL.nil))) (oa)))
 ·cases h
def NF (N:Nat) (a0:aa) (r:Bool) (h:oL N a0=some r):Con prog 115 [] true [.agg (aa.row a0)] (vB r):=by
 refine fk (G:=(aw [])) func115 gn ?_;simp only [f115];unfold oL at h;refine z0 ?_;refine z0 ?_;exact e0 h
@[go_sem] def zQ (N:Nat):FnS:=⟨[],true,fn1 aa.decA fun q0=>(oL N q0).map fun r=>vB r,false⟩
def BD (N:Nat):az prog 115 (zQ N):=om1 (NF N)
@[go_sem] def sX (N d f:Nat):Option FnS:=aw [(16,115,zQ N)] d f
def sD (N:Nat) (a0:List aa) (r:Int) (h:eh N a0=some r):Con prog 105 [] true [sF 3 (a0.map aa.row),.clo 115 []] (vI r):=by
 refine fk (G:=(sX N)) func105 (gc 16 (BD N) gn) ?_;simp only [f105];unfold eh at h;refine z0 ?_;refine z0 ?_;refine lT 0 (fun (v2:Nat) (b:Unit)=>⟨tab 19 (af (af (af (af au 0 (sF 3 (a0.map aa.row))) 1 (.clo 115 [])) 7 (vI (a0.length:Int))) 8 (vI (v2:Int))),RZ⟩) () h ?_ ?_
 ·rintro v2 ⟨⟩ hi3' h;simp only [bM] at h;refine z1 hi3' ?_;refine cf ?_;refine z0 ?_;exact e0 h
 rintro v2 ⟨⟩ x5 hi3' hx4 hw5 h;simp only [bM] at h;refine z1 hi3' ?_;refine ct ?_;refine z0 ?_;obtain ⟨r1,hr7,h⟩:=bI h;refine z1 (k3 hx4 hi3' hr7) ?_;refine cB h (fun hc8 h=>?_) fun hc8 h=>?_
 ·refine z1 hc8 ?_;exact e0 h
 refine z1 (k2 hw5 hc8) ?_;refine ⟨hi3',(),?_,h⟩;exact wR
@[go_sem] def fD (N:Nat):FnS:={ own:=[],pure:=true,fn:=fun cs=>match cs with
 | [c0,.clo 115 []]=>((aJ 3 aa.dec) c0).bind fun qc0=>(eh N qc0).map fun r=>vI r
 | _=>none }
def pM (N:Nat):az prog 105 (fD N):=by
 refine ⟨fun cs r h=>?_,fun h=>by cases h⟩;simp only [fD] at h;split at h
 ·simp only [ck,cj] at h;obtain ⟨q0,h0,r',hr,rfl⟩:=h;exact (ag (sD N q0 r' hr))
 ·cases h
@[go_sem] def rN (N d f:Nat):Option FnS:=aw [(10,105,fD N),(28,115,zQ N)] d f
def rK (N:Nat) (a0:List aa) (r:List aa) (h:bZ N a0=some r):Con prog 114 [true,false] false [sO 3 (a0.map aa.row),.clo 115 []] (sO 3 (r.map aa.row)):=by
 refine As (G:=(rN N)) (L:=noL) func114 rfl (by decide) (by kernel_rfl) (gc 10 (pM N) (gc 28 (BD N) gn)) (fun _ _ _ h=>by cases h) [] mix (na rfl) ?_;rw [show gh [true,false] [sO 3 (a0.map aa.row),.clo 115 []]=(af (af au 0 (.pal 0 [] 0 a0.length none)) 1 (.clo 115 [])) from by funext t; match t with|0=>simp [gh,iT,jU,af]|1=>rfl|t+2=>rfl];rw [show R0 [true,false] [sO 3 (a0.map aa.row),.clo 115 []]=upd RZ 0 (sO 3 (a0.map aa.row)) from by funext t; match t with|0=>rfl|1=>rfl|t+2=>rfl];simp only [f114];unfold bZ at h;refine z0 ?_;obtain ⟨r1,hr1,h⟩:=bI h;refine z1 hr1 ?_;refine z0 ?_;refine m9 rfl (fun hc2=>?_) (fun hc2=>?_)
 ·have hc2d:=decide_eq_true hc2;rw [if_pos hc2] at h;refine z1 hc2d ?_;refine fe (pp ?_);cases h;simp (config := { maxSteps := 4000000 }) only [go_sem,seval,dU];exact ⟨_,rfl,gI.h,qz.h⟩
 have hc2d:=decide_eq_false hc2;rw [if_neg hc2] at h;refine z1 hc2d ?_;refine aT (gl (fun (b:List aa × Int × Int)=>⟨tab 42 (af (af (af (af au 0 (.pal 0 [] 0 b.1.length none)) 1 (.clo 115 [])) 5 (vI b.2.1)) 6 (vI b.2.2)),(upd RZ 0 (sO 3 (b.1.map aa.row)))⟩) (a0,r1,IntKind.i64.wrap (r1+1)) h ?_ ?_)
 ·exact wF (k2 hr1 hc2d)
 rintro n ⟨l4,v5,v6⟩ h -;cases n with
 | zero=>simp [aV] at h
 | succ n=>
 simp only [aV] at h;refine z0 ?_;refine sw (m9 rfl) (fun hc3=>?_) (fun hc3=>?_)
 ·have hc3d:=decide_eq_false hc3;rw [if_neg hc3] at h;refine gi (pp ?_);unfold dK at h;refine aM ?_;obtain ⟨hs12,h⟩:=iV h;try simp only [cH] at hs12 h
  refine iL fun Z hZ=>?_;simp (config := { maxSteps := 4000000 }) only [go_sem,seval,hc3d,hs12,cT,ND (row:=aa.row) (rz:=[vS (⟨#[]⟩),vS (⟨#[]⟩),.val (.slice none 0 0)]) (k:=(v5).toNat) (l:=l4) (by have:=hs12; omega),fX,yh,dB,aF.allD aa.row_ok];refine hZ _ (pp (mi (vZ (n:=0) ((tn (aa.mk (Ref.mk (⟨#[]⟩) (⟨#[]⟩)) []) (v5).toNat l4).map aa.row) rfl (by simp only [go_sem,seval]; rfl) (by simp only [iZ,gR,go_sem,seval]; rfl) (hle:=Qg (by repeat' (first|exact Le.refl _|exact LeL.nil|exact Le.nils|refine LeL.cons ?_ ?_)))) ?_));refine aM ?_;obtain ⟨hs13,h⟩:=iV h;try simp only [xr] at hs13 h
  refine iL fun Z hZ=>?_;simp (config := { maxSteps := 4000000 }) only [go_sem,seval,hs12,cU,tD,hs13];refine hZ _ (pp (fe (pp ?_)));cases h;simp (config := { maxSteps := 4000000 }) only [go_sem,seval,dU];exact ⟨_,rfl,gI.h,qz.h⟩
 have hc3d:=decide_eq_true hc3;rw [if_pos hc3] at h;obtain ⟨x13,hb4,hx5,h⟩:=aG h;refine z1 (k2 hb4 hx5) ?_;obtain ⟨r14,hr6,h⟩:=bI h;refine z1 hr6 ?_;refine sw (pU rfl) (fun hc7=>?_) (fun hc7=>?_)
 ·first|rw [if_pos hc7] at h|simp only [hc7,nE,nD,nr,nU,nG,xb,nA,nX,ny,nV,cR,if_true,if_false] at h
  refine z1 hc7 ?_;refine ⟨_,cZ _,(l4,v5,IntKind.i64.wrap (v6+1)),?_,h⟩;exact wF (k5 hr1 hc2d hc3d hb4 (k3 hx5 hr6 hc7))
 rw [if_neg (ne_true_of_eq_false hc7)] at h;obtain ⟨x15,hb8,hx9,h⟩:=aG h;have hx11:=kr (y:=x13) hx9;refine z1 (k4 hc7 hb8 hx9 (mm2 (row:=aa.row) (y:=x13) (rx:=[vS x15.Actor.Type_,vS x15.Actor.Key,sF 3 (x15.Layers.map al.row)]) (ry:=[vS x13.Actor.Type_,vS x13.Actor.Key,sF 3 (x13.Layers.map al.row)]) hx9 rfl rfl)) ?_;refine z0 ?_;refine z0 ?_;refine ⟨_,cZ _,((l4.set ((v5).toNat) x13),IntKind.i64.wrap (v5+1),IntKind.i64.wrap (v6+1)),?_,h⟩;refine wr ?_ ?_<;>repeat' first|rfl|constructor|simp only [go_sem,seval,hU]
def aU (N:Nat):FnS:={ own:=[true,false],pure:=false,fn:=fun cs=>match cs with
 | [c0,.clo 115 []]=>((vK 3 aa.dec) c0).bind fun q0=>(bZ N q0).map fun r=>sO 3 (r.map aa.row)
 | _=>none }
theorem ov (N:Nat):(aU N).own=[true,false]:=rfl
theorem mT (N:Nat):(aU N).pure=false:=rfl
theorem mO (N:Nat):(aU N).peek=false:=rfl
attribute [go_sem] aU ov mT mO
def oG (N:Nat):az prog 114 (aU N):=by
 refine ⟨fun cs r h=>?_,fun h=>by cases h⟩;simp only [aU] at h;split at h
 ·simp only [ck,cj] at h;obtain ⟨q0,h0,r',hr,rfl⟩:=h;exact (rK N q0 r' hr).argsO rfl (jE (qc aa.row_ok aa.dec_le h0) (rm (Le.clo (LeL.nil)) (oa)))
 ·cases h
@[go_sem] def Rv (N d f:Nat):Option FnS:=aw [(8,59,pZ N),(12,110,bp N),(30,112,bh N),(36,114,aU N)] d f
def Q5 (N:Nat) (a0:ae) (a1:List Int) (r:ae) (h:tL N a0 a1=some r):Con prog 49 [] false [.agg (ae.row a0),sF 1 (a1.map (aB .i64))] (.agg [sO 11 (r.Txns.map Txn.row),sO 4 (r.Locks.map ai.row),sF 3 (r.Stacks.map aa.row)]):=by
 refine fk (G:=(Rv N)) func49 (gc 8 (oF N) (gc 12 (s8 N) (gc 30 (rU N) (gc 36 (oG N) gn)))) ?_;simp only [f49];unfold tL at h;refine z0 ?_;obtain ⟨r1,hr1,h⟩:=bI h;refine z1 hr1 ?_;refine aM (mi (Xp (n:=3) (by simp only [go_sem,seval]; rfl) rfl (by simp only [iZ,gR,N7,LX,go_sem,seval]; rfl)) ?_);obtain ⟨r2,hr2,h⟩:=bI h;refine z1 hr2 ?_;refine z0 ?_;refine aT (gZ fun hreal4=>?_);have hl3:=hreal4.cell 5 2 (by simp only [go_sem,seval]; rfl) rfl;rw [cx] at hl3;refine oO (fun (v5:Nat) (b:List aa)=>⟨tab 39 (af (af (af (af (af au 3 (.iref 1 [[sF 1 (a1.map (aB .i64))]] 0 0)) 4 (pF 4)) 5 (pF 5)) 16 (vI (r1.Stacks.length:Int))) 17 (vI (v5:Int))),(upd (upd RZ 4 (vA 3 [.val (.slice none 0 0),.val (.slice none 0 0),.val (.slice none 0 0)])) 5 (vA 3 [sO 11 (r2.map Txn.row),sO 4 (r1.Locks.map ai.row),sO 3 (b.map aa.rowD)]))⟩) r1.Stacks h ?_ ?_
 ·exact wF (k2 hr1 hr2)
 rintro v5 l4 _ h -;rcases (jh r1.Stacks.length v5).symm with ⟨hi5',hd8⟩|⟨hi5',hd8⟩
 ·rw [hd8] at h;simp only [mD] at h;refine z1 hi5' ?_;refine cf ?_;refine gi (pp ?_);unfold yu at h;refine aM (mi (SG aa.rowD aa.row 5 [(0,2)] l4 (by simp only [go_sem,seval]; rfl) (by simp only [iZ,gR,go_sem,seval]; rfl) (by simp only [go_sem,seval]; rfl)) ?_);obtain ⟨r13,hr12,h⟩:=bI h;refine z1 hr12 ?_;refine z0 ?_;refine fe (pp ?_);cases h;simp (config := { maxSteps := 4000000 }) only [go_sem,seval];exact ⟨_,rfl,(by repeat' (first|exact ROk.refl _|exact ROk.nil _|((refine ROk.of _ ?_ ?_); (focus ((repeat' (first|exact Le.refl _|exact LeL.nil|exact Le.nils|exact dw.refl _|refine dw.mapAppend ?_ ?_|refine dw.cons ?_ ?_|refine Le.sl ?_|refine Le.tup ?_|refine Le.agg ?_|refine LeL.cons ?_ ?_)); done)); (focus ((repeat' (first|exact bV.val _|exact bV.sl _ _ _ _|refine bV.tup ?_|refine bV.agg ?_|exact Ec|refine CK ?_ ?_)); done)))|((refine ROk.own ?_ ?_); (focus ((repeat' (first|exact Le.refl _|exact LeL.nil|exact Le.nils|exact dw.refl _|refine dw.mapAppend ?_ ?_|refine dw.cons ?_ ?_|refine Le.sl ?_|refine Le.tup ?_|refine Le.agg ?_|refine LeL.cons ?_ ?_)); done)); (focus ((first|exact aF.noOwn (mo .i64) _|exact aF.noOwn ah.row_ok _|exact aF.noOwn al.row_ok _|exact aF.noOwn aa.row_ok _|exact aF.noOwn ai.row_ok _|exact aF.noOwn Txn.row_ok _|exact aF.noOwn Value.row_ok _|exact aF.noOwn Fv _); done)))|refine ROk.agg rfl ?_|refine ROk.tup rfl ?_|exact Ns|refine Lp ?_ ?_))⟩
 rw [hd8] at h;simp only [mD] at h;have hw7:=eH hi5' hl3;refine z1 hi5' ?_;refine ct ?_;refine z0 ?_;obtain ⟨x11,hb9,hx10,h⟩:=aG h;try simp only [cH] at hx10
 try simp only [nI,nJ,true_and] at hb9
 refine MJ [0,1,2,3,4,5,6,7,8,9] [10] [] [11,12,13] [5] (by kernel_rfl) fun Z hZ Y hY=>?_;simp (config := { maxSteps := 4000000 }) only [go_sem,seval,hb9,hx10];refine hY _ (by kernel_rfl) (Lo (by simp only [go_sem,seval,DD,Option.isNone,nG]; try rfl) fun Y hY=>?_);obtain ⟨r12,hr11,h⟩:=bI h;simp (config := { maxSteps := 4000000 }) only [go_sem,seval,hx10,Tn (row:=aa.rowD) (rx:=[vS x11.Actor.Type_,vS x11.Actor.Key,sO 3 (x11.Layers.map al.row)]) hx10 rfl rfl,hr11];refine hY _ (by kernel_rfl) (Yu ?_);simp (config := { maxSteps := 4000000 }) only [go_sem,seval,hb9,G0 (row:=aa.rowD) _ hx10,Gc (row:=aa.rowD) hx10 rfl];refine hZ _ (z1 hw7 ?_);refine ⟨hi5',(l4.set v5 (aa.mk x11.Actor r12)),?_,h⟩;refine aW.trans (y7 (n:=5) (c':=vA 3 [sO 11 (r2.map Txn.row),sO 4 (r1.Locks.map ai.row),sO 3 ((l4.set v5 (aa.mk x11.Actor r12)).map aa.rowD)]) (by simp only [go_sem,seval]; rfl) (by first|(simp only [oA (row:=aa.rowD) (l:=l4) (i:=v5) (y:=(aa.mk x11.Actor r12)) (rc:=[vS x11.Actor.Type_,vS x11.Actor.Key,sO 3 (r12.map al.row)]) rfl]; done)|(simp only [oA (row:=aa.rowD) (l:=l4) (i:=v5) (y:=(aa.mk x11.Actor r12)) (rc:=[vS x11.Actor.Type_,vS x11.Actor.Key,sO 3 (r12.map al.row)]) rfl,nq,nw,xh]<;>rfl)|(rw [<-oA (row:=aa.rowD) (l:=l4) (i:=v5) (y:=(aa.mk x11.Actor r12)) (rc:=[vS x11.Actor.Type_,vS x11.Actor.Key,sO 3 (r12.map al.row)]) rfl]; simp only [nq,nw,xh]<;>rfl))) ?_
 exact wF (k5 hr1 hr2 hi5' hw7 (k5 hb9 hx10 (ov1 (row:=aa.rowD) (rx:=[vS x11.Actor.Type_,vS x11.Actor.Key,sO 3 (x11.Layers.map al.row)]) hx10 rfl) (ov2 (row:=aa.rowD) hx10) (k2 (ov3 (row:=aa.rowD) hx10) hr11)))
@[go_sem] def B7 (N:Nat):FnS:=⟨[],false,fn2 ae.decA (aJ 1 (dq (aH .i64))) fun q0 q1=>(tL N q0 q1).map fun r=>.agg (ae.row r),false⟩
def C8 (N:Nat):az prog 49 (B7 N):=ok2 (fun q0 q1 r h=>by
 obtain ⟨r',hr,rfl⟩:=cj.1 h;exact (Q5 N q0 q1 r' hr).res (by first|((try simp only [go_sem]); exact gI.h)|(repeat' (first|exact ROk.refl _|exact ROk.nil _|((refine ROk.of _ ?_ ?_); (focus ((repeat' (first|exact Le.refl _|exact LeL.nil|exact Le.nils|exact dw.refl _|refine dw.mapAppend ?_ ?_|refine dw.cons ?_ ?_|refine Le.sl ?_|refine Le.tup ?_|refine Le.agg ?_|refine LeL.cons ?_ ?_)); done)); (focus ((repeat' (first|exact bV.val _|exact bV.sl _ _ _ _|refine bV.tup ?_|refine bV.agg ?_|exact Ec|refine CK ?_ ?_)); done)))|((refine ROk.own ?_ ?_); (focus ((repeat' (first|exact Le.refl _|exact LeL.nil|exact Le.nils|exact dw.refl _|refine dw.mapAppend ?_ ?_|refine dw.cons ?_ ?_|refine Le.sl ?_|refine Le.tup ?_|refine Le.agg ?_|refine LeL.cons ?_ ?_)); done)); (focus ((first|exact aF.noOwn (mo .i64) _|exact aF.noOwn ah.row_ok _|exact aF.noOwn al.row_ok _|exact aF.noOwn aa.row_ok _|exact aF.noOwn ai.row_ok _|exact aF.noOwn Txn.row_ok _|exact aF.noOwn Value.row_ok _|exact aF.noOwn Fv _); done)))|refine ROk.agg rfl ?_|refine ROk.tup rfl ?_|exact Ns|refine Lp ?_ ?_)))) (ae.decA_le) (fun h=>ia (jo .i64) h)
def Ia (N:Nat) (a0:Int) (c0_0:Int) (r:Bool) (h:lu N a0 c0_0=some r):Con prog 119 [] true [vI a0,.iref 1 [[vI c0_0]] 0 0] (vB r):=by
 refine fk (G:=(aw [])) func119 gn ?_;simp only [f119];unfold lu at h;refine z0 ?_;refine z0 ?_;exact e0 h
@[go_sem] def pA (N:Nat):FnS:={ own:=[],pure:=true,fn:=fun cs=>match cs with
 | [c0,.iref 1 [[c1_0]] 0 0]=>((aH .i64) c0).bind fun qc0=>((aH .i64) c1_0).bind fun qc1_0=>(lu N qc0 qc1_0).map fun r=>vB r
 | _=>none }
def ye (N:Nat):az prog 119 (pA N):=by
 refine ⟨fun cs r h=>?_,fun h=>by cases h⟩;simp only [pA] at h;split at h
 ·simp only [ck,cj] at h;obtain ⟨q0,h0,q1,h1,r',hr,rfl⟩:=h;exact (ag (Ia N q0 q1 r' hr))
 ·cases h
@[go_sem] def uq (N d f:Nat):Option FnS:=aw [(16,119,pA N)] d f
def ui (N:Nat) (a0:List Int) (k1_0_0:Int) (r:Int) (h:dJ N a0 k1_0_0=some r):Con prog 189 [] true [sF 1 (a0.map (aB .i64)),.clo 119 [.iref 1 [[vI k1_0_0]] 0 0]] (vI r):=by
 refine fk (G:=(uq N)) func189 (gc 16 (ye N) gn) ?_;simp only [f189];unfold dJ at h;refine z0 ?_;refine z0 ?_;refine lT 0 (fun (v2:Nat) (b:Unit)=>⟨tab 19 (af (af (af (af au 0 (sF 1 (a0.map (aB .i64)))) 1 (.clo 119 [.iref 1 [[vI k1_0_0]] 0 0])) 7 (vI (a0.length:Int))) 8 (vI (v2:Int))),RZ⟩) () h ?_ ?_
 ·rintro v2 ⟨⟩ hi3' h;simp only [bj] at h;refine z1 hi3' ?_;refine cf ?_;refine z0 ?_;exact e0 h
 rintro v2 ⟨⟩ x5 hi3' hx4 hw5 h;simp only [bj] at h;refine z1 hi3' ?_;refine ct ?_;refine z0 ?_;obtain ⟨r1,hr7,h⟩:=bI h;refine z1 (k3 hx4 hi3' hr7) ?_;refine cB h (fun hc8 h=>?_) fun hc8 h=>?_
 ·refine z1 hc8 ?_;exact e0 h
 refine z1 (k2 hw5 hc8) ?_;refine ⟨hi3',(),?_,h⟩;exact wR
@[go_sem] def gu (N:Nat):FnS:={ own:=[],pure:=true,fn:=fun cs=>match cs with
 | [c0,.clo 119 [.iref 1 [[k1_0_0]] 0 0]]=>((aJ 1 (dq (aH .i64))) c0).bind fun qc0=>((aH .i64) k1_0_0).bind fun qk1_0_0=>(dJ N qc0 qk1_0_0).map fun r=>vI r
 | _=>none }
def rV (N:Nat):az prog 189 (gu N):=by
 refine ⟨fun cs r h=>?_,fun h=>by cases h⟩;simp only [gu] at h;split at h
 ·simp only [ck,cj] at h;obtain ⟨q0,h0,q1,h1,r',hr,rfl⟩:=h;exact (ag (ui N q0 q1 r' hr))
 ·cases h
@[go_sem] def tq (N d f:Nat):Option FnS:=aw [(10,189,gu N),(28,119,pA N)] d f
def tT (N:Nat) (a0:List Int) (k1_0_0:Int) (r:List Int) (h:bA N a0 k1_0_0=some r):Con prog 118 [true,false] true [sO 1 (a0.map (aB .i64)),.clo 119 [.iref 1 [[vI k1_0_0]] 0 0]] (sO 1 (r.map (aB .i64))):=by
 refine As (G:=(tq N)) (L:=noL) func118 rfl (by decide) (by kernel_rfl) (gc 10 (rV N) (gc 28 (ye N) gn)) (fun _ _ _ h=>by cases h) [] mix (na rfl) ?_;rw [show gh [true,false] [sO 1 (a0.map (aB .i64)),.clo 119 [.iref 1 [[vI k1_0_0]] 0 0]]=(af (af au 0 (.pal 0 [] 0 a0.length none)) 1 (.clo 119 [.iref 1 [[vI k1_0_0]] 0 0])) from by funext t; match t with|0=>simp [gh,iT,jU,af]|1=>rfl|t+2=>rfl];rw [show R0 [true,false] [sO 1 (a0.map (aB .i64)),.clo 119 [.iref 1 [[vI k1_0_0]] 0 0]]=upd RZ 0 (sO 1 (a0.map (aB .i64))) from by funext t; match t with|0=>rfl|1=>rfl|t+2=>rfl];simp only [f118];unfold bA at h;refine z0 ?_;obtain ⟨r1,hr1,h⟩:=bI h;refine z1 hr1 ?_;refine z0 ?_;refine cD h (fun hc2 hc2d h=>?_) fun hc2 hc2d h=>?_
 ·refine z1 hc2d ?_;refine fe (pp ?_);cases h;simp only [go_sem,seval,dU];exact ⟨_,rfl,gI.h,qz.h,qy.h⟩
 refine z1 hc2d ?_;refine aT (gl (fun (b:List Int × Int × Int)=>⟨tab 42 (af (af (af (af au 0 (.pal 0 [] 0 b.1.length none)) 1 (.clo 119 [.iref 1 [[vI k1_0_0]] 0 0])) 5 (vI b.2.1)) 6 (vI b.2.2)),(upd RZ 0 (sO 1 (b.1.map (aB .i64))))⟩) (a0,r1,IntKind.i64.wrap (r1+1)) h ?_ ?_)
 ·exact wF (k2 hr1 hc2d)
 rintro n ⟨l4,v5,v6⟩ h -;cases n with
 | zero=>simp [bf] at h
 | succ n=>
 simp only [bf] at h;refine z0 ?_;refine cDs h (fun hc3 hc3d h=>?_) fun hc3 hc3d h=>?_
 ·refine gi (pp ?_);unfold dW at h;refine aM ?_;obtain ⟨hs12,h⟩:=iV h;try simp only [cH] at hs12 h
  refine iL fun Z hZ=>?_;simp only [go_sem,seval,hc3d,hs12,cT,Qf (row:=(aB .i64)) (z:=0) (rz:=[vI 0]) (k:=(v5).toNat) (l:=l4) (by have:=hs12; omega) rfl,fX,yh,dB,aF.allD (mo .i64)];refine hZ _ (pp (aM ?_));obtain ⟨hs13,h⟩:=iV h;try simp only [xr] at hs13 h
  refine iL fun Z hZ=>?_;simp only [go_sem,seval,hs12,cU,tD,hs13];refine hZ _ (pp (fe (pp ?_)));cases h;simp only [go_sem,seval,dU];exact ⟨_,rfl,gI.h,qz.h,qy.h⟩
 obtain ⟨x13,hb4,hx5,h⟩:=aG h;refine z1 (k2 hb4 hx5) ?_;obtain ⟨r14,hr6,h⟩:=bI h;refine z1 hr6 ?_;refine cMs h (fun hc7 h=>?_) fun hc7 h=>?_
 ·refine z1 hc7 ?_;refine ⟨_,cZ _,(l4,v5,IntKind.i64.wrap (v6+1)),?_,h⟩;exact wF (k5 hr1 hc2d hc3d hb4 (k3 hx5 hr6 hc7))
 obtain ⟨x15,hb8,hx9,h⟩:=aG h;have hx11:=kr (y:=x13) hx9;refine z1 (k4 hc7 hb8 hx9 (mm2 (row:=(aB .i64)) (y:=x13) (rx:=[vI x15]) (ry:=[vI x13]) hx9 rfl rfl)) ?_;refine z0 ?_;refine z0 ?_;refine ⟨_,cZ _,((l4.set ((v5).toNat) x13),IntKind.i64.wrap (v5+1),IntKind.i64.wrap (v6+1)),?_,h⟩;refine wr ?_ ?_<;>repeat' first|rfl|constructor|simp only [go_sem,seval,hU]
def bc (N:Nat):FnS:={ own:=[true,false],pure:=true,fn:=fun cs=>match cs with
 | [c0,.clo 119 [.iref 1 [[k1_0_0]] 0 0]]=>((vK 1 (dq (aH .i64))) c0).bind fun q0=>((aH .i64) k1_0_0).bind fun q1=>(bA N q0 q1).map fun r=>sO 1 (r.map (aB .i64))
 | _=>none }
theorem pO (N:Nat):(bc N).own=[true,false]:=rfl
theorem pE (N:Nat):(bc N).pure=true:=rfl
theorem pC (N:Nat):(bc N).peek=false:=rfl
attribute [go_sem] bc pO pE pC
def qG (N:Nat):az prog 118 (bc N):=by
 refine ⟨fun cs r h=>?_,fun h=>by cases h⟩;simp only [bc] at h;split at h
 ·simp only [ck,cj] at h;obtain ⟨q0,h0,q1,h1,r',hr,rfl⟩:=h;exact (tT N q0 q1 r' hr).argsO rfl (jE (qc (mo .i64) (jo .i64) h0) (rm (Le.clo (LeL.cons (Le.iref1 (LeL.cons (bz h1) (LeL.nil))) (LeL.nil))) (oa)))
 ·cases h
@[go_sem] def Lw (N d f:Nat):Option FnS:=aw [(8,116,k8 N),(11,117,zM N),(25,118,bc N)] d f
def KG (N:Nat) (a0:List ai) (a1:Int) (r:List ai) (h:ot N a0 a1=some r):Con prog 50 [] false [sF 4 (a0.map ai.row),vI a1] (sO 4 (r.map ai.rowD)):=by
 refine fk (G:=(Lw N)) func50 (gc 8 (kv N) (gc 11 (BI N) (gc 25 (qG N) gn))) ?_;simp only [f50];unfold ot at h;refine z0 ?_;obtain ⟨r1,hr1,h⟩:=bI h;refine z1 hr1 ?_;refine cM h (fun hc2 h=>?_) fun hc2 h=>?_
 ·refine z1 hc2 ?_;exact f0 h
 obtain ⟨r2,hr3,h⟩:=bI h;refine z1 (k2 hc2 hr3) ?_;refine z0 ?_;refine aT (gZ fun hreal5=>?_);have hl4:=hreal5.lenX 11 (by simp only [go_sem,seval]; rfl);rw [cx] at hl4;refine oO (fun (v6:Nat) (b:List ai)=>⟨tab 30 (af (af (af (af au 3 (pF 3)) 5 (.pal 11 [] 0 b.length none)) 13 (vI (r2.length:Int))) 14 (vI (v6:Int))),(upd (upd RZ 3 (vA 1 [vI a1])) 11 (sO 4 (b.map ai.rowD)))⟩) r2 h ?_ ?_
 ·exact wF (k3 hr1 hc2 hr3)
 rintro v6 l5 _ h -;rcases (jh r2.length v6).symm with ⟨hi6',hd9⟩|⟨hi6',hd9⟩
 ·rw [hd9] at h;simp only [iQ] at h;refine z1 hi6' ?_;refine cf ?_;refine z0 ?_;exact f0 h
 rw [hd9] at h;simp only [iQ] at h;have hw8:=eH hi6' hl4;refine z1 hi6' ?_;refine ct ?_;refine z0 ?_;obtain ⟨x3,hb10,hx11,h⟩:=aG h;try simp only [cH] at hx11
 try simp only [nI,nJ,true_and] at hb10
 obtain ⟨r4,hr12,h⟩:=bI h;refine z1 (k5 hb10 hx11 (ov1 (row:=ai.rowD) (rx:=[vS x3.Actor.Type_,vS x3.Actor.Key,vI x3.Owner,sO 1 (x3.Waiters.map (aB .i64))]) hx11 rfl) (ov2 (row:=ai.rowD) hx11) (k2 (ov3 (row:=ai.rowD) hx11) hr12)) ?_;refine z1 hw8 ?_;refine ⟨hi6',(l5.set v6 (ai.mk x3.Actor x3.Owner r4)),?_,h⟩;refine aW.trans (TQ (n:=11) (ai.mk x3.Actor x3.Owner r4) (by simp only [go_sem,seval]; rfl) rfl rfl) ?_;refine wr ?_ ?_<;>repeat' first|rfl|constructor|simp only [go_sem,seval,nH,hU]
@[go_sem] def Cr (N:Nat):FnS:=⟨[],false,fn2 (aJ 4 ai.dec) (aH .i64) fun q0 q1=>(ot N q0 q1).map fun r=>sF 4 (r.map ai.row),false⟩
def GK (N:Nat):az prog 50 (Cr N):=om2 fun q0 q1 r h=>rs (KG N q0 q1 r h)
def mN:Env:={ T:=eA prog,G:=fun d f=>none }
theorem E9:mN.T=eA prog:=rfl
theorem yb (d:Nat):mN.F d=none:=rfl
def DZ:GOk prog { T:=eA prog,G:=mN.G }:=by
 refine ⟨?_,fun _ _ _ h=>by cases h⟩;intro d f fs hfs;cases hfs
theorem Fy:Ee prog 190 f190 f190.body.get! := ⟨func190,rfl,by decide,by kernel_rfl⟩
set_option maxHeartbeats 4000000 in
section
attribute [local go_sem] E9 Nat.le_refl fX Option.map_some List.isEmpty_nil
def FL {α:Type} (row:α->List C) (ok:aF row) (l:List α) (i j:Nat) (r:List α) (hr:r=l.take i++l.drop j) (hij:i<=j) (hj:j<=l.length) :
  Con prog 190 [true,false,false] false [sO 4 (l.map row),vI i,vI j] (sO 4 (r.map row)):=by
 refine JJ (E:=mN) (ze prog _) DZ mix Fy (na rfl) ?_;intro _;rw [vk (by simp)];rw [show gh [true,false,false] [C.sl true none 4 none (l.map row),C.val (.int .i64 i),C.val (.int .i64 j)]=(af (af (af au 0 (.pal 0 [] 0 l.length none)) 1 (vI i)) 2 (vI j)) from by funext t; match t with|0=>simp [gh,iT,jU,af]|1=>rfl|2=>rfl|t+3=>rfl];rw [show R0 [true,false,false] [C.sl true none 4 none (l.map row),C.val (.int .i64 i),C.val (.int .i64 j)]=upd RZ 0 (C.sl true none 4 none (l.map row)) from by funext t; match t with|0=>rfl|1=>rfl|2=>rfl|t+3=>rfl];apply JI;simp only [f190,Option.get!];have hi1:(i:Int)<=(j:Int):=by omega
 have hj1:(j:Int)<=(l.length:Int):=by omega
 have hj0:i<=l.length:=by omega
 simp only [go_sem,seval,hij,hj];refine tu rfl (fun hc=>?_) (fun hc=>?_)
 ·have e:i=j:=by omega
  subst e;simp only [go_sem,seval,dU];refine sS ok ?_;rw [hr];simp []
 ·have hc1:decide ((i:Int)=(j:Int))=false:=decide_eq_false hc;have hlt:i < j:=by omega
  have hlt2:i < l.length:=by omega
  have hm3:(l.drop j).take (l.length - j)=l.drop j:=ni (by simp);have hd:(l.drop j).length=l.length - j:=by simp
  have hle:i+(l.length - j)<=l.length:=by omega
  have hnle:¬ l.length<=i+(l.length - j):=by omega
  obtain ⟨A,hA⟩:∃ A,aK (List.map row l) i (List.map row (List.drop j l))=A:=⟨_,rfl⟩;have hAp:bK A:=by rw [<-hA]; exact fQ (fP ok _) (fP ok _)
  have hAl:A.length=l.length:=by rw [<-hA]; simp [aK]; omega
  obtain ⟨B,hB⟩:∃ B,aK A (i+(l.length - j)) (List.replicate (l.length - (i+(l.length - j))) [C.val (Value.string ⟨#[]⟩),C.val (Value.string ⟨#[]⟩),C.val (Value.int .i64 0),C.val (Value.slice none 0 0)])=B:=⟨_,rfl⟩;have hBp:bK B:=by rw [<-hB]; exact fQ hAp (zS _ [Value.string ⟨#[]⟩,Value.string ⟨#[]⟩,Value.int .i64 0,Value.slice none 0 0] (by simp [Value.oneCell']))
  have hBe:B.take (i+(l.length - j))=r.map row:=by
   have:=WW (L:=l.map row) (List.replicate (l.length - (i+(l.length - j))) [C.val (Value.string ⟨#[]⟩),C.val (Value.string ⟨#[]⟩),C.val (Value.int .i64 0),C.val (Value.slice none 0 0)]) hij (by simpa using hj);rw [cx,<-nR,hA,hB] at this;rw [this,hr]; simp
  simp only [go_sem,seval,yb,hj,hj0,aF.frzRows ok,aF.allPlain ok,aF.allD ok,dB,Px,tJ,CH,BR,yh,Kv,cT,cU,tD,hc1,hlt2,hm3,hd,hle,hnle,hA,hAl,hAp.1,hAp.2];repeat' ((with_reducible refine fL ?_ ?_); kernel_rfl)
  simp only [go_sem,seval,hB,dU];repeat' ((with_reducible refine fL ?_ ?_); kernel_rfl)
  try simp only [go_sem,seval,yb,hi1,hj1,hij,hj,hj0,aF.frzRows ok,aF.all ok,aF.allPlain ok,aF.allD ok,dB,Px,tJ,CH,BR,yh,Kv,Sw,cT,cU,tD,decide_not,xm,dU,RU,hBp.1,hBp.2]
  refine sS ok ?_;rw [<-hBe]
end
def G1 (N:Nat) (a0:List ai) (a1:Int) (a2:Int) (r:List ai) (h:lR N a0 a1 a2=some r) :
  Con prog 190 [true,false,false] false [sO 4 (a0.map ai.row),vI a1,vI a2] (sO 4 (r.map ai.row)):=by
 unfold lR at h;obtain ⟨n,m,rfl,rfl,h1,h2,h3⟩:=UQ h;exact FL ai.row ai.row_ok a0 n m r (nf h3).symm h1 h2
def fv (N:Nat):FnS:={ own:=[true,false,false],pure:=false,fn:=fun cs=>match cs with
 | [c0,c1,c2]=>(vK 4 ai.dec c0).bind fun q0=>(aH .i64 c1).bind fun q1=>(aH .i64 c2).bind fun q2=>(lR N q0 q1 q2).map fun r=>sO 4 (r.map ai.row)
 | _=>none }
theorem Cf (N:Nat):(fv N).own=[true,false,false]:=rfl
theorem BL (N:Nat):(fv N).pure=false:=rfl
theorem BQ (N:Nat):(fv N).peek=false:=rfl
attribute [go_sem] fv Cf BL BQ
def CS (N:Nat):az prog 190 (fv N):=by
 refine ⟨fun cs r h=>?_,fun h=>by cases h⟩;simp only [fv] at h;split at h
 ·simp only [ck,cj] at h;obtain ⟨q0,h0,q1,h1,q2,h2,r',hr,rfl⟩:=h;exact (G1 N q0 q1 q2 r' hr).argsO rfl (jE (qc ai.row_ok ai.dec_le h0) (rm (bz h1) (rm (bz h2) oa)))
 ·cases h
@[go_sem] def Rq (N d f:Nat):Option FnS:=aw [(20,190,fv N)] d f
def QF (N:Nat) (a0:List ai) (a1:Int) (r:(List ai) × Int) (h:tM N a0 a1=some r):Con prog 120 [true,false] false [sO 4 (a0.map ai.row),vI a1] (.tup [sO 4 (r.1.map ai.row),vI r.2]):=by
 refine As (G:=(Rq N)) (L:=noL) func120 rfl (by decide) (by kernel_rfl) (gc 20 (CS N) gn) (fun _ _ _ h=>by cases h) [] mix (na rfl) ?_;rw [show gh [true,false] [sO 4 (a0.map ai.row),vI a1]=(af (af au 0 (.pal 0 [] 0 a0.length none)) 1 (vI a1)) from by funext t; match t with|0=>simp [gh,iT,jU,af]|1=>rfl|t+2=>rfl];rw [show R0 [true,false] [sO 4 (a0.map ai.row),vI a1]=upd RZ 0 (sO 4 (a0.map ai.row)) from by funext t; match t with|0=>rfl|1=>rfl|t+2=>rfl];simp only [f120];unfold tM at h;refine z0 ?_;obtain ⟨x1,hb1,hx2,h⟩:=aG h;refine z1 (k2 hb1 hx2) ?_;refine z0 ?_;refine cD h (fun hc3 hc3d h=>?_) fun hc3 hc3d h=>?_
 ·obtain ⟨r2,hr4,h⟩:=bI h;refine z1 (k2 hc3d hr4) ?_;refine fe (pp ?_);cases h;simp only [go_sem,seval,dU];exact ⟨_,rfl,gI.h,qz.h⟩
 obtain ⟨x3,hb5,hx6,h⟩:=aG h;refine z1 (k5 hb1 hx2 hc3d hb5 hx6) ?_;obtain ⟨hs7,ht8,h⟩:=QG h;try simp only [cH] at hs7 ht8 h
 have hx10:=kr (y:=(ai.mk x1.Actor x3 x1.Waiters)) hx2;refine d1 (k5 hb1 hx2 hb5 hs7 (k5 @cU @cT @cw (mm2 (row:=ai.row) (y:=(ai.mk x1.Actor x3 x1.Waiters)) (rx:=[vS x1.Actor.Type_,vS x1.Actor.Key,vI x1.Owner,sF 1 (x1.Waiters.map (aB .i64))]) (ry:=[vS x1.Actor.Type_,vS x1.Actor.Key,vI x3,sF 1 (x1.Waiters.map (aB .i64))]) hx2 rfl rfl) (k2 hx10 (ov1 (row:=ai.row) (rx:=[vS x1.Actor.Type_,vS x1.Actor.Key,vI x3,sF 1 (x1.Waiters.map (aB .i64))]) hx10 rfl)))) ?_;refine z0 ?_;refine fe (pp ?_);cases h;simp only [go_sem,seval,dU];exact ⟨_,rfl,gI.h,qz.h⟩
def jR (N:Nat):FnS:={ own:=[true,false],pure:=false,fn:=fun cs=>match cs with
 | [c0,c1]=>((vK 4 ai.dec) c0).bind fun q0=>((aH .i64) c1).bind fun q1=>(tM N q0 q1).map fun r=>.tup [sO 4 (r.1.map ai.row),vI r.2]
 | _=>none }
theorem IB (N:Nat):(jR N).own=[true,false]:=rfl
theorem HT (N:Nat):(jR N).pure=false:=rfl
theorem HS (N:Nat):(jR N).peek=false:=rfl
attribute [go_sem] jR IB HT HS
def Co (N:Nat):az prog 120 (jR N):=by
 refine ⟨fun cs r h=>?_,fun h=>by cases h⟩;simp only [jR] at h;split at h
 ·simp only [ck,cj] at h;obtain ⟨q0,h0,q1,h1,r',hr,rfl⟩:=h;exact (QF N q0 q1 r' hr).argsO rfl (jE (qc ai.row_ok ai.dec_le h0) (rm (bz h1) (oa)))
 ·cases h
@[go_sem] def IP (N d f:Nat):Option FnS:=aw [(12,116,k8 N),(15,117,jY N),(37,120,jR N)] d f
def Jj (N:Nat) (a0:List ai) (a1:Int) (r:(List ai) × (List ay)) (h:kU N a0 a1=some r):Con prog 51 [] false [sF 4 (a0.map ai.row),vI a1] (.tup [sO 4 (r.1.map ai.row),sO 3 (r.2.map ay.row)]):=by
 refine fk (G:=(IP N)) func51 (gc 12 (kv N) (gc 15 (jI N) (gc 37 (Co N) gn))) ?_;simp only [f51];unfold kU at h;refine z0 ?_;obtain ⟨r1,hr1,h⟩:=bI h;refine z1 hr1 ?_;refine cM h (fun hc2 h=>?_) fun hc2 h=>?_
 ·refine z1 hc2 ?_;exact f0 h
 obtain ⟨r2,hr3,h⟩:=bI h;refine z1 (k2 hc2 hr3) ?_;refine z0 ?_;refine z0 ?_;refine aT (gl (fun (b:List ai × List ay × Int)=>⟨tab 52 (af (af (af (af au 1 (vI a1)) 6 (.pal 15 [] 0 b.1.length none)) 7 (.pal 47 [] 0 b.2.1.length none)) 8 (vI b.2.2)),(upd (upd RZ 15 (sO 4 (b.1.map ai.row))) 47 (sO 3 (b.2.1.map ay.row)))⟩) (r2,[],0) h ?_ ?_)
 ·refine aW.trans (qD 7 47 3 (by simp only [go_sem,seval]) (by simp only [go_sem,seval])) ?_;exact wF (k3 hr1 hc2 hr3)
 rintro n ⟨l5,l6,v7⟩ h -;cases n with
 | zero=>simp [eG] at h
 | succ n=>
 simp only [eG] at h;refine z0 ?_;refine cDs h (fun hc4 hc4d h=>?_) fun hc4 hc4d h=>?_
 ·refine z1 hc4d ?_;exact f0 h
 obtain ⟨x3,hb5,hx6,h⟩:=aG h;refine z1 (k2 hb5 hx6) ?_;refine cN h (fun hc7 hc7d h=>?_) fun hc7 hc7d h=>?_
 ·refine z1 hc7d ?_;refine gi (pp (⟨_,cZ _,(l5,l6,IntKind.i64.wrap (v7+1)),?_,h⟩));exact wF (k5 hr1 hc2 hr3 hc4d (k3 hb5 hx6 hc7d))
 refine z1 (k3 hb5 hx6 hc7d) ?_;obtain ⟨r4,hr8,h⟩:=bI h;refine z1 hr8 ?_;refine z0 ?_;refine cNs h (fun hc9 hc9d h=>?_) fun hc9 hc9d h=>?_
 ·refine aZ (pp (⟨_,cZ _,(r4.1,l6,v7),?_,h⟩));refine aW.trans (OA 6 37 [(0,0)] 15 (by decide) (by decide) (by simp only [go_sem,seval]) (by simp only [go_sem,seval]; rfl) (by simp only [go_sem,seval,hc9d]; rfl) (by simp) (by simp only [iZ,gR,go_sem,seval]; rfl) (by simp only [go_sem,seval]; rfl)) ?_;exact wF (k5 hr1 hc2 hr3 hc4d (k5 hb5 hx6 hc7d hr8 hc9d))
 obtain ⟨ha10,h⟩:=kQ h;simp only [cC,cY,cV,Nat.reduceAdd] at ha10;refine z1 (k2 hc9d ha10) ?_;refine z0 ?_;refine ⟨_,cZ _,(r4.1,(l6++[(ay.mk x3.Actor r4.2)]),IntKind.i64.wrap (v7+1)),?_,h⟩;refine aW.trans (OA 6 37 [(0,0)] 15 (by decide) (by decide) (by simp only [go_sem,seval]) (by simp only [go_sem,seval]; rfl) (by simp only [go_sem,seval]; rfl) (by simp) (by simp only [iZ,gR,go_sem,seval]; rfl) (by simp only [go_sem,seval]; rfl)) ?_;refine wr ?_ ?_<;>repeat' first|rfl|constructor|simp only [go_sem,seval]
@[go_sem] def Al (N:Nat):FnS:=⟨[],false,fn2 (aJ 4 ai.dec) (aH .i64) fun q0 q1=>(kU N q0 q1).map fun r=>.tup [sF 4 (r.1.map ai.row),sF 3 (r.2.map ay.row)],false⟩
def E5 (N:Nat):az prog 51 (Al N):=om2 fun q0 q1 r h=>rs (Jj N q0 q1 r h)
@[go_sem] def Sb (N d f:Nat):Option FnS:=aw [(13,23,lS N),(19,40,gC N),(24,48,Ck N),(27,49,B7 N),(37,50,Cr N),(50,51,Al N)] d f
def Si (N:Nat) (a0:ae) (a1:Int) (r:ae × (List Int) × Int) (h:kB N a0 a1=some r):Con prog 20 [] false [.agg (ae.row a0),vI a1] (.tup [.agg (ae.row r.1),sF 1 (r.2.1.map (aB .i64)),vI r.2.2]):=by
 refine fk (G:=(Sb N)) func20 (gc 13 (j4 N) (gc 19 (eV N) (gc 24 (GP N) (gc 27 (C8 N) (gc 37 (GK N) (gc 50 (E5 N) gn)))))) ?_;simp only [f20];unfold kB at h;refine z0 ?_;obtain ⟨r1,hr1,h⟩:=bI h;refine z1 hr1 ?_;refine cM h (fun hc2 h=>?_) fun hc2 h=>?_
 ·refine z1 hc2 ?_;exact f0 h
 obtain ⟨r2,hr3,h⟩:=bI h;refine z1 (k2 hc2 hr3) ?_;refine cD h (fun hc4 hc4d h=>?_) fun hc4 hc4d h=>?_
 ·refine z1 hc4d ?_;exact f0 h
 obtain ⟨r3,hr5,h⟩:=bI h;refine z1 (k2 hc4d hr5) ?_;obtain ⟨r4,hr6,h⟩:=bI h;refine z1 hr6 ?_;refine z0 ?_;refine lTs 5 (fun (v8:Nat) (b:List ai)=>⟨tab 57 (af (af (af (af (af au 4 (pF 4)) 5 (sF 1 (r3.map (aB .i64)))) 28 (sF 1 (r3.map (aB .i64)))) 29 (vI (r3.length:Int))) 30 (vI (v8:Int))),(upd RZ 4 (vA 3 [sF 11 (r4.Txns.map Txn.row),sF 4 (b.map ai.row),sF 3 (r4.Stacks.map aa.row)]))⟩) r4.Locks h ?_ ?_
 ·rintro v8 l7 x11 hi9' hx10 hw11 h;simp only [pb] at h;refine z1 hi9' ?_;refine ct ?_;refine z1 (k2 hx10 hi9') ?_;obtain ⟨r13,hr13,h⟩:=bI h;refine z1 hr13 ?_;refine z1 hw11 ?_;refine ⟨hi9',r13,?_,h⟩;exact wR
 rintro v8 l7 hi9' h;simp only [pb] at h;refine z1 hi9' ?_;refine cf ?_;unfold Dl at h;refine z0 ?_;refine lT 5 (fun (v18:Nat) (b:List ai)=>⟨tab 57 (af (af (af (af (af au 4 (pF 4)) 5 (sF 1 (r3.map (aB .i64)))) 40 (sF 1 (r3.map (aB .i64)))) 41 (vI (r3.length:Int))) 42 (vI (v18:Int))),(upd RZ 4 (vA 3 [sF 11 (r4.Txns.map Txn.row),sF 4 (b.map ai.row),sF 3 (r4.Stacks.map aa.row)]))⟩) l7 h ?_ ?_
 ·rintro v18 l17 hi16' h;simp only [ph] at h;refine z1 hi16' ?_;refine cf ?_;refine z0 ?_;exact f0 h
 rintro v18 l17 x21 hi16' hx17 hw18 h;simp only [ph] at h;refine z1 hi16' ?_;refine ct ?_;refine z1 (k2 hx17 hi16') ?_;obtain ⟨r14,hr20,h⟩:=bI h;refine z1 hr20 ?_;refine z1 hw18 ?_;refine ⟨hi16',r14.1,?_,h⟩;exact wR
@[go_sem] def zp (N:Nat):FnS:=⟨[],false,fn2 ae.decA (aH .i64) fun q0 q1=>(kB N q0 q1).map fun r=>.tup [.agg (ae.row r.1),sF 1 (r.2.1.map (aB .i64)),vI r.2.2],false⟩
def z7 (N:Nat):az prog 20 (zp N):=om2 (Si N)
@[go_sem] def Ud (N d f:Nat):Option FnS:=aw [(12,23,lS N),(18,24,EZ N),(30,58,Cm N),(43,20,zp N),(52,59,pZ N)] d f
def Uy (N:Nat) (a0:ae) (a1:Int) (r:ae × Int × (List Int) × Int) (h:iF N a0 a1=some r):Con prog 25 [] false [.agg (ae.row a0),vI a1] (.tup [.agg (ae.row r.1),vI r.2.1,sF 1 (r.2.2.1.map (aB .i64)),vI r.2.2.2]):=by
 refine fk (G:=(Ud N)) func25 (gc 12 (j4 N) (gc 18 (F0 N) (gc 30 (Gl N) (gc 43 (z7 N) (gc 52 (oF N) gn))))) ?_;simp only [f25];unfold iF at h;refine z0 ?_;obtain ⟨r1,hr1,h⟩:=bI h;refine z1 hr1 ?_;refine cM h (fun hc2 h=>?_) fun hc2 h=>?_
 ·refine z1 hc2 ?_;exact f0 h
 obtain ⟨r2,hr3,h⟩:=bI h;refine z1 (k2 hc2 hr3) ?_;refine z0 ?_;refine cM h (fun hc4 h=>?_) fun hc4 h=>?_
 ·refine z1 hc4 ?_;exact f0 h
 obtain ⟨r3,hr5,h⟩:=bI h;refine z1 (k2 hc4 hr5) ?_;refine z0 ?_;refine cN h (fun hc6 hc6d h=>?_) fun hc6 hc6d h=>?_
 ·refine z1 hc6d ?_;exact f0 h
 refine z1 hc6d ?_;refine cD h (fun hc7 hc7d h=>?_) fun hc7 hc7d h=>?_
 ·obtain ⟨r4,hr8,h⟩:=bI h;refine z1 (k2 hc7d hr8) ?_;refine z0 ?_;exact f0 h
 obtain ⟨r5,hr9,h⟩:=bI h;refine z1 (k2 hc7d hr9) ?_;refine z0 ?_;refine z0 ?_;exact f0 h
@[go_sem] def AZ (N:Nat):FnS:=⟨[],false,fn2 ae.decA (aH .i64) fun q0 q1=>(iF N q0 q1).map fun r=>.tup [.agg (ae.row r.1),vI r.2.1,sF 1 (r.2.2.1.map (aB .i64)),vI r.2.2.2],false⟩
def AN (N:Nat):az prog 25 (AZ N):=om2 (Uy N)
def Ts (N:Nat) (a0:Int) (r:Value) (h:kP N a0=some r):Con prog 34 [] true [vI a0] (.agg (Value.row r)):=by
 refine fk (G:=(aw [])) func34 gn ?_;simp only [f34];unfold kP at h;refine z0 ?_;refine z0 ?_;exact e0 h
@[go_sem] def rG (N:Nat):FnS:=⟨[],true,fn1 (aH .i64) fun q0=>(kP N q0).map fun r=>.agg (Value.row r),false⟩
def oC (N:Nat):az prog 34 (rG N):=om1 (Ts N)
end
end Go.Proofs.YtmacaidmhchpgaaGreat
