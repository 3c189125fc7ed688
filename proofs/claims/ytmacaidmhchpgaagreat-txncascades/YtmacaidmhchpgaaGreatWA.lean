/- Walks: each function computes its model. No condition. -/
import Derived.Test.YtmacaidmhchpgaaGreatB
/- Each Go function computes its model: proofs laid by a program of ours. -/
set_option linter.defProp false
set_option maxHeartbeats 40000000
set_option synthInstance.maxHeartbeats 2000000
set_option synthInstance.maxSize 4000
set_option linter.unusedSimpArgs false
set_option linter.unusedVariables false
set_option maxRecDepth 100000
namespace Go.Proofs.YtmacaidmhchpgaaGreat
open Go Go.Proofs Go.Abs Tryz
noncomputable section
def Ki (N:Nat) (a0:Value) (r:Bool) (h:gW N a0=some r):Con prog 61 [] true [.agg (Value.row a0)] (vB r):=by
 refine fk (G:=(aw [])) func61 gn ?_;simp only [f61];unfold gW at h;refine z0 ?_;refine aL ?_;apply aR (fun (c3:Bool)=>⟨tab 86 (af (af au 1 (pF 1)) 12 (vB c3)),(upd RZ 1 (vA 5 (Value.row a0)))⟩)
 ·intro hJ1;refine iD h (fun hc2 hc2d h=>?_) fun hc2 hc2d h=>?_
  ·refine z1 hc2d ?_;exact hJ1 _ true (wF hc2d) h
  refine z1 hc2d ?_;exact hJ1 _ (decide (5 < a0.Kind)) (wF hc2d) h
 intro c3 h;unfold qT at h;refine cB h (fun hc3 h=>?_) fun hc3 h=>?_
 ·refine z1 hc3 ?_;exact e0 h
 refine aU (pp ?_);unfold qW at h;refine aL (aQ ?_);apply aR (fun (c12:Bool)=>⟨tab 86 (af (af au 1 (pF 1)) 13 (vB c12)),(upd RZ 1 (vA 5 (Value.row a0)))⟩)
 ·intro hJ4;refine iD h (fun hc5 hc5d h=>?_) fun hc5 hc5d h=>?_
  ·refine z1 (k2 hc3 hc5d) ?_;exact hJ4 _ false (wF (k2 hc3 hc5d)) h
  refine iD h (fun hc6 hc6d h=>?_) fun hc6 hc6d h=>?_
  ·refine z1 (k3 hc3 hc5d hc6d) ?_;exact hJ4 _ false (wF (k3 hc3 hc5d hc6d)) h
  refine iDs h (fun hc7 hc7d h=>?_) fun hc7 hc7d h=>?_
  ·refine z1 (k4 hc3 hc5d hc6d hc7d) ?_;exact hJ4 _ true (wF (k4 hc3 hc5d hc6d hc7d)) h
  refine z1 (k4 hc3 hc5d hc6d hc7d) ?_;exact hJ4 _ (!decide (a0.N=1)) (wF (k4 hc3 hc5d hc6d hc7d)) h
 intro c12 h;unfold jS at h;refine cB h (fun hc8 h=>?_) fun hc8 h=>?_
 ·refine z1 hc8 ?_;exact e0 h
 apply aR (fun (c17:Bool)=>⟨tab 86 (af (af au 1 (pF 1)) 32 (vB c17)),(upd RZ 1 (vA 5 (Value.row a0)))⟩)
 ·intro hJ9;apply aR (fun (c18:Bool)=>⟨tab 86 (af (af au 1 (pF 1)) 32 (vB c18)),(upd RZ 1 (vA 5 (Value.row a0)))⟩)
  ·intro hJ10;refine iBs h (fun hc11 h=>?_) fun hc11 h=>?_
   ·refine z1 (k2 hc8 hc11) ?_;exact hJ10 _ (!decide (a0.Kind=3)) (wF (k3 hc3 hc8 hc11)) h
   refine z1 (k2 hc8 hc11) ?_;exact hJ10 _ false (wF (k3 hc3 hc8 hc11)) h
  intro c18 h;unfold qQ at h;refine cB h (fun hc12 h=>?_) fun hc12 h=>?_
  ·refine aU (pp (hJ9 _ true ?_ h));exact wF hc12
  apply aR (fun (c19:Bool)=>⟨tab 86 (af (af au 1 (pF 1)) 32 (vB c19)),(upd RZ 1 (vA 5 (Value.row a0)))⟩)
  ·intro hJ13;refine iD h (fun hc14 hc14d h=>?_) fun hc14 hc14d h=>?_
   ·refine z1 (k2 hc12 hc14d) ?_;exact hJ13 _ (!decide (a0.Kind=4)) (wF (k4 hc3 hc8 hc12 hc14d)) h
   refine z1 (k2 hc12 hc14d) ?_;exact hJ13 _ false (wF (k4 hc3 hc8 hc12 hc14d)) h
  intro c19 h;unfold qI at h;refine cB h (fun hc15 h=>?_) fun hc15 h=>?_
  ·refine aU (pp (hJ9 _ true ?_ h));exact wF hc15
  refine iD h (fun hc16 hc16d h=>?_) fun hc16 hc16d h=>?_
  ·refine z1 (k2 hc15 hc16d) ?_;exact hJ9 _ (!decide (a0.Kind=5)) (wF (k5 hc3 hc8 hc12 hc15 hc16d)) h
  refine z1 (k2 hc15 hc16d) ?_;exact hJ9 _ false (wF (k5 hc3 hc8 hc12 hc15 hc16d)) h
 intro c17 h;unfold ra at h;refine cB h (fun hc17 h=>?_) fun hc17 h=>?_
 ·refine z1 hc17 ?_;exact e0 h
 refine aU (pp ?_);unfold jR at h;refine aL ?_;apply aR (fun (c22:Bool)=>⟨tab 86 (af (af au 1 (pF 1)) 74 (vB c22)),(upd RZ 1 (vA 5 (Value.row a0)))⟩)
 ·intro hJ18;refine iD h (fun hc19 hc19d h=>?_) fun hc19 hc19d h=>?_
  ·refine z1 (k2 hc17 hc19d) ?_;exact hJ18 _ true (wF (k4 hc3 hc8 hc17 hc19d)) h
  refine iD h (fun hc20 hc20d h=>?_) fun hc20 hc20d h=>?_
  ·refine z1 (k3 hc17 hc19d hc20d) ?_;exact hJ18 _ true (wF (k5 hc3 hc8 hc17 hc19d hc20d)) h
  refine z1 (k3 hc17 hc19d hc20d) ?_;exact hJ18 _ (decide (16 < (a0.L.length:Int))) (wF (k5 hc3 hc8 hc17 hc19d hc20d)) h
 intro c22 h;unfold mn at h;refine cB h (fun hc21 h=>?_) fun hc21 h=>?_
 ·refine z1 hc21 ?_;exact e0 h
 unfold lU at h;refine z1 hc21 ?_;refine lT 76 (fun (v17:Nat) (b:Unit)=>⟨tab 86 (af (af (af au 76 (sF 1 (a0.L.map dB))) 77 (vI (a0.L.length:Int))) 78 (vI (v17:Int))),RZ⟩) () h ?_ ?_ (h0:=wF (k4 hc3 hc8 hc17 hc21))
 ·rintro v17 ⟨⟩ hi24' h;simp only [jN] at h;refine z1 hi24' ?_;refine cf ?_;refine z0 ?_;exact e0 h
 rintro v17 ⟨⟩ x20 hi24' hx25 hw26 h;simp only [jN] at h;refine z1 hi24' ?_;refine ct ?_;refine z1 (k2 hx25 hi24') ?_;refine z0 ?_;refine cD h (fun hc28 hc28d h=>?_) fun hc28 hc28d h=>?_
 ·refine z1 hc28d ?_;exact e0 h
 refine z1 (k2 hw26 hc28d) ?_;refine ⟨hi24',(),?_,h⟩;exact wF (k5 hc3 hc8 hc17 hc21 (k4 hx25 hi24' hw26 hc28d))
@[go_sem] def ml (N:Nat):FnS:=⟨[],true,fn1 Value.decA fun q0=>(gW N q0).map fun r=>vB r,false⟩
def mH (N:Nat):aA prog 61 (ml N):=om1 (Ki N)
@[go_sem] def Ky (N d f:Nat):Option FnS:=aw [(8,61,ml N)] d f
def Kh (N:Nat) (a0:Value) (r:Bool) (h:mv N a0=some r):Con prog 213 [] true [.agg (Value.row a0)] (vB r):=by
 refine fk (G:=(Ky N)) func213 (gc 8 (mH N) gn) ?_;simp only [f213];unfold mv at h;refine z0 ?_;refine iD h (fun hc1 hc1d h=>?_) fun hc1 hc1d h=>?_
 ·refine z1 hc1d ?_;exact e0 h
 obtain ⟨r1,hr2,h⟩:=bI h;refine z1 (k2 hc1d hr2) ?_;exact e0 h
@[go_sem] def Cc (N:Nat):FnS:=⟨[],true,fn1 Value.decA fun q0=>(mv N q0).map fun r=>vB r,false⟩
def FT (N:Nat):aA prog 213 (Cc N):=om1 (Kh N)
@[go_sem] def tD (N d f:Nat):Option FnS:=aw [(16,213,Cc N)] d f
def tJ (N:Nat) (a0:List Value) (r:Int) (h:dw N a0=some r):Con prog 201 [] true [sF 5 (a0.map Value.row),.clo 213 []] (vI r):=by
 refine fk (G:=(tD N)) func201 (gc 16 (FT N) gn) ?_;simp only [f201];unfold dw at h;refine z0 ?_;refine z0 ?_;refine lT 0 (fun (v2:Nat) (b:Unit)=>⟨tab 19 (af (af (af (af au 0 (sF 5 (a0.map Value.row))) 1 (.clo 213 [])) 7 (vI (a0.length:Int))) 8 (vI (v2:Int))),RZ⟩) () h ?_ ?_
 ·rintro v2 ⟨⟩ hi3' h;simp only [bZ] at h;refine z1 hi3' ?_;refine cf ?_;refine z0 ?_;exact e0 h
 rintro v2 ⟨⟩ x5 hi3' hx4 hw5 h;simp only [bZ] at h;refine z1 hi3' ?_;refine ct ?_;refine z0 ?_;obtain ⟨r1,hr7,h⟩:=bI h;refine z1 (k3 hx4 hi3' hr7) ?_;refine cB h (fun hc8 h=>?_) fun hc8 h=>?_
 ·refine z1 hc8 ?_;exact e0 h
 refine z1 (k2 hw5 hc8) ?_;refine ⟨hi3',(),?_,h⟩;exact wR
@[go_sem] def gb (N:Nat):FnS:={ own:=[],pure:=true,fn:=fun cs=>match cs with
 | [c0,.clo 213 []]=>((aJ 5 Value.dec) c0).bind fun qc0=>(dw N qc0).map fun r=>vI r
 | _=>none }
def ru (N:Nat):aA prog 201 (gb N):=by
 refine ⟨fun cs r h=>?_,fun h=>by cases h⟩;simp only [gb] at h;split at h
 ·simp only [ck,cj] at h;obtain ⟨q0,h0,r',hr,rfl⟩:=h;exact (ag (tJ N q0 r' hr))
 ·cases h
@[go_sem] def rN (N d f:Nat):Option FnS:=aw [(7,201,gb N)] d f
def rQ (N:Nat) (a0:List Value) (r:Bool) (h:bu N a0=some r):Con prog 134 [] true [sF 5 (a0.map Value.row),.clo 213 []] (vB r):=by
 refine fk (G:=(rN N)) func134 (gc 7 (ru N) gn) ?_;simp only [f134];unfold bu at h;refine z0 ?_;obtain ⟨r1,hr1,h⟩:=bI h;refine z1 hr1 ?_;exact e0 h
@[go_sem] def fq (N:Nat):FnS:={ own:=[],pure:=true,fn:=fun cs=>match cs with
 | [c0,.clo 213 []]=>((aJ 5 Value.dec) c0).bind fun qc0=>(bu N qc0).map fun r=>vB r
 | _=>none }
def pS (N:Nat):aA prog 134 (fq N):=by
 refine ⟨fun cs r h=>?_,fun h=>by cases h⟩;simp only [fq] at h;split at h
 ·simp only [ck,cj] at h;obtain ⟨q0,h0,r',hr,rfl⟩:=h;exact (ag (rQ N q0 r' hr))
 ·cases h
@[go_sem] def Mr (N d f:Nat):Option FnS:=aw [(42,134,fq N)] d f
def MA (N:Nat) (a0:ah) (r:Bool) (h:qn N a0=some r):Con prog 172 [] true [.agg (ah.row a0)] (vB r):=by
 refine fk (G:=(Mr N)) func172 (gc 42 (pS N) gn) ?_;simp only [f172];unfold qn at h;refine z0 ?_;refine aL ?_;apply aR (fun (c3:Bool)=>⟨tab 44 (af (af au 1 (pF 1)) 39 (vB c3)),(upd RZ 1 (vA 4 (ah.row a0)))⟩)
 ·intro hJ1;refine iD h (fun hc2 hc2d h=>?_) fun hc2 hc2d h=>?_
  ·refine z1 hc2d ?_;exact hJ1 _ true wR h
  refine iD h (fun hc3 hc3d h=>?_) fun hc3 hc3d h=>?_
  ·refine z1 (k2 hc2d hc3d) ?_;exact hJ1 _ true wR h
  refine iD h (fun hc4 hc4d h=>?_) fun hc4 hc4d h=>?_
  ·refine z1 (k3 hc2d hc3d hc4d) ?_;exact hJ1 _ true wR h
  refine iD h (fun hc5 hc5d h=>?_) fun hc5 hc5d h=>?_
  ·refine z1 (k4 hc2d hc3d hc4d hc5d) ?_;exact hJ1 _ true wR h
  refine iD h (fun hc6 hc6d h=>?_) fun hc6 hc6d h=>?_
  ·refine z1 (k5 hc2d hc3d hc4d hc5d hc6d) ?_;exact hJ1 _ true wR h
  refine z1 (k5 hc2d hc3d hc4d hc5d hc6d) ?_;exact hJ1 _ (decide (4 < (a0.Args.length:Int))) wR h
 intro c3 h;unfold iz at h;refine cB h (fun hc7 h=>?_) fun hc7 h=>?_
 ·refine z1 hc7 ?_;exact e0 h
 refine aU (pp ?_);unfold iG at h;obtain ⟨r4,hr8,h⟩:=bI h;refine z1 (k2 hc7 hr8) ?_;exact e0 h
@[go_sem] def DV (N:Nat):FnS:=⟨[],true,fn1 ah.decA fun q0=>(qn N q0).map fun r=>vB r,false⟩
def Ig (N:Nat):aA prog 172 (DV N):=om1 (MA N)
@[go_sem] def LA (N d f:Nat):Option FnS:=aw [(4,172,DV N)] d f
def K6 (N:Nat) (a0:ah) (r:Bool) (h:oP N a0=some r):Con prog 171 [] true [.agg (ah.row a0)] (vB r):=by
 refine fk (G:=(LA N)) func171 (gc 4 (Ig N) gn) ?_;simp only [f171];unfold oP at h;refine z0 ?_;obtain ⟨r1,hr1,h⟩:=bI h;refine z1 hr1 ?_;exact e0 h
@[go_sem] def CF (N:Nat):FnS:=⟨[],true,fn1 ah.decA fun q0=>(oP N q0).map fun r=>vB r,false⟩
def Hh (N:Nat):aA prog 171 (CF N):=om1 (K6 N)
@[go_sem] def rT (N d f:Nat):Option FnS:=aw [(16,171,CF N)] d f
def rX (N:Nat) (a0:List ah) (r:Int) (h:b8 N a0=some r):Con prog 203 [] true [sF 4 (a0.map ah.row),.clo 171 []] (vI r):=by
 refine fk (G:=(rT N)) func203 (gc 16 (Hh N) gn) ?_;simp only [f203];unfold b8 at h;refine z0 ?_;refine z0 ?_;refine lT 0 (fun (v2:Nat) (b:Unit)=>⟨tab 19 (af (af (af (af au 0 (sF 4 (a0.map ah.row))) 1 (.clo 171 [])) 7 (vI (a0.length:Int))) 8 (vI (v2:Int))),RZ⟩) () h ?_ ?_
 ·rintro v2 ⟨⟩ hi3' h;simp only [bC] at h;refine z1 hi3' ?_;refine cf ?_;refine z0 ?_;exact e0 h
 rintro v2 ⟨⟩ x5 hi3' hx4 hw5 h;simp only [bC] at h;refine z1 hi3' ?_;refine ct ?_;refine z0 ?_;obtain ⟨r1,hr7,h⟩:=bI h;refine z1 (k3 hx4 hi3' hr7) ?_;refine cB h (fun hc8 h=>?_) fun hc8 h=>?_
 ·refine z1 hc8 ?_;exact e0 h
 refine z1 (k2 hw5 hc8) ?_;refine ⟨hi3',(),?_,h⟩;exact wR
@[go_sem] def fm (N:Nat):FnS:={ own:=[],pure:=true,fn:=fun cs=>match cs with
 | [c0,.clo 171 []]=>((aJ 4 ah.dec) c0).bind fun qc0=>(b8 N qc0).map fun r=>vI r
 | _=>none }
def pW (N:Nat):aA prog 203 (fm N):=by
 refine ⟨fun cs r h=>?_,fun h=>by cases h⟩;simp only [fm] at h;split at h
 ·simp only [ck,cj] at h;obtain ⟨q0,h0,r',hr,rfl⟩:=h;exact (ag (rX N q0 r' hr))
 ·cases h
@[go_sem] def pX (N d f:Nat):Option FnS:=aw [(7,203,fm N)] d f
def qe (N:Nat) (a0:List ah) (r:Bool) (h:bn N a0=some r):Con prog 140 [] true [sF 4 (a0.map ah.row),.clo 171 []] (vB r):=by
 refine fk (G:=(pX N)) func140 (gc 7 (pW N) gn) ?_;simp only [f140];unfold bn at h;refine z0 ?_;obtain ⟨r1,hr1,h⟩:=bI h;refine z1 hr1 ?_;exact e0 h
@[go_sem] def eJ (N:Nat):FnS:={ own:=[],pure:=true,fn:=fun cs=>match cs with
 | [c0,.clo 171 []]=>((aJ 4 ah.dec) c0).bind fun qc0=>(bn N qc0).map fun r=>vB r
 | _=>none }
def oc (N:Nat):aA prog 140 (eJ N):=by
 refine ⟨fun cs r h=>?_,fun h=>by cases h⟩;simp only [eJ] at h;split at h
 ·simp only [ck,cj] at h;obtain ⟨q0,h0,r',hr,rfl⟩:=h;exact (ag (qe N q0 r' hr))
 ·cases h
@[go_sem] def NV (N d f:Nat):Option FnS:=aw [(69,61,ml N),(85,140,eJ N)] d f
def NO (N:Nat) (a0:Txn) (r:Bool) (h:pf N a0=some r):Con prog 98 [] true [.agg (Txn.row a0)] (vB r):=by
 refine fk (G:=(NV N)) func98 (gc 69 (mH N) (gc 85 (oc N) gn)) ?_;simp only [f98];unfold pf at h;refine z0 ?_;refine aL ?_;apply aR (fun (c3:Bool)=>⟨tab 87 (af (af au 1 (pF 1)) 42 (vB c3)),(upd RZ 1 (vA 11 (Txn.row a0)))⟩)
 ·intro hJ1;refine iD h (fun hc2 hc2d h=>?_) fun hc2 hc2d h=>?_
  ·refine z1 hc2d ?_;exact hJ1 _ true wR h
  refine iD h (fun hc3 hc3d h=>?_) fun hc3 hc3d h=>?_
  ·refine z1 (k2 hc2d hc3d) ?_;exact hJ1 _ true wR h
  refine iD h (fun hc4 hc4d h=>?_) fun hc4 hc4d h=>?_
  ·refine z1 (k3 hc2d hc3d hc4d) ?_;exact hJ1 _ true wR h
  refine iD h (fun hc5 hc5d h=>?_) fun hc5 hc5d h=>?_
  ·refine z1 (k4 hc2d hc3d hc4d hc5d) ?_;exact hJ1 _ true wR h
  refine iD h (fun hc6 hc6d h=>?_) fun hc6 hc6d h=>?_
  ·refine z1 (k5 hc2d hc3d hc4d hc5d hc6d) ?_;exact hJ1 _ true wR h
  refine iD h (fun hc7 hc7d h=>?_) fun hc7 hc7d h=>?_
  ·refine z1 (k5 hc2d hc3d hc4d hc5d (k2 hc6d hc7d)) ?_;exact hJ1 _ true wR h
  refine iD h (fun hc8 hc8d h=>?_) fun hc8 hc8d h=>?_
  ·refine z1 (k5 hc2d hc3d hc4d hc5d (k3 hc6d hc7d hc8d)) ?_;exact hJ1 _ true wR h
  refine z1 (k5 hc2d hc3d hc4d hc5d (k3 hc6d hc7d hc8d)) ?_;exact hJ1 _ (decide (1099511627776 < a0.Seq)) wR h
 intro c3 h;unfold fW at h;refine cB h (fun hc9 h=>?_) fun hc9 h=>?_
 ·refine z1 hc9 ?_;exact e0 h
 refine aU (pp ?_);unfold fS at h;refine aL ?_;apply aR (fun (c8:Bool)=>⟨tab 87 (af (af au 1 (pF 1)) 82 (vB c8)),(upd RZ 1 (vA 11 (Txn.row a0)))⟩)
 ·intro hJ10;refine iD h (fun hc11 hc11d h=>?_) fun hc11 hc11d h=>?_
  ·refine z1 (k2 hc9 hc11d) ?_;exact hJ10 _ true wR h
  refine iD h (fun hc12 hc12d h=>?_) fun hc12 hc12d h=>?_
  ·refine z1 (k3 hc9 hc11d hc12d) ?_;exact hJ10 _ true wR h
  refine iD h (fun hc13 hc13d h=>?_) fun hc13 hc13d h=>?_
  ·refine z1 (k4 hc9 hc11d hc12d hc13d) ?_;exact hJ10 _ true wR h
  refine iD h (fun hc14 hc14d h=>?_) fun hc14 hc14d h=>?_
  ·refine z1 (k5 hc9 hc11d hc12d hc13d hc14d) ?_;exact hJ10 _ true wR h
  obtain ⟨r9,hr15,h⟩:=bI h;refine iBs h (fun hc16 h=>?_) fun hc16 h=>?_
  ·refine z1 (k5 hc9 hc11d hc12d hc13d (k3 hc14d hr15 hc16)) ?_;exact hJ10 _ true wR h
  refine iD h (fun hc17 hc17d h=>?_) fun hc17 hc17d h=>?_
  ·refine z1 (k5 hc9 hc11d hc12d hc13d (k4 hc14d hr15 hc16 hc17d)) ?_;exact hJ10 _ (!decide (a0.Last.Kind=0)) wR h
  refine z1 (k5 hc9 hc11d hc12d hc13d (k4 hc14d hr15 hc16 hc17d)) ?_;exact hJ10 _ false wR h
 intro c8 h;unfold gV at h;refine cB h (fun hc18 h=>?_) fun hc18 h=>?_
 ·refine z1 hc18 ?_;exact e0 h
 refine aU (pp ?_);unfold gX at h;obtain ⟨r10,hr19,h⟩:=bI h;refine z1 (k2 hc18 hr19) ?_;exact e0 h
@[go_sem] def zZ (N:Nat):FnS:=⟨[],true,fn1 Txn.decA fun q0=>(pf N q0).map fun r=>vB r,false⟩
def BX (N:Nat):aA prog 98 (zZ N):=om1 (NO N)
@[go_sem] def MD (N d f:Nat):Option FnS:=aw [(14,98,zZ N)] d f
def Mp (N:Nat) (a0:ae) (r:Bool) (h:uC N a0=some r):Con prog 52 [] true [.agg (ae.row a0)] (vB r):=by
 refine fk (G:=(MD N)) func52 (gc 14 (BX N) gn) ?_;simp only [f52];unfold uC at h;refine z0 ?_;refine z0 ?_;refine lT 6 (fun (v2:Nat) (b:Unit)=>⟨tab 37 (af (af (af (af au 1 (pF 1)) 6 (sF 11 (a0.Txns.map Txn.row))) 7 (vI (a0.Txns.length:Int))) 8 (vI (v2:Int))),(upd RZ 1 (vA 3 (ae.row a0)))⟩) () h ?_ ?_
 ·rintro v2 ⟨⟩ hi3' h;simp only [gv] at h;refine z1 hi3' ?_;refine cf ?_;refine z0 ?_;exact e0 h
 rintro v2 ⟨⟩ x5 hi3' hx4 hw5 h;simp only [gv] at h;refine z1 hi3' ?_;refine ct ?_;refine z1 (k2 hx4 hi3') ?_;apply aR (fun (c3:Bool)=>⟨tab 37 (af (af (af (af (af au 1 (pF 1)) 6 (sF 11 (a0.Txns.map Txn.row))) 7 (vI (a0.Txns.length:Int))) 8 (vI (v2:Int))) 31 (vB c3)),(upd RZ 1 (vA 3 (ae.row a0)))⟩)
 ·intro hJ7;obtain ⟨r4,hr8,h⟩:=bI h;refine lR fun Z hZ=>?_;simp only [go_sem,seval,hr8];repeat with_reducible refine gl (by kernel_rfl) ?_
  refine oH rfl (fun hc9=>?_) (fun hc9=>?_)
  ·rw [if_neg (ne_true_of_eq_false hc9)] at h;simp only [go_sem,seval,hc9];exact hZ _ (by kernel_rfl) (pp (hJ7 _ true wR h))
  rw [if_pos hc9] at h;simp only [go_sem,seval,hc9];refine ki rfl (fun hc10=>?_) (fun hc10=>?_)
  ·have hc10d:=decide_eq_true hc10;rw [if_pos hc10] at h;obtain ⟨x6,hb11,hx12,h⟩:=aH h;simp only [go_sem,seval,hc10d,hb11,hx12];exact hZ _ (by kernel_rfl) (pp (hJ7 _ (decide (x5.ID<=x6.ID)) wR h))
  have hc10d:=decide_eq_false hc10;rw [if_neg hc10] at h;simp only [go_sem,seval,hc10d];exact hZ _ (by kernel_rfl) (pp (hJ7 _ false wR h))
 intro c3 h;unfold lL at h;refine cB h (fun hc13 h=>?_) fun hc13 h=>?_
 ·refine z1 hc13 ?_;exact e0 h
 refine z1 (k2 hw5 hc13) ?_;refine ⟨hi3',(),?_,h⟩;exact wR
@[go_sem] def DC (N:Nat):FnS:=⟨[],true,fn1 ae.decA fun q0=>(uC N q0).map fun r=>vB r,false⟩
def Ic (N:Nat):aA prog 52 (DC N):=om1 (Mp N)
def JB (N:Nat) (a0:Ref) (r:Bool) (h:iI N a0=some r):Con prog 124 [] true [.agg [vS a0.Type_,vS a0.Key]] (vB r):=by
 refine fk (G:=(aw [])) func124 gn ?_;simp only [f124];unfold iI at h;refine z0 ?_;refine iDs h (fun hc1 hc1d h=>?_) fun hc1 hc1d h=>?_
 ·refine z1 hc1d ?_;exact e0 h
 refine iD h (fun hc2 hc2d h=>?_) fun hc2 hc2d h=>?_
 ·refine z1 (k2 hc1d hc2d) ?_;exact e0 h
 refine z1 (k2 hc1d hc2d) ?_;exact e0 h
@[go_sem] def pO (N:Nat):FnS:=⟨[],true,fn1 Ref.decA fun q0=>(iI N q0).map fun r=>vB r,false⟩
def rC (N:Nat):aA prog 124 (pO N):=om1 (JB N)
def LU (N:Nat) (a0:Int) (r:Bool) (h:jP N a0=some r):Con prog 125 [] true [vI a0] (vB r):=by
 refine fk (G:=(aw [])) func125 gn ?_;simp only [f125];unfold jP at h;refine z0 ?_;refine iD h (fun hc1 hc1d h=>?_) fun hc1 hc1d h=>?_
 ·refine z1 hc1d ?_;exact e0 h
 refine z1 hc1d ?_;exact e0 h
@[go_sem] def sd (N:Nat):FnS:=⟨[],true,fn1 (aG .i64) fun q0=>(jP N q0).map fun r=>vB r,false⟩
def tZ (N:Nat):aA prog 125 (sd N):=om1 (LU N)
@[go_sem] def Kf (N d f:Nat):Option FnS:=aw [(7,124,pO N),(12,125,sd N)] d f
def Kz (N:Nat) (a0:ai) (r:Bool) (h:mu N a0=some r):Con prog 187 [] true [.agg (ai.row a0)] (vB r):=by
 refine fk (G:=(Kf N)) func187 (gc 7 (rC N) (gc 12 (tZ N) gn)) ?_;simp only [f187];unfold mu at h;refine z0 ?_;refine aL ?_;apply aR (fun (c7:Bool)=>⟨tab 52 (af (af au 1 (pF 1)) 20 (vB c7)),(upd RZ 1 (vA 4 (ai.row a0)))⟩)
 ·intro hJ1;obtain ⟨r8,hr2,h⟩:=bI h;refine iBs h (fun hc3 h=>?_) fun hc3 h=>?_
  ·refine z1 (k2 hr2 hc3) ?_;exact hJ1 _ true wR h
  obtain ⟨r9,hr4,h⟩:=bI h;refine iBs h (fun hc5 h=>?_) fun hc5 h=>?_
  ·refine z1 (k4 hr2 hc3 hr4 hc5) ?_;exact hJ1 _ true wR h
  refine z1 (k4 hr2 hc3 hr4 hc5) ?_;exact hJ1 _ (decide (32 < (a0.Waiters.length:Int))) wR h
 intro c7 h;unfold mo at h;refine cB h (fun hc6 h=>?_) fun hc6 h=>?_
 ·refine z1 hc6 ?_;exact e0 h
 unfold mf at h;refine z1 hc6 ?_;refine lT 22 (fun (v7:Nat) (b:Unit)=>⟨tab 52 (af (af (af (af au 1 (pF 1)) 22 (sF 1 (a0.Waiters.map (ay .i64)))) 23 (vI (a0.Waiters.length:Int))) 24 (vI (v7:Int))),(upd RZ 1 (vA 4 (ai.row a0)))⟩) () h ?_ ?_
 ·rintro v7 ⟨⟩ hi9' h;simp only [eV] at h;refine z1 hi9' ?_;refine cf ?_;refine z0 ?_;exact e0 h
 rintro v7 ⟨⟩ x10 hi9' hx10 hw11 h;simp only [eV] at h;refine z1 hi9' ?_;refine ct ?_;refine z1 (k2 hx10 hi9') ?_;apply aR (fun (c12:Bool)=>⟨tab 52 (af (af (af (af (af au 1 (pF 1)) 22 (sF 1 (a0.Waiters.map (ay .i64)))) 23 (vI (a0.Waiters.length:Int))) 24 (vI (v7:Int))) 50 (vB c12)),(upd RZ 1 (vA 4 (ai.row a0)))⟩)
 ·intro hJ13;refine iD h (fun hc14 hc14d h=>?_) fun hc14 hc14d h=>?_
  ·refine z1 hc14d ?_;exact hJ13 _ true wR h
  refine iD h (fun hc15 hc15d h=>?_) fun hc15 hc15d h=>?_
  ·refine z1 (k2 hc14d hc15d) ?_;exact hJ13 _ true wR h
  refine iD h (fun hc16 hc16d h=>?_) fun hc16 hc16d h=>?_
  ·obtain ⟨x13,hb17,hx18,h⟩:=aH h;refine z1 (k5 hc14d hc15d hc16d hb17 hx18) ?_;exact hJ13 _ (decide (x10<=x13)) wR h
  refine z1 (k3 hc14d hc15d hc16d) ?_;exact hJ13 _ false wR h
 intro c12 h;unfold iE at h;refine cB h (fun hc19 h=>?_) fun hc19 h=>?_
 ·refine z1 hc19 ?_;exact e0 h
 refine z1 (k2 hw11 hc19) ?_;refine ⟨hi9',(),?_,h⟩;exact wR
@[go_sem] def BM (N:Nat):FnS:=⟨[],true,fn1 ai.decA fun q0=>(mu N q0).map fun r=>vB r,false⟩
def FX (N:Nat):aA prog 187 (BM N):=om1 (Kz N)
def I3 (N:Nat) (a0:ByteArray) (r:Bool) (h:k8 N a0=some r):Con prog 183 [] true [vS a0] (vB r):=by
 refine fk (G:=(aw [])) func183 gn ?_;simp only [f183];unfold k8 at h;refine z0 ?_;refine z0 ?_;exact e0 h
@[go_sem] def uZ (N:Nat):FnS:=⟨[],true,fn1 bR fun q0=>(k8 N q0).map fun r=>vB r,false⟩
def yB (N:Nat):aA prog 183 (uZ N):=om1 (I3 N)
@[go_sem] def G6 (N d f:Nat):Option FnS:=aw [(8,183,uZ N),(10,183,uZ N)] d f
def GS (N:Nat) (a0:ByteArray) (a1:ByteArray) (r:Int) (h:eZ N a0 a1=some r):Con prog 104 [] true [vS a0,vS a1] (vI r):=by
 refine fk (G:=(G6 N)) func104 (gc 8 (yB N) (gc 10 (yB N) gn)) ?_;simp only [f104];unfold eZ at h;refine z0 ?_;obtain ⟨r1,hr1,h⟩:=bI h;refine z1 hr1 ?_;obtain ⟨r2,hr2,h⟩:=bI h;refine z1 hr2 ?_;refine z0 ?_;refine pb rfl (fun hc3=>?_) (fun hc3=>?_)
 ·first|rw [if_pos hc3] at h|simp only [hc3,nH,nE,nt,nU,nJ,xj,nB,nX,ny,nV,cR,if_true,if_false] at h
  refine z1 hc3 ?_;refine pb rfl (fun hc4=>?_) (fun hc4=>?_)
  ·first|rw [if_pos hc4] at h|simp only [hc4,hc3,nH,nE,nt,nU,nJ,xj,nB,nX,ny,nV,cR,if_true,if_false] at h
   refine z1 hc4 ?_;exact e0 h
  rw [if_neg (ne_true_of_eq_false hc4)] at h;refine z1 hc4 ?_;exact e0 h
 rw [if_neg (ne_true_of_eq_false hc3)] at h;refine z1 hc3 ?_;refine pb rfl (fun hc5=>?_) (fun hc5=>?_)
 ·first|rw [if_pos hc5] at h|simp only [hc5,hc3,nH,nE,nt,nU,nJ,xj,nB,nX,ny,nV,cR,if_true,if_false] at h
  refine z1 hc5 ?_;exact e0 h
 rw [if_neg (ne_true_of_eq_false hc5)] at h;refine z1 hc5 ?_;refine pb rfl (fun hc6=>?_) (fun hc6=>?_)
 ·first|rw [if_pos hc6] at h|simp only [hc6,hc3,hc5,nH,nE,nt,nU,nJ,xj,nB,nX,ny,nV,cR,if_true,if_false] at h
  refine z1 hc6 ?_;exact e0 h
 rw [if_neg (ne_true_of_eq_false hc6)] at h;refine z1 hc6 ?_;refine qi rfl (fun hc7=>?_) (fun hc7=>?_)
 ·first|rw [if_neg (ne_true_of_eq_false hc7)] at h|simp only [hc7,hc6,nH,cR,if_false] at h
  refine z1 hc7 ?_;exact e0 h
 simp only [hc7,hc6,nE,if_true] at h;refine z1 hc7 ?_;exact e0 h
@[go_sem] def jC (N:Nat):FnS:=⟨[],true,fn2 bR bR fun q0 q1=>(eZ N q0 q1).map fun r=>vI r,false⟩
def kg (N:Nat):aA prog 104 (jC N):=om2 (GS N)
def Rm (N:Nat) (a0:List Int) (r:Int) (h:tO N a0=some r):Con prog 103 [] true [sF 1 (a0.map (ay .i64))] (vI r):=by
 refine fk (G:=(aw [])) func103 gn ?_;simp only [f103];unfold tO at h;refine z0 ?_;refine z0 ?_;refine z0 ?_;refine lT 0 (fun (v2:Nat) (b:Unit)=>⟨tab 18 (af (af (af (af au 3 (vI 0)) 6 (sF 1 (a0.map (ay .i64)))) 7 (vI (a0.length:Int))) 8 (vI (v2:Int))),RZ⟩) () h ?_ ?_
 ·rintro v2 ⟨⟩ hi3' h;simp only [qh] at h;refine z1 hi3' ?_;refine cf ?_;refine z0 ?_;exact e0 h
 rintro v2 ⟨⟩ x5 hi3' hx4 hw5 h;simp only [qh] at h;refine z1 hi3' ?_;refine ct ?_;refine z1 (k2 hx4 hi3') ?_;refine z0 ?_;refine cN h (fun hc7 hc7d h=>?_) fun hc7 hc7d h=>?_
 ·refine z1 hc7d ?_;exact e0 h
 refine z1 (k2 hw5 hc7d) ?_;refine ⟨hi3',(),?_,h⟩;exact wR
@[go_sem] def Ck (N:Nat):FnS:=⟨[],true,fn1 (aJ 1 (dp (aG .i64))) fun q0=>(tO N q0).map fun r=>vI r,false⟩
def DD (N:Nat):aA prog 103 (Ck N):=om1 (Rm N)
@[go_sem] def MN (N d f:Nat):Option FnS:=aw [(9,104,jC N),(14,104,jC N),(16,103,Ck N)] d f
def Mc (N:Nat) (a0:Ref) (a1:Ref) (r:Int) (h:mO N a0 a1=some r):Con prog 188 [] true [.agg [vS a0.Type_,vS a0.Key],.agg [vS a1.Type_,vS a1.Key]] (vI r):=by
 refine fk (G:=(MN N)) func188 (gc 9 (kg N) (gc 14 (kg N) (gc 16 (DD N) gn))) ?_;simp only [f188];unfold mO at h;refine z0 ?_;obtain ⟨r1,hr1,h⟩:=bI h;obtain ⟨r2,hr2,h⟩:=bI h;obtain ⟨r3,hr3,h⟩:=bI h;refine d1 (k3 hr1 hr2 hr3) ?_;exact e0 h
@[go_sem] def y8 (N:Nat):FnS:=⟨[],true,fn2 Ref.decA Ref.decA fun q0 q1=>(mO N q0 q1).map fun r=>vI r,false⟩
def Ar (N:Nat):aA prog 188 (y8 N):=om2 (Mc N)
@[go_sem] def Pq (N d f:Nat):Option FnS:=aw [(16,187,BM N),(30,188,y8 N)] d f
def Po (N:Nat) (a0:List ai) (r:Bool) (h:js N a0=some r):Con prog 116 [] true [sF 4 (a0.map ai.row)] (vB r):=by
 refine fk (G:=(Pq N)) func116 (gc 16 (FX N) (gc 30 (Ar N) gn)) ?_;simp only [f116];unfold js at h;refine z0 ?_;refine z0 ?_;refine cD h (fun hc1 hc1d h=>?_) fun hc1 hc1d h=>?_
 ·refine z1 hc1d ?_;exact e0 h
 refine z1 hc1d ?_;refine lT 0 (fun (v3:Nat) (b:Unit)=>⟨tab 35 (af (af (af (af au 0 (sF 4 (a0.map ai.row))) 8 (sF 4 (a0.map ai.row))) 9 (vI (a0.length:Int))) 10 (vI (v3:Int))),RZ⟩) () h ?_ ?_
 ·rintro v3 ⟨⟩ hi4' h;simp only [jL] at h;refine z1 hi4' ?_;refine cf ?_;refine z0 ?_;exact e0 h
 rintro v3 ⟨⟩ x6 hi4' hx5 hw6 h;simp only [jL] at h;refine z1 hi4' ?_;refine ct ?_;refine z1 (k2 hx5 hi4') ?_;apply aR (fun (c4:Bool)=>⟨tab 35 (af (af (af (af (af au 0 (sF 4 (a0.map ai.row))) 8 (sF 4 (a0.map ai.row))) 9 (vI (a0.length:Int))) 10 (vI (v3:Int))) 33 (vB c4)),RZ⟩)
 ·intro hJ8;obtain ⟨r5,hr9,h⟩:=bI h;refine lR fun Z hZ=>?_;simp only [go_sem,seval,hr9];repeat with_reducible refine gl (by kernel_rfl) ?_
  refine oH rfl (fun hc10=>?_) (fun hc10=>?_)
  ·rw [if_neg (ne_true_of_eq_false hc10)] at h;simp only [go_sem,seval,hc10];exact hZ _ (by kernel_rfl) (pp (hJ8 _ true wR h))
  rw [if_pos hc10] at h;simp only [go_sem,seval,hc10];refine ki rfl (fun hc11=>?_) (fun hc11=>?_)
  ·have hc11d:=decide_eq_true hc11;rw [if_pos hc11] at h;obtain ⟨x7,hb12,hx13,h⟩:=aH h;obtain ⟨r8,hr14,h⟩:=bI h;simp only [go_sem,seval,hc11d,hb12,hx13,hr14];repeat with_reducible refine gl (by kernel_rfl) ?_
   exact hZ _ (by kernel_rfl) (pp (hJ8 _ (decide (0<=r8)) wR h))
  have hc11d:=decide_eq_false hc11;rw [if_neg hc11] at h;simp only [go_sem,seval,hc11d];exact hZ _ (by kernel_rfl) (pp (hJ8 _ false wR h))
 intro c4 h;unfold oC at h;refine cB h (fun hc15 h=>?_) fun hc15 h=>?_
 ·refine z1 hc15 ?_;exact e0 h
 refine z1 (k2 hw6 hc15) ?_;refine ⟨hi4',(),?_,h⟩;exact wR
@[go_sem] def lE (N:Nat):FnS:=⟨[],true,fn1 (aJ 4 ai.dec) fun q0=>(js N q0).map fun r=>vB r,false⟩
def kJ (N:Nat):aA prog 116 (lE N):=om1 (Po N)
def Pm (N:Nat) (a0:Txn) (c0_0:Int) (r:Bool) (h:ye N a0 c0_0=some r):Con prog 99 [] true [.agg (Txn.row a0),.iref 1 [[vI c0_0]] 0 0] (vB r):=by
 refine fk (G:=(aw [])) func99 gn ?_;simp only [f99];unfold ye at h;refine z0 ?_;refine z0 ?_;exact e0 h
@[go_sem] def A8 (N:Nat):FnS:={ own:=[],pure:=true,fn:=fun cs=>match cs with
 | [c0,.iref 1 [[c1_0]] 0 0]=>(Txn.decA c0).bind fun qc0=>((aG .i64) c1_0).bind fun qc1_0=>(ye N qc0 qc1_0).map fun r=>vB r
 | _=>none }
def Kb (N:Nat):aA prog 99 (A8 N):=by
 refine ⟨fun cs r h=>?_,fun h=>by cases h⟩;simp only [A8] at h;split at h
 ·simp only [ck,cj] at h;obtain ⟨q0,h0,q1,h1,r',hr,rfl⟩:=h;exact (ag (Pm N q0 q1 r' hr))
 ·cases h
@[go_sem] def w5 (N d f:Nat):Option FnS:=aw [(16,99,A8 N)] d f
def wY (N:Nat) (a0:List Txn) (k1_0_0:Int) (r:Int) (h:eE N a0 k1_0_0=some r):Con prog 71 [] true [sF 11 (a0.map Txn.row),.clo 99 [.iref 1 [[vI k1_0_0]] 0 0]] (vI r):=by
 refine fk (G:=(w5 N)) func71 (gc 16 (Kb N) gn) ?_;simp only [f71];unfold eE at h;refine z0 ?_;refine z0 ?_;refine lT 0 (fun (v2:Nat) (b:Unit)=>⟨tab 19 (af (af (af (af au 0 (sF 11 (a0.map Txn.row))) 1 (.clo 99 [.iref 1 [[vI k1_0_0]] 0 0])) 7 (vI (a0.length:Int))) 8 (vI (v2:Int))),RZ⟩) () h ?_ ?_
 ·rintro v2 ⟨⟩ hi3' h;simp only [dN] at h;refine z1 hi3' ?_;refine cf ?_;refine z0 ?_;exact e0 h
 rintro v2 ⟨⟩ x5 hi3' hx4 hw5 h;simp only [dN] at h;refine z1 hi3' ?_;refine ct ?_;refine z0 ?_;obtain ⟨r1,hr7,h⟩:=bI h;refine z1 (k3 hx4 hi3' hr7) ?_;refine cB h (fun hc8 h=>?_) fun hc8 h=>?_
 ·refine z1 hc8 ?_;exact e0 h
 refine z1 (k2 hw5 hc8) ?_;refine ⟨hi3',(),?_,h⟩;exact wR
@[go_sem] def iK (N:Nat):FnS:={ own:=[],pure:=true,fn:=fun cs=>match cs with
 | [c0,.clo 99 [.iref 1 [[k1_0_0]] 0 0]]=>((aJ 11 Txn.dec) c0).bind fun qc0=>((aG .i64) k1_0_0).bind fun qk1_0_0=>(eE N qc0 qk1_0_0).map fun r=>vI r
 | _=>none }
def uW (N:Nat):aA prog 71 (iK N):=by
 refine ⟨fun cs r h=>?_,fun h=>by cases h⟩;simp only [iK] at h;split at h
 ·simp only [ck,cj] at h;obtain ⟨q0,h0,q1,h1,r',hr,rfl⟩:=h;exact (ag (wY N q0 q1 r' hr))
 ·cases h
@[go_sem] def Sh (N d f:Nat):Option FnS:=aw [(8,71,iK N)] d f
def SU (N:Nat) (a0:ae) (a1:Int) (r:Int) (h:fh N a0 a1=some r):Con prog 40 [] true [.agg (ae.row a0),vI a1] (vI r):=by
 refine fk (G:=(Sh N)) func40 (gc 8 (uW N) gn) ?_;simp only [f40];unfold fh at h;refine z0 ?_;obtain ⟨r1,hr1,h⟩:=bI h;refine z1 hr1 ?_;exact e0 h
@[go_sem] def gE (N:Nat):FnS:=⟨[],true,fn2 ae.decA (aG .i64) fun q0 q1=>(fh N q0 q1).map fun r=>vI r,false⟩
def fc (N:Nat):aA prog 40 (gE N):=om2 (SU N)
@[go_sem] def JC (N d f:Nat):Option FnS:=aw [(6,40,gE N)] d f
def IM (N:Nat) (a0:Int) (c0_0:List Txn) (c0_1:List ai) (c0_2:List aa) (r:Bool) (h:lj N a0 c0_0 c0_1 c0_2=some r):Con prog 122 [] true [vI a0,.iref 3 [[sF 11 (c0_0.map Txn.row),sF 4 (c0_1.map ai.row),sF 3 (c0_2.map aa.row)]] 0 0] (vB r):=by
 refine fk (G:=(JC N)) func122 (gc 6 (fc N) gn) ?_;simp only [f122];unfold lj at h;refine z0 ?_;obtain ⟨r1,hr1,h⟩:=bI h;refine z1 hr1 ?_;exact e0 h
@[go_sem] def u7 (N:Nat):FnS:={ own:=[],pure:=true,fn:=fun cs=>match cs with
 | [c0,.iref 3 [[c1_0,c1_1,c1_2]] 0 0]=>((aG .i64) c0).bind fun qc0=>((aJ 11 Txn.dec) c1_0).bind fun qc1_0=>((aJ 4 ai.dec) c1_1).bind fun qc1_1=>((aJ 3 aa.dec) c1_2).bind fun qc1_2=>(lj N qc0 qc1_0 qc1_1 qc1_2).map fun r=>vB r
 | _=>none }
def Fc (N:Nat):aA prog 122 (u7 N):=by
 refine ⟨fun cs r h=>?_,fun h=>by cases h⟩;simp only [u7] at h;split at h
 ·simp only [ck,cj] at h;obtain ⟨q0,h0,q1,h1,q2,h2,q3,h3,r',hr,rfl⟩:=h;exact (ag (IM N q0 q1 q2 q3 r' hr))
 ·cases h
@[go_sem] def uK (N d f:Nat):Option FnS:=aw [(16,122,u7 N)] d f
def uk (N:Nat) (a0:List Int) (k1_0_0:List Txn) (k1_0_1:List ai) (k1_0_2:List aa) (r:Int) (h:dG N a0 k1_0_0 k1_0_1 k1_0_2=some r):Con prog 189 [] true [sF 1 (a0.map (ay .i64)),.clo 122 [.iref 3 [[sF 11 (k1_0_0.map Txn.row),sF 4 (k1_0_1.map ai.row),sF 3 (k1_0_2.map aa.row)]] 0 0]] (vI r):=by
 refine fk (G:=(uK N)) func189 (gc 16 (Fc N) gn) ?_;simp only [f189];unfold dG at h;refine z0 ?_;refine z0 ?_;refine lT 0 (fun (v2:Nat) (b:Unit)=>⟨tab 19 (af (af (af (af au 0 (sF 1 (a0.map (ay .i64)))) 1 (.clo 122 [.iref 3 [[sF 11 (k1_0_0.map Txn.row),sF 4 (k1_0_1.map ai.row),sF 3 (k1_0_2.map aa.row)]] 0 0])) 7 (vI (a0.length:Int))) 8 (vI (v2:Int))),RZ⟩) () h ?_ ?_
 ·rintro v2 ⟨⟩ hi3' h;simp only [dj] at h;refine z1 hi3' ?_;refine cf ?_;refine z0 ?_;exact e0 h
 rintro v2 ⟨⟩ x5 hi3' hx4 hw5 h;simp only [dj] at h;refine z1 hi3' ?_;refine ct ?_;refine z0 ?_;obtain ⟨r1,hr7,h⟩:=bI h;refine z1 (k3 hx4 hi3' hr7) ?_;refine cB h (fun hc8 h=>?_) fun hc8 h=>?_
 ·refine z1 hc8 ?_;exact e0 h
 refine z1 (k2 hw5 hc8) ?_;refine ⟨hi3',(),?_,h⟩;exact wR
@[go_sem] def gA (N:Nat):FnS:={ own:=[],pure:=true,fn:=fun cs=>match cs with
 | [c0,.clo 122 [.iref 3 [[k1_0_0,k1_0_1,k1_0_2]] 0 0]]=>((aJ 1 (dp (aG .i64))) c0).bind fun qc0=>((aJ 11 Txn.dec) k1_0_0).bind fun qk1_0_0=>((aJ 4 ai.dec) k1_0_1).bind fun qk1_0_1=>((aJ 3 aa.dec) k1_0_2).bind fun qk1_0_2=>(dG N qc0 qk1_0_0 qk1_0_1 qk1_0_2).map fun r=>vI r
 | _=>none }
def rM (N:Nat):aA prog 189 (gA N):=by
 refine ⟨fun cs r h=>?_,fun h=>by cases h⟩;simp only [gA] at h;split at h
 ·simp only [ck,cj] at h;obtain ⟨q0,h0,q1,h1,q2,h2,q3,h3,r',hr,rfl⟩:=h;exact (ag (uk N q0 q1 q2 q3 r' hr))
 ·cases h
@[go_sem] def sR (N d f:Nat):Option FnS:=aw [(7,189,gA N)] d f
def sp (N:Nat) (a0:List Int) (k1_0_0:List Txn) (k1_0_1:List ai) (k1_0_2:List aa) (r:Bool) (h:de N a0 k1_0_0 k1_0_1 k1_0_2=some r):Con prog 121 [] true [sF 1 (a0.map (ay .i64)),.clo 122 [.iref 3 [[sF 11 (k1_0_0.map Txn.row),sF 4 (k1_0_1.map ai.row),sF 3 (k1_0_2.map aa.row)]] 0 0]] (vB r):=by
 refine fk (G:=(sR N)) func121 (gc 7 (rM N) gn) ?_;simp only [f121];unfold de at h;refine z0 ?_;obtain ⟨r1,hr1,h⟩:=bI h;refine z1 hr1 ?_;exact e0 h
@[go_sem] def fI (N:Nat):FnS:={ own:=[],pure:=true,fn:=fun cs=>match cs with
 | [c0,.clo 122 [.iref 3 [[k1_0_0,k1_0_1,k1_0_2]] 0 0]]=>((aJ 1 (dp (aG .i64))) c0).bind fun qc0=>((aJ 11 Txn.dec) k1_0_0).bind fun qk1_0_0=>((aJ 4 ai.dec) k1_0_1).bind fun qk1_0_1=>((aJ 3 aa.dec) k1_0_2).bind fun qk1_0_2=>(de N qc0 qk1_0_0 qk1_0_1 qk1_0_2).map fun r=>vB r
 | _=>none }
def qc (N:Nat):aA prog 121 (fI N):=by
 refine ⟨fun cs r h=>?_,fun h=>by cases h⟩;simp only [fI] at h;split at h
 ·simp only [ck,cj] at h;obtain ⟨q0,h0,q1,h1,q2,h2,q3,h3,r',hr,rfl⟩:=h;exact (ag (sp N q0 q1 q2 q3 r' hr))
 ·cases h
@[go_sem] def Lg (N d f:Nat):Option FnS:=aw [(7,116,lE N),(19,40,gE N),(25,121,fI N)] d f
def LD (N:Nat) (a0:ae) (r:Bool) (h:oQ N a0=some r):Con prog 53 [] true [.agg (ae.row a0)] (vB r):=by
 refine fk (G:=(Lg N)) func53 (gc 7 (kJ N) (gc 19 (fc N) (gc 25 (qc N) gn))) ?_;simp only [f53];unfold oQ at h;refine z0 ?_;obtain ⟨r1,hr1,h⟩:=bI h;refine z1 hr1 ?_;refine cM h (fun hc2 h=>?_) fun hc2 h=>?_
 ·refine z1 hc2 ?_;exact e0 h
 refine z1 hc2 ?_;refine lT 6 (fun (v4:Nat) (b:Unit)=>⟨tab 28 (af (af (af (af au 1 (pF 1)) 10 (sF 4 (a0.Locks.map ai.row))) 11 (vI (a0.Locks.length:Int))) 12 (vI (v4:Int))),(upd RZ 1 (vA 3 (ae.row a0)))⟩) () h ?_ ?_
 ·rintro v4 ⟨⟩ hi5' h;simp only [iS] at h;refine z1 hi5' ?_;refine cf ?_;refine z0 ?_;exact e0 h
 rintro v4 ⟨⟩ x7 hi5' hx6 hw7 h;simp only [iS] at h;refine z1 hi5' ?_;refine ct ?_;refine z1 (k2 hx6 hi5') ?_;apply aR (fun (c4:Bool)=>⟨tab 28 (af (af (af (af (af au 1 (pF 1)) 10 (sF 4 (a0.Locks.map ai.row))) 11 (vI (a0.Locks.length:Int))) 12 (vI (v4:Int))) 26 (vB c4)),(upd RZ 1 (vA 3 (ae.row a0)))⟩)
 ·intro hJ9;obtain ⟨r5,hr10,h⟩:=bI h;refine iD h (fun hc11 hc11d h=>?_) fun hc11 hc11d h=>?_
  ·refine z1 (k2 hr10 hc11d) ?_;exact hJ9 _ true wR h
  obtain ⟨r6,hr12,h⟩:=bI h;refine z1 (k3 hr10 hc11d hr12) ?_;exact hJ9 _ r6 wR h
 intro c4 h;unfold wV at h;refine cB h (fun hc13 h=>?_) fun hc13 h=>?_
 ·refine z1 hc13 ?_;exact e0 h
 refine z1 (k2 hw7 hc13) ?_;refine ⟨hi5',(),?_,h⟩;exact wR
@[go_sem] def CI (N:Nat):FnS:=⟨[],true,fn1 ae.decA fun q0=>(oQ N q0).map fun r=>vB r,false⟩
def Gn (N:Nat):aA prog 53 (CI N):=om1 (LD N)
@[go_sem] def HV (N d f:Nat):Option FnS:=aw [(4,61,ml N)] d f
def H8 (N:Nat) (a0:Value) (r:Bool) (h:kC N a0=some r):Con prog 135 [] true [.agg (Value.row a0)] (vB r):=by
 refine fk (G:=(HV N)) func135 (gc 4 (mH N) gn) ?_;simp only [f135];unfold kC at h;refine z0 ?_;obtain ⟨r1,hr1,h⟩:=bI h;refine z1 hr1 ?_;exact e0 h
@[go_sem] def Ah (N:Nat):FnS:=⟨[],true,fn1 Value.decA fun q0=>(kC N q0).map fun r=>vB r,false⟩
def D5 (N:Nat):aA prog 135 (Ah N):=om1 (H8 N)
@[go_sem] def s5 (N d f:Nat):Option FnS:=aw [(16,135,Ah N)] d f
def s8 (N:Nat) (a0:List Value) (r:Int) (h:dq N a0=some r):Con prog 201 [] true [sF 5 (a0.map Value.row),.clo 135 []] (vI r):=by
 refine fk (G:=(s5 N)) func201 (gc 16 (D5 N) gn) ?_;simp only [f201];unfold dq at h;refine z0 ?_;refine z0 ?_;refine lT 0 (fun (v2:Nat) (b:Unit)=>⟨tab 19 (af (af (af (af au 0 (sF 5 (a0.map Value.row))) 1 (.clo 135 [])) 7 (vI (a0.length:Int))) 8 (vI (v2:Int))),RZ⟩) () h ?_ ?_
 ·rintro v2 ⟨⟩ hi3' h;simp only [bL] at h;refine z1 hi3' ?_;refine cf ?_;refine z0 ?_;exact e0 h
 rintro v2 ⟨⟩ x5 hi3' hx4 hw5 h;simp only [bL] at h;refine z1 hi3' ?_;refine ct ?_;refine z0 ?_;obtain ⟨r1,hr7,h⟩:=bI h;refine z1 (k3 hx4 hi3' hr7) ?_;refine cB h (fun hc8 h=>?_) fun hc8 h=>?_
 ·refine z1 hc8 ?_;exact e0 h
 refine z1 (k2 hw5 hc8) ?_;refine ⟨hi3',(),?_,h⟩;exact wR
@[go_sem] def fE (N:Nat):FnS:={ own:=[],pure:=true,fn:=fun cs=>match cs with
 | [c0,.clo 135 []]=>((aJ 5 Value.dec) c0).bind fun qc0=>(dq N qc0).map fun r=>vI r
 | _=>none }
def qd (N:Nat):aA prog 201 (fE N):=by
 refine ⟨fun cs r h=>?_,fun h=>by cases h⟩;simp only [fE] at h;split at h
 ·simp only [ck,cj] at h;obtain ⟨q0,h0,r',hr,rfl⟩:=h;exact (ag (s8 N q0 r' hr))
 ·cases h
@[go_sem] def qN (N d f:Nat):Option FnS:=aw [(7,201,fE N)] d f
def rb (N:Nat) (a0:List Value) (r:Bool) (h:bM N a0=some r):Con prog 134 [] true [sF 5 (a0.map Value.row),.clo 135 []] (vB r):=by
 refine fk (G:=(qN N)) func134 (gc 7 (qd N) gn) ?_;simp only [f134];unfold bM at h;refine z0 ?_;obtain ⟨r1,hr1,h⟩:=bI h;refine z1 hr1 ?_;exact e0 h
@[go_sem] def eT (N:Nat):FnS:={ own:=[],pure:=true,fn:=fun cs=>match cs with
 | [c0,.clo 135 []]=>((aJ 5 Value.dec) c0).bind fun qc0=>(bM N qc0).map fun r=>vB r
 | _=>none }
def oB (N:Nat):aA prog 134 (eT N):=by
 refine ⟨fun cs r h=>?_,fun h=>by cases h⟩;simp only [eT] at h;split at h
 ·simp only [ck,cj] at h;obtain ⟨q0,h0,r',hr,rfl⟩:=h;exact (ag (rb N q0 r' hr))
 ·cases h
@[go_sem] def Kg (N d f:Nat):Option FnS:=aw [(8,134,eT N)] d f
def Ku (N:Nat) (a0:List Value) (r:Bool) (h:kv N a0=some r):Con prog 60 [] true [sF 5 (a0.map Value.row)] (vB r):=by
 refine fk (G:=(Kg N)) func60 (gc 8 (oB N) gn) ?_;simp only [f60];unfold kv at h;refine z0 ?_;refine iD h (fun hc1 hc1d h=>?_) fun hc1 hc1d h=>?_
 ·obtain ⟨r1,hr2,h⟩:=bI h;refine z1 (k2 hc1d hr2) ?_;exact e0 h
 refine z1 hc1d ?_;exact e0 h
@[go_sem] def vM (N:Nat):FnS:=⟨[],true,fn1 (aJ 5 Value.dec) fun q0=>(kv N q0).map fun r=>vB r,false⟩
def zc (N:Nat):aA prog 60 (vM N):=om1 (Ku N)
def Ii (N:Nat) (a0:al) (c0_0:Int) (c0_1:List Value) (c0_2:Bool) (r:Bool) (h:kE N a0 c0_0 c0_1 c0_2=some r):Con prog 192 [] true [.agg (al.row a0),.iref 3 [[vI c0_0,sF 5 (c0_1.map Value.row),vB c0_2]] 0 0] (vB r):=by
 refine fk (G:=(aw [])) func192 gn ?_;simp only [f192];unfold kE at h;refine z0 ?_;refine z0 ?_;exact e0 h
@[go_sem] def tI (N:Nat):FnS:={ own:=[],pure:=true,fn:=fun cs=>match cs with
 | [c0,.iref 3 [[c1_0,c1_1,c1_2]] 0 0]=>(al.decA c0).bind fun qc0=>((aG .i64) c1_0).bind fun qc1_0=>((aJ 5 Value.dec) c1_1).bind fun qc1_1=>(Dm c1_2).bind fun qc1_2=>(kE N qc0 qc1_0 qc1_1 qc1_2).map fun r=>vB r
 | _=>none }
def DY (N:Nat):aA prog 192 (tI N):=by
 refine ⟨fun cs r h=>?_,fun h=>by cases h⟩;simp only [tI] at h;split at h
 ·simp only [ck,cj] at h;obtain ⟨q0,h0,q1,h1,q2,h2,q3,h3,r',hr,rfl⟩:=h;exact (ag (Ii N q0 q1 q2 q3 r' hr))
 ·cases h
@[go_sem] def sB (N d f:Nat):Option FnS:=aw [(16,192,tI N)] d f
def sx (N:Nat) (a0:List al) (k1_0_0:Int) (k1_0_1:List Value) (k1_0_2:Bool) (r:Int) (h:dh N a0 k1_0_0 k1_0_1 k1_0_2=some r):Con prog 186 [] true [sF 3 (a0.map al.row),.clo 192 [.iref 3 [[vI k1_0_0,sF 5 (k1_0_1.map Value.row),vB k1_0_2]] 0 0]] (vI r):=by
 refine fk (G:=(sB N)) func186 (gc 16 (DY N) gn) ?_;simp only [f186];unfold dh at h;refine z0 ?_;refine z0 ?_;refine lT 0 (fun (v2:Nat) (b:Unit)=>⟨tab 19 (af (af (af (af au 0 (sF 3 (a0.map al.row))) 1 (.clo 192 [.iref 3 [[vI k1_0_0,sF 5 (k1_0_1.map Value.row),vB k1_0_2]] 0 0])) 7 (vI (a0.length:Int))) 8 (vI (v2:Int))),RZ⟩) () h ?_ ?_
 ·rintro v2 ⟨⟩ hi3' h;simp only [bO] at h;refine z1 hi3' ?_;refine cf ?_;refine z0 ?_;exact e0 h
 rintro v2 ⟨⟩ x5 hi3' hx4 hw5 h;simp only [bO] at h;refine z1 hi3' ?_;refine ct ?_;refine z0 ?_;obtain ⟨r1,hr7,h⟩:=bI h;refine z1 (k3 hx4 hi3' hr7) ?_;refine cB h (fun hc8 h=>?_) fun hc8 h=>?_
 ·refine z1 hc8 ?_;exact e0 h
 refine z1 (k2 hw5 hc8) ?_;refine ⟨hi3',(),?_,h⟩;exact wR
@[go_sem] def fD (N:Nat):FnS:={ own:=[],pure:=true,fn:=fun cs=>match cs with
 | [c0,.clo 192 [.iref 3 [[k1_0_0,k1_0_1,k1_0_2]] 0 0]]=>((aJ 3 al.dec) c0).bind fun qc0=>((aG .i64) k1_0_0).bind fun qk1_0_0=>((aJ 5 Value.dec) k1_0_1).bind fun qk1_0_1=>(Dm k1_0_2).bind fun qk1_0_2=>(dh N qc0 qk1_0_0 qk1_0_1 qk1_0_2).map fun r=>vI r
 | _=>none }
def qb (N:Nat):aA prog 186 (fD N):=by
 refine ⟨fun cs r h=>?_,fun h=>by cases h⟩;simp only [fD] at h;split at h
 ·simp only [ck,cj] at h;obtain ⟨q0,h0,q1,h1,q2,h2,q3,h3,r',hr,rfl⟩:=h;exact (ag (sx N q0 q1 q2 q3 r' hr))
 ·cases h
@[go_sem] def qH (N d f:Nat):Option FnS:=aw [(7,186,fD N)] d f
def qv (N:Nat) (a0:List al) (k1_0_0:Int) (k1_0_1:List Value) (k1_0_2:Bool) (r:Bool) (h:aZ N a0 k1_0_0 k1_0_1 k1_0_2=some r):Con prog 191 [] true [sF 3 (a0.map al.row),.clo 192 [.iref 3 [[vI k1_0_0,sF 5 (k1_0_1.map Value.row),vB k1_0_2]] 0 0]] (vB r):=by
 refine fk (G:=(qH N)) func191 (gc 7 (qb N) gn) ?_;simp only [f191];unfold aZ at h;refine z0 ?_;obtain ⟨r1,hr1,h⟩:=bI h;refine z1 hr1 ?_;exact e0 h
@[go_sem] def eP (N:Nat):FnS:={ own:=[],pure:=true,fn:=fun cs=>match cs with
 | [c0,.clo 192 [.iref 3 [[k1_0_0,k1_0_1,k1_0_2]] 0 0]]=>((aJ 3 al.dec) c0).bind fun qc0=>((aG .i64) k1_0_0).bind fun qk1_0_0=>((aJ 5 Value.dec) k1_0_1).bind fun qk1_0_1=>(Dm k1_0_2).bind fun qk1_0_2=>(aZ N qc0 qk1_0_0 qk1_0_1 qk1_0_2).map fun r=>vB r
 | _=>none }
def oE (N:Nat):aA prog 191 (eP N):=by
 refine ⟨fun cs r h=>?_,fun h=>by cases h⟩;simp only [eP] at h;split at h
 ·simp only [ck,cj] at h;obtain ⟨q0,h0,q1,h1,q2,h2,q3,h3,r',hr,rfl⟩:=h;exact (ag (qv N q0 q1 q2 q3 r' hr))
 ·cases h
@[go_sem] def Kv (N d f:Nat):Option FnS:=aw [(17,40,gE N),(22,60,vM N),(42,191,eP N)] d f
def Ks (N:Nat) (a0:ae) (a1:List al) (r:Bool) (h:kq N a0 a1=some r):Con prog 123 [] true [.agg (ae.row a0),sF 3 (a1.map al.row)] (vB r):=by
 refine fk (G:=(Kv N)) func123 (gc 17 (fc N) (gc 22 (zc N) (gc 42 (oE N) gn))) ?_;simp only [f123];unfold kq at h;refine z0 ?_;refine z0 ?_;refine aQ (gG fun hreal2=>?_);have hl1:=hreal2.lenT 1 (by decide) (by simp only [go_sem,seval]; rfl);rw [cy] at hl1;refine rL (fun (v2:Nat) (b:Unit)=>⟨tab 48 (af (af (af (af (af au 1 (sF 3 (a1.map al.row))) 2 (pF 2)) 7 (sF 3 (a1.map al.row))) 8 (vI (a1.length:Int))) 9 (vI (v2:Int))),(upd RZ 2 (vA 3 (ae.row a0)))⟩) () h ?_ ?_
 ·refine wr ?_ ?_<;>repeat' first|rfl|constructor|simp only [go_sem,seval,nz,cX,nF,nG]
 rintro v2 ⟨⟩ hi3 h -;rcases (lO a1 v2 hi3).symm with ⟨hi3',_,hd6⟩|⟨x5,hi3',hx4,hd6⟩
 ·rw [hd6] at h;simp only [eu] at h;refine z1 hi3' ?_;refine cf ?_;refine z0 ?_;refine fa (pp ?_);cases h;simp (config := { maxSteps := 4000000 }) only [go_sem,seval];exact ⟨_,rfl,(by exact ROk.refl _),(by repeat' (first|exact bB.val _|refine bB.tup ?_|refine bB.agg ?_|exact vw|refine jf ?_ ?_))⟩
 rw [hd6] at h;simp only [eu] at h;have hw5:=eA hi3' hl1;refine z1 hi3' ?_;refine ct ?_;refine z1 (k2 hx4 hi3') ?_;apply aR (fun (c7:Bool)=>⟨tab 48 (af (af (af (af (af (af au 1 (sF 3 (a1.map al.row))) 2 (pF 2)) 7 (sF 3 (a1.map al.row))) 8 (vI (a1.length:Int))) 9 (vI (v2:Int))) 43 (vB c7)),(upd RZ 2 (vA 3 (ae.row a0)))⟩)
 ·intro hJ7;obtain ⟨r8,hr8,h⟩:=bI h;refine iP fun Z hZ=>?_;simp (config := { maxSteps := 4000000 }) only [go_sem,seval,hr8];refine ki rfl (fun hc9=>?_) (fun hc9=>?_)
  ·have hc9d:=decide_eq_true hc9;rw [if_pos hc9] at h;simp (config := { maxSteps := 4000000 }) only [go_sem,seval,hc9d];exact hZ _ (pp (hJ7 _ true (wF (k5 hx4 hi3' hw5 hr8 hc9d)) h))
  have hc9d:=decide_eq_false hc9;rw [if_neg hc9] at h;obtain ⟨r9,hr10,h⟩:=bI h;simp (config := { maxSteps := 4000000 }) only [go_sem,seval,hc9d,hr10];refine oH rfl (fun hc11=>?_) (fun hc11=>?_)
  ·first|rw [if_neg (ne_true_of_eq_false hc11)] at h|simp only [hc11,nH,nE,nt,nU,nJ,xj,nB,nX,ny,nV,cR,if_true,if_false] at h
   simp (config := { maxSteps := 4000000 }) only [go_sem,seval,hc11];refine hZ _ (pp (hJ7 _ true ?_ h));exact wF (k5 hx4 hi3' hw5 hr8 (k3 hc9d hr10 hc11))
  rw [if_pos hc11] at h;simp (config := { maxSteps := 4000000 }) only [go_sem,seval,hc11];refine sw (oH rfl) (fun hc12=>?_) (fun hc12=>?_)
  ·first|rw [if_pos hc12] at h|simp only [hc12,hc11,nH,nE,nt,nU,nJ,xj,nB,nX,ny,nV,cR,if_true,if_false] at h
   obtain ⟨hs16,h⟩:=iU h;try simp only [cL,xr,cV,nQ] at hs16 h
   obtain ⟨r11,hr17,h⟩:=bI h;try simp only [hc12] at hr17
   simp (config := { maxSteps := 4000000 }) only [go_sem,seval,hc12,hs16,cV,hr17];refine hZ _ (pp (hJ7 _ r11 ?_ h));exact wF (k5 hx4 hi3' hw5 hr8 (k5 hc9d hr10 hc11 hc12 (k4 hs16 @cV @cU hr17)))
  rw [if_neg (ne_true_of_eq_false hc12)] at h;simp (config := { maxSteps := 4000000 }) only [go_sem,seval,hc12];refine ki rfl (fun hc13=>?_) (fun hc13=>?_)
  ·have hc13d:=decide_eq_true hc13;rw [if_pos hc13] at h;simp (config := { maxSteps := 4000000 }) only [go_sem,seval,hc13d];refine hZ _ (pp (hJ7 _ true ?_ h));exact wF (k5 hx4 hi3' hw5 hr8 (k5 hc9d hr10 hc11 hc12 hc13d))
  have hc13d:=decide_eq_false hc13;rw [if_neg hc13] at h;obtain ⟨hs14,h⟩:=iU h;try simp only [cL,xr,cV,nQ] at hs14 h
  obtain ⟨r10,hr15,h⟩:=bI h;try simp only [hc12] at hr15
  simp (config := { maxSteps := 4000000 }) only [go_sem,seval,hc13d,hs14,cV,hr15];refine hZ _ (pp (hJ7 _ r10 ?_ h));exact wF (k5 hx4 hi3' hw5 hr8 (k5 hc9d hr10 hc11 hc12 (k5 hc13d hs14 @cV @cU hr15)))
 intro c7 h;unfold jB at h;refine pb rfl (fun hc18=>?_) (fun hc18=>?_)
 ·first|rw [if_pos hc18] at h|simp only [hc18,nH,nE,nt,nU,nJ,xj,nB,nX,ny,nV,cR,if_true,if_false] at h
  refine z1 hc18 ?_;refine fa (pp ?_);cases h;simp (config := { maxSteps := 4000000 }) only [go_sem,seval];exact ⟨_,rfl,(by exact ROk.refl _),(by repeat' (first|exact bB.val _|refine bB.tup ?_|refine bB.agg ?_|exact vw|refine jf ?_ ?_))⟩
 rw [if_neg (ne_true_of_eq_false hc18)] at h;refine z1 (k2 hw5 hc18) ?_;refine ⟨hi3',(),?_,h⟩;exact wF (k4 hx4 hi3' hw5 hc18)
@[go_sem] def B5 (N:Nat):FnS:=⟨[],true,fn2 ae.decA (aJ 3 al.dec) fun q0 q1=>(kq N q0 q1).map fun r=>vB r,false⟩
def Fx (N:Nat):aA prog 123 (B5 N):=om2 (Ks N)
@[go_sem] def Oa (N d f:Nat):Option FnS:=aw [(8,188,y8 N)] d f
def NC (N:Nat) (a0:ai) (a1:Ref) (r:Int) (h:pe N a0 a1=some r):Con prog 194 [] true [.agg (ai.row a0),.agg [vS a1.Type_,vS a1.Key]] (vI r):=by
 refine fk (G:=(Oa N)) func194 (gc 8 (Ar N) gn) ?_;simp only [f194];unfold pe at h;refine z0 ?_;obtain ⟨r1,hr1,h⟩:=bI h;refine z1 hr1 ?_;exact e0 h
@[go_sem] def zP (N:Nat):FnS:=⟨[],true,fn2 ai.decA Ref.decA fun q0 q1=>(pe N q0 q1).map fun r=>vI r,false⟩
def B8 (N:Nat):aA prog 194 (zP N):=om2 (NC N)
@[go_sem] def sL (N d f:Nat):Option FnS:=aw [(30,194,zP N),(46,194,zP N)] d f
def sJ (N:Nat) (a0:List ai) (a1:Ref) (r:Int × Bool) (h:dg N a0 a1=some r):Con prog 193 [] true [sF 4 (a0.map ai.row),.agg [vS a1.Type_,vS a1.Key],.clo 194 []] (.tup [vI r.1,vB r.2]):=by
 refine fk (G:=(sL N)) func193 (gc 30 (B8 N) (gc 46 (B8 N) gn)) ?_;simp only [f193];unfold dg at h;refine z0 ?_;refine z0 ?_;refine z0 ?_;refine aL (aQ (gH (fun (b:Int × Int)=>⟨tab 49 (af (af (af (af (af (af au 0 (sF 4 (a0.map ai.row))) 2 (.clo 194 [])) 4 (pF 4)) 8 (vI (a0.length:Int))) 9 (vI b.1)) 10 (vI b.2)),(upd RZ 4 (vA 2 [vS a1.Type_,vS a1.Key]))⟩) (0,(a0.length:Int)) h ?_ ?_))
 ·exact wR
 rintro n ⟨v2,v3⟩ h -;cases n with
 | zero=>simp [aY] at h
 | succ n=>
 simp only [aY] at h;refine z0 ?_;refine cDs h (fun hc1 hc1d h=>?_) fun hc1 hc1d h=>?_
 ·refine gr (pp ?_);unfold dM at h;refine iD h (fun hc6 hc6d h=>?_) fun hc6 hc6d h=>?_
  ·obtain ⟨x11,hb7,hx8,h⟩:=aH h;obtain ⟨r12,hr9,h⟩:=bI h;refine d1 (k4 hc1d hb7 hx8 hr9) ?_;exact e0 h
  refine d1 (k2 hc1d hc6d) ?_;exact e0 h
 refine z1 hc1d ?_;obtain ⟨x9,hb2,hx3,h⟩:=aH h;obtain ⟨r10,hr4,h⟩:=bI h;refine d1 (k3 hb2 hx3 hr4) ?_;refine cD h (fun hc5 hc5d h=>?_) fun hc5 hc5d h=>?_
 ·refine z1 hc5d ?_;refine ⟨_,na _,(IntKind.i64.wrap ((IntKind.i64.wrap (j8 .u64 (IntKind.u64.wrap (IntKind.i64.wrap (v2+v3))) 1))+1),v3),?_,h⟩;exact wR
 refine z1 hc5d ?_;refine ⟨_,na _,(v2,IntKind.i64.wrap (j8 .u64 (IntKind.u64.wrap (IntKind.i64.wrap (v2+v3))) 1)),?_,h⟩;exact wR
@[go_sem] def fF (N:Nat):FnS:={ own:=[],pure:=true,fn:=fun cs=>match cs with
 | [c0,c1,.clo 194 []]=>((aJ 4 ai.dec) c0).bind fun qc0=>(Ref.decA c1).bind fun qc1=>(dg N qc0 qc1).map fun r=>.tup [vI r.1,vB r.2]
 | _=>none }
def p8 (N:Nat):aA prog 193 (fF N):=by
 refine ⟨fun cs r h=>?_,fun h=>by cases h⟩;simp only [fF] at h;split at h
 ·simp only [ck,cj] at h;obtain ⟨q0,h0,q1,h1,r',hr,rfl⟩:=h;exact (ag (sJ N q0 q1 r' hr))
 ·cases h
@[go_sem] def Rd (N d f:Nat):Option FnS:=aw [(8,193,fF N)] d f
def RK (N:Nat) (a0:List ai) (a1:Ref) (r:Int × Bool) (h:qB N a0 a1=some r):Con prog 126 [] true [sF 4 (a0.map ai.row),.agg [vS a1.Type_,vS a1.Key]] (.tup [vI r.1,vB r.2]):=by
 refine fk (G:=(Rd N)) func126 (gc 8 (p8 N) gn) ?_;simp only [f126];unfold qB at h;refine z0 ?_;obtain ⟨r1,hr1,h⟩:=bI h;refine z1 hr1 ?_;exact e0 h
@[go_sem] def yH (N:Nat):FnS:=⟨[],true,fn2 (aJ 4 ai.dec) Ref.decA fun q0 q1=>(qB N q0 q1).map fun r=>.tup [vI r.1,vB r.2],false⟩
def y7 (N:Nat):aA prog 126 (yH N):=om2 (RK N)
@[go_sem] def Pt (N d f:Nat):Option FnS:=aw [(8,116,lE N),(13,126,yH N)] d f
def Pp (N:Nat) (a0:List ai) (a1:Ref) (r:Int) (h:ot N a0 a1=some r):Con prog 62 [] true [sF 4 (a0.map ai.row),.agg [vS a1.Type_,vS a1.Key]] (vI r):=by
 refine fk (G:=(Pt N)) func62 (gc 8 (kJ N) (gc 13 (y7 N) gn)) ?_;simp only [f62];unfold ot at h;refine z0 ?_;obtain ⟨r1,hr1,h⟩:=bI h;refine z1 hr1 ?_;refine cM h (fun hc2 h=>?_) fun hc2 h=>?_
 ·refine z1 hc2 ?_;exact e0 h
 obtain ⟨r2,hr3,h⟩:=bI h;refine z1 (k2 hc2 hr3) ?_;refine z0 ?_;refine cB h (fun hc4 h=>?_) fun hc4 h=>?_
 ·obtain ⟨x3,hb5,hx6,h⟩:=aH h;refine z1 (k3 hc4 hb5 hx6) ?_;exact e0 h
 refine z1 hc4 ?_;exact e0 h
@[go_sem] def AL (N:Nat):FnS:=⟨[],true,fn2 (aJ 4 ai.dec) Ref.decA fun q0 q1=>(ot N q0 q1).map fun r=>vI r,false⟩
def CC (N:Nat):aA prog 62 (AL N):=om2 (Pp N)
def Nj (N:Nat) (a0:ah) (c0_0:ByteArray) (c0_1:ByteArray) (r:Bool) (h:uF N a0 c0_0 c0_1=some r):Con prog 141 [] true [.agg (ah.row a0),.iref 2 [[vS c0_0,vS c0_1]] 0 0] (vB r):=by
 refine fk (G:=(aw [])) func141 gn ?_;simp only [f141];unfold uF at h;refine z0 ?_;refine z0 ?_;exact e0 h
@[go_sem] def yN (N:Nat):FnS:={ own:=[],pure:=true,fn:=fun cs=>match cs with
 | [c0,.iref 2 [[c1_0,c1_1]] 0 0]=>(ah.decA c0).bind fun qc0=>(bR c1_0).bind fun qc1_0=>(bR c1_1).bind fun qc1_1=>(uF N qc0 qc1_0 qc1_1).map fun r=>vB r
 | _=>none }
def Ij (N:Nat):aA prog 141 (yN N):=by
 refine ⟨fun cs r h=>?_,fun h=>by cases h⟩;simp only [yN] at h;split at h
 ·simp only [ck,cj] at h;obtain ⟨q0,h0,q1,h1,q2,h2,r',hr,rfl⟩:=h;exact (ag (Nj N q0 q1 q2 r' hr))
 ·cases h
@[go_sem] def sA (N d f:Nat):Option FnS:=aw [(16,141,yN N)] d f
def sN (N:Nat) (a0:List ah) (k1_0_0:ByteArray) (k1_0_1:ByteArray) (r:Int) (h:dc N a0 k1_0_0 k1_0_1=some r):Con prog 203 [] true [sF 4 (a0.map ah.row),.clo 141 [.iref 2 [[vS k1_0_0,vS k1_0_1]] 0 0]] (vI r):=by
 refine fk (G:=(sA N)) func203 (gc 16 (Ij N) gn) ?_;simp only [f203];unfold dc at h;refine z0 ?_;refine z0 ?_;refine lT 0 (fun (v2:Nat) (b:Unit)=>⟨tab 19 (af (af (af (af au 0 (sF 4 (a0.map ah.row))) 1 (.clo 141 [.iref 2 [[vS k1_0_0,vS k1_0_1]] 0 0])) 7 (vI (a0.length:Int))) 8 (vI (v2:Int))),RZ⟩) () h ?_ ?_
 ·rintro v2 ⟨⟩ hi3' h;simp only [bP] at h;refine z1 hi3' ?_;refine cf ?_;refine z0 ?_;exact e0 h
 rintro v2 ⟨⟩ x5 hi3' hx4 hw5 h;simp only [bP] at h;refine z1 hi3' ?_;refine ct ?_;refine z0 ?_;obtain ⟨r1,hr7,h⟩:=bI h;refine z1 (k3 hx4 hi3' hr7) ?_;refine cB h (fun hc8 h=>?_) fun hc8 h=>?_
 ·refine z1 hc8 ?_;exact e0 h
 refine z1 (k2 hw5 hc8) ?_;refine ⟨hi3',(),?_,h⟩;exact wR
@[go_sem] def fH (N:Nat):FnS:={ own:=[],pure:=true,fn:=fun cs=>match cs with
 | [c0,.clo 141 [.iref 2 [[k1_0_0,k1_0_1]] 0 0]]=>((aJ 4 ah.dec) c0).bind fun qc0=>(bR k1_0_0).bind fun qk1_0_0=>(bR k1_0_1).bind fun qk1_0_1=>(dc N qc0 qk1_0_0 qk1_0_1).map fun r=>vI r
 | _=>none }
def pZ (N:Nat):aA prog 203 (fH N):=by
 refine ⟨fun cs r h=>?_,fun h=>by cases h⟩;simp only [fH] at h;split at h
 ·simp only [ck,cj] at h;obtain ⟨q0,h0,q1,h1,q2,h2,r',hr,rfl⟩:=h;exact (ag (sN N q0 q1 q2 r' hr))
 ·cases h
@[go_sem] def qZ (N d f:Nat):Option FnS:=aw [(7,203,fH N)] d f
def qy (N:Nat) (a0:List ah) (k1_0_0:ByteArray) (k1_0_1:ByteArray) (r:Bool) (h:bN N a0 k1_0_0 k1_0_1=some r):Con prog 140 [] true [sF 4 (a0.map ah.row),.clo 141 [.iref 2 [[vS k1_0_0,vS k1_0_1]] 0 0]] (vB r):=by
 refine fk (G:=(qZ N)) func140 (gc 7 (pZ N) gn) ?_;simp only [f140];unfold bN at h;refine z0 ?_;obtain ⟨r1,hr1,h⟩:=bI h;refine z1 hr1 ?_;exact e0 h
@[go_sem] def eQ (N:Nat):FnS:={ own:=[],pure:=true,fn:=fun cs=>match cs with
 | [c0,.clo 141 [.iref 2 [[k1_0_0,k1_0_1]] 0 0]]=>((aJ 4 ah.dec) c0).bind fun qc0=>(bR k1_0_0).bind fun qk1_0_0=>(bR k1_0_1).bind fun qk1_0_1=>(bN N qc0 qk1_0_0 qk1_0_1).map fun r=>vB r
 | _=>none }
def oD (N:Nat):aA prog 140 (eQ N):=by
 refine ⟨fun cs r h=>?_,fun h=>by cases h⟩;simp only [eQ] at h;split at h
 ·simp only [ck,cj] at h;obtain ⟨q0,h0,q1,h1,q2,h2,r',hr,rfl⟩:=h;exact (ag (qy N q0 q1 q2 r' hr))
 ·cases h
@[go_sem] def Pw (N d f:Nat):Option FnS:=aw [(7,140,eQ N)] d f
def Pe (N:Nat) (a0:List ah) (a1:Ref) (r:Bool) (h:ov N a0 a1=some r):Con prog 68 [] true [sF 4 (a0.map ah.row),.agg [vS a1.Type_,vS a1.Key]] (vB r):=by
 refine fk (G:=(Pw N)) func68 (gc 7 (oD N) gn) ?_;simp only [f68];unfold ov at h;refine z0 ?_;obtain ⟨r1,hr1,h⟩:=bI h;refine z1 hr1 ?_;exact e0 h
@[go_sem] def Bd (N:Nat):FnS:=⟨[],true,fn2 (aJ 4 ah.dec) Ref.decA fun q0 q1=>(ov N q0 q1).map fun r=>vB r,false⟩
def Cy (N:Nat):aA prog 68 (Bd N):=om2 (Pe N)
@[go_sem] def Pa (N d f:Nat):Option FnS:=aw [(9,104,jC N),(14,104,jC N),(16,103,Ck N)] d f
def HU (N:Nat) (a0:Ref) (a1:Ref) (r:Int) (h:gF N a0 a1=some r):Con prog 43 [] true [.agg [vS a0.Type_,vS a0.Key],.agg [vS a1.Type_,vS a1.Key]] (vI r):=by
 refine fk (G:=(Pa N)) func43 (gc 9 (kg N) (gc 14 (kg N) (gc 16 (DD N) gn))) ?_;simp only [f43];unfold gF at h;refine z0 ?_;obtain ⟨r1,hr1,h⟩:=bI h;obtain ⟨r2,hr2,h⟩:=bI h;obtain ⟨r3,hr3,h⟩:=bI h;refine d1 (k3 hr1 hr2 hr3) ?_;exact e0 h
@[go_sem] def wc (N:Nat):FnS:=⟨[],true,fn2 Ref.decA Ref.decA fun q0 q1=>(gF N q0 q1).map fun r=>vI r,false⟩
def wU (N:Nat):aA prog 43 (wc N):=om2 (HU N)
@[go_sem] def Kt (N d f:Nat):Option FnS:=aw [(36,123,B5 N),(55,62,AL N),(72,40,gE N),(82,68,Bd N),(29,43,wc N)] d f
def Kj (N:Nat) (a0:ae) (r:Bool) (h:mF N a0=some r):Con prog 54 [] true [.agg (ae.row a0)] (vB r):=by
 refine fk (G:=(Kt N)) func54 (gc 36 (Fx N) (gc 55 (CC N) (gc 72 (fc N) (gc 82 (Cy N) (gc 29 (wU N) gn))))) ?_;simp only [f54];unfold mF at h;refine z0 ?_;refine z0 ?_;refine lT 10 (fun (v2:Nat) (b:Unit)=>⟨tab 98 (af (af (af (af au 1 (pF 1)) 10 (sF 3 (a0.Stacks.map aa.row))) 11 (vI (a0.Stacks.length:Int))) 12 (vI (v2:Int))),(upd RZ 1 (vA 3 (ae.row a0)))⟩) () h ?_ ?_
 ·rintro v2 ⟨⟩ hi3' h;simp only [ew] at h;refine z1 hi3' ?_;refine cf ?_;refine z0 ?_;exact e0 h
 rintro v2 ⟨⟩ x5 hi3' hx4 hw5 h;simp only [ew] at h;refine z1 hi3' ?_;refine ct ?_;refine z1 (k2 hx4 hi3') ?_;refine aL ?_;apply aR (fun (c11:Bool)=>⟨tab 98 (af (af (af (af (af (af au 1 (pF 1)) 4 (pF 4)) 10 (sF 3 (a0.Stacks.map aa.row))) 11 (vI (a0.Stacks.length:Int))) 12 (vI (v2:Int))) 38 (vB c11)),(upd (upd RZ 1 (vA 3 (ae.row a0))) 4 (vA 3 (aa.row x5)))⟩)
 ·intro hJ7;refine lR fun Z hZ=>?_;simp only [go_sem,seval];refine sw (ki rfl) (fun hc8=>?_) (fun hc8=>?_)
  ·have hc8d:=decide_eq_false hc8;rw [if_neg hc8] at h;obtain ⟨r15,hr14,h⟩:=bI h;simp only [go_sem,seval,hc8d,hr14];repeat with_reducible refine gl (by kernel_rfl) ?_
   exact hZ _ (by kernel_rfl) (pp (hJ7 _ (!r15) wR h))
  have hc8d:=decide_eq_true hc8;rw [if_pos hc8] at h;obtain ⟨x12,hb9,hx10,h⟩:=aH h;obtain ⟨r13,hr11,h⟩:=bI h;simp only [go_sem,seval,hc8d,hb9,hx10,hr11];repeat with_reducible refine gl (by kernel_rfl) ?_
  refine ki rfl (fun hc12=>?_) (fun hc12=>?_)
  ·have hc12d:=decide_eq_true hc12;rw [if_pos hc12] at h;simp only [go_sem,seval,hc12d];exact hZ _ (by kernel_rfl) (pp (hJ7 _ true wR h))
  have hc12d:=decide_eq_false hc12;rw [if_neg hc12] at h;obtain ⟨r14,hr13,h⟩:=bI h;simp only [go_sem,seval,hc12d,hr13];repeat with_reducible refine gl (by kernel_rfl) ?_
  exact hZ _ (by kernel_rfl) (pp (hJ7 _ (!r14) wR h))
 intro c11 h;unfold jY at h;refine cB h (fun hc15 h=>?_) fun hc15 h=>?_
 ·refine z1 hc15 ?_;exact e0 h
 refine aU (pp ?_);unfold jQ at h;obtain ⟨x16,hb16,hx17,h⟩:=aH h;refine z1 (k3 hc15 hb16 hx17) ?_;refine aL ?_;apply aR (fun (c21:Bool)=>⟨tab 98 (af (af (af (af (af (af au 1 (pF 1)) 4 (pF 4)) 10 (sF 3 (a0.Stacks.map aa.row))) 11 (vI (a0.Stacks.length:Int))) 12 (vI (v2:Int))) 59 (vB c21)),(upd (upd RZ 1 (vA 3 (ae.row a0))) 4 (vA 3 (aa.row x5)))⟩)
 ·intro hJ18;refine iBs h (fun hc19 h=>?_) fun hc19 h=>?_
  ·obtain ⟨r22,hr20,h⟩:=bI h;refine d1 (k2 hc19 hr20) ?_;exact hJ18 _ (!decide (r22=x16.Txn_)) wR h
  refine d1 hc19 ?_;exact hJ18 _ false wR h
 intro c21 h;unfold lZ at h;refine cB h (fun hc21 h=>?_) fun hc21 h=>?_
 ·refine z1 hc21 ?_;exact e0 h
 unfold mh at h;refine z1 hc21 ?_;refine lT 61 (fun (v20:Nat) (b:Unit)=>⟨tab 98 (af (af (af (af (af (af (af (af au 1 (pF 1)) 4 (pF 4)) 10 (sF 3 (a0.Stacks.map aa.row))) 11 (vI (a0.Stacks.length:Int))) 12 (vI (v2:Int))) 61 (sF 3 (x5.Layers.map al.row))) 62 (vI (x5.Layers.length:Int))) 63 (vI (v20:Int))),(upd (upd RZ 1 (vA 3 (ae.row a0))) 4 (vA 3 (aa.row x5)))⟩) () h ?_ ?_
 ·rintro v20 ⟨⟩ hi24' h;simp only [ff] at h;refine z1 hi24' ?_;refine cf ?_;refine z1 hw5 ?_;refine ⟨hi3',(),?_,h⟩;exact wR
 rintro v20 ⟨⟩ x23 hi24' hx25 hw26 h;simp only [ff] at h;refine z1 hi24' ?_;refine ct ?_;refine z1 (k2 hx25 hi24') ?_;obtain ⟨r23,hr28,h⟩:=bI h;obtain ⟨x24,hb29,hx30,h⟩:=aH h;refine d1 (k3 hr28 hb29 hx30) ?_;apply aR (fun (c27:Bool)=>⟨tab 98 (af (af (af (af (af (af (af (af (af au 1 (pF 1)) 4 (pF 4)) 10 (sF 3 (a0.Stacks.map aa.row))) 11 (vI (a0.Stacks.length:Int))) 12 (vI (v2:Int))) 61 (sF 3 (x5.Layers.map al.row))) 62 (vI (x5.Layers.length:Int))) 63 (vI (v20:Int))) 95 (vB c27)),(upd (upd RZ 1 (vA 3 (ae.row a0))) 4 (vA 3 (aa.row x5)))⟩)
 ·intro hJ31;obtain ⟨hs32,h⟩:=iU h;try simp only [xr,cV,nQ] at hs32 h
  obtain ⟨r28,hr33,h⟩:=bI h;refine lR fun Z hZ=>?_;simp only [go_sem,seval,hs32,cV,hr33];repeat with_reducible refine gl (by kernel_rfl) ?_
  refine oH rfl (fun hc34=>?_) (fun hc34=>?_)
  ·rw [if_neg (ne_true_of_eq_false hc34)] at h;simp only [go_sem,seval,hc34];exact hZ _ (by kernel_rfl) (pp (hJ31 _ true wR h))
  rw [if_pos hc34] at h;simp only [go_sem,seval,hc34];refine Pj rfl (fun hc35=>?_) (fun hc35=>?_)
  ·rw [if_pos hc35] at h;simp only [go_sem,seval,hc35];repeat with_reducible refine gl (by kernel_rfl) ?_
   exact hZ _ (by kernel_rfl) (pp (hJ31 _ (decide (x24.Done < (x24.Calls.length:Int))) wR h))
  rw [if_neg (ne_true_of_eq_false hc35)] at h;simp only [go_sem,seval,hc35];exact hZ _ (by kernel_rfl) (pp (hJ31 _ false wR h))
 intro c27 h;unfold jK at h;refine cB h (fun hc36 h=>?_) fun hc36 h=>?_
 ·refine z1 hc36 ?_;exact e0 h
 refine z1 (k2 hw26 hc36) ?_;refine ⟨hi24',(),?_,h⟩;exact wR
@[go_sem] def BT (N:Nat):FnS:=⟨[],true,fn1 ae.decA fun q0=>(mF N q0).map fun r=>vB r,false⟩
def FA (N:Nat):aA prog 54 (BT N):=om1 (Kj N)
def Pd (N:Nat) (a0:aa) (c0_0:ByteArray) (c0_1:ByteArray) (r:Bool) (h:yq N a0 c0_0 c0_1=some r):Con prog 106 [] true [.agg (aa.row a0),.iref 2 [[vS c0_0,vS c0_1]] 0 0] (vB r):=by
 refine fk (G:=(aw [])) func106 gn ?_;simp only [f106];unfold yq at h;refine z0 ?_;refine z0 ?_;exact e0 h
@[go_sem] def Bb (N:Nat):FnS:={ own:=[],pure:=true,fn:=fun cs=>match cs with
 | [c0,.iref 2 [[c1_0,c1_1]] 0 0]=>(aa.decA c0).bind fun qc0=>(bR c1_0).bind fun qc1_0=>(bR c1_1).bind fun qc1_1=>(yq N qc0 qc1_0 qc1_1).map fun r=>vB r
 | _=>none }
def Kr (N:Nat):aA prog 106 (Bb N):=by
 refine ⟨fun cs r h=>?_,fun h=>by cases h⟩;simp only [Bb] at h;split at h
 ·simp only [ck,cj] at h;obtain ⟨q0,h0,q1,h1,q2,h2,r',hr,rfl⟩:=h;exact (ag (Pd N q0 q1 q2 r' hr))
 ·cases h
@[go_sem] def tj (N d f:Nat):Option FnS:=aw [(16,106,Bb N)] d f
def ta (N:Nat) (a0:List aa) (k1_0_0:ByteArray) (k1_0_1:ByteArray) (r:Int) (h:dt N a0 k1_0_0 k1_0_1=some r):Con prog 105 [] true [sF 3 (a0.map aa.row),.clo 106 [.iref 2 [[vS k1_0_0,vS k1_0_1]] 0 0]] (vI r):=by
 refine fk (G:=(tj N)) func105 (gc 16 (Kr N) gn) ?_;simp only [f105];unfold dt at h;refine z0 ?_;refine z0 ?_;refine lT 0 (fun (v2:Nat) (b:Unit)=>⟨tab 19 (af (af (af (af au 0 (sF 3 (a0.map aa.row))) 1 (.clo 106 [.iref 2 [[vS k1_0_0,vS k1_0_1]] 0 0])) 7 (vI (a0.length:Int))) 8 (vI (v2:Int))),RZ⟩) () h ?_ ?_
 ·rintro v2 ⟨⟩ hi3' h;simp only [bU] at h;refine z1 hi3' ?_;refine cf ?_;refine z0 ?_;exact e0 h
 rintro v2 ⟨⟩ x5 hi3' hx4 hw5 h;simp only [bU] at h;refine z1 hi3' ?_;refine ct ?_;refine z0 ?_;obtain ⟨r1,hr7,h⟩:=bI h;refine z1 (k3 hx4 hi3' hr7) ?_;refine cB h (fun hc8 h=>?_) fun hc8 h=>?_
 ·refine z1 hc8 ?_;exact e0 h
 refine z1 (k2 hw5 hc8) ?_;refine ⟨hi3',(),?_,h⟩;exact wR
@[go_sem] def fL (N:Nat):FnS:={ own:=[],pure:=true,fn:=fun cs=>match cs with
 | [c0,.clo 106 [.iref 2 [[k1_0_0,k1_0_1]] 0 0]]=>((aJ 3 aa.dec) c0).bind fun qc0=>(bR k1_0_0).bind fun qk1_0_0=>(bR k1_0_1).bind fun qk1_0_1=>(dt N qc0 qk1_0_0 qk1_0_1).map fun r=>vI r
 | _=>none }
def qs (N:Nat):aA prog 105 (fL N):=by
 refine ⟨fun cs r h=>?_,fun h=>by cases h⟩;simp only [fL] at h;split at h
 ·simp only [ck,cj] at h;obtain ⟨q0,h0,q1,h1,q2,h2,r',hr,rfl⟩:=h;exact (ag (ta N q0 q1 q2 r' hr))
 ·cases h
@[go_sem] def SQ (N d f:Nat):Option FnS:=aw [(8,105,fL N)] d f
def R7 (N:Nat) (a0:ae) (a1:Ref) (r:Int) (h:lY N a0 a1=some r):Con prog 46 [] true [.agg (ae.row a0),.agg [vS a1.Type_,vS a1.Key]] (vI r):=by
 refine fk (G:=(SQ N)) func46 (gc 8 (qs N) gn) ?_;simp only [f46];unfold lY at h;refine z0 ?_;obtain ⟨r1,hr1,h⟩:=bI h;refine z1 hr1 ?_;exact e0 h
@[go_sem] def vJ (N:Nat):FnS:=⟨[],true,fn2 ae.decA Ref.decA fun q0 q1=>(lY N q0 q1).map fun r=>vI r,false⟩
def vd (N:Nat):aA prog 46 (vJ N):=om2 (R7 N)
@[go_sem] def SI (N d f:Nat):Option FnS:=aw [(13,46,vJ N)] d f
def SM (N:Nat) (a0:ae) (a1:Ref) (a2:Int) (r:al × Bool) (h:ji N a0 a1 a2=some r):Con prog 69 [] false [.agg (ae.row a0),.agg [vS a1.Type_,vS a1.Key],vI a2] (.tup [.agg (al.row r.1),vB r.2]):=by
 refine fk (G:=(SI N)) func69 (gc 13 (vd N) gn) ?_;simp only [f69];unfold ji at h;refine z0 ?_;obtain ⟨r1,hr1,h⟩:=bI h;refine z1 hr1 ?_;refine z0 ?_;refine cDs h (fun hc2 hc2d h=>?_) fun hc2 hc2d h=>?_
 ·refine z1 hc2d ?_;exact f0 h
 obtain ⟨x2,hb3,hx4,h⟩:=aH h;refine z1 (k2 hb3 hx4) ?_;refine lT 21 (fun (v4:Nat) (b:Unit)=>⟨tab 34 (af (af (af (af (af au 2 (vI a2)) 6 (pF 6)) 21 (sF 3 (x2.Layers.map al.row))) 22 (vI (x2.Layers.length:Int))) 23 (vI (v4:Int))),(upd RZ 6 (vA 3 [vI 0,.val (.slice none 0 0),vB false]))⟩) () h ?_ ?_
 ·rintro v4 ⟨⟩ hi7' h;simp only [sU] at h;refine z1 hi7' ?_;refine cf ?_;refine z0 ?_;exact f0 h
 rintro v4 ⟨⟩ x7 hi7' hx8 hw9 h;simp only [sU] at h;refine z1 hi7' ?_;refine ct ?_;refine z1 (k2 hx8 hi7') ?_;refine z0 ?_;refine cD h (fun hc11 hc11d h=>?_) fun hc11 hc11d h=>?_
 ·refine z1 hc11d ?_;exact f0 h
 refine z1 (k2 hw9 hc11d) ?_;refine ⟨hi7',(),?_,h⟩;exact wR
@[go_sem] def sQ (N:Nat):FnS:=⟨[],false,fn3 ae.decA Ref.decA (aG .i64) fun q0 q1 q2=>(ji N q0 q1 q2).map fun r=>.tup [.agg (al.row r.1),vB r.2],false⟩
def qL (N:Nat):aA prog 69 (sQ N):=om3 (SM N)
@[go_sem] def H4 (N d f:Nat):Option FnS:=aw [(41,69,sQ N),(60,40,gE N),(69,69,sQ N),(115,40,gE N)] d f
def H3 (N:Nat) (a0:ae) (r:Bool) (h:kI N a0=some r):Con prog 55 [] true [.agg (ae.row a0)] (vB r):=by
 refine fk (G:=(H4 N)) func55 (gc 41 (qL N) (gc 60 (fc N) (gc 69 (qL N) (gc 115 (fc N) gn)))) ?_;simp only [f55];unfold kI at h;refine z0 ?_;refine z0 ?_;refine lTs 19 (fun (v2:Nat) (b:Unit)=>⟨tab 138 (af (af (af (af au 1 (pF 1)) 19 (sF 11 (a0.Txns.map Txn.row))) 20 (vI (a0.Txns.length:Int))) 21 (vI (v2:Int))),(upd RZ 1 (vA 3 (ae.row a0)))⟩) () h ?_ ?_
 ·rintro v2 ⟨⟩ x5 hi3' hx4 hw5 h;simp only [iN] at h;refine z1 hi3' ?_;refine ct ?_;refine z1 (k2 hx4 hi3') ?_;obtain ⟨hs7,h⟩:=iU h;try simp only [xr,cV,nQ] at hs7 h
  refine z1 (k2 hs7 @cV) ?_;refine lT 29 (fun (v9:Nat) (b:Unit)=>⟨tab 138 (af (af (af (af (af (af (af (af au 1 (pF 1)) 4 (pF 4)) 19 (sF 11 (a0.Txns.map Txn.row))) 20 (vI (a0.Txns.length:Int))) 21 (vI (v2:Int))) 29 (sF 4 ((x5.Calls.take ((x5.Done).toNat)).map ah.row))) 30 (vI (((x5.Calls.take ((x5.Done).toNat)).length:Nat):Int))) 31 (vI (v9:Int))),(upd (upd RZ 1 (vA 3 (ae.row a0))) 4 (vA 11 (Txn.row x5)))⟩) () h ?_ ?_
  ·rintro v9 ⟨⟩ hi10' h;simp only [gC] at h;refine z1 hi10' ?_;refine cf ?_;refine z1 hw5 ?_;refine ⟨hi3',(),?_,h⟩;exact wR
  rintro v9 ⟨⟩ x12 hi10' hx11 hw12 h;simp only [gC] at h;refine z1 hi10' ?_;refine ct ?_;refine z1 (k2 hx11 hi10') ?_;obtain ⟨r15,hr14,h⟩:=bI h;refine z1 hr14 ?_;refine z0 ?_;refine cM h (fun hc15 h=>?_) fun hc15 h=>?_
  ·refine z1 hc15 ?_;exact e0 h
  refine z1 (k2 hw12 hc15) ?_;refine ⟨hi10',(),?_,h⟩;exact wR
 rintro v2 ⟨⟩ hi3' h;simp only [iN] at h;refine z1 hi3' ?_;refine cf ?_;unfold od at h;refine z0 ?_;refine lT 49 (fun (v17:Nat) (b:Unit)=>⟨tab 138 (af (af (af (af au 1 (pF 1)) 49 (sF 4 (a0.Locks.map ai.row))) 50 (vI (a0.Locks.length:Int))) 51 (vI (v17:Int))),(upd RZ 1 (vA 3 (ae.row a0)))⟩) () h ?_ ?_
 ·rintro v17 ⟨⟩ hi18' h;simp only [bH] at h;refine z1 hi18' ?_;refine cf ?_;refine z0 ?_;exact e0 h
 rintro v17 ⟨⟩ x20 hi18' hx19 hw20 h;simp only [bH] at h;refine z1 hi18' ?_;refine ct ?_;refine z1 (k2 hx19 hi18') ?_;obtain ⟨r16,hr22,h⟩:=bI h;obtain ⟨x17,hb23,hx24,h⟩:=aH h;refine d1 (k3 hr22 hb23 hx24) ?_;obtain ⟨r18,hr25,h⟩:=bI h;refine z1 hr25 ?_;refine z0 ?_;refine aL ?_;apply aR (fun (c24:Bool)=>⟨tab 138 (af (af (af (af (af (af au 1 (pF 1)) 10 (pF 10)) 49 (sF 4 (a0.Locks.map ai.row))) 50 (vI (a0.Locks.length:Int))) 51 (vI (v17:Int))) 103 (vB c24)),(upd (upd RZ 1 (vA 3 (ae.row a0))) 10 (vA 4 (ai.row x20)))⟩)
 ·intro hJ26;refine iD h (fun hc27 hc27d h=>?_) fun hc27 hc27d h=>?_
  ·refine iBs h (fun hc30 h=>?_) fun hc30 h=>?_
   ·obtain ⟨x25,hb31,hx32,h⟩:=aH h;refine d1 (k4 hc27d hc30 hb31 hx32) ?_;exact hJ26 _ (!(sEq x25.Target.Type_ x20.Actor.Type_ && sEq x25.Target.Key x20.Actor.Key)) wR h
   refine d1 (k2 hc27d hc30) ?_;exact hJ26 _ false wR h
  refine iBs h (fun hc28 h=>?_) fun hc28 h=>?_
  ·refine d1 (k2 hc27d hc28) ?_;exact hJ26 _ true wR h
  refine iB h (fun hc29 h=>?_) fun hc29 h=>?_
  ·refine d1 (k3 hc27d hc28 hc29) ?_;exact hJ26 _ true wR h
  refine d1 (k3 hc27d hc28 hc29) ?_;exact hJ26 _ false wR h
 intro c24 h;unfold eX at h;refine cB h (fun hc33 h=>?_) fun hc33 h=>?_
 ·refine z1 hc33 ?_;exact e0 h
 unfold fe at h;refine z1 hc33 ?_;refine lT 105 (fun (v30:Nat) (b:Unit)=>⟨tab 138 (af (af (af (af (af (af (af (af au 1 (pF 1)) 10 (pF 10)) 49 (sF 4 (a0.Locks.map ai.row))) 50 (vI (a0.Locks.length:Int))) 51 (vI (v17:Int))) 105 (sF 1 (x20.Waiters.map (ay .i64)))) 106 (vI (x20.Waiters.length:Int))) 107 (vI (v30:Int))),(upd (upd RZ 1 (vA 3 (ae.row a0))) 10 (vA 4 (ai.row x20)))⟩) () h ?_ ?_
 ·rintro v30 ⟨⟩ hi36' h;simp only [fg] at h;refine z1 hi36' ?_;refine cf ?_;refine z1 hw20 ?_;refine ⟨hi18',(),?_,h⟩;exact wR
 rintro v30 ⟨⟩ x33 hi36' hx37 hw38 h;simp only [fg] at h;refine z1 hi36' ?_;refine ct ?_;refine z1 (k2 hx37 hi36') ?_;obtain ⟨r26,hr40,h⟩:=bI h;obtain ⟨x27,hb41,hx42,h⟩:=aH h;refine d1 (k3 hr40 hb41 hx42) ?_;apply aR (fun (c29:Bool)=>⟨tab 138 (af (af (af (af (af (af (af (af (af au 1 (pF 1)) 10 (pF 10)) 49 (sF 4 (a0.Locks.map ai.row))) 50 (vI (a0.Locks.length:Int))) 51 (vI (v17:Int))) 105 (sF 1 (x20.Waiters.map (ay .i64)))) 106 (vI (x20.Waiters.length:Int))) 107 (vI (v30:Int))) 135 (vB c29)),(upd (upd RZ 1 (vA 3 (ae.row a0))) 10 (vA 4 (ai.row x20)))⟩)
 ·intro hJ43;refine lR fun Z hZ=>?_;simp only [go_sem,seval];repeat with_reducible refine gl (by kernel_rfl) ?_
  refine ki rfl (fun hc44=>?_) (fun hc44=>?_)
  ·have hc44d:=decide_eq_true hc44;rw [if_pos hc44] at h;simp only [go_sem,seval,hc44d];exact hZ _ (by kernel_rfl) (pp (hJ43 _ true wR h))
  have hc44d:=decide_eq_false hc44;rw [if_neg hc44] at h;obtain ⟨x30,hb45,hx46,h⟩:=aH h;simp only [go_sem,seval,hc44d,hb45,hx46];exact hZ _ (by kernel_rfl) (pp (hJ43 _ (!(sEq x30.Target.Type_ x20.Actor.Type_ && sEq x30.Target.Key x20.Actor.Key)) wR h))
 intro c29 h;unfold mY at h;refine cB h (fun hc47 h=>?_) fun hc47 h=>?_
 ·refine z1 hc47 ?_;exact e0 h
 refine z1 (k2 hw38 hc47) ?_;refine ⟨hi36',(),?_,h⟩;exact wR
@[go_sem] def Ad (N:Nat):FnS:=⟨[],true,fn1 ae.decA fun q0=>(kI N q0).map fun r=>vB r,false⟩
def Ec (N:Nat):aA prog 55 (Ad N):=om1 (H3 N)
def Jm (N:Nat) (a0:List Int) (a1:Int) (r:Int) (h:pd N a0 a1=some r):Con prog 184 [] true [sF 1 (a0.map (ay .i64)),vI a1] (vI r):=by
 refine fk (G:=(aw [])) func184 gn ?_;simp only [f184];unfold pd at h;refine z0 ?_;refine z0 ?_;refine lT 0 (fun (v2:Nat) (b:Unit)=>⟨tab 19 (af (af (af (af au 0 (sF 1 (a0.map (ay .i64)))) 1 (vI a1)) 7 (vI (a0.length:Int))) 8 (vI (v2:Int))),RZ⟩) () h ?_ ?_
 ·rintro v2 ⟨⟩ hi3' h;simp only [jm] at h;refine z1 hi3' ?_;refine cf ?_;refine z0 ?_;exact e0 h
 rintro v2 ⟨⟩ x5 hi3' hx4 hw5 h;simp only [jm] at h;refine z1 hi3' ?_;refine ct ?_;refine z0 ?_;refine z1 (k2 hx4 hi3') ?_;refine cD h (fun hc7 hc7d h=>?_) fun hc7 hc7d h=>?_
 ·refine z1 hc7d ?_;exact e0 h
 refine z1 (k2 hw5 hc7d) ?_;refine ⟨hi3',(),?_,h⟩;exact wR
@[go_sem] def Am (N:Nat):FnS:=⟨[],true,fn2 (aJ 1 (dp (aG .i64))) (aG .i64) fun q0 q1=>(pd N q0 q1).map fun r=>vI r,false⟩
def E3 (N:Nat):aA prog 184 (Am N):=om2 (Jm N)
@[go_sem] def FR (N d f:Nat):Option FnS:=aw [(7,184,Am N)] d f
def F0 (N:Nat) (a0:List Int) (a1:Int) (r:Bool) (h:dy N a0 a1=some r):Con prog 108 [] true [sF 1 (a0.map (ay .i64)),vI a1] (vB r):=by
 refine fk (G:=(FR N)) func108 (gc 7 (E3 N) gn) ?_;simp only [f108];unfold dy at h;refine z0 ?_;obtain ⟨r1,hr1,h⟩:=bI h;refine z1 hr1 ?_;exact e0 h
@[go_sem] def fv (N:Nat):FnS:=⟨[],true,fn2 (aJ 1 (dp (aG .i64))) (aG .i64) fun q0 q1=>(dy N q0 q1).map fun r=>vB r,false⟩
def fB (N:Nat):aA prog 108 (fv N):=om2 (F0 N)
@[go_sem] def R8 (N d f:Nat):Option FnS:=aw [(38,108,fv N)] d f
def Si (N:Nat) (a0:ae) (a1:Int) (a2:List Int) (r:Bool) (h:vG N a0 a1 a2=some r):Con prog 74 [] true [.agg (ae.row a0),vI a1,sF 1 (a2.map (ay .i64))] (vB r):=by
 refine fk (G:=(R8 N)) func74 (gc 38 (fB N) gn) ?_;simp only [f74];unfold vG at h;refine z0 ?_;refine z0 ?_;refine lT 13 (fun (v2:Nat) (b:Unit)=>⟨tab 43 (af (af (af (af (af au 1 (vI a1)) 2 (sF 1 (a2.map (ay .i64)))) 13 (sF 3 (a0.Stacks.map aa.row))) 14 (vI (a0.Stacks.length:Int))) 15 (vI (v2:Int))),RZ⟩) () h ?_ ?_
 ·rintro v2 ⟨⟩ hi3' h;simp only [oT] at h;refine z1 hi3' ?_;refine cf ?_;refine z0 ?_;exact e0 h
 rintro v2 ⟨⟩ x5 hi3' hx4 hw5 h;simp only [oT] at h;refine z1 hi3' ?_;refine ct ?_;refine z1 (k2 hx4 hi3') ?_;refine z0 ?_;refine z0 ?_;refine lT 20 (fun (v9:Nat) (b:Bool)=>⟨tab 43 (af (af (af (af (af (af (af (af (af au 1 (vI a1)) 2 (sF 1 (a2.map (ay .i64)))) 9 (vB b)) 13 (sF 3 (a0.Stacks.map aa.row))) 14 (vI (a0.Stacks.length:Int))) 15 (vI (v2:Int))) 20 (sF 3 (x5.Layers.map al.row))) 21 (vI (x5.Layers.length:Int))) 22 (vI (v9:Int))),RZ⟩) false h ?_ ?_
 ·rintro v9 c8 hi9' h;simp only [km] at h;refine z1 hi9' ?_;refine cf ?_;refine z1 hw5 ?_;refine ⟨hi3',(),?_,h⟩;exact wR
 rintro v9 c8 x12 hi9' hx10 hw11 h;simp only [km] at h;refine z1 hi9' ?_;refine ct ?_;refine z1 (k2 hx10 hi9') ?_;refine aL ?_;apply aR (fun (c3:Bool)=>⟨tab 43 (af (af (af (af (af (af (af (af (af (af (af au 1 (vI a1)) 2 (sF 1 (a2.map (ay .i64)))) 9 (vB c8)) 11 (pF 11)) 13 (sF 3 (a0.Stacks.map aa.row))) 14 (vI (a0.Stacks.length:Int))) 15 (vI (v2:Int))) 20 (sF 3 (x5.Layers.map al.row))) 21 (vI (x5.Layers.length:Int))) 22 (vI (v9:Int))) 32 (vB c3)),(upd RZ 11 (vA 3 (al.row x12)))⟩)
 ·intro hJ13;refine iD h (fun hc14 hc14d h=>?_) fun hc14 hc14d h=>?_
  ·refine z1 hc14d ?_;exact hJ13 _ c8 wR h
  refine z1 hc14d ?_;exact hJ13 _ false wR h
 intro c3 h;unfold zL at h;refine cB h (fun hc15 h=>?_) fun hc15 h=>?_
 ·refine z1 hc15 ?_;exact e0 h
 refine aU (pp ?_);unfold vO at h;refine iB h (fun hc16 h=>?_) fun hc16 h=>?_
 ·refine z1 (k2 hc15 hc16) ?_;refine z1 hw11 ?_;refine ⟨hi9',true,?_,h⟩;exact wR
 obtain ⟨r4,hr17,h⟩:=bI h;refine z1 (k3 hc15 hc16 hr17) ?_;refine z1 hw11 ?_;refine ⟨hi9',(!r4),?_,h⟩;exact wR
@[go_sem] def Dj (N:Nat):FnS:=⟨[],true,fn3 ae.decA (aG .i64) (aJ 1 (dp (aG .i64))) fun q0 q1 q2=>(vG N q0 q1 q2).map fun r=>vB r,false⟩
def Er (N:Nat):aA prog 74 (Dj N):=om3 (Si N)
@[go_sem] def Pc (N d f:Nat):Option FnS:=aw [(21,108,fv N),(28,74,Dj N)] d f
def Pl (N:Nat) (a0:ae) (r:Bool) (h:uQ N a0=some r):Con prog 56 [] true [.agg (ae.row a0)] (vB r):=by
 refine fk (G:=(Pc N)) func56 (gc 21 (fB N) (gc 28 (Er N) gn)) ?_;simp only [f56];unfold uQ at h;refine z0 ?_;refine z0 ?_;refine z0 ?_;refine aQ (gG fun hreal2=>?_);have hl1:=hreal2.lenT 7 (by decide) (by simp only [go_sem,seval]; rfl);rw [cy] at hl1;refine pw (fun (v3:Nat) (b:List Int)=>⟨tab 43 (af (af (af (af au 1 (pF 1)) 3 (.pal 34 [] 0 b.length none)) 8 (vI (a0.Txns.length:Int))) 9 (vI (v3:Int))),(upd (upd RZ 1 (vA 3 (ae.row a0))) 34 (sO 1 (b.map (ay .i64))))⟩) [] h ?_ ?_
 ·refine aV.trans (lQ 3 34 1 (by simp only [go_sem,seval]) (by simp only [go_sem,seval])) ?_;refine wr ?_ ?_<;>repeat' first|rfl|constructor|simp only [go_sem,seval,nz,cX,nF,nG]
 rintro v3 l2 _ h -;rcases (jr a0.Txns.length v3).symm with ⟨hi3',hd6⟩|⟨hi3',hd6⟩
 ·rw [hd6] at h;simp only [lv] at h;refine z1 hi3' ?_;refine cf ?_;refine z0 ?_;exact e0 h
 rw [hd6] at h;simp only [lv] at h;have hw5:=eA hi3' hl1;refine z1 hi3' ?_;refine ct ?_;refine z0 ?_;refine lT 12 (fun (v9:Nat) (b:List Int)=>⟨tab 43 (af (af (af (af (af (af (af au 1 (pF 1)) 3 (.pal 34 [] 0 b.length none)) 8 (vI (a0.Txns.length:Int))) 9 (vI (v3:Int))) 12 (sF 11 (a0.Txns.map Txn.row))) 13 (vI (a0.Txns.length:Int))) 14 (vI (v9:Int))),(upd (upd RZ 1 (vA 3 (ae.row a0))) 34 (sO 1 (b.map (ay .i64))))⟩) l2 h ?_ ?_ (h0:=wF (k2 hi3' hw5))
 ·rintro v9 l8 hi9' h;simp only [jA] at h;refine z1 hi9' ?_;refine cf ?_;refine z1 hw5 ?_;refine ⟨hi3',l8,?_,h⟩;exact wF (k3 hi3' hw5 hi9')
 rintro v9 l8 x12 hi9' hx10 hw11 h;simp only [jA] at h;refine z1 hi9' ?_;refine ct ?_;refine z1 (k2 hx10 hi9') ?_;apply aR (fun (c3:Bool)=>⟨tab 43 (af (af (af (af (af (af (af (af (af au 1 (pF 1)) 3 (.pal 34 [] 0 l8.length none)) 5 (pF 5)) 8 (vI (a0.Txns.length:Int))) 9 (vI (v3:Int))) 12 (sF 11 (a0.Txns.map Txn.row))) 13 (vI (a0.Txns.length:Int))) 14 (vI (v9:Int))) 29 (vB c3)),(upd (upd (upd RZ 1 (vA 3 (ae.row a0))) 5 (vA 11 (Txn.row x12))) 34 (sO 1 (l8.map (ay .i64))))⟩)
 ·intro hJ13;obtain ⟨r4,hr14,h⟩:=bI h;refine iBs h (fun hc15 h=>?_) fun hc15 h=>?_
  ·obtain ⟨r5,hr16,h⟩:=bI h;refine z1 (k3 hr14 hc15 hr16) ?_;refine hJ13 _ r5 ?_ h;exact wF (k5 hi3' hw5 hx10 hi9' (k4 hw11 hr14 hc15 hr16))
  refine z1 (k2 hr14 hc15) ?_;refine hJ13 _ false ?_ h;exact wF (k5 hi3' hw5 hx10 hi9' (k3 hw11 hr14 hc15))
 intro c3 h;unfold su at h;refine cBs h (fun hc17 h=>?_) fun hc17 h=>?_
 ·refine z1 (k2 hw11 hc17) ?_;refine ⟨hi9',l8,?_,h⟩;exact wF (k5 hi3' hw5 hx10 hi9' (k2 hw11 hc17))
 obtain ⟨ha18,h⟩:=iT h;simp only [cC,cW,cS,Nat.reduceAdd] at ha18;refine z1 (k2 hc17 ha18) ?_;refine z1 hw11 ?_;refine ⟨hi9',(l8++[x12.ID]),?_,h⟩;refine wr ?_ ?_<;>repeat' first|rfl|constructor|simp only [go_sem,seval]
@[go_sem] def FM (N:Nat):FnS:=⟨[],true,fn1 ae.decA fun q0=>(uQ N q0).map fun r=>vB r,false⟩
def Ka (N:Nat):aA prog 56 (FM N):=om1 (Pl N)
@[go_sem] def SB (N d f:Nat):Option FnS:=aw [(4,52,DC N),(7,53,CI N),(11,54,BT N),(15,55,Ad N),(19,56,FM N)] d f
def Ta (N:Nat) (a0:ae) (r:Bool) (h:jb N a0=some r):Con prog 23 [] true [.agg (ae.row a0)] (vB r):=by
 refine fk (G:=(SB N)) func23 (gc 4 (Ic N) (gc 7 (Gn N) (gc 11 (FA N) (gc 15 (Ec N) (gc 19 (Ka N) gn))))) ?_;simp only [f23];unfold jb at h;refine z0 ?_;refine aL ?_;obtain ⟨r1,hr1,h⟩:=bI h;refine iBs h (fun hc2 h=>?_) fun hc2 h=>?_
 ·refine z1 (k2 hr1 hc2) ?_;exact e0 h
 obtain ⟨r2,hr3,h⟩:=bI h;refine iBs h (fun hc4 h=>?_) fun hc4 h=>?_
 ·refine z1 (k4 hr1 hc2 hr3 hc4) ?_;exact e0 h
 obtain ⟨r3,hr5,h⟩:=bI h;refine iBs h (fun hc6 h=>?_) fun hc6 h=>?_
 ·refine z1 (k5 hr1 hc2 hr3 hc4 (k2 hr5 hc6)) ?_;exact e0 h
 obtain ⟨r4,hr7,h⟩:=bI h;refine iB h (fun hc8 h=>?_) fun hc8 h=>?_
 ·obtain ⟨r5,hr9,h⟩:=bI h;refine z1 (k5 hr1 hc2 hr3 hc4 (k5 hr5 hc6 hr7 hc8 hr9)) ?_;exact e0 h
 refine z1 (k5 hr1 hc2 hr3 hc4 (k4 hr5 hc6 hr7 hc8)) ?_;exact e0 h
@[go_sem] def j7 (N:Nat):FnS:=⟨[],true,fn1 ae.decA fun q0=>(jb N q0).map fun r=>vB r,false⟩
def jd (N:Nat):aA prog 23 (j7 N):=om1 (Ta N)
def FN (N:Nat) (a0:List Txn) (r:List Txn) (h:iF N a0=some r):Con prog 130 [] false [.sl false (some false) 11 none (a0.map Txn.row)] (sO 11 (r.map Txn.row)):=by
 refine fk (G:=(aw [])) func130 gn ?_;simp only [f130];unfold iF at h;refine z0 ?_;refine z0 ?_;refine cf ?_;refine aU (pp (aL ?_));obtain ⟨ha1,h⟩:=pt h;simp only [Nat.reduceAdd] at ha1;refine z1 ha1 ?_;exact f0 h
def EX (N:Nat)  (r:List Txn) (h:iF N []=some r):Con prog 130 [] false [.val (.slice none 0 0)] (sO 11 (r.map Txn.row)):=by
 refine fk (G:=(aw [])) func130 gn ?_;simp only [f130];unfold iF at h;refine z0 ?_;refine z0 ?_;refine ct ?_;refine z0 ?_;refine fa (pp ?_);obtain rfl:r=[]:=by simpa [apn] using h.symm
 simp only [go_sem,seval];exact ⟨_,rfl,gO.h⟩
def IE (N:Nat) (a0:List Txn) (r:List Txn) (h:iF N a0=some r):Con prog 130 [] false [sF 11 (a0.map Txn.row)] (sO 11 (r.map Txn.row)):=
 BE (fun e=>by obtain rfl:a0=[]:=xH.1 e; exact EX N r h) (FN N a0 r h)
@[go_sem] def zC (N:Nat):FnS:=⟨[],false,fn1 (aJ 11 Txn.dec) fun q0=>(iF N q0).map fun r=>sO 11 (r.map Txn.row),false⟩
def D6 (N:Nat):aA prog 130 (zC N):=om1 (IE N)
def Fj (N:Nat) (a0:List ai) (r:List ai) (h:eL N a0=some r):Con prog 131 [] false [.sl false (some false) 4 none (a0.map ai.row)] (sO 4 (r.map ai.row)):=by
 refine fk (G:=(aw [])) func131 gn ?_;simp only [f131];unfold eL at h;refine z0 ?_;refine z0 ?_;refine cf ?_;refine aU (pp (aL ?_));obtain ⟨ha1,h⟩:=pt h;simp only [Nat.reduceAdd] at ha1;refine z1 ha1 ?_;exact f0 h
def D8 (N:Nat)  (r:List ai) (h:eL N []=some r):Con prog 131 [] false [.val (.slice none 0 0)] (sO 4 (r.map ai.row)):=by
 refine fk (G:=(aw [])) func131 gn ?_;simp only [f131];unfold eL at h;refine z0 ?_;refine z0 ?_;refine ct ?_;refine z0 ?_;refine fa (pp ?_);obtain rfl:r=[]:=by simpa [apn] using h.symm
 simp only [go_sem,seval];exact ⟨_,rfl,gO.h⟩
def H7 (N:Nat) (a0:List ai) (r:List ai) (h:eL N a0=some r):Con prog 131 [] false [sF 4 (a0.map ai.row)] (sO 4 (r.map ai.row)):=
 BE (fun e=>by obtain rfl:a0=[]:=xH.1 e; exact D8 N r h) (Fj N a0 r h)
@[go_sem] def sv (N:Nat):FnS:=⟨[],false,fn1 (aJ 4 ai.dec) fun q0=>(eL N q0).map fun r=>sO 4 (r.map ai.row),false⟩
def vv (N:Nat):aA prog 131 (sv N):=om1 (H7 N)
def AD (N:Nat) (a0:List aa) (r:List aa) (h:dU N a0=some r):Con prog 132 [] false [.sl false (some false) 3 none (a0.map aa.row)] (sO 3 (r.map aa.row)):=by
 refine fk (G:=(aw [])) func132 gn ?_;simp only [f132];unfold dU at h;refine z0 ?_;refine z0 ?_;refine cf ?_;refine aU (pp (aL ?_));obtain ⟨ha1,h⟩:=pt h;simp only [Nat.reduceAdd] at ha1;refine z1 ha1 ?_;exact f0 h
def Aj (N:Nat)  (r:List aa) (h:dU N []=some r):Con prog 132 [] false [.val (.slice none 0 0)] (sO 3 (r.map aa.row)):=by
 refine fk (G:=(aw [])) func132 gn ?_;simp only [f132];unfold dU at h;refine z0 ?_;refine z0 ?_;refine ct ?_;refine z0 ?_;refine fa (pp ?_);obtain rfl:r=[]:=by simpa [apn] using h.symm
 simp only [go_sem,seval];exact ⟨_,rfl,gO.h⟩
def CJ (N:Nat) (a0:List aa) (r:List aa) (h:dU N a0=some r):Con prog 132 [] false [sF 3 (a0.map aa.row)] (sO 3 (r.map aa.row)):=
 BE (fun e=>by obtain rfl:a0=[]:=xH.1 e; exact Aj N r h) (AD N a0 r h)
@[go_sem] def tl (N:Nat):FnS:=⟨[],false,fn1 (aJ 3 aa.dec) fun q0=>(dU N q0).map fun r=>sO 3 (r.map aa.row),false⟩
def Aa (N:Nat):aA prog 132 (tl N):=om1 (CJ N)
def B6 (N:Nat) (a0:List ah) (r:List ah) (h:ey N a0=some r):Con prog 100 [] false [.sl false (some false) 4 none (a0.map ah.row)] (sO 4 (r.map ah.row)):=by
 refine fk (G:=(aw [])) func100 gn ?_;simp only [f100];unfold ey at h;refine z0 ?_;refine z0 ?_;refine cf ?_;refine aU (pp (aL ?_));obtain ⟨ha1,h⟩:=pt h;simp only [Nat.reduceAdd] at ha1;refine z1 ha1 ?_;exact f0 h
def AW (N:Nat)  (r:List ah) (h:ey N []=some r):Con prog 100 [] false [.val (.slice none 0 0)] (sO 4 (r.map ah.row)):=by
 refine fk (G:=(aw [])) func100 gn ?_;simp only [f100];unfold ey at h;refine z0 ?_;refine z0 ?_;refine ct ?_;refine z0 ?_;refine fa (pp ?_);obtain rfl:r=[]:=by simpa [apn] using h.symm
 simp only [go_sem,seval];exact ⟨_,rfl,gO.h⟩
def DL (N:Nat) (a0:List ah) (r:List ah) (h:ey N a0=some r):Con prog 100 [] false [sF 4 (a0.map ah.row)] (sO 4 (r.map ah.row)):=
 BE (fun e=>by obtain rfl:a0=[]:=xH.1 e; exact AW N r h) (B6 N a0 r h)
@[go_sem] def uD (N:Nat):FnS:=⟨[],false,fn1 (aJ 4 ah.dec) fun q0=>(ey N q0).map fun r=>sO 4 (r.map ah.row),false⟩
def Ak (N:Nat):aA prog 100 (uD N):=om1 (DL N)
def D4 (N:Nat) (a0:List Value) (r:List Value) (h:gf N a0=some r):Con prog 139 [] false [.sl false (some false) 5 none (a0.map Value.row)] (sO 5 (r.map Value.row)):=by
 refine fk (G:=(aw [])) func139 gn ?_;simp only [f139];unfold gf at h;refine z0 ?_;refine z0 ?_;refine cf ?_;refine aU (pp (aL ?_));obtain ⟨ha1,h⟩:=pt h;simp only [Nat.reduceAdd] at ha1;refine z1 ha1 ?_;exact f0 h
def DF (N:Nat)  (r:List Value) (h:gf N []=some r):Con prog 139 [] false [.val (.slice none 0 0)] (sO 5 (r.map Value.row)):=by
 refine fk (G:=(aw [])) func139 gn ?_;simp only [f139];unfold gf at h;refine z0 ?_;refine z0 ?_;refine ct ?_;refine z0 ?_;refine fa (pp ?_);obtain rfl:r=[]:=by simpa [apn] using h.symm
 simp only [go_sem,seval];exact ⟨_,rfl,gO.h⟩
def Gy (N:Nat) (a0:List Value) (r:List Value) (h:gf N a0=some r):Con prog 139 [] false [sF 5 (a0.map Value.row)] (sO 5 (r.map Value.row)):=
 BE (fun e=>by obtain rfl:a0=[]:=xH.1 e; exact DF N r h) (D4 N a0 r h)
@[go_sem] def yu (N:Nat):FnS:=⟨[],false,fn1 (aJ 5 Value.dec) fun q0=>(gf N q0).map fun r=>sO 5 (r.map Value.row),false⟩
def C0 (N:Nat):aA prog 139 (yu N):=om1 (Gy N)
def FV (N:Nat) (a0:List Int) (r:List Int) (h:dT N a0=some r):Con prog 133 [] true [.sl false (some false) 1 none (a0.map (ay .i64))] (sO 1 (r.map (ay .i64))):=by
 refine fk (G:=(aw [])) func133 gn ?_;simp only [f133];unfold dT at h;refine z0 ?_;refine z0 ?_;refine cf ?_;refine aU (pp (aL ?_));obtain ⟨ha1,h⟩:=pt h;simp only [Nat.reduceAdd] at ha1;refine z1 ha1 ?_;exact e0 h
def Fb (N:Nat)  (r:List Int) (h:dT N []=some r):Con prog 133 [] true [.val (.slice none 0 0)] (sO 1 (r.map (ay .i64))):=by
 refine fk (G:=(aw [])) func133 gn ?_;simp only [f133];unfold dT at h;refine z0 ?_;refine z0 ?_;refine ct ?_;refine z0 ?_;refine fa (pp ?_);obtain rfl:r=[]:=by simpa [apn] using h.symm
 simp only [go_sem,seval];exact ⟨_,rfl,gO.h,qJ.h⟩
def BU (N:Nat) (a0:List Int) (r:List Int) (h:dT N a0=some r):Con prog 133 [] true [sF 1 (a0.map (ay .i64))] (sO 1 (r.map (ay .i64))):=
 BE (fun e=>by obtain rfl:a0=[]:=xH.1 e; exact Fb N r h) (FV N a0 r h)
@[go_sem] def As (N:Nat):FnS:=⟨[],true,fn1 (aJ 1 (dp (aG .i64))) fun q0=>(dT N q0).map fun r=>sF 1 (r.map (ay .i64)),false⟩
def E4 (N:Nat):aA prog 133 (As N):=om1 fun q0 r h=>rs (BU N q0 r h)
@[go_sem] def tB (N:Nat):FnS:=⟨[],true,fn1 (aJ 1 (dp (aG .i64))) fun q0=>(dT N q0).map fun r=>sO 1 (r.map (ay .i64)),false⟩
def wP (N:Nat):aA prog 133 (tB N):=om1 (BU N)
def DN (N:Nat) (a0:List ByteArray) (r:List ByteArray) (h:fJ N a0=some r):Con prog 136 [] true [.sl false (some false) 1 none (a0.map dB)] (sO 1 (r.map dB)):=by
 refine fk (G:=(aw [])) func136 gn ?_;simp only [f136];unfold fJ at h;refine z0 ?_;refine z0 ?_;refine cf ?_;refine aU (pp (aL ?_));obtain ⟨ha1,h⟩:=pt h;simp only [Nat.reduceAdd] at ha1;refine z1 ha1 ?_;exact e0 h
def CN (N:Nat)  (r:List ByteArray) (h:fJ N []=some r):Con prog 136 [] true [.val (.slice none 0 0)] (sO 1 (r.map dB)):=by
 refine fk (G:=(aw [])) func136 gn ?_;simp only [f136];unfold fJ at h;refine z0 ?_;refine z0 ?_;refine ct ?_;refine z0 ?_;refine fa (pp ?_);obtain rfl:r=[]:=by simpa [apn] using h.symm
 simp only [go_sem,seval];exact ⟨_,rfl,gO.h,qJ.h⟩
def FK (N:Nat) (a0:List ByteArray) (r:List ByteArray) (h:fJ N a0=some r):Con prog 136 [] true [sF 1 (a0.map dB)] (sO 1 (r.map dB)):=
 BE (fun e=>by obtain rfl:a0=[]:=xH.1 e; exact CN N r h) (DN N a0 r h)
@[go_sem] def wO (N:Nat):FnS:=⟨[],true,fn1 (aJ 1 (dp bR)) fun q0=>(fJ N q0).map fun r=>sO 1 (r.map dB),false⟩
def Cl (N:Nat):aA prog 136 (wO N):=om1 (FK N)
@[go_sem] def Lb (N d f:Nat):Option FnS:=aw [(5,133,tB N),(8,136,wO N)] d f
def DB (N:Nat) (a0:Value) (r:Value) (h:gI N a0=some r):Con prog 63 [] true [.agg (Value.row a0)] (.agg [vI r.Kind,vI r.N,vS r.S,sO 1 (r.I.map (ay .i64)),sO 1 (r.L.map dB)]):=by
 refine fk (G:=(Lb N)) func63 (gc 5 (wP N) (gc 8 (Cl N) gn)) ?_;simp only [f63];unfold gI at h;refine z0 ?_;obtain ⟨r1,hr1,h⟩:=bI h;obtain ⟨r2,hr2,h⟩:=bI h;refine d1 (k2 hr1 hr2) ?_;refine z0 ?_;exact e0 h
@[go_sem] def sg (N:Nat):FnS:=⟨[],true,fn1 Value.decA fun q0=>(gI N q0).map fun r=>.agg (Value.row r),false⟩
def tY (N:Nat):aA prog 63 (sg N):=om1 fun q0 r h=>rs (DB N q0 r h)
@[go_sem] def BK (N:Nat):FnS:=⟨[],true,fn1 Value.decA fun q0=>(gI N q0).map fun r=>.agg [vI r.Kind,vI r.N,vS r.S,sO 1 (r.I.map (ay .i64)),sO 1 (r.L.map dB)],false⟩
def FO (N:Nat):aA prog 63 (BK N):=om1 (DB N)
@[go_sem] def Ke (N d f:Nat):Option FnS:=aw [(6,139,yu N),(18,63,sg N)] d f
def CD (N:Nat) (a0:List Value) (r:List Value) (h:eD N a0=some r):Con prog 67 [] false [sF 5 (a0.map Value.row)] (sO 5 (r.map Value.row)):=by
 refine fk (G:=(Ke N)) func67 (gc 6 (C0 N) (gc 18 (tY N) gn)) ?_;simp only [f67];unfold eD at h;refine z0 ?_;obtain ⟨r1,hr1,h⟩:=bI h;refine z1 hr1 ?_;refine z0 ?_;refine aQ (gG fun hreal3=>?_);have hl2:=hreal3.lenX 6 (by simp only [go_sem,seval]; rfl);rw [cy] at hl2;refine pw (fun (v4:Nat) (b:List Value)=>⟨tab 22 (af (af (af au 3 (.pal 6 [] 0 b.length none)) 8 (vI (r1.length:Int))) 9 (vI (v4:Int))),(upd RZ 6 (sO 5 (b.map Value.row)))⟩) r1 h ?_ ?_
 ·exact wF hr1
 rintro v4 l3 _ h -;rcases (jr r1.length v4).symm with ⟨hi4',hd7⟩|⟨hi4',hd7⟩
 ·rw [hd7] at h;simp only [iH] at h;refine z1 hi4' ?_;refine cf ?_;refine z0 ?_;exact f0 h
 rw [hd7] at h;simp only [iH] at h;have hw6:=eA hi4' hl2;refine z1 hi4' ?_;refine ct ?_;refine z0 ?_;obtain ⟨x2,hb8,hx9,h⟩:=aH h;try simp only [cL] at hx9
 try simp only [nL,nM,true_and] at hb8
 obtain ⟨r3,hr10,h⟩:=bI h;have hx12:=kB (y:=r3) hx9;refine z1 (k4 hb8 hx9 hr10 (mm2 (row:=Value.row) (y:=r3) (rx:=[vI x2.Kind,vI x2.N,vS x2.S,sF 1 (x2.I.map (ay .i64)),sF 1 (x2.L.map dB)]) (ry:=[vI r3.Kind,vI r3.N,vS r3.S,sF 1 (r3.I.map (ay .i64)),sF 1 (r3.L.map dB)]) hx9 rfl rfl)) ?_;refine z1 hw6 ?_;refine ⟨hi4',(l3.set v4 r3),?_,h⟩;refine wr ?_ ?_<;>repeat' first|rfl|constructor|simp only [go_sem,seval,cX]
@[go_sem] def qO (N:Nat):FnS:=⟨[],false,fn1 (aJ 5 Value.dec) fun q0=>(eD N q0).map fun r=>sF 5 (r.map Value.row),false⟩
def sS (N:Nat):aA prog 67 (qO N):=om1 fun q0 r h=>rs (CD N q0 r h)
@[go_sem] def pQ (N:Nat):FnS:=⟨[],false,fn1 (aJ 5 Value.dec) fun q0=>(eD N q0).map fun r=>sO 5 (r.map Value.row),false⟩
def rv (N:Nat):aA prog 67 (pQ N):=om1 (CD N)
@[go_sem] def ML (N d f:Nat):Option FnS:=aw [(5,67,pQ N)] d f
def EB (N:Nat) (a0:ah) (r:ah) (h:kN N a0=some r):Con prog 57 [] false [.agg (ah.row a0)] (.agg [vS r.Target.Type_,vS r.Target.Key,vS r.Method,sO 5 (r.Args.map Value.row)]):=by
 refine fk (G:=(ML N)) func57 (gc 5 (rv N) gn) ?_;simp only [f57];unfold kN at h;refine z0 ?_;obtain ⟨r1,hr1,h⟩:=bI h;refine z1 hr1 ?_;refine z0 ?_;exact f0 h
@[go_sem] def Dx (N:Nat):FnS:=⟨[],false,fn1 ah.decA fun q0=>(kN N q0).map fun r=>.agg (ah.row r),false⟩
def Ik (N:Nat):aA prog 57 (Dx N):=om1 fun q0 r h=>rs (EB N q0 r h)
@[go_sem] def Ct (N:Nat):FnS:=⟨[],false,fn1 ah.decA fun q0=>(kN N q0).map fun r=>.agg [vS r.Target.Type_,vS r.Target.Key,vS r.Method,sO 5 (r.Args.map Value.row)],false⟩
def Hn (N:Nat):aA prog 57 (Ct N):=om1 (EB N)
@[go_sem] def NP (N d f:Nat):Option FnS:=aw [(6,100,uD N),(22,57,Dx N),(27,63,BK N)] d f
def Ft (N:Nat) (a0:Txn) (r:Txn) (h:kd N a0=some r):Con prog 41 [] false [.agg (Txn.row a0)] (.agg [vI r.ID,vI r.Born,vS r.Client,vI r.Seq,sO 4 (r.Calls.map ah.row),vI r.Done,vI r.Last.Kind,vI r.Last.N,vS r.Last.S,sO 1 (r.Last.I.map (ay .i64)),sO 1 (r.Last.L.map dB)]):=by
 refine fk (G:=(NP N)) func41 (gc 6 (Ak N) (gc 22 (Ik N) (gc 27 (FO N) gn))) ?_;simp only [f41];unfold kd at h;refine z0 ?_;obtain ⟨r1,hr1,h⟩:=bI h;refine z1 hr1 ?_;refine z0 ?_;refine aQ (gG fun hreal3=>?_);have hl2:=hreal3.cell 1 4 (by simp only [go_sem,seval]; rfl) rfl;rw [cy] at hl2;refine pw (fun (v4:Nat) (b:List ah)=>⟨tab 30 (af (af (af (af au 1 (pF 1)) 2 (pF 2)) 10 (vI (r1.length:Int))) 11 (vI (v4:Int))),(upd (upd RZ 1 (vA 11 [vI a0.ID,vI a0.Born,vS a0.Client,vI a0.Seq,sO 4 (b.map ah.row),vI a0.Done,vI a0.Last.Kind,vI a0.Last.N,vS a0.Last.S,sF 1 (a0.Last.I.map (ay .i64)),sF 1 (a0.Last.L.map dB)])) 2 (vA 11 [vI 0,vI 0,vS (⟨#[]⟩),vI 0,.val (.slice none 0 0),vI 0,vI 0,vI 0,vS (⟨#[]⟩),.val (.slice none 0 0),.val (.slice none 0 0)]))⟩) r1 h ?_ ?_
 ·exact wR
 rintro v4 l3 _ h -;rcases (jr r1.length v4).symm with ⟨hi4',hd7⟩|⟨hi4',hd7⟩
 ·rw [hd7] at h;simp only [j9] at h;refine z1 hi4' ?_;refine cf ?_;refine gr (pp ?_);unfold vc at h;obtain ⟨r12,hr13,h⟩:=bI h;refine z1 hr13 ?_;refine z0 ?_;exact f0 h
 rw [hd7] at h;simp only [j9] at h;have hw6:=eA hi4' hl2;refine z1 hi4' ?_;refine ct ?_;refine z0 ?_;obtain ⟨x10,hb8,hx9,h⟩:=aH h;try simp only [cL] at hx9
 try simp only [nL,nM,true_and] at hb8
 obtain ⟨r11,hr10,h⟩:=bI h;have hx12:=kB (y:=r11) hx9;refine d1 (k4 hb8 hx9 hr10 (mm2 (row:=ah.row) (y:=r11) (rx:=[vS x10.Target.Type_,vS x10.Target.Key,vS x10.Method,sF 5 (x10.Args.map Value.row)]) (ry:=[vS r11.Target.Type_,vS r11.Target.Key,vS r11.Method,sF 5 (r11.Args.map Value.row)]) hx9 rfl rfl)) ?_;refine z1 hw6 ?_;refine ⟨hi4',(l3.set v4 r11),?_,h⟩;exact wR
@[go_sem] def zV (N:Nat):FnS:=⟨[],false,fn1 Txn.decA fun q0=>(kd N q0).map fun r=>.agg (Txn.row r),false⟩
def BR (N:Nat):aA prog 41 (zV N):=om1 fun q0 r h=>rs (Ft N q0 r h)
@[go_sem] def DJ (N:Nat):FnS:=⟨[],false,fn1 Txn.decA fun q0=>(kd N q0).map fun r=>.agg [vI r.ID,vI r.Born,vS r.Client,vI r.Seq,sO 4 (r.Calls.map ah.row),vI r.Done,vI r.Last.Kind,vI r.Last.N,vS r.Last.S,sO 1 (r.Last.I.map (ay .i64)),sO 1 (r.Last.L.map dB)],false⟩
def Ia (N:Nat):aA prog 41 (DJ N):=om1 (Ft N)
def D7 (N:Nat) (a0:List al) (r:List al) (h:gg N a0=some r):Con prog 107 [] false [.sl false (some false) 3 none (a0.map al.row)] (sO 3 (r.map al.row)):=by
 refine fk (G:=(aw [])) func107 gn ?_;simp only [f107];unfold gg at h;refine z0 ?_;refine z0 ?_;refine cf ?_;refine aU (pp (aL ?_));obtain ⟨ha1,h⟩:=pt h;simp only [Nat.reduceAdd] at ha1;refine z1 ha1 ?_;exact f0 h
def DP (N:Nat)  (r:List al) (h:gg N []=some r):Con prog 107 [] false [.val (.slice none 0 0)] (sO 3 (r.map al.row)):=by
 refine fk (G:=(aw [])) func107 gn ?_;simp only [f107];unfold gg at h;refine z0 ?_;refine z0 ?_;refine ct ?_;refine z0 ?_;refine fa (pp ?_);obtain rfl:r=[]:=by simpa [apn] using h.symm
 simp only [go_sem,seval];exact ⟨_,rfl,gO.h⟩
def Hx (N:Nat) (a0:List al) (r:List al) (h:gg N a0=some r):Con prog 107 [] false [sF 3 (a0.map al.row)] (sO 3 (r.map al.row)):=
 BE (fun e=>by obtain rfl:a0=[]:=xH.1 e; exact DP N r h) (D7 N a0 r h)
@[go_sem] def yg (N:Nat):FnS:=⟨[],false,fn1 (aJ 3 al.dec) fun q0=>(gg N q0).map fun r=>sO 3 (r.map al.row),false⟩
def CR (N:Nat):aA prog 107 (yg N):=om1 (Hx N)
@[go_sem] def Kd (N d f:Nat):Option FnS:=aw [(6,107,yg N),(19,67,qO N)] d f
def Kq (N:Nat) (a0:List al) (r:List al) (h:ky N a0=some r):Con prog 47 [] false [sF 3 (a0.map al.row)] (sO 3 (r.map al.row)):=by
 refine fk (G:=(Kd N)) func47 (gc 6 (CR N) (gc 19 (sS N) gn)) ?_;simp only [f47];unfold ky at h;refine z0 ?_;obtain ⟨r1,hr1,h⟩:=bI h;refine z1 hr1 ?_;refine z0 ?_;refine aQ (gG fun hreal3=>?_);have hl2:=hreal3.lenX 6 (by simp only [go_sem,seval]; rfl);rw [cy] at hl2;refine pw (fun (v4:Nat) (b:List al)=>⟨tab 24 (af (af (af au 3 (.pal 6 [] 0 b.length none)) 8 (vI (r1.length:Int))) 9 (vI (v4:Int))),(upd RZ 6 (sO 3 (b.map al.row)))⟩) r1 h ?_ ?_
 ·exact wF hr1
 rintro v4 l3 _ h -;rcases (jr r1.length v4).symm with ⟨hi4',hd7⟩|⟨hi4',hd7⟩
 ·rw [hd7] at h;simp only [iA] at h;refine z1 hi4' ?_;refine cf ?_;refine z0 ?_;exact f0 h
 rw [hd7] at h;simp only [iA] at h;have hw6:=eA hi4' hl2;refine z1 hi4' ?_;refine ct ?_;refine z0 ?_;obtain ⟨x2,hb8,hx9,h⟩:=aH h;try simp only [cL] at hx9
 try simp only [nL,nM,true_and] at hb8
 obtain ⟨r3,hr10,h⟩:=bI h;have hx12:=kB (y:=(al.mk x2.Txn_ r3 x2.Prepared)) hx9;refine z1 (k4 hb8 hx9 hr10 (mm2 (row:=al.row) (y:=(al.mk x2.Txn_ r3 x2.Prepared)) (rx:=[vI x2.Txn_,sF 5 (x2.Fields.map Value.row),vB x2.Prepared]) (ry:=[vI x2.Txn_,sF 5 (r3.map Value.row),vB x2.Prepared]) hx9 rfl rfl)) ?_;refine z1 hw6 ?_;refine ⟨hi4',(l3.set v4 (al.mk x2.Txn_ r3 x2.Prepared)),?_,h⟩;refine wr ?_ ?_<;>repeat' first|rfl|constructor|simp only [go_sem,seval,cX]
@[go_sem] def uV (N:Nat):FnS:=⟨[],false,fn1 (aJ 3 al.dec) fun q0=>(ky N q0).map fun r=>sO 3 (r.map al.row),false⟩
def ya (N:Nat):aA prog 47 (uV N):=om1 (Kq N)
@[go_sem] def Sq (N d f:Nat):Option FnS:=aw [(9,130,zC N),(12,131,sv N),(15,132,tl N),(31,41,zV N),(49,133,As N),(68,47,uV N)] d f
def KD (N:Nat) (a0:ae) (r:ae) (h:kL N a0=some r):Con prog 59 [] false [.agg (ae.row a0)] (.agg [sO 11 (r.Txns.map Txn.row),sO 4 (r.Locks.map ai.row),sO 3 (r.Stacks.map aa.rowD)]):=by
 refine fk (G:=(Sq N)) func59 (gc 9 (D6 N) (gc 12 (vv N) (gc 15 (Aa N) (gc 31 (BR N) (gc 49 (E4 N) (gc 68 (ya N) gn)))))) ?_;simp only [f59];unfold kL at h;refine z0 ?_;obtain ⟨r1,hr1,h⟩:=bI h;obtain ⟨r2,hr2,h⟩:=bI h;obtain ⟨r3,hr3,h⟩:=bI h;refine d1 (k3 hr1 hr2 hr3) ?_;refine z0 ?_;refine aQ (gG fun hreal5=>?_);have hl4:=hreal5.cell 3 0 (by simp only [go_sem,seval]; rfl) rfl;rw [cy] at hl4;refine pw (fun (v6:Nat) (b:List Txn)=>⟨tab 73 (af (af (af (af au 2 (pF 2)) 3 (pF 3)) 19 (vI (r1.length:Int))) 20 (vI (v6:Int))),(upd (upd RZ 2 (vA 3 [.val (.slice none 0 0),.val (.slice none 0 0),.val (.slice none 0 0)])) 3 (vA 3 [sO 11 (b.map Txn.row),sO 4 (r2.map ai.row),sO 3 (r3.map aa.row)]))⟩) r1 h ?_ ?_
 ·exact wR
 rintro v6 l5 _ h -;rcases (jr r1.length v6) with ⟨hi6',hd9⟩|⟨hi6',hd9⟩
 ·rw [hd9] at h;simp only [pG] at h;have hw8:=eA hi6' hl4;refine z1 hi6' ?_;refine ct ?_;refine z0 ?_;obtain ⟨x12,hb10,hx11,h⟩:=aH h;try simp only [cL] at hx11
  try simp only [nL,nM,true_and] at hb10
  obtain ⟨r13,hr12,h⟩:=bI h;have hx14:=kB (y:=r13) hx11;refine d1 (k4 hb10 hx11 hr12 (mm2 (row:=Txn.row) (y:=r13) (rx:=[vI x12.ID,vI x12.Born,vS x12.Client,vI x12.Seq,sF 4 (x12.Calls.map ah.row),vI x12.Done,vI x12.Last.Kind,vI x12.Last.N,vS x12.Last.S,sF 1 (x12.Last.I.map (ay .i64)),sF 1 (x12.Last.L.map dB)]) (ry:=[vI r13.ID,vI r13.Born,vS r13.Client,vI r13.Seq,sF 4 (r13.Calls.map ah.row),vI r13.Done,vI r13.Last.Kind,vI r13.Last.N,vS r13.Last.S,sF 1 (r13.Last.I.map (ay .i64)),sF 1 (r13.Last.L.map dB)]) hx11 rfl rfl)) ?_;refine z1 hw8 ?_;refine ⟨hi6',(l5.set v6 r13),?_,h⟩;exact wR
 rw [hd9] at h;simp only [pG] at h;refine z1 hi6' ?_;refine cf ?_;unfold zO at h;refine z0 ?_;refine aQ (gG fun hreal16=>?_);have hl15:=hreal16.cell 3 1 (by simp only [go_sem,seval]; rfl) rfl;rw [cy] at hl15;refine pw (fun (v16:Nat) (b:List ai)=>⟨tab 73 (af (af (af (af au 2 (pF 2)) 3 (pF 3)) 36 (vI (r2.length:Int))) 37 (vI (v16:Int))),(upd (upd RZ 2 (vA 3 [.val (.slice none 0 0),.val (.slice none 0 0),.val (.slice none 0 0)])) 3 (vA 3 [sO 11 (l5.map Txn.row),sO 4 (b.map ai.row),sO 3 (r3.map aa.row)]))⟩) r2 h ?_ ?_
 ·exact wR
 rintro v16 l15 _ h -;rcases (jr r2.length v16) with ⟨hi17',hd20⟩|⟨hi17',hd20⟩
 ·rw [hd20] at h;simp only [oX] at h;have hw19:=eA hi17' hl15;refine z1 hi17' ?_;refine ct ?_;refine z0 ?_;obtain ⟨x22,hb21,hx22,h⟩:=aH h;try simp only [cL] at hx22
  try simp only [nL,nM,true_and] at hb21
  obtain ⟨r23,hr23,h⟩:=bI h;have hx25:=kB (y:=(ai.mk x22.Actor x22.Owner r23)) hx22;refine d1 (k4 hb21 hx22 hr23 (mm2 (row:=ai.row) (y:=(ai.mk x22.Actor x22.Owner r23)) (rx:=[vS x22.Actor.Type_,vS x22.Actor.Key,vI x22.Owner,sF 1 (x22.Waiters.map (ay .i64))]) (ry:=[vS x22.Actor.Type_,vS x22.Actor.Key,vI x22.Owner,sF 1 (r23.map (ay .i64))]) hx22 rfl rfl)) ?_;refine z1 hw19 ?_;refine ⟨hi17',(l15.set v16 (ai.mk x22.Actor x22.Owner r23)),?_,h⟩;exact wR
 rw [hd20] at h;simp only [oX] at h;refine z1 hi17' ?_;refine cf ?_;unfold Ac at h;refine z0 ?_;refine aQ (gG fun hreal27=>?_);have hl26:=hreal27.cell 3 2 (by simp only [go_sem,seval]; rfl) rfl;rw [cy] at hl26;refine pw (fun (v26:Nat) (b:List aa)=>⟨tab 73 (af (af (af (af au 2 (pF 2)) 3 (pF 3)) 55 (vI (r3.length:Int))) 56 (vI (v26:Int))),(upd (upd RZ 2 (vA 3 [.val (.slice none 0 0),.val (.slice none 0 0),.val (.slice none 0 0)])) 3 (vA 3 [sO 11 (l5.map Txn.row),sO 4 (l15.map ai.row),sO 3 (mxR aa.rowD aa.row v26 b)]))⟩) r3 h ?_ ?_
 ·exact wR
 rintro v26 l25 _ h -;rcases (jr r3.length v26).symm with ⟨hi28',hd31⟩|⟨hi28',hd31⟩
 ·rw [hd31] at h;simp only [pk] at h;obtain ⟨hg35,h⟩:=OS h;refine z1 (k2 hi28' (mi4 hg35)) ?_;refine cf ?_;refine z0 ?_;exact f0 h
 rw [hd31] at h;simp only [pk] at h;have hw30:=eA hi28' hl26;refine z1 hi28' ?_;refine ct ?_;refine z0 ?_;obtain ⟨x24,hb32,hx33,h⟩:=aH h;try simp only [cL] at hx33
 try simp only [nL,nM,true_and] at hb32
 obtain ⟨r25,hr34,h⟩:=bI h;refine lR fun Z hZ=>?_;simp only [go_sem,seval,hb32,Nv (f:=aa.rowD) (g:=aa.row) hx33,F9,hr34,Wj (f:=aa.rowD) (g:=aa.row) (rx:=[vS x24.Actor.Type_,vS x24.Actor.Key,sF 3 (x24.Layers.map al.row)]) hx33 rfl rfl];repeat with_reducible refine gl (by kernel_rfl) ?_
 refine hZ _ (by kernel_rfl) (z1 hw30 ?_);refine ⟨hi28',(l25.set v26 (aa.mk x24.Actor r25)),?_,h⟩;refine aV.trans (zn (n:=3) (c':=vA 3 [sO 11 (l5.map Txn.row),sO 4 (l15.map ai.row),sO 3 (mxR aa.rowD aa.row (v26+1) (l25.set v26 (aa.mk x24.Actor r25)))]) (by simp only [go_sem,seval]; rfl) (by first|(simp only [<-Lp (f:=_) (g:=_) hx33 (aa.mk x24.Actor r25)]; done)|(rw [<-Lp (f:=_) (g:=_) hx33 (aa.mk x24.Actor r25)]; rfl))) ?_;exact wR
@[go_sem] def Jy (N:Nat):FnS:=⟨[],false,fn1 ae.decA fun q0=>(kL N q0).map fun r=>.agg (ae.row r),false⟩
def Mj (N:Nat):aA prog 59 (Jy N):=om1 fun q0 r h=>rs (KD N q0 r h)
@[go_sem] def ql (N:Nat):FnS:=⟨[],false,fn1 ae.decA fun q0=>(kL N q0).map fun r=>.agg [sO 11 (r.Txns.map Txn.row),sO 4 (r.Locks.map ai.row),sO 3 (r.Stacks.map aa.rowD)],false⟩
def ph (N:Nat):aA prog 59 (ql N):=om1 (KD N)
@[go_sem] def Se (N d f:Nat):Option FnS:=aw [(24,23,j7 N),(27,98,zZ N),(56,59,ql N),(60,41,zV N)] d f
def SL (N:Nat) (a0:ae) (a1:Int) (a2:Int) (a3:ByteArray) (a4:Int) (a5:List ah) (r:ae × Int) (h:jT N a0 a1 a2 a3 a4 a5=some r):Con prog 38 [] false [.agg (ae.row a0),vI a1,vI a2,vS a3,vI a4,sF 4 (a5.map ah.row)] (.tup [.agg [sO 11 (r.1.Txns.map Txn.row),sO 4 (r.1.Locks.map ai.row),sO 3 (r.1.Stacks.map aa.row)],vI r.2]):=by
 refine fk (G:=(Se N)) func38 (gc 24 (jd N) (gc 27 (BX N) (gc 56 (ph N) (gc 60 (BR N) gn)))) ?_;simp only [f38];unfold jT at h;refine z0 ?_;refine z0 ?_;refine aL (aQ ?_);apply aR (fun (c10:Bool)=>⟨tab 65 (af (af (af (af (af au 1 (vI a1)) 6 (pF 6)) 12 (pF 12)) 14 (pF 14)) 22 (vB c10)),(upd (upd (upd RZ 6 (vA 3 (ae.row a0))) 12 (vA 3 [.val (.slice none 0 0),.val (.slice none 0 0),.val (.slice none 0 0)])) 14 (vA 11 [vI a1,vI a2,vS a3,vI a4,sF 4 (a5.map ah.row),vI 0,vI 0,vI 0,vS (⟨#[]⟩),.val (.slice none 0 0),.val (.slice none 0 0)]))⟩)
 ·intro hJ1;obtain ⟨r11,hr2,h⟩:=bI h;refine z1 hr2 ?_;refine cM h (fun hc3 h=>?_) fun hc3 h=>?_
  ·refine aU (pp (hJ1 _ true ?_ h));exact wF hc3
  obtain ⟨r12,hr4,h⟩:=bI h;refine z1 (k2 hc3 hr4) ?_;exact hJ1 _ (!r12) (wF (k3 hr2 hc3 hr4)) h
 intro c10 h;unfold z7 at h;refine cB h (fun hc5 h=>?_) fun hc5 h=>?_
 ·refine z1 hc5 ?_;exact f0 h
 apply aR (fun (c14:Bool)=>⟨tab 65 (af (af (af (af au 6 (pF 6)) 12 (pF 12)) 14 (pF 14)) 30 (vB c14)),(upd (upd (upd RZ 6 (vA 3 (ae.row a0))) 12 (vA 3 [.val (.slice none 0 0),.val (.slice none 0 0),.val (.slice none 0 0)])) 14 (vA 11 [vI a1,vI a2,vS a3,vI a4,sF 4 (a5.map ah.row),vI 0,vI 0,vI 0,vS (⟨#[]⟩),.val (.slice none 0 0),.val (.slice none 0 0)]))⟩)
 ·intro hJ6;refine iD h (fun hc7 hc7d h=>?_) fun hc7 hc7d h=>?_
  ·obtain ⟨x15,hb8,hx9,h⟩:=aH h;refine z1 (k4 hc5 hc7d hb8 hx9) ?_;exact hJ6 _ (decide (a1<=x15.ID)) (wF (k4 hc5 hc7d hb8 hx9)) h
  refine z1 (k2 hc5 hc7d) ?_;exact hJ6 _ false (wF (k2 hc5 hc7d)) h
 intro c14 h;unfold pn at h;refine cB h (fun hc10 h=>?_) fun hc10 h=>?_
 ·refine z1 hc10 ?_;exact f0 h
 refine z1 hc10 ?_;refine cD h (fun hc11 hc11d h=>?_) fun hc11 hc11d h=>?_
 ·refine z1 hc11d ?_;exact f0 h
 refine aU (pp ?_);unfold o7 at h;obtain ⟨r16,hr12,h⟩:=bI h;refine z1 (k2 hc11d hr12) ?_;obtain ⟨r17,hr13,h⟩:=bI h;obtain ⟨ha14,h⟩:=iT h;simp only [cC,cW,cS,Nat.reduceAdd] at ha14;refine d1 (k2 hr13 ha14) ?_;refine z0 ?_;exact f0 h
@[go_sem] def zR (N:Nat):FnS:=⟨[],false,fn6 ae.decA (aG .i64) (aG .i64) bR (aG .i64) (aJ 4 ah.dec) fun q0 q1 q2 q3 q4 q5=>(jT N q0 q1 q2 q3 q4 q5).map fun r=>.tup [.agg (ae.row r.1),vI r.2],false⟩
def zA (N:Nat):aA prog 38 (zR N):=om6 fun q0 q1 q2 q3 q4 q5 r h=>rs (SL N q0 q1 q2 q3 q4 q5 r h)
@[go_sem] def UH (N d f:Nat):Option FnS:=aw [(9,40,gE N),(52,57,Ct N)] d f
def TJ (N:Nat) (a0:ae) (a1:Int) (r:ah × Bool) (h:o8 N a0 a1=some r):Con prog 24 [] false [.agg (ae.row a0),vI a1] (.tup [.agg [vS r.1.Target.Type_,vS r.1.Target.Key,vS r.1.Method,sO 5 (r.1.Args.map Value.row)],vB r.2]):=by
 refine fk (G:=(UH N)) func24 (gc 9 (fc N) (gc 52 (Hn N) gn)) ?_;simp only [f24];unfold o8 at h;refine z0 ?_;obtain ⟨r1,hr1,h⟩:=bI h;refine z1 hr1 ?_;refine aL ?_;apply aR (fun (c6:Bool)=>⟨tab 53 (af (af (af (af au 2 (pF 2)) 4 (pF 4)) 6 (vI r1)) 36 (vB c6)),(upd (upd RZ 2 (vA 3 (ae.row a0))) 4 (vA 4 [vS (⟨#[]⟩),vS (⟨#[]⟩),vS (⟨#[]⟩),.val (.slice none 0 0)]))⟩)
 ·intro hJ2;refine iD h (fun hc3 hc3d h=>?_) fun hc3 hc3d h=>?_
  ·refine d1 hc3d ?_;exact hJ2 _ true wR h
  obtain ⟨x7,hb4,hx5,h⟩:=aH h;refine iD h (fun hc6 hc6d h=>?_) fun hc6 hc6d h=>?_
  ·refine d1 (k4 hc3d hb4 hx5 hc6d) ?_;exact hJ2 _ true wR h
  refine d1 (k4 hc3d hb4 hx5 hc6d) ?_;exact hJ2 _ (decide ((x7.Calls.length:Int)<=x7.Done)) wR h
 intro c6 h;unfold rr at h;refine cB h (fun hc7 h=>?_) fun hc7 h=>?_
 ·refine z1 hc7 ?_;exact f0 h
 refine aU (pp ?_);unfold w7 at h;obtain ⟨x8,hb8,hx9,h⟩:=aH h;obtain ⟨x9,hb10,hx11,h⟩:=aH h;obtain ⟨r10,hr12,h⟩:=bI h;refine d1 (k5 hc7 hb8 hx9 hb10 (k2 hx11 hr12)) ?_;exact f0 h
@[go_sem] def E2 (N:Nat):FnS:=⟨[],false,fn2 ae.decA (aG .i64) fun q0 q1=>(o8 N q0 q1).map fun r=>.tup [.agg (ah.row r.1),vB r.2],false⟩
def Gf (N:Nat):aA prog 24 (E2 N):=om2 fun q0 q1 r h=>rs (TJ N q0 q1 r h)
@[go_sem] def Pf (N d f:Nat):Option FnS:=aw [(6,131,sv N),(19,133,tB N)] d f
def HQ (N:Nat) (a0:List ai) (r:List ai) (h:fX N a0=some r):Con prog 117 [] false [sF 4 (a0.map ai.row)] (sO 4 (r.map ai.rowD)):=by
 refine fk (G:=(Pf N)) func117 (gc 6 (vv N) (gc 19 (wP N) gn)) ?_;simp only [f117];unfold fX at h;refine z0 ?_;obtain ⟨r1,hr1,h⟩:=bI h;refine z1 hr1 ?_;refine z0 ?_;refine aQ (gG fun hreal3=>?_);have hl2:=hreal3.lenX 6 (by simp only [go_sem,seval]; rfl);rw [cy] at hl2;refine pw (fun (v4:Nat) (b:List ai)=>⟨tab 24 (af (af (af au 3 (.pal 6 [] 0 b.length none)) 8 (vI (r1.length:Int))) 9 (vI (v4:Int))),(upd RZ 6 (sO 4 (mxR ai.rowD ai.row v4 b)))⟩) r1 h ?_ ?_
 ·exact wF hr1
 rintro v4 l3 _ h -;rcases (jr r1.length v4).symm with ⟨hi4',hd7⟩|⟨hi4',hd7⟩
 ·rw [hd7] at h;simp only [lJ] at h;obtain ⟨hg11,h⟩:=OS h;refine z1 (k2 hi4' (mi4 hg11)) ?_;refine cf ?_;refine z0 ?_;exact f0 h
 rw [hd7] at h;simp only [lJ] at h;have hw6:=eA hi4' hl2;refine z1 hi4' ?_;refine ct ?_;refine z0 ?_;obtain ⟨x2,hb8,hx9,h⟩:=aH h;try simp only [cL] at hx9
 try simp only [nL,nM,true_and] at hb8
 obtain ⟨r3,hr10,h⟩:=bI h;refine z1 (k4 hb8 (Nv (f:=ai.rowD) (g:=ai.row) hx9) hr10 (mi1 (f:=ai.rowD) (g:=ai.row) (rx:=[vS x2.Actor.Type_,vS x2.Actor.Key,vI x2.Owner,sF 1 (x2.Waiters.map (ay .i64))]) hx9 rfl)) ?_;refine z1 hw6 ?_;refine ⟨hi4',(l3.set v4 (ai.mk x2.Actor x2.Owner r3)),?_,h⟩;refine aV.trans (Us (n:=6) (ai.mk x2.Actor x2.Owner r3) hx9 (by simp only [go_sem,seval]; rfl) rfl rfl) ?_;refine wr ?_ ?_<;>repeat' first|rfl|constructor|simp only [go_sem,seval,nz,cX]
@[go_sem] def ke (N:Nat):FnS:=⟨[],false,fn1 (aJ 4 ai.dec) fun q0=>(fX N q0).map fun r=>sO 4 (r.map ai.row),false⟩
def jW (N:Nat):aA prog 117 (ke N):=om1 fun q0 r h=>rs (HQ N q0 r h)
@[go_sem] def zD (N:Nat):FnS:=⟨[],false,fn1 (aJ 4 ai.dec) fun q0=>(fX N q0).map fun r=>sO 4 (r.map ai.rowD),false⟩
def BQ (N:Nat):aA prog 117 (zD N):=om1 (HQ N)
def dO:FnS:={ own:=[true,true],pure:=false,fn:=fun _=>none,peek:=true }
theorem wW:dO.own=[true,true]:=rfl
theorem wo:dO.peek=true:=rfl
theorem BW:IC prog 195:=
 Oc (fn:=f195) (tS:=25) (tR:=4) (e:=100) (size:=4) func195 rfl rfl (by kernel_rfl) (by kernel_rfl) (by kernel_rfl) (by kernel_rfl)
def yy:aA prog 195 dO:=⟨(fun cs r h=>by simp [dO] at h),fun _=>BW⟩
def gD:Env:={ T:=eB prog,G:=fun d f=>if d=67/\f=195 then some dO else none }
theorem rF:gD.T=eB prog:=rfl
theorem EV (d:Nat):gD.F d=none:=rfl
theorem Fh (d f:Nat):gD.L d f=none:=rfl
theorem Fp:gD.G 67 195=some dO:=rfl
def Ea:GOk prog { T:=eB prog,G:=gD.G }:=by
 refine ⟨?_,fun _ _ _ h=>by cases h⟩;intro d f fs hfs;simp only [gD] at hfs;split at hfs
 ·rename_i hc; obtain ⟨rfl,rfl⟩:=hc; obtain rfl:=ng hfs; exact yy
 cases hfs
theorem F8:EJ prog 127 f127 f127.body.get! := ⟨func127,rfl,by decide,by kernel_rfl⟩
set_option maxHeartbeats 4000000 in
section
attribute [local go_sem] rF fZ C4 Option.map_some Nat.sub_zero Nat.le_refl dA ua List.isEmpty_nil
def Gg {α:Type} (row:α->List C) (ok:aF row) (l:List α) (i:Nat) (x:α) (k:Nat) (r:List α) (hr:r=l.take i++[x]++l.drop i) (hi:i<=l.length) (hsz:(l.length+1) * 64<=140737488355328) (hk1:l.length<=k) (hk2:k<=maxLen) :
  Con prog 127 [true,false,true] false [.sl true none 4 (some k) (l.map row),vI i,sO 4 ([x].map row)] (sO 4 (r.map row)):=by
 refine JZ (E:=gD) (zo prog _) Ea mix F8 (nb rfl) ?_;intro _;rw [vE (by simp)];rw [show gh [true,false,true] [C.sl true none 4 (some k) (l.map row),C.val (.int .i64 i),C.sl true none 4 none ([x].map row)]=(af (af (af au 0 (.pal 0 [] 0 l.length none)) 1 (vI i)) 2 (.pal 2 [] 0 1 none)) from by funext t; match t with|0=>simp [gh,iX,kr,af]|1=>rfl|2=>rfl|t+3=>rfl];rw [show R0 [true,false,true] [C.sl true none 4 (some k) (l.map row),C.val (.int .i64 i),C.sl true none 4 none ([x].map row)]=upd (upd RZ 0 (C.sl true none 4 (some k) (l.map row))) 2 (C.sl true none 4 none ([x].map row)) from by funext t; match t with|0=>rfl|1=>rfl|2=>rfl|t+3=>rfl];apply J5;simp only [f127,Option.get!];have hi1:(i:Int)<=(l.length:Int):=by omega
 have hi2:i<=l.length:=hi;have h10:(((1:Nat):Int)=0)=False:=by simp
 have hp:(row x).all Abs.plainCell=true:=ok.plain x;have hf:(row x).map C.frz=(row x):=ok.frz x;have hpD:(row x).all qz=true:=by have:=(aF.allD ok [x]); simpa using this
 have hw1:IntKind.i64.wrap ((l.length:Int)+((1:Nat):Int))=((l.length+1:Nat):Int):=by rw [lW (by omega) (by omega)]; rfl
 have hlt0:(l.take i).length=i:=by simp; omega
 have hes:(4 != 0)=true:=rfl;have hm1:min 1 (l.length+1 - i)=1:=by omega
 have hm2:min (l.length - i) (l.length+1 - (i+1))=l.length - i:=by omega
 have hm3:(l.drop i).take (l.length - i)=l.drop i:=ni (by simp);have hm4:i+1<=l.length+1:=by omega
 have hw2:IntKind.i64.wrap (((l.length+1:Nat):Int) - (i:Int))=((l.length+1 - i:Nat):Int):=by rw [lW (by omega) (by omega)]; omega
 have hw1b:IntKind.i64.wrap ((l.length:Int)+1)=((l.length+1:Nat):Int):=hw1;have hw3:IntKind.i64.wrap ((i:Int)+((1:Nat):Int))=((i+1:Nat):Int):=by rw [lW (by omega) (by omega)]; rfl
 have hw3b:IntKind.i64.wrap ((i:Int)+1)=((i+1:Nat):Int):=hw3;simp only [go_sem,seval,rF,hi2,cw,fZ,cx,ade];refine Ll rfl ?_;simp only [go_sem,seval,rF,ade];refine tH rfl (fun hc=>?_) (fun hc=>?_)
 ·have e:i=l.length:=by omega
  subst e;simp only [go_sem,seval,EV,hp,hf,aF.allD ok,acY,dQ,hsz];refine sM ok ?_;rw [hr];simp [ni]
 ·have hc1:decide ((i:Int)=(l.length:Int))=false:=decide_eq_false hc;have hlt:i < l.length:=by omega
  simp only [go_sem,seval,RG,tN,hw1b,hc1];refine tH rfl (fun hk=>?_) (fun hk=>?_)
  ·have hk1:decide (k < l.length+1)=true:=decide_eq_true hk;have hk2:k < i+(l.length+1 - i):=by omega
   have e1:i+(l.length+1 - i)=l.length+1:=by omega
   have hi3:(i:Int)<=((l.length+1:Nat):Int):=by omega
   have hi4:i<=l.length+1:=by omega
   obtain ⟨A,hA⟩:∃ A,List.map row (List.take i l)++List.replicate (l.length+1 - i) [C.val (Value.string ⟨#[]⟩),C.val (Value.string ⟨#[]⟩),C.val (Value.int .i64 0),C.val (Value.slice none 0 0)]=A:=⟨_,rfl⟩;have hAp:bJ A:=by rw [<-hA]; exact jI (fV ok _) (Ab _ [Value.string ⟨#[]⟩,Value.string ⟨#[]⟩,Value.int .i64 0,Value.slice none 0 0] (by simp [Value.oneCell']))
   have hAl:A.length=l.length+1:=by rw [<-hA,hU,cy,hlt0,xo]; omega
   obtain ⟨B,hB⟩:∃ B,aK A i [(row x)]=B:=⟨_,rfl⟩;have hBp:bJ B:=by rw [<-hB]; exact fY hAp ⟨by simp [frzRows,hf],by simp [hpD]⟩
   have hBl:B.length=l.length+1:=by rw [<-hB]; simp [aK,hAl]; omega
   obtain ⟨D,hD⟩:∃ D,aK B (i+1) (List.map row (List.drop i l))=D:=⟨_,rfl⟩;have hDp:bJ D:=by rw [<-hD]; exact fY hBp (fV ok _)
   have hDl:D.length=l.length+1:=by rw [<-hD]; simp [aK,hBl]; omega
   have hDe:D=(l.take i++[x]++l.drop i).map row:=by
    rw [<-hD,<-hB,<-hA,xd,nT,Og (A:=l.map row) (n:=l.length) (by simp) hi2 (by simp)];simp
   simp only [go_sem,seval,hi2,hp,hf,aF.frzRows ok,aF.allPlain ok,Db,tN,Ht,CW,gw,Ez,Ext.all,hw2,hw1b,hw3b,adx,cU,xo,hlt0,hm1,hm3,hm4,hk,e1,hi4,hA,hAl,hAp.1,hAp.2,hB,hBp.1,hBp.2,hD,hsz];repeat' ((with_reducible refine gl ?_ ?_); kernel_rfl)
   simp only [go_sem,seval,dQ];refine sM ok ?_;rw [hr,<-hDe,<-hDl,xw]
  ·have hk1:decide (k < l.length+1)=false:=decide_eq_false hk;have hk2:¬ k < i+(l.length+1 - i):=by omega
   have hk3:l.length+1<=k:=by omega
   have e2:l.length+1 - l.length=1:=by omega
   have e3:l.length<=l.length+1:=by omega
   have hi3:(i:Int)<=((l.length+1:Nat):Int):=by omega
   have hi4:i<=l.length+1:=by omega
   have hne:¬ l.length+1 - (i+1)=0:=by omega
   have hne2:¬ l.length - i=0:=by omega
   obtain ⟨A,hA⟩:∃ A,List.map row l++[[C.dead,C.dead,C.dead,C.dead]]=A:=⟨_,rfl⟩;have hAp:bJ A:=by rw [<-hA]; exact jI (fV ok _) (DX 1 4)
   have hAl:A.length=l.length+1:=by rw [<-hA]; simp
   have hm5:min (l.length+1 - i) (l.length+1 - (i+1))=l.length - i:=by omega
   have hm5b:min (l.length+1 - i) (l.length - i)=l.length - i:=by omega
   obtain ⟨A2,hA2⟩:∃ A2,(A.drop i).take (l.length - i)=A2:=⟨_,rfl⟩;have hA2e:A2=List.map row (l.drop i):=by
    rw [<-hA2,<-hA,acX,cy,show i - l.length=0 by omega,nQ,xq,ni (by simp),show l.length - i - (List.drop i (List.map row l)).length=0 by simp];simp [nT]
   have hA2p:(A2.all fun r=>r.all Abs.plainCell)=true:=by rw [hA2e]; exact ok.allPlain _
   have hA2f:frzRows A2=A2:=by rw [hA2e]; exact ok.frzRows _
   have hA2d:bJ A2:=by rw [hA2e]; exact fV ok _
   obtain ⟨B,hB⟩:∃ B,aK A (i+1) A2=B:=⟨_,rfl⟩;have hBp:bJ B:=by rw [<-hB]; exact fY hAp hA2d
   have hBl:B.length=l.length+1:=by rw [<-hB]; simp [aK,hAl,hA2e]; omega
   obtain ⟨D,hD⟩:∃ D,aK B i [(row x)]=D:=⟨_,rfl⟩;have hDp:bJ D:=by rw [<-hD]; exact fY hBp ⟨by simp [frzRows,hf],by simp [hpD]⟩
   have hDl:D.length=l.length+1:=by rw [<-hD]; simp [aK,hBl]; omega
   have hDe:D=(l.take i++[x]++l.drop i).map row:=by
    rw [<-hD,<-hB,<-hA2,<-hA,K5 (A:=l.map row) (n:=l.length) (by simp) hi2];simp [xd,nT]
   simp only [go_sem,seval,Fh,Fp,aF.frzRows ok,aF.allD ok,AR,JK,qR,hw1b,hw3b,cU,hm4,wW,wo,acY,hk,hk3,e2,e3,hne2,hA,hes];refine K2 rfl ?_;simp only [go_sem,seval,hp,hf,Db,Ht,CW,hw3b,hm1,hm4,hi4,hAp.1,hAp.2,hA2,hA2p,hA2f,hB,hBp.1,hBp.2,hD,hm5b];repeat' ((with_reducible refine gl ?_ ?_); kernel_rfl)
   simp only [go_sem,seval,dQ];refine sM ok ?_;rw [hr,<-hDe,<-hDl,xw]
end
def Hi (N:Nat) (a0:List ai) (a1:Int) (a2:List ai) (r:List ai) (h:lX N a0 a1 a2=some r) :
  Con prog 127 [true,false,true] false [sO 4 (a0.map ai.row),vI a1,sO 4 (a2.map ai.row)] (sO 4 (r.map ai.row)):=by
 unfold lX at h;obtain ⟨n,x,rfl,rfl,h1,h2,h3⟩:=Cb h;exact JX fun k hk1 hk2=>Gg ai.row ai.row_ok a0 n x k r (ng h3).symm h1 h2 (by simpa using hk1) hk2
def fu (N:Nat):FnS:={ own:=[true,false,true],pure:=false,fn:=fun cs=>match cs with
 | [c0,c1,c2]=>(vU 4 ai.dec c0).bind fun q0=>(aG .i64 c1).bind fun q1=>(vU 4 ai.dec c2).bind fun q2=>(lX N q0 q1 q2).map fun r=>sO 4 (r.map ai.row)
 | _=>none }
theorem Cj (N:Nat):(fu N).own=[true,false,true]:=rfl
theorem B1 (N:Nat):(fu N).pure=false:=rfl
theorem BS (N:Nat):(fu N).peek=false:=rfl
attribute [go_sem] fu Cj B1 BS
def CZ (N:Nat):aA prog 127 (fu N):=by
 refine ⟨fun cs r h=>?_,fun h=>by cases h⟩;simp only [fu] at h;split at h
 ·simp only [ck,cj] at h;obtain ⟨q0,h0,q1,h1,q2,h2,r',hr,rfl⟩:=h;exact (Hi N q0 q1 q2 r' hr).argsO rfl (jG (qj ai.row_ok ai.dec_le h0) (rJ (bz h1) (jG (qj ai.row_ok ai.dec_le h2) oA)))
 ·cases h
def MP (N:Nat) (a0:Int) (r:Bool) (h:qk N a0=some r):Con prog 228 [] true [vI a0] (vB r):=by
 refine fk (G:=(aw [])) func228 gn ?_;simp only [f228];unfold qk at h;refine z0 ?_;refine z0 ?_;exact e0 h
@[go_sem] def yY (N:Nat):FnS:=⟨[],true,fn1 (aG .i64) fun q0=>(qk N q0).map fun r=>vB r,false⟩
def Aq (N:Nat):aA prog 228 (yY N):=om1 (MP N)
@[go_sem] def Nu (N d f:Nat):Option FnS:=aw [(6,228,yY N),(9,228,yY N)] d f
def Oh (N:Nat) (a0:Int) (a1:Int) (r:Bool) (h:pj N a0 a1=some r):Con prog 197 [] true [vI a0,vI a1] (vB r):=by
 refine fk (G:=(Nu N)) func197 (gc 6 (Aq N) (gc 9 (Aq N) gn)) ?_;simp only [f197];unfold pj at h;refine z0 ?_;refine aL ?_;obtain ⟨r1,hr1,h⟩:=bI h;refine iBs h (fun hc2 h=>?_) fun hc2 h=>?_
 ·refine z1 (k2 hr1 hc2) ?_;exact e0 h
 obtain ⟨r2,hr3,h⟩:=bI h;refine iBs h (fun hc4 h=>?_) fun hc4 h=>?_
 ·refine z1 (k4 hr1 hc2 hr3 hc4) ?_;exact e0 h
 refine z1 (k4 hr1 hc2 hr3 hc4) ?_;exact e0 h
@[go_sem] def zX (N:Nat):FnS:=⟨[],true,fn2 (aG .i64) (aG .i64) fun q0 q1=>(pj N q0 q1).map fun r=>vB r,false⟩
def BJ (N:Nat):aA prog 197 (zX N):=om2 (Oh N)
def I8 (N:Nat) (a0:Int) (r:Bool) (h:k7 N a0=some r):Con prog 198 [] true [vI a0] (vB r):=by
 refine fk (G:=(aw [])) func198 gn ?_;simp only [f198];unfold k7 at h;refine z0 ?_;refine z0 ?_;exact e0 h
@[go_sem] def uT (N:Nat):FnS:=⟨[],true,fn1 (aG .i64) fun q0=>(k7 N q0).map fun r=>vB r,false⟩
def yo (N:Nat):aA prog 198 (uT N):=om1 (I8 N)
@[go_sem] def C5 (N d f:Nat):Option FnS:=aw [(27,197,zX N),(47,198,uT N),(50,198,uT N)] d f
def CS (N:Nat) (a0:List Int) (a1:Int) (r:Int × Bool) (h:gm N a0 a1=some r):Con prog 128 [] true [sF 1 (a0.map (ay .i64)),vI a1] (.tup [vI r.1,vB r.2]):=by
 refine fk (G:=(C5 N)) func128 (gc 27 (BJ N) (gc 47 (yo N) (gc 50 (yo N) gn))) ?_;simp only [f128];unfold gm at h;refine z0 ?_;refine z0 ?_;refine z0 ?_;refine aL (aQ (gH (fun (b:Int × Int)=>⟨tab 54 (af (af (af (af (af au 0 (sF 1 (a0.map (ay .i64)))) 1 (vI a1)) 6 (vI (a0.length:Int))) 7 (vI b.1)) 8 (vI b.2)),RZ⟩) (0,(a0.length:Int)) h ?_ ?_))
 ·exact wR
 rintro n ⟨v2,v3⟩ h -;cases n with
 | zero=>simp [dR] at h
 | succ n=>
 simp only [dR] at h;refine z0 ?_;refine cD h (fun hc1 hc1d h=>?_) fun hc1 hc1d h=>?_
 ·refine z1 hc1d ?_;obtain ⟨x9,hb2,hx3,h⟩:=aH h;obtain ⟨r10,hr4,h⟩:=bI h;refine z1 (k3 hb2 hx3 hr4) ?_;refine cB h (fun hc5 h=>?_) fun hc5 h=>?_
  ·refine z1 hc5 ?_;refine ⟨_,na _,(IntKind.i64.wrap ((IntKind.i64.wrap (j8 .u64 (IntKind.u64.wrap (IntKind.i64.wrap (v2+v3))) 1))+1),v3),?_,h⟩;exact wR
  refine z1 hc5 ?_;refine ⟨_,na _,(v2,IntKind.i64.wrap (j8 .u64 (IntKind.u64.wrap (IntKind.i64.wrap (v2+v3))) 1)),?_,h⟩;exact wR
 refine gr (pp ?_);unfold jt at h;refine iDs h (fun hc6 hc6d h=>?_) fun hc6 hc6d h=>?_
 ·refine z1 (k2 hc1d hc6d) ?_;exact e0 h
 obtain ⟨x11,hb7,hx8,h⟩:=aH h;refine iD h (fun hc9 hc9d h=>?_) fun hc9 hc9d h=>?_
 ·refine z1 (k4 hc1d hb7 hx8 hc9d) ?_;exact e0 h
 obtain ⟨r12,hr10,h⟩:=bI h;refine iB h (fun hc11 h=>?_) fun hc11 h=>?_
 ·obtain ⟨r13,hr12,h⟩:=bI h;refine z1 (k5 hc1d hb7 hx8 hc9d (k3 hr10 hc11 hr12)) ?_;exact e0 h
 refine z1 (k5 hc1d hb7 hx8 hc9d (k2 hr10 hc11)) ?_;exact e0 h
@[go_sem] def uI (N:Nat):FnS:=⟨[],true,fn2 (aJ 1 (dp (aG .i64))) (aG .i64) fun q0 q1=>(gm N q0 q1).map fun r=>.tup [vI r.1,vB r.2],false⟩
def Al (N:Nat):aA prog 128 (uI N):=om2 (CS N)
def dZ:FnS:={ own:=[true,true],pure:=false,fn:=fun _=>none,peek:=true }
theorem yA:dZ.own=[true,true]:=rfl
theorem wS:dZ.peek=true:=rfl
theorem Cm:IC prog 199:=
 Oc (fn:=f199) (tS:=35) (tR:=4) (e:=3) (size:=1) func199 rfl rfl (by kernel_rfl) (by kernel_rfl) (by kernel_rfl) (by kernel_rfl)
def yM:aA prog 199 dZ:=⟨(fun cs r h=>by simp [dZ] at h),fun _=>Cm⟩
def gR:Env:={ T:=eB prog,G:=fun d f=>if d=67/\f=199 then some dZ else none }
theorem sK:gR.T=eB prog:=rfl
theorem Ga (d:Nat):gR.F d=none:=rfl
theorem Fw (d f:Nat):gR.L d f=none:=rfl
theorem FD:gR.G 67 199=some dZ:=rfl
def E8:GOk prog { T:=eB prog,G:=gR.G }:=by
 refine ⟨?_,fun _ _ _ h=>by cases h⟩;intro d f fs hfs;simp only [gR] at hfs;split at hfs
 ·rename_i hc; obtain ⟨rfl,rfl⟩:=hc; obtain rfl:=ng hfs; exact yM
 cases hfs
theorem Gv:EJ prog 129 f129 f129.body.get! := ⟨func129,rfl,by decide,by kernel_rfl⟩
set_option maxHeartbeats 4000000 in
section
attribute [local go_sem] sK fZ C4 Option.map_some Nat.sub_zero Nat.le_refl dA ua List.isEmpty_nil
def GC {α:Type} (row:α->List C) (ok:aF row) (l:List α) (i:Nat) (x:α) (k:Nat) (r:List α) (hr:r=l.take i++[x]++l.drop i) (hi:i<=l.length) (hsz:(l.length+1) * 8<=140737488355328) (hk1:l.length<=k) (hk2:k<=maxLen) :
  Con prog 129 [true,false,true] false [.sl true none 1 (some k) (l.map row),vI i,sO 1 ([x].map row)] (sO 1 (r.map row)):=by
 refine JZ (E:=gR) (zo prog _) E8 mix Gv (nb rfl) ?_;intro _;rw [vE (by simp)];rw [show gh [true,false,true] [C.sl true none 1 (some k) (l.map row),C.val (.int .i64 i),C.sl true none 1 none ([x].map row)]=(af (af (af au 0 (.pal 0 [] 0 l.length none)) 1 (vI i)) 2 (.pal 2 [] 0 1 none)) from by funext t; match t with|0=>simp [gh,iX,kr,af]|1=>rfl|2=>rfl|t+3=>rfl];rw [show R0 [true,false,true] [C.sl true none 1 (some k) (l.map row),C.val (.int .i64 i),C.sl true none 1 none ([x].map row)]=upd (upd RZ 0 (C.sl true none 1 (some k) (l.map row))) 2 (C.sl true none 1 none ([x].map row)) from by funext t; match t with|0=>rfl|1=>rfl|2=>rfl|t+3=>rfl];apply J5;simp only [f129,Option.get!];have hi1:(i:Int)<=(l.length:Int):=by omega
 have hi2:i<=l.length:=hi;have h10:(((1:Nat):Int)=0)=False:=by simp
 have hp:(row x).all Abs.plainCell=true:=ok.plain x;have hf:(row x).map C.frz=(row x):=ok.frz x;have hpD:(row x).all qz=true:=by have:=(aF.allD ok [x]); simpa using this
 have hw1:IntKind.i64.wrap ((l.length:Int)+((1:Nat):Int))=((l.length+1:Nat):Int):=by rw [lW (by omega) (by omega)]; rfl
 have hlt0:(l.take i).length=i:=by simp; omega
 have hes:(1 != 0)=true:=rfl;have hm1:min 1 (l.length+1 - i)=1:=by omega
 have hm2:min (l.length - i) (l.length+1 - (i+1))=l.length - i:=by omega
 have hm3:(l.drop i).take (l.length - i)=l.drop i:=ni (by simp);have hm4:i+1<=l.length+1:=by omega
 have hw2:IntKind.i64.wrap (((l.length+1:Nat):Int) - (i:Int))=((l.length+1 - i:Nat):Int):=by rw [lW (by omega) (by omega)]; omega
 have hw1b:IntKind.i64.wrap ((l.length:Int)+1)=((l.length+1:Nat):Int):=hw1;have hw3:IntKind.i64.wrap ((i:Int)+((1:Nat):Int))=((i+1:Nat):Int):=by rw [lW (by omega) (by omega)]; rfl
 have hw3b:IntKind.i64.wrap ((i:Int)+1)=((i+1:Nat):Int):=hw3;simp only [go_sem,seval,sK,hi2,cw,fZ,cx,ade];refine Ll rfl ?_;simp only [go_sem,seval,sK,ade];refine tH rfl (fun hc=>?_) (fun hc=>?_)
 ·have e:i=l.length:=by omega
  subst e;simp only [go_sem,seval,Ga,hp,hf,aF.allD ok,acY,dQ,hsz];refine sM ok ?_;rw [hr];simp [ni]
 ·have hc1:decide ((i:Int)=(l.length:Int))=false:=decide_eq_false hc;have hlt:i < l.length:=by omega
  simp only [go_sem,seval,RG,tN,hw1b,hc1];refine tH rfl (fun hk=>?_) (fun hk=>?_)
  ·have hk1:decide (k < l.length+1)=true:=decide_eq_true hk;have hk2:k < i+(l.length+1 - i):=by omega
   have e1:i+(l.length+1 - i)=l.length+1:=by omega
   have hi3:(i:Int)<=((l.length+1:Nat):Int):=by omega
   have hi4:i<=l.length+1:=by omega
   obtain ⟨A,hA⟩:∃ A,List.map row (List.take i l)++List.replicate (l.length+1 - i) [C.val (Value.int .i64 0)]=A:=⟨_,rfl⟩;have hAp:bJ A:=by rw [<-hA]; exact jI (fV ok _) (Ab _ [Value.int .i64 0] (by simp [Value.oneCell']))
   have hAl:A.length=l.length+1:=by rw [<-hA,hU,cy,hlt0,xo]; omega
   obtain ⟨B,hB⟩:∃ B,aK A i [(row x)]=B:=⟨_,rfl⟩;have hBp:bJ B:=by rw [<-hB]; exact fY hAp ⟨by simp [frzRows,hf],by simp [hpD]⟩
   have hBl:B.length=l.length+1:=by rw [<-hB]; simp [aK,hAl]; omega
   obtain ⟨D,hD⟩:∃ D,aK B (i+1) (List.map row (List.drop i l))=D:=⟨_,rfl⟩;have hDp:bJ D:=by rw [<-hD]; exact fY hBp (fV ok _)
   have hDl:D.length=l.length+1:=by rw [<-hD]; simp [aK,hBl]; omega
   have hDe:D=(l.take i++[x]++l.drop i).map row:=by
    rw [<-hD,<-hB,<-hA,xd,nT,Og (A:=l.map row) (n:=l.length) (by simp) hi2 (by simp)];simp
   simp only [go_sem,seval,hi2,hp,hf,aF.frzRows ok,aF.allPlain ok,Db,tN,Ht,CW,gw,Ez,Ext.all,hw2,hw1b,hw3b,adx,cU,xo,hlt0,hm1,hm3,hm4,hk,e1,hi4,hA,hAl,hAp.1,hAp.2,hB,hBp.1,hBp.2,hD,hsz];repeat' ((with_reducible refine gl ?_ ?_); kernel_rfl)
   simp only [go_sem,seval,dQ];refine sM ok ?_;rw [hr,<-hDe,<-hDl,xw]
  ·have hk1:decide (k < l.length+1)=false:=decide_eq_false hk;have hk2:¬ k < i+(l.length+1 - i):=by omega
   have hk3:l.length+1<=k:=by omega
   have e2:l.length+1 - l.length=1:=by omega
   have e3:l.length<=l.length+1:=by omega
   have hi3:(i:Int)<=((l.length+1:Nat):Int):=by omega
   have hi4:i<=l.length+1:=by omega
   have hne:¬ l.length+1 - (i+1)=0:=by omega
   have hne2:¬ l.length - i=0:=by omega
   obtain ⟨A,hA⟩:∃ A,List.map row l++[[C.dead]]=A:=⟨_,rfl⟩;have hAp:bJ A:=by rw [<-hA]; exact jI (fV ok _) (DX 1 1)
   have hAl:A.length=l.length+1:=by rw [<-hA]; simp
   have hm5:min (l.length+1 - i) (l.length+1 - (i+1))=l.length - i:=by omega
   have hm5b:min (l.length+1 - i) (l.length - i)=l.length - i:=by omega
   obtain ⟨A2,hA2⟩:∃ A2,(A.drop i).take (l.length - i)=A2:=⟨_,rfl⟩;have hA2e:A2=List.map row (l.drop i):=by
    rw [<-hA2,<-hA,acX,cy,show i - l.length=0 by omega,nQ,xq,ni (by simp),show l.length - i - (List.drop i (List.map row l)).length=0 by simp];simp [nT]
   have hA2p:(A2.all fun r=>r.all Abs.plainCell)=true:=by rw [hA2e]; exact ok.allPlain _
   have hA2f:frzRows A2=A2:=by rw [hA2e]; exact ok.frzRows _
   have hA2d:bJ A2:=by rw [hA2e]; exact fV ok _
   obtain ⟨B,hB⟩:∃ B,aK A (i+1) A2=B:=⟨_,rfl⟩;have hBp:bJ B:=by rw [<-hB]; exact fY hAp hA2d
   have hBl:B.length=l.length+1:=by rw [<-hB]; simp [aK,hAl,hA2e]; omega
   obtain ⟨D,hD⟩:∃ D,aK B i [(row x)]=D:=⟨_,rfl⟩;have hDp:bJ D:=by rw [<-hD]; exact fY hBp ⟨by simp [frzRows,hf],by simp [hpD]⟩
   have hDl:D.length=l.length+1:=by rw [<-hD]; simp [aK,hBl]; omega
   have hDe:D=(l.take i++[x]++l.drop i).map row:=by
    rw [<-hD,<-hB,<-hA2,<-hA,K5 (A:=l.map row) (n:=l.length) (by simp) hi2];simp [xd,nT]
   simp only [go_sem,seval,Fw,FD,aF.frzRows ok,aF.allD ok,AR,JK,qR,hw1b,hw3b,cU,hm4,yA,wS,acY,hk,hk3,e2,e3,hne2,hA,hes];refine K2 rfl ?_;simp only [go_sem,seval,hp,hf,Db,Ht,CW,hw3b,hm1,hm4,hi4,hAp.1,hAp.2,hA2,hA2p,hA2f,hB,hBp.1,hBp.2,hD,hm5b];repeat' ((with_reducible refine gl ?_ ?_); kernel_rfl)
   simp only [go_sem,seval,dQ];refine sM ok ?_;rw [hr,<-hDe,<-hDl,xw]
end
def HZ (N:Nat) (a0:List Int) (a1:Int) (a2:List Int) (r:List Int) (h:mV N a0 a1 a2=some r) :
  Con prog 129 [true,false,true] false [sO 1 (a0.map (ay .i64)),vI a1,sO 1 (a2.map (ay .i64))] (sO 1 (r.map (ay .i64))):=by
 unfold mV at h;obtain ⟨n,x,rfl,rfl,h1,h2,h3⟩:=Cb h;exact JX fun k hk1 hk2=>GC (ay .i64) (mA .i64) a0 n x k r (ng h3).symm h1 h2 (by simpa using hk1) hk2
def fO (N:Nat):FnS:={ own:=[true,false,true],pure:=false,fn:=fun cs=>match cs with
 | [c0,c1,c2]=>(vU 1 (dp (aG .i64)) c0).bind fun q0=>(aG .i64 c1).bind fun q1=>(vU 1 (dp (aG .i64)) c2).bind fun q2=>(mV N q0 q1 q2).map fun r=>sO 1 (r.map (ay .i64))
 | _=>none }
theorem CO (N:Nat):(fO N).own=[true,false,true]:=rfl
theorem Cq (N:Nat):(fO N).pure=false:=rfl
theorem Cp (N:Nat):(fO N).peek=false:=rfl
attribute [go_sem] fO CO Cq Cp
def DW (N:Nat):aA prog 129 (fO N):=by
 refine ⟨fun cs r h=>?_,fun h=>by cases h⟩;simp only [fO] at h;split at h
 ·simp only [ck,cj] at h;obtain ⟨q0,h0,q1,h1,q2,h2,r',hr,rfl⟩:=h;exact (HZ N q0 q1 q2 r' hr).argsO rfl (jG (qj (mA .i64) (jx .i64) h0) (rJ (bz h1) (jG (qj (mA .i64) (jx .i64) h2) oA)))
 ·cases h
@[go_sem] def Nc (N d f:Nat):Option FnS:=aw [(14,116,lE N),(18,124,pO N),(23,125,sd N),(29,126,yH N),(38,117,ke N),(44,127,fu N),(52,128,uI N),(64,117,ke N),(74,117,ke N),(78,117,ke N),(88,117,zD N),(99,129,fO N)] d f
def Mg (N:Nat) (a0:List ai) (a1:Ref) (a2:Int) (r:(List ai) × Int × Int) (h:qg N a0 a1 a2=some r):Con prog 58 [] false [sF 4 (a0.map ai.row),.agg [vS a1.Type_,vS a1.Key],vI a2] (.tup [sO 4 (r.1.map ai.row),vI r.2.1,vI r.2.2]):=by
 refine fk (G:=(Nc N)) func58 (gc 14 (kJ N) (gc 18 (rC N) (gc 23 (tZ N) (gc 29 (y7 N) (gc 38 (jW N) (gc 44 (CZ N) (gc 52 (Al N) (gc 64 (jW N) (gc 74 (jW N) (gc 78 (jW N) (gc 88 (BQ N) (gc 99 (DW N) gn)))))))))))) ?_;simp only [f58];unfold qg at h;refine z0 ?_;refine aL ?_;apply aR (fun (c9:Bool)=>⟨tab 103 (af (af (af (af au 0 (sF 4 (a0.map ai.row))) 2 (vI a2)) 4 (pF 4)) 25 (vB c9)),(upd RZ 4 (vA 2 [vS a1.Type_,vS a1.Key]))⟩)
 ·intro hJ1;obtain ⟨r10,hr2,h⟩:=bI h;refine iBs h (fun hc3 h=>?_) fun hc3 h=>?_
  ·refine z1 (k2 hr2 hc3) ?_;exact hJ1 _ true wR h
  obtain ⟨r11,hr4,h⟩:=bI h;refine iBs h (fun hc5 h=>?_) fun hc5 h=>?_
  ·refine z1 (k4 hr2 hc3 hr4 hc5) ?_;exact hJ1 _ true wR h
  obtain ⟨r12,hr6,h⟩:=bI h;refine z1 (k5 hr2 hc3 hr4 hc5 hr6) ?_;exact hJ1 _ (!r12) wR h
 intro c9 h;unfold oU at h;refine cB h (fun hc7 h=>?_) fun hc7 h=>?_
 ·refine z1 hc7 ?_;exact f0 h
 refine aU (pp ?_);unfold py at h;obtain ⟨r13,hr8,h⟩:=bI h;refine z1 (k2 hc7 hr8) ?_;refine z0 ?_;refine cM h (fun hc9 h=>?_) fun hc9 h=>?_
 ·refine z1 hc9 ?_;refine cD h (fun hc10 hc10d h=>?_) fun hc10 hc10d h=>?_
  ·refine z1 hc10d ?_;exact f0 h
  obtain ⟨r14,hr11,h⟩:=bI h;obtain ⟨r15,hr12,h⟩:=bI h;refine d1 (k3 hc10d hr11 hr12) ?_;exact f0 h
 obtain ⟨x16,hb13,hx14,h⟩:=aH h;obtain ⟨r17,hr15,h⟩:=bI h;refine z1 (k4 hc9 hb13 hx14 hr15) ?_;refine z1 (k2 hb13 hx14) ?_;refine cD h (fun hc16 hc16d h=>?_) fun hc16 hc16d h=>?_
 ·obtain ⟨r18,hr17,h⟩:=bI h;refine z1 (k2 hc16d hr17) ?_;exact f0 h
 refine z1 (k3 hb13 hx14 hc16d) ?_;refine cD h (fun hc18 hc18d h=>?_) fun hc18 hc18d h=>?_
 ·obtain ⟨r19,hr19,h⟩:=bI h;refine z1 (k2 hc18d hr19) ?_;exact f0 h
 refine z1 hc18d ?_;refine cB h (fun hc20 h=>?_) fun hc20 h=>?_
 ·obtain ⟨r20,hr21,h⟩:=bI h;refine z1 (k2 hc20 hr21) ?_;exact f0 h
 refine z1 (k3 hb13 hx14 hc20) ?_;refine cD h (fun hc22 hc22d h=>?_) fun hc22 hc22d h=>?_
 ·refine z1 hc22d ?_;exact f0 h
 obtain ⟨r21,hr23,h⟩:=bI h;refine z1 (k2 hc22d hr23) ?_;obtain ⟨x22,hb24,hx25,h⟩:=aH h;obtain ⟨r23,hr26,h⟩:=bI h;refine z1 (k5 hb13 hb24 hx25 (ov1 (row:=ai.rowD) (rx:=[vS x22.Actor.Type_,vS x22.Actor.Key,vI x22.Owner,sO 1 (x22.Waiters.map (ay .i64))]) hx25 rfl) (k3 (ov2 (row:=ai.rowD) hx25) (ov3 (row:=ai.rowD) hx25) hr26)) ?_;refine z0 ?_;exact f0 h
@[go_sem] def CE (N:Nat):FnS:=⟨[],false,fn3 (aJ 4 ai.dec) Ref.decA (aG .i64) fun q0 q1 q2=>(qg N q0 q1 q2).map fun r=>.tup [sO 4 (r.1.map ai.row),vI r.2.1,vI r.2.2],false⟩
def Gr (N:Nat):aA prog 58 (CE N):=om3 (Mg N)
def Kx (N:Nat) (a0:Int) (r:Int) (h:u9 N a0=some r):Con prog 182 [] true [.val (.int .u64 a0)] (vI r):=by
 refine fk (G:=(aw [])) func182 gn ?_;simp only [f182];unfold u9 at h;refine z0 ?_;apply yL (fun (v1:Int) (v2:Int)=>⟨tab 25 (af (af au 0 (.val (.int .u64 v1))) 2 (vI v2)),RZ⟩)
 ·intro hJ1;refine z0 ?_;refine cD h (fun hc2 hc2d h=>?_) fun hc2 hc2d h=>?_
  ·refine z1 hc2d ?_;refine z0 ?_;exact hJ1 _ (j8 .u64 a0 32) 32 wR h
  refine aU (pp (hJ1 _ a0 0 ?_ h));exact wR
 intro v1 v2 h;unfold vX at h;apply yL (fun (v3:Int) (v4:Int)=>⟨tab 25 (af (af au 0 (.val (.int .u64 v3))) 2 (vI v4)),RZ⟩)
 ·intro hJ3;refine z0 ?_;refine cD h (fun hc4 hc4d h=>?_) fun hc4 hc4d h=>?_
  ·refine z1 hc4d ?_;refine z0 ?_;exact hJ3 _ (j8 .u64 v1 16) (IntKind.i64.wrap (v2+16)) wR h
  refine aU (pp (hJ3 _ v1 v2 ?_ h));exact wR
 intro v3 v4 h;unfold vy at h;apply yL (fun (v5:Int) (v6:Int)=>⟨tab 25 (af (af au 0 (.val (.int .u64 v5))) 2 (vI v6)),RZ⟩)
 ·intro hJ5;refine z0 ?_;refine cD h (fun hc6 hc6d h=>?_) fun hc6 hc6d h=>?_
  ·refine z1 hc6d ?_;refine z0 ?_;exact hJ5 _ (j8 .u64 v3 8) (IntKind.i64.wrap (v4+8)) wR h
  refine aU (pp (hJ5 _ v3 v4 ?_ h));exact wR
 intro v5 v6 h;unfold vF at h;obtain ⟨b7,hb7,hx8,h⟩:=Xp h;refine z1 (k2 hb7 hx8) ?_;exact e0 h
@[go_sem] def BL (N:Nat):FnS:=⟨[],true,fn1 (aG .u64) fun q0=>(u9 N q0).map fun r=>vI r,false⟩
def Gd (N:Nat):aA prog 182 (BL N):=om1 (Kx N)
@[go_sem] def MJ (N d f:Nat):Option FnS:=aw [(7,182,BL N)] d f
def Nf (N:Nat) (a0:Int) (r:Int) (h:uj N a0=some r):Con prog 102 [] true [.val (.int .u64 a0)] (vI r):=by
 refine fk (G:=(MJ N)) func102 (gc 7 (Gd N) gn) ?_;simp only [f102];unfold uj at h;refine z0 ?_;refine cf ?_;obtain ⟨r1,hr1,h⟩:=bI h;refine z1 hr1 ?_;exact e0 h
@[go_sem] def yV (N:Nat):FnS:=⟨[],true,fn1 (aG .u64) fun q0=>(uj N q0).map fun r=>vI r,false⟩
def Ax (N:Nat):aA prog 102 (yV N):=om1 (Nf N)
@[go_sem] def vl (N d f:Nat):Option FnS:=aw [(29,197,zX N)] d f
def kO (N:Nat) (a0:List Int) (a1:Int) (a2:Int) (r:List Int) (h:da N a0 a1 a2=some r):(r).length=a0.length:=by
 unfold da at h; exact (kP h).2
def vn (N:Nat) (a0:List Int) (a1:Int) (a2:Int) (r:List Int) (h:da N a0 a1 a2=some r):mP prog 219 1 [sO 1 (a0.map (ay .i64)),vI a1,vI a2] (.tup []) [sO 1 (r.map (ay .i64))]:=by
 unfold da at h;obtain ⟨h,hlen⟩:=kP h;refine zd (G:=(vl N)) (L:=noL) func219 rfl (by decide) (by kernel_rfl) 1 (by kernel_rfl) (gc 29 (BJ N) gn) (fun _ _ _ h=>by cases h) [] mix (nb rfl) (nb rfl) rfl (by simp [dH,hlen]) ?_;simp only [f219];refine z0 ?_;refine aQ (gH (fun (b:Int)=>⟨tab 49 (af (af (af (af au 0 (.pal 0 [] 0 a0.length none)) 1 (vI a1)) 2 (vI a2)) 6 (vI b)),(upd RZ 0 (sO 1 (a0.map (ay .i64))))⟩) (IntKind.i64.wrap (a1+1)) h ?_ ?_)
 ·exact wR
 rintro n v1 h -;cases n with
 | zero=>simp [eG] at h
 | succ n=>
 simp only [eG] at h;refine z0 ?_;refine cDs h (fun hc1 hc1d h=>?_) fun hc1 hc1d h=>?_
 ·refine gr (pp ?_);obtain rfl:=ng h;refine Df (.inr rfl) (aV.refl _) (by simp only [go_sem,seval,hc1d]; rfl) (by simp only [go_sem,seval]; rfl) (by (try simp only [go_sem,seval]); first|exact Le.refl _|exact LeI.h) ?_;exact Dg (by simp only [go_sem,seval,hc1d]<;>rfl) (by simp only [go_sem,seval]<;>rfl) (Gb)
 refine z1 hc1d ?_;refine aQ (gH (fun (b:Unit)=>⟨tab 49 (af (af (af (af (af au 0 (.pal 0 [] 0 a0.length none)) 1 (vI a1)) 2 (vI a2)) 6 (vI v1)) 7 (vI v1)),(upd RZ 0 (sO 1 (a0.map (ay .i64))))⟩) () h ?_ ?_)
 ·exact wR
 rintro n ⟨⟩ h -;cases n with
 | zero=>simp [gT] at h
 | succ n=>
 simp only [gT] at h;refine aL ?_;apply aR (fun (c9:Bool)=>⟨tab 49 (af (af (af (af (af (af au 0 (.pal 0 [] 0 a0.length none)) 1 (vI a1)) 2 (vI a2)) 6 (vI v1)) 7 (vI v1)) 30 (vB c9)),(upd RZ 0 (sO 1 (a0.map (ay .i64))))⟩)
 ·intro hJ2;refine iDs h (fun hc3 hc3d h=>?_) fun hc3 hc3d h=>?_
  ·refine d1 hc3d ?_;exact hJ2 _ false wR h
  obtain ⟨x10,hb4,hx5,h⟩:=aH h;obtain ⟨x11,hb6,hx7,h⟩:=aH h;obtain ⟨r12,hr8,h⟩:=bI h;refine d1 (k5 hc3d hb4 hx5 hb6 (k2 hx7 hr8)) ?_;exact hJ2 _ r12 wR h
 intro c9 h;unfold gN at h;refine cB h (fun hc9 h=>?_) fun hc9 h=>?_
 ·refine aU (pp ?_);unfold gL at h;refine aL (aQ ?_);obtain ⟨x13,hb10,hx11,h⟩:=aH h;obtain ⟨x14,hb12,hx13,h⟩:=aH h;cases h
 refine z1 hc9 ?_;refine ⟨_,na _,(IntKind.i64.wrap (v1+1)),?_,h⟩;exact wR
@[go_sem] def gM (N:Nat):FnL:=⟨1,fun cs rest=>match cs,rest with
 | [v0],[c1,c2]=>(DA 1 (dp (aG .i64)) v0).bind fun q0=>((aG .i64) c1).bind fun q1=>((aG .i64) c2).bind fun q2=>(da N q0 q1 q2).map fun r=>(.tup [],[sO 1 (r.map (ay .i64))])
 | _,_=>none,false⟩
def tc (N:Nat):w4 prog 219 (gM N):=by
 refine II (xI _) rfl ?_;intro cs rest r ls hlen h;simp only [gM] at h;split at h
 ·simp only [ck,cj] at h;obtain ⟨q0,h0,q1,h1,q2,h2,r',hr,he⟩:=h;cases he;exact mP.told rfl rfl (zi (zk (mA .i64) (jx .i64) h0) (Ce)) (LeL.cons (bz h1) (LeL.cons (bz h2) (LeL.nil))) (vn N q0 q1 q2 r' hr)
 ·cases h
@[go_sem] def zq (N d f:Nat):Option FnL:=Bl [(27,219,gM N)] d f
def om (N:Nat) (a0:List Int) (a1:Int) (a2:Int) (a3:Int) (r:List Int) (h:ed N a0 a1 a2 a3=some r):(r).length=a0.length:=by
 unfold ed at h; exact (kP h).2
def zr (N:Nat) (a0:List Int) (a1:Int) (a2:Int) (a3:Int) (r:List Int) (h:ed N a0 a1 a2 a3=some r):mP prog 185 1 [sO 1 (a0.map (ay .i64)),vI a1,vI a2,vI a3] (.tup []) [sO 1 (r.map (ay .i64))]:=by
 unfold ed at h;obtain ⟨h,hlen⟩:=kP h;refine zd (G:=(aw [])) (L:=(zq N)) func185 rfl (by decide) (by kernel_rfl) 1 (by kernel_rfl) gn (lc 27 (tc N) ln) [] mix (nb rfl) (nb rfl) rfl (by simp [dH,hlen]) ?_;simp only [f185];refine z0 ?_;refine z0 ?_;refine aQ (gH (fun (b:Unit)=>⟨tab 134 (af (af (af (af (af (af au 0 (.pal 0 [] 0 a0.length none)) 1 (vI a1)) 2 (vI a2)) 3 (vI a3)) 8 (vB true)) 9 (vB true)),(upd RZ 0 (sO 1 (a0.map (ay .i64))))⟩) () h ?_ ?_)
 ·exact wR
 rintro n ⟨⟩ h -;cases n with
 | zero=>simp [jw] at h
 | succ n=>
 simp only [jw] at h;refine z0 ?_;refine z0 ?_;refine cDs h (fun hc1 hc1d h=>?_) fun hc1 hc1d h=>?_
 ·refine z1 hc1d ?_;refine cD h (fun hc3 hc3d h=>?_) fun hc3 hc3d h=>?_
  ·refine aL ?_;cases h
  refine z1 hc3d ?_;refine cf ?_;refine aU (pp (aL ?_));cases h
 obtain ⟨r1,hr2,h⟩:=bI h;refine z1 (k3 hc1d hr2 (kO N a0 a1 a2 r1 hr2)) ?_;refine fa (pp ?_);obtain rfl:=ng h;refine Df (.inl rfl) (aV.refl _) (by simp only [go_sem,seval]; rfl) (by simp only [go_sem,seval]; rfl) (by (try simp only [go_sem,seval]); first|exact Le.refl _|exact LeI.h) ?_;exact Dg (by simp only [go_sem,seval,kO N a0 a1 a2 r1 hr2]<;>rfl) (by simp only [go_sem,seval]<;>rfl) (Gb)
@[go_sem] def jv (N:Nat):FnL:=⟨1,fun cs rest=>match cs,rest with
 | [v0],[c1,c2,c3]=>(DA 1 (dp (aG .i64)) v0).bind fun q0=>((aG .i64) c1).bind fun q1=>((aG .i64) c2).bind fun q2=>((aG .i64) c3).bind fun q3=>(ed N q0 q1 q2 q3).map fun r=>(.tup [],[sO 1 (r.map (ay .i64))])
 | _,_=>none,false⟩
def wk (N:Nat):w4 prog 185 (jv N):=by
 refine II (xI _) rfl ?_;intro cs rest r ls hlen h;simp only [jv] at h;split at h
 ·simp only [ck,cj] at h;obtain ⟨q0,h0,q1,h1,q2,h2,q3,h3,r',hr,he⟩:=h;cases he;exact mP.told rfl rfl (zi (zk (mA .i64) (jx .i64) h0) (Ce)) (LeL.cons (bz h1) (LeL.cons (bz h2) (LeL.cons (bz h3) (LeL.nil)))) (zr N q0 q1 q2 q3 r' hr)
 ·cases h
@[go_sem] def Eb (N d f:Nat):Option FnS:=aw [(9,102,yV N)] d f
@[go_sem] def D3 (N d f:Nat):Option FnL:=Bl [(10,185,jv N)] d f
def CM (N:Nat) (a0:List Int) (r:List Int) (h:ig N a0=some r):(r).length=a0.length:=by
 unfold ig at h; exact (kP h).2
def wN (N:Nat) (a0:List Int) (r:List Int) (h:ig N a0=some r):mP prog 109 1 [sO 1 (a0.map (ay .i64))] (.tup []) [sO 1 (r.map (ay .i64))]:=by
 unfold ig at h;obtain ⟨h,hlen⟩:=kP h;refine zd (G:=(Eb N)) (L:=(D3 N)) func109 rfl (by decide) (by kernel_rfl) 1 (by kernel_rfl) (gc 9 (Ax N) gn) (lc 10 (wk N) ln) [] mix (nb rfl) (nb rfl) rfl (by simp [dH,hlen]) ?_;simp only [f109];refine z0 ?_;obtain ⟨r1,hr1,h⟩:=bI h;obtain ⟨r2,hr2,h⟩:=bI h;refine z1 (k3 hr1 hr2 (om N a0 0 (a0.length:Int) r1 r2 hr2)) ?_;obtain rfl:=ng h;refine Df (.inr rfl) (aV.refl _) (by simp only [go_sem,seval]; rfl) (by simp only [go_sem,seval]; rfl) (by (try simp only [go_sem,seval]); first|exact Le.refl _|exact LeI.h) ?_;exact Dg (by simp only [go_sem,seval,om N a0 0 (a0.length:Int) r1 r2 hr2]<;>rfl) (by simp only [go_sem,seval]<;>rfl) (Gb)
@[go_sem] def vD (N:Nat):FnL:=⟨1,fun cs rest=>match cs,rest with
 | [v0],[]=>(DA 1 (dp (aG .i64)) v0).bind fun q0 =>  (ig N q0).map fun r=>(.tup [],[sO 1 (r.map (ay .i64))])
 | _,_=>none,false⟩
def On (N:Nat):w4 prog 109 (vD N):=by
 refine II (xI _) rfl ?_;intro cs rest r ls hlen h;simp only [vD] at h;split at h
 ·simp only [ck,cj] at h;obtain ⟨q0,h0,r',hr,he⟩:=h;cases he;exact mP.told rfl rfl (zi (zk (mA .i64) (jx .i64) h0) (Ce)) (LeL.nil) (wN N q0 r' hr)
 ·cases h
def HY:Go.Shelf.Ren:=⟨fun|125=>102|128=>181|129=>182|189=>109|215=>228|216=>197|257=>185|294=>219|295=>220|296=>221|297=>222|298=>223|299=>224|300=>225|301=>226|328=>232|329=>215|330=>216|331=>233|332=>234|343=>237|n=>n,fun|0=>0|3=>3|4=>4|5=>5|9=>9|28=>35|46=>136|51=>186|53=>188|131=>115|182=>179|183=>180|218=>207|222=>211|228=>219|229=>220|n=>n,fun n=>n⟩
def HX:Go.Proofs.Lays.n189 prog HY where
 mixed:=by kernel_rfl
 f125:=func102.trans (congrArg some (by kernel_rfl))
 f128:=func181.trans (congrArg some (by kernel_rfl))
 f129:=func182.trans (congrArg some (by kernel_rfl))
 f189:=func109.trans (congrArg some (by kernel_rfl))
 f215:=func228.trans (congrArg some (by kernel_rfl))
 f216:=func197.trans (congrArg some (by kernel_rfl))
 f257:=func185.trans (congrArg some (by kernel_rfl))
 f294:=func219.trans (congrArg some (by kernel_rfl))
 f295:=func220.trans (congrArg some (by kernel_rfl))
 f296:=func221.trans (congrArg some (by kernel_rfl))
 f297:=func222.trans (congrArg some (by kernel_rfl))
 f298:=func223.trans (congrArg some (by kernel_rfl))
 f299:=func224.trans (congrArg some (by kernel_rfl))
 f300:=func225.trans (congrArg some (by kernel_rfl))
 f301:=func226.trans (congrArg some (by kernel_rfl))
 f328:=func232.trans (congrArg some (by kernel_rfl))
 f329:=func215.trans (congrArg some (by kernel_rfl))
 f330:=func216.trans (congrArg some (by kernel_rfl))
 f331:=func233.trans (congrArg some (by kernel_rfl))
 f332:=func234.trans (congrArg some (by kernel_rfl))
 f343:=func237.trans (congrArg some (by kernel_rfl))
 t0:=underlying0
 a0:=Tryz.isAgg0
 z0:=Tryz.sizeOf0
 v0:=Tryz.zeroValue0
 t3:=underlying3
 a3:=Tryz.isAgg3
 z3:=Tryz.sizeOf3
 v3:=Tryz.zeroValue3
 t4:=underlying4
 a4:=Tryz.isAgg4
 z4:=Tryz.sizeOf4
 v4:=Tryz.zeroValue4
 t5:=underlying5
 a5:=Tryz.isAgg5
 z5:=Tryz.sizeOf5
 v5:=Tryz.zeroValue5
 t9:=underlying9
 a9:=Tryz.isAgg9
 z9:=Tryz.sizeOf9
 v9:=Tryz.zeroValue9
 t28:=underlying35
 a28:=Tryz.isAgg35
 z28:=Tryz.sizeOf35
 v28:=Tryz.zeroValue35
 t46:=underlying136
 a46:=Tryz.isAgg136
 z46:=Tryz.sizeOf136
 v46:=Tryz.zeroValue136
 t51:=underlying186
 a51:=Tryz.isAgg186
 z51:=Tryz.sizeOf186
 v51:=Tryz.zeroValue186
 t53:=underlying188
 a53:=Tryz.isAgg188
 z53:=Tryz.sizeOf188
 v53:=Tryz.zeroValue188
 t131:=underlying115
 a131:=Tryz.isAgg115
 z131:=Tryz.sizeOf115
 v131:=Tryz.zeroValue115
 t182:=underlying179
 a182:=Tryz.isAgg179
 z182:=Tryz.sizeOf179
 v182:=Tryz.zeroValue179
 t183:=underlying180
 a183:=Tryz.isAgg180
 z183:=Tryz.sizeOf180
 v183:=Tryz.zeroValue180
 t218:=underlying207
 a218:=Tryz.isAgg207
 z218:=Tryz.sizeOf207
 v218:=Tryz.zeroValue207
 t222:=underlying211
 a222:=Tryz.isAgg211
 z222:=Tryz.sizeOf211
 v222:=Tryz.zeroValue211
 t228:=underlying219
 a228:=Tryz.isAgg219
 z228:=Tryz.sizeOf219
 v228:=Tryz.zeroValue219
 t229:=underlying220
 a229:=Tryz.isAgg220
 z229:=Tryz.sizeOf220
 v229:=Tryz.zeroValue220
def Ao (N:Nat) (a0:List Int) (r:List Int) (h:slices_Sort_int N a0=some r):(r).length=a0.length:=by
 unfold slices_Sort_int at h;split at h
 ·exact CM N a0 r h
 ·exact OG h
def J8 (N:Nat) (a0:List Int) (r:List Int) (h:slices_Sort_int N a0=some r):mP prog 109 1 [sO 1 (a0.map (ay .i64))] (.tup []) [sO 1 (r.map (ay .i64))]:=by
 unfold slices_Sort_int at h;split at h
 ·exact wN N a0 r h
 ·rename_i hne;exact VE HX rfl (enters_of func109 (by kernel_rfl) rfl) (fun e=>hne (by rw [e]; rfl)) h
@[go_sem] def vu (N:Nat):FnL:=⟨1,fun cs rest=>match cs,rest with
 | [v0],[]=>(DA 1 (dp (aG .i64)) v0).bind fun q0 =>  (slices_Sort_int N q0).map fun r=>(.tup [],[sO 1 (r.map (ay .i64))])
 | _,_=>none,false⟩
def FJ (N:Nat):w4 prog 109 (vu N):=by
 refine II (xI _) rfl ?_;intro cs rest r ls hlen h;simp only [vu] at h;split at h
 ·simp only [ck,cj] at h;obtain ⟨q0,h0,r',hr,he⟩:=h;cases he;exact mP.told rfl rfl (zi (zk (mA .i64) (jx .i64) h0) (Ce)) (LeL.nil) (J8 N q0 r' hr)
 ·cases h
@[go_sem] def LI (N d f:Nat):Option FnS:=aw [(45,108,fv N),(32,108,fv N)] d f
@[go_sem] def L6 (N d f:Nat):Option FnL:=Bl [(50,109,vu N)] d f
def Li (N:Nat) (a0:ae) (a1:Int) (r:List Int) (h:oN N a0 a1=some r):Con prog 48 [] true [.agg (ae.row a0),vI a1] (sO 1 (r.map (ay .i64))):=by
 refine Tk (G:=(LI N)) (L:=(L6 N)) func48 rfl (by decide) (by kernel_rfl) (gc 45 (fB N) (gc 32 (fB N) gn)) (lc 50 (FJ N) ln) [] mix (nb rfl) ?_;simp only [f48];unfold oN at h;refine z0 ?_;refine z0 ?_;refine aL (XK (pp (aQ (gH (fun (b:List Int)=>⟨tab 52 (af (af au 2 (pF 2)) 5 (.pal 39 [] 0 b.length none)),(upd (upd RZ 2 (vA 3 (ae.row a0))) 39 (sO 1 (b.map (ay .i64))))⟩) [a1] h ?_ ?_))))
 ·refine aV.trans (Bj 5 12 39 (by decide) (by decide) (by simp only [go_sem,seval]) (by simp only [go_sem,seval]; rfl) (by simp only [go_sem,seval]; rfl) (by first|(simp; done)|simp only [go_sem,seval,nz,cX,nF,nG])) ?_;refine wr ?_ ?_<;>repeat' first|rfl|constructor|simp only [go_sem,seval,nz,cX,nF,nG]
 rintro n l1 h -;cases n with
 | zero=>simp [kA] at h
 | succ n=>
 simp only [kA] at h;refine z0 ?_;refine aQ (gG fun hreal2=>?_);have hl1:=hreal2.lenT 14 (by decide) (by simp only [go_sem,seval]; rfl);rw [cy] at hl1;refine rL (fun (v4:Nat) (b:Unit)=>⟨tab 52 (af (af (af (af (af au 2 (pF 2)) 5 (.pal 39 [] 0 l1.length none)) 14 (sF 3 (a0.Stacks.map aa.row))) 15 (vI (a0.Stacks.length:Int))) 16 (vI (v4:Int))),(upd (upd RZ 2 (vA 3 (ae.row a0))) 39 (sO 1 (l1.map (ay .i64))))⟩) () h ?_ ?_
 ·refine wr ?_ ?_<;>repeat' first|rfl|constructor|simp only [go_sem,seval,nz,cX,nF,nG]
 rintro v4 ⟨⟩ hi3 h -;rcases (lO a0.Stacks v4 hi3).symm with ⟨hi3',_,hd6⟩|⟨x7,hi3',hx4,hd6⟩
 ·rw [hd6] at h;simp only [iZ] at h;refine z1 hi3' ?_;refine cf ?_;refine gr (pp ?_);unfold wT at h;obtain ⟨r33,hr20,h⟩:=bI h;refine z1 (k2 hr20 (Ao N l1 r33 hr20)) ?_;refine z0 ?_;refine fa (pp ?_);obtain rfl:=ng h;simp only [go_sem,seval,ni (adk (Ao N l1 r33 hr20))];exact ⟨_,rfl,gO.h,qJ.h⟩
 rw [hd6] at h;simp only [iZ] at h;have hw5:=eA hi3' hl1;refine z1 hi3' ?_;refine ct ?_;refine z1 (k2 hx4 hi3') ?_;refine z0 ?_;refine z0 ?_;refine lT 21 (fun (v11:Nat) (b:Bool)=>⟨tab 52 (af (af (af (af (af (af (af (af (af au 2 (pF 2)) 5 (.pal 39 [] 0 l1.length none)) 8 (vB b)) 14 (sF 3 (a0.Stacks.map aa.row))) 15 (vI (a0.Stacks.length:Int))) 16 (vI (v4:Int))) 21 (sF 3 (x7.Layers.map al.row))) 22 (vI (x7.Layers.length:Int))) 23 (vI (v11:Int))),(upd (upd RZ 2 (vA 3 (ae.row a0))) 39 (sO 1 (l1.map (ay .i64))))⟩) false h ?_ ?_ (h0:=wF (k3 hx4 hi3' hw5))
 ·rintro v11 c10 hi9' h;simp only [fK] at h;refine z1 hi9' ?_;refine cf ?_;refine z1 hw5 ?_;refine ⟨hi3',(),?_,h⟩;exact wF (k4 hx4 hi3' hw5 hi9')
 rintro v11 c10 x14 hi9' hx10 hw11 h;simp only [fK] at h;refine z1 hi9' ?_;refine ct ?_;refine z1 (k2 hx10 hi9') ?_;refine aL ?_;apply yL (fun (c29:Bool) (c30:Bool)=>⟨tab 52 (af (af (af (af (af (af (af (af (af (af (af au 2 (pF 2)) 5 (.pal 39 [] 0 l1.length none)) 8 (vB c29)) 10 (pF 10)) 14 (sF 3 (a0.Stacks.map aa.row))) 15 (vI (a0.Stacks.length:Int))) 16 (vI (v4:Int))) 21 (sF 3 (x7.Layers.map al.row))) 22 (vI (x7.Layers.length:Int))) 23 (vI (v11:Int))) 34 (vB c30)),(upd (upd (upd RZ 2 (vA 3 (ae.row a0))) 10 (vA 3 (al.row x14))) 39 (sO 1 (l1.map (ay .i64))))⟩)
 ·intro hJ13;refine iB h (fun hc14 h=>?_) fun hc14 h=>?_
  ·obtain ⟨r31,hr15,h⟩:=bI h;refine z1 (k2 hc14 hr15) ?_;refine hJ13 _ true (!r31) ?_ h;exact wF (k5 hx4 hi3' hw5 hx10 (k4 hi9' hw11 hc14 hr15))
  refine z1 hc14 ?_;refine hJ13 _ false false ?_ h;exact wF (k5 hx4 hi3' hw5 hx10 (k3 hi9' hw11 hc14))
 intro c29 c30 h;unfold mS at h;refine cB h (fun hc16 h=>?_) fun hc16 h=>?_
 ·obtain ⟨ha17,h⟩:=iT h;simp only [cC,cW,cS,Nat.reduceAdd] at ha17;refine z1 (k2 hc16 ha17) ?_;refine gr (pp (⟨_,na _,(l1++[x14.Txn_]),?_,h⟩));refine wr ?_ ?_<;>repeat' first|rfl|constructor|simp only [go_sem,seval]
 refine aU (pp ?_);unfold mT at h;refine iB h (fun hc18 h=>?_) fun hc18 h=>?_
 ·refine z1 (k2 hc16 hc18) ?_;refine z1 hw11 ?_;refine ⟨hi9',true,?_,h⟩;exact wF (k5 hx4 hi3' hw5 hx10 (k4 hi9' hw11 hc16 hc18))
 obtain ⟨r32,hr19,h⟩:=bI h;refine z1 (k3 hc16 hc18 hr19) ?_;refine z1 hw11 ?_;refine ⟨hi9',r32,?_,h⟩;exact wF (k5 hx4 hi3' hw5 hx10 (k5 hi9' hw11 hc16 hc18 hr19))
@[go_sem] def CA (N:Nat):FnS:=⟨[],true,fn2 ae.decA (aG .i64) fun q0 q1=>(oN N q0 q1).map fun r=>sF 1 (r.map (ay .i64)),false⟩
def Hu (N:Nat):aA prog 48 (CA N):=om2 fun q0 q1 r h=>rs (Li N q0 q1 r h)
@[go_sem] def NK (N d f:Nat):Option FnS:=aw [(7,108,fv N)] d f
def NZ (N:Nat) (a0:Txn) (c0_0:List Int) (r:Bool) (h:pC N a0 c0_0=some r):Con prog 111 [] true [.agg (Txn.row a0),.iref 1 [[sF 1 (c0_0.map (ay .i64))]] 0 0] (vB r):=by
 refine fk (G:=(NK N)) func111 (gc 7 (fB N) gn) ?_;simp only [f111];unfold pC at h;refine z0 ?_;obtain ⟨r1,hr1,h⟩:=bI h;refine z1 hr1 ?_;exact e0 h
@[go_sem] def vb (N:Nat):FnS:={ own:=[],pure:=true,fn:=fun cs=>match cs with
 | [c0,.iref 1 [[c1_0]] 0 0]=>(Txn.decA c0).bind fun qc0=>((aJ 1 (dp (aG .i64))) c1_0).bind fun qc1_0=>(pC N qc0 qc1_0).map fun r=>vB r
 | _=>none }
def BB (N:Nat):aA prog 111 (vb N):=by
 refine ⟨fun cs r h=>?_,fun h=>by cases h⟩;simp only [vb] at h;split at h
 ·simp only [ck,cj] at h;obtain ⟨q0,h0,q1,h1,r',hr,rfl⟩:=h;exact (ag (NZ N q0 q1 r' hr))
 ·cases h
@[go_sem] def wv (N d f:Nat):Option FnS:=aw [(16,111,vb N)] d f
def wI (N:Nat) (a0:List Txn) (k1_0_0:List Int) (r:Int) (h:fT N a0 k1_0_0=some r):Con prog 71 [] true [sF 11 (a0.map Txn.row),.clo 111 [.iref 1 [[sF 1 (k1_0_0.map (ay .i64))]] 0 0]] (vI r):=by
 refine fk (G:=(wv N)) func71 (gc 16 (BB N) gn) ?_;simp only [f71];unfold fT at h;refine z0 ?_;refine z0 ?_;refine lT 0 (fun (v2:Nat) (b:Unit)=>⟨tab 19 (af (af (af (af au 0 (sF 11 (a0.map Txn.row))) 1 (.clo 111 [.iref 1 [[sF 1 (k1_0_0.map (ay .i64))]] 0 0])) 7 (vI (a0.length:Int))) 8 (vI (v2:Int))),RZ⟩) () h ?_ ?_
 ·rintro v2 ⟨⟩ hi3' h;simp only [dL] at h;refine z1 hi3' ?_;refine cf ?_;refine z0 ?_;exact e0 h
 rintro v2 ⟨⟩ x5 hi3' hx4 hw5 h;simp only [dL] at h;refine z1 hi3' ?_;refine ct ?_;refine z0 ?_;obtain ⟨r1,hr7,h⟩:=bI h;refine z1 (k3 hx4 hi3' hr7) ?_;refine cB h (fun hc8 h=>?_) fun hc8 h=>?_
 ·refine z1 hc8 ?_;exact e0 h
 refine z1 (k2 hw5 hc8) ?_;refine ⟨hi3',(),?_,h⟩;exact wR
@[go_sem] def iy (N:Nat):FnS:={ own:=[],pure:=true,fn:=fun cs=>match cs with
 | [c0,.clo 111 [.iref 1 [[k1_0_0]] 0 0]]=>((aJ 11 Txn.dec) c0).bind fun qc0=>((aJ 1 (dp (aG .i64))) k1_0_0).bind fun qk1_0_0=>(fT N qc0 qk1_0_0).map fun r=>vI r
 | _=>none }
def ui (N:Nat):aA prog 71 (iy N):=by
 refine ⟨fun cs r h=>?_,fun h=>by cases h⟩;simp only [iy] at h;split at h
 ·simp only [ck,cj] at h;obtain ⟨q0,h0,q1,h1,r',hr,rfl⟩:=h;exact (ag (wI N q0 q1 r' hr))
 ·cases h
@[go_sem] def vK (N d f:Nat):Option FnS:=aw [(10,71,iy N),(28,111,vb N)] d f
def vq (N:Nat) (a0:List Txn) (k1_0_0:List Int) (r:List Txn) (h:dW N a0 k1_0_0=some r):Con prog 110 [true,false] false [sO 11 (a0.map Txn.row),.clo 111 [.iref 1 [[sF 1 (k1_0_0.map (ay .i64))]] 0 0]] (sO 11 (r.map Txn.row)):=by
 refine AF (G:=(vK N)) (L:=noL) func110 rfl (by decide) (by kernel_rfl) (gc 10 (ui N) (gc 28 (BB N) gn)) (fun _ _ _ h=>by cases h) [] mix (nb rfl) ?_;rw [show gh [true,false] [sO 11 (a0.map Txn.row),.clo 111 [.iref 1 [[sF 1 (k1_0_0.map (ay .i64))]] 0 0]]=(af (af au 0 (.pal 0 [] 0 a0.length none)) 1 (.clo 111 [.iref 1 [[sF 1 (k1_0_0.map (ay .i64))]] 0 0])) from by funext t; match t with|0=>simp [gh,iX,kr,af]|1=>rfl|t+2=>rfl];rw [show R0 [true,false] [sO 11 (a0.map Txn.row),.clo 111 [.iref 1 [[sF 1 (k1_0_0.map (ay .i64))]] 0 0]]=upd RZ 0 (sO 11 (a0.map Txn.row)) from by funext t; match t with|0=>rfl|1=>rfl|t+2=>rfl];simp only [f110];unfold dW at h;refine z0 ?_;obtain ⟨r1,hr1,h⟩:=bI h;refine z1 hr1 ?_;refine z0 ?_;refine oo rfl (fun hc2=>?_) (fun hc2=>?_)
 ·have hc2d:=decide_eq_true hc2;rw [if_pos hc2] at h;refine z1 hc2d ?_;refine fa (pp ?_);cases h;simp (config := { maxSteps := 4000000 }) only [go_sem,seval,dQ];exact ⟨_,rfl,gO.h,qx.h⟩
 have hc2d:=decide_eq_false hc2;rw [if_neg hc2] at h;refine z1 hc2d ?_;refine aQ (gH (fun (b:List Txn × Int × Int)=>⟨tab 42 (af (af (af (af au 0 (.pal 0 [] 0 b.1.length none)) 1 (.clo 111 [.iref 1 [[sF 1 (k1_0_0.map (ay .i64))]] 0 0])) 5 (vI b.2.1)) 6 (vI b.2.2)),(upd RZ 0 (sO 11 (b.1.map Txn.row)))⟩) (a0,r1,IntKind.i64.wrap (r1+1)) h ?_ ?_)
 ·exact wF (k2 hr1 hc2d)
 rintro n ⟨l4,v5,v6⟩ h -;cases n with
 | zero=>simp [bq] at h
 | succ n=>
 simp only [bq] at h;refine z0 ?_;refine sw (oo rfl) (fun hc3=>?_) (fun hc3=>?_)
 ·have hc3d:=decide_eq_false hc3;rw [if_neg hc3] at h;refine gr (pp ?_);unfold eN at h;refine aL ?_;obtain ⟨hs12,h⟩:=iU h;try simp only [cL] at hs12 h
  refine iP fun Z hZ=>?_;simp (config := { maxSteps := 4000000 }) only [go_sem,seval,hc3d,hs12,cU,N8 (row:=Txn.row) (rz:=[vI 0,vI 0,vS (⟨#[]⟩),vI 0,.val (.slice none 0 0),vI 0,vI 0,vI 0,vS (⟨#[]⟩),.val (.slice none 0 0),.val (.slice none 0 0)]) (k:=(v5).toNat) (l:=l4) (by have:=hs12; omega),fZ,yc,dA,aF.allD Txn.row_ok];refine hZ _ (pp (my (wJ (n:=0) ((tL (Txn.mk 0 0 (⟨#[]⟩) 0 [] 0 (Value.mk 0 0 (⟨#[]⟩) [] [])) (v5).toNat l4).map Txn.row) rfl (by simp only [go_sem,seval]; rfl) (by simp only [jh,gY,go_sem,seval]; rfl) (hle:=QN (by repeat' (first|exact Le.refl _|exact LeL.nil|exact Le.nils|refine LeL.cons ?_ ?_)))) ?_));refine aL ?_;obtain ⟨hs13,h⟩:=iU h;try simp only [xr] at hs13 h
  refine iP fun Z hZ=>?_;simp (config := { maxSteps := 4000000 }) only [go_sem,seval,hs12,cV,ua,hs13];refine hZ _ (pp (fa (pp ?_)));cases h;simp (config := { maxSteps := 4000000 }) only [go_sem,seval,dQ];exact ⟨_,rfl,gO.h,qx.h⟩
 have hc3d:=decide_eq_true hc3;rw [if_pos hc3] at h;obtain ⟨x13,hb4,hx5,h⟩:=aH h;refine z1 (k2 hb4 hx5) ?_;obtain ⟨r14,hr6,h⟩:=bI h;refine z1 hr6 ?_;refine sw (qi rfl) (fun hc7=>?_) (fun hc7=>?_)
 ·first|rw [if_pos hc7] at h|simp only [hc7,nH,nE,nt,nU,nJ,xj,nB,nX,ny,nV,cR,if_true,if_false] at h
  refine z1 hc7 ?_;refine ⟨_,na _,(l4,v5,IntKind.i64.wrap (v6+1)),?_,h⟩;exact wF (k5 hr1 hc2d hc3d hb4 (k3 hx5 hr6 hc7))
 rw [if_neg (ne_true_of_eq_false hc7)] at h;obtain ⟨x15,hb8,hx9,h⟩:=aH h;have hx11:=kB (y:=x13) hx9;refine z1 (k4 hc7 hb8 hx9 (mm2 (row:=Txn.row) (y:=x13) (rx:=[vI x15.ID,vI x15.Born,vS x15.Client,vI x15.Seq,sF 4 (x15.Calls.map ah.row),vI x15.Done,vI x15.Last.Kind,vI x15.Last.N,vS x15.Last.S,sF 1 (x15.Last.I.map (ay .i64)),sF 1 (x15.Last.L.map dB)]) (ry:=[vI x13.ID,vI x13.Born,vS x13.Client,vI x13.Seq,sF 4 (x13.Calls.map ah.row),vI x13.Done,vI x13.Last.Kind,vI x13.Last.N,vS x13.Last.S,sF 1 (x13.Last.I.map (ay .i64)),sF 1 (x13.Last.L.map dB)]) hx9 rfl rfl)) ?_;refine z0 ?_;refine z0 ?_;refine ⟨_,na _,((l4.set ((v5).toNat) x13),IntKind.i64.wrap (v5+1),IntKind.i64.wrap (v6+1)),?_,h⟩;refine wr ?_ ?_<;>repeat' first|rfl|constructor|simp only [go_sem,seval,cX]
def bp (N:Nat):FnS:={ own:=[true,false],pure:=false,fn:=fun cs=>match cs with
 | [c0,.clo 111 [.iref 1 [[k1_0_0]] 0 0]]=>((vU 11 Txn.dec) c0).bind fun q0=>((aJ 1 (dp (aG .i64))) k1_0_0).bind fun q1=>(dW N q0 q1).map fun r=>sO 11 (r.map Txn.row)
 | _=>none }
theorem sI (N:Nat):(bp N).own=[true,false]:=rfl
theorem rP (N:Nat):(bp N).pure=false:=rfl
theorem rS (N:Nat):(bp N).peek=false:=rfl
attribute [go_sem] bp sI rP rS
def th (N:Nat):aA prog 110 (bp N):=by
 refine ⟨fun cs r h=>?_,fun h=>by cases h⟩;simp only [bp] at h;split at h
 ·simp only [ck,cj] at h;obtain ⟨q0,h0,q1,h1,r',hr,rfl⟩:=h;exact (vq N q0 q1 r' hr).argsO rfl (jG (qj Txn.row_ok Txn.dec_le h0) (rJ (Le.clo (LeL.cons (Le.iref1 (LeL.cons (ia (jx .i64) h1) (LeL.nil))) (LeL.nil))) (oA)))
 ·cases h
@[go_sem] def Nw (N d f:Nat):Option FnS:=aw [(7,108,fv N)] d f
def N7 (N:Nat) (a0:al) (c0_0:List Int) (r:Bool) (h:pK N a0 c0_0=some r):Con prog 113 [] true [.agg (al.row a0),.iref 1 [[sF 1 (c0_0.map (ay .i64))]] 0 0] (vB r):=by
 refine fk (G:=(Nw N)) func113 (gc 7 (fB N) gn) ?_;simp only [f113];unfold pK at h;refine z0 ?_;obtain ⟨r1,hr1,h⟩:=bI h;refine z1 hr1 ?_;exact e0 h
@[go_sem] def vi (N:Nat):FnS:={ own:=[],pure:=true,fn:=fun cs=>match cs with
 | [c0,.iref 1 [[c1_0]] 0 0]=>(al.decA c0).bind fun qc0=>((aJ 1 (dp (aG .i64))) c1_0).bind fun qc1_0=>(pK N qc0 qc1_0).map fun r=>vB r
 | _=>none }
def BN (N:Nat):aA prog 113 (vi N):=by
 refine ⟨fun cs r h=>?_,fun h=>by cases h⟩;simp only [vi] at h;split at h
 ·simp only [ck,cj] at h;obtain ⟨q0,h0,q1,h1,r',hr,rfl⟩:=h;exact (ag (N7 N q0 q1 r' hr))
 ·cases h
@[go_sem] def vk (N d f:Nat):Option FnS:=aw [(16,113,vi N)] d f
def vo (N:Nat) (a0:List al) (k1_0_0:List Int) (r:Int) (h:fA N a0 k1_0_0=some r):Con prog 186 [] true [sF 3 (a0.map al.row),.clo 113 [.iref 1 [[sF 1 (k1_0_0.map (ay .i64))]] 0 0]] (vI r):=by
 refine fk (G:=(vk N)) func186 (gc 16 (BN N) gn) ?_;simp only [f186];unfold fA at h;refine z0 ?_;refine z0 ?_;refine lT 0 (fun (v2:Nat) (b:Unit)=>⟨tab 19 (af (af (af (af au 0 (sF 3 (a0.map al.row))) 1 (.clo 113 [.iref 1 [[sF 1 (k1_0_0.map (ay .i64))]] 0 0])) 7 (vI (a0.length:Int))) 8 (vI (v2:Int))),RZ⟩) () h ?_ ?_
 ·rintro v2 ⟨⟩ hi3' h;simp only [du] at h;refine z1 hi3' ?_;refine cf ?_;refine z0 ?_;exact e0 h
 rintro v2 ⟨⟩ x5 hi3' hx4 hw5 h;simp only [du] at h;refine z1 hi3' ?_;refine ct ?_;refine z0 ?_;obtain ⟨r1,hr7,h⟩:=bI h;refine z1 (k3 hx4 hi3' hr7) ?_;refine cB h (fun hc8 h=>?_) fun hc8 h=>?_
 ·refine z1 hc8 ?_;exact e0 h
 refine z1 (k2 hw5 hc8) ?_;refine ⟨hi3',(),?_,h⟩;exact wR
@[go_sem] def gK (N:Nat):FnS:={ own:=[],pure:=true,fn:=fun cs=>match cs with
 | [c0,.clo 113 [.iref 1 [[k1_0_0]] 0 0]]=>((aJ 3 al.dec) c0).bind fun qc0=>((aJ 1 (dp (aG .i64))) k1_0_0).bind fun qk1_0_0=>(fA N qc0 qk1_0_0).map fun r=>vI r
 | _=>none }
def tg (N:Nat):aA prog 186 (gK N):=by
 refine ⟨fun cs r h=>?_,fun h=>by cases h⟩;simp only [gK] at h;split at h
 ·simp only [ck,cj] at h;obtain ⟨q0,h0,q1,h1,r',hr,rfl⟩:=h;exact (ag (vo N q0 q1 r' hr))
 ·cases h
@[go_sem] def uX (N d f:Nat):Option FnS:=aw [(10,186,gK N),(28,113,vi N)] d f
def uU (N:Nat) (a0:List al) (k1_0_0:List Int) (r:List al) (h:dK N a0 k1_0_0=some r):Con prog 112 [true,false] false [sO 3 (a0.map al.row),.clo 113 [.iref 1 [[sF 1 (k1_0_0.map (ay .i64))]] 0 0]] (sO 3 (r.map al.row)):=by
 refine AF (G:=(uX N)) (L:=noL) func112 rfl (by decide) (by kernel_rfl) (gc 10 (tg N) (gc 28 (BN N) gn)) (fun _ _ _ h=>by cases h) [] mix (nb rfl) ?_;rw [show gh [true,false] [sO 3 (a0.map al.row),.clo 113 [.iref 1 [[sF 1 (k1_0_0.map (ay .i64))]] 0 0]]=(af (af au 0 (.pal 0 [] 0 a0.length none)) 1 (.clo 113 [.iref 1 [[sF 1 (k1_0_0.map (ay .i64))]] 0 0])) from by funext t; match t with|0=>simp [gh,iX,kr,af]|1=>rfl|t+2=>rfl];rw [show R0 [true,false] [sO 3 (a0.map al.row),.clo 113 [.iref 1 [[sF 1 (k1_0_0.map (ay .i64))]] 0 0]]=upd RZ 0 (sO 3 (a0.map al.row)) from by funext t; match t with|0=>rfl|1=>rfl|t+2=>rfl];simp only [f112];unfold dK at h;refine z0 ?_;obtain ⟨r1,hr1,h⟩:=bI h;refine z1 hr1 ?_;refine z0 ?_;refine oo rfl (fun hc2=>?_) (fun hc2=>?_)
 ·have hc2d:=decide_eq_true hc2;rw [if_pos hc2] at h;refine z1 hc2d ?_;refine fa (pp ?_);cases h;simp (config := { maxSteps := 4000000 }) only [go_sem,seval,dQ];exact ⟨_,rfl,gO.h,qx.h⟩
 have hc2d:=decide_eq_false hc2;rw [if_neg hc2] at h;refine z1 hc2d ?_;refine aQ (gH (fun (b:List al × Int × Int)=>⟨tab 42 (af (af (af (af au 0 (.pal 0 [] 0 b.1.length none)) 1 (.clo 113 [.iref 1 [[sF 1 (k1_0_0.map (ay .i64))]] 0 0])) 5 (vI b.2.1)) 6 (vI b.2.2)),(upd RZ 0 (sO 3 (b.1.map al.row)))⟩) (a0,r1,IntKind.i64.wrap (r1+1)) h ?_ ?_)
 ·exact wF (k2 hr1 hc2d)
 rintro n ⟨l4,v5,v6⟩ h -;cases n with
 | zero=>simp [bk] at h
 | succ n=>
 simp only [bk] at h;refine z0 ?_;refine sw (oo rfl) (fun hc3=>?_) (fun hc3=>?_)
 ·have hc3d:=decide_eq_false hc3;rw [if_neg hc3] at h;refine gr (pp ?_);unfold eC at h;refine aL ?_;obtain ⟨hs12,h⟩:=iU h;try simp only [cL] at hs12 h
  refine iP fun Z hZ=>?_;simp (config := { maxSteps := 4000000 }) only [go_sem,seval,hc3d,hs12,cU,N8 (row:=al.row) (rz:=[vI 0,.val (.slice none 0 0),vB false]) (k:=(v5).toNat) (l:=l4) (by have:=hs12; omega),fZ,yc,dA,aF.allD al.row_ok];refine hZ _ (pp (my (wJ (n:=0) ((tL (al.mk 0 [] false) (v5).toNat l4).map al.row) rfl (by simp only [go_sem,seval]; rfl) (by simp only [jh,gY,go_sem,seval]; rfl) (hle:=QN (by repeat' (first|exact Le.refl _|exact LeL.nil|exact Le.nils|refine LeL.cons ?_ ?_)))) ?_));refine aL ?_;obtain ⟨hs13,h⟩:=iU h;try simp only [xr] at hs13 h
  refine iP fun Z hZ=>?_;simp (config := { maxSteps := 4000000 }) only [go_sem,seval,hs12,cV,ua,hs13];refine hZ _ (pp (fa (pp ?_)));cases h;simp (config := { maxSteps := 4000000 }) only [go_sem,seval,dQ];exact ⟨_,rfl,gO.h,qx.h⟩
 have hc3d:=decide_eq_true hc3;rw [if_pos hc3] at h;obtain ⟨x13,hb4,hx5,h⟩:=aH h;refine z1 (k2 hb4 hx5) ?_;obtain ⟨r14,hr6,h⟩:=bI h;refine z1 hr6 ?_;refine sw (qi rfl) (fun hc7=>?_) (fun hc7=>?_)
 ·first|rw [if_pos hc7] at h|simp only [hc7,nH,nE,nt,nU,nJ,xj,nB,nX,ny,nV,cR,if_true,if_false] at h
  refine z1 hc7 ?_;refine ⟨_,na _,(l4,v5,IntKind.i64.wrap (v6+1)),?_,h⟩;exact wF (k5 hr1 hc2d hc3d hb4 (k3 hx5 hr6 hc7))
 rw [if_neg (ne_true_of_eq_false hc7)] at h;obtain ⟨x15,hb8,hx9,h⟩:=aH h;have hx11:=kB (y:=x13) hx9;refine z1 (k4 hc7 hb8 hx9 (mm2 (row:=al.row) (y:=x13) (rx:=[vI x15.Txn_,sF 5 (x15.Fields.map Value.row),vB x15.Prepared]) (ry:=[vI x13.Txn_,sF 5 (x13.Fields.map Value.row),vB x13.Prepared]) hx9 rfl rfl)) ?_;refine z0 ?_;refine z0 ?_;refine ⟨_,na _,((l4.set ((v5).toNat) x13),IntKind.i64.wrap (v5+1),IntKind.i64.wrap (v6+1)),?_,h⟩;refine wr ?_ ?_<;>repeat' first|rfl|constructor|simp only [go_sem,seval,cX]
def bh (N:Nat):FnS:={ own:=[true,false],pure:=false,fn:=fun cs=>match cs with
 | [c0,.clo 113 [.iref 1 [[k1_0_0]] 0 0]]=>((vU 3 al.dec) c0).bind fun q0=>((aJ 1 (dp (aG .i64))) k1_0_0).bind fun q1=>(dK N q0 q1).map fun r=>sO 3 (r.map al.row)
 | _=>none }
theorem rp (N:Nat):(bh N).own=[true,false]:=rfl
theorem rf (N:Nat):(bh N).pure=false:=rfl
theorem qM (N:Nat):(bh N).peek=false:=rfl
attribute [go_sem] bh rp rf qM
def rR (N:Nat):aA prog 112 (bh N):=by
 refine ⟨fun cs r h=>?_,fun h=>by cases h⟩;simp only [bh] at h;split at h
 ·simp only [ck,cj] at h;obtain ⟨q0,h0,q1,h1,r',hr,rfl⟩:=h;exact (uU N q0 q1 r' hr).argsO rfl (jG (qj al.row_ok al.dec_le h0) (rJ (Le.clo (LeL.cons (Le.iref1 (LeL.cons (ia (jx .i64) h1) (LeL.nil))) (LeL.nil))) (oA)))
 ·cases h
def Ok (N:Nat) (a0:aa) (r:Bool) (h:oZ N a0=some r):Con prog 115 [] true [.agg (aa.row a0)] (vB r):=by
 refine fk (G:=(aw [])) func115 gn ?_;simp only [f115];unfold oZ at h;refine z0 ?_;refine z0 ?_;exact e0 h
@[go_sem] def zu (N:Nat):FnS:=⟨[],true,fn1 aa.decA fun q0=>(oZ N q0).map fun r=>vB r,false⟩
def B2 (N:Nat):aA prog 115 (zu N):=om1 (Ok N)
@[go_sem] def si (N d f:Nat):Option FnS:=aw [(16,115,zu N)] d f
def sE (N:Nat) (a0:List aa) (r:Int) (h:en N a0=some r):Con prog 105 [] true [sF 3 (a0.map aa.row),.clo 115 []] (vI r):=by
 refine fk (G:=(si N)) func105 (gc 16 (B2 N) gn) ?_;simp only [f105];unfold en at h;refine z0 ?_;refine z0 ?_;refine lT 0 (fun (v2:Nat) (b:Unit)=>⟨tab 19 (af (af (af (af au 0 (sF 3 (a0.map aa.row))) 1 (.clo 115 [])) 7 (vI (a0.length:Int))) 8 (vI (v2:Int))),RZ⟩) () h ?_ ?_
 ·rintro v2 ⟨⟩ hi3' h;simp only [bQ] at h;refine z1 hi3' ?_;refine cf ?_;refine z0 ?_;exact e0 h
 rintro v2 ⟨⟩ x5 hi3' hx4 hw5 h;simp only [bQ] at h;refine z1 hi3' ?_;refine ct ?_;refine z0 ?_;obtain ⟨r1,hr7,h⟩:=bI h;refine z1 (k3 hx4 hi3' hr7) ?_;refine cB h (fun hc8 h=>?_) fun hc8 h=>?_
 ·refine z1 hc8 ?_;exact e0 h
 refine z1 (k2 hw5 hc8) ?_;refine ⟨hi3',(),?_,h⟩;exact wR
@[go_sem] def fG (N:Nat):FnS:={ own:=[],pure:=true,fn:=fun cs=>match cs with
 | [c0,.clo 115 []]=>((aJ 3 aa.dec) c0).bind fun qc0=>(en N qc0).map fun r=>vI r
 | _=>none }
def qf (N:Nat):aA prog 105 (fG N):=by
 refine ⟨fun cs r h=>?_,fun h=>by cases h⟩;simp only [fG] at h;split at h
 ·simp only [ck,cj] at h;obtain ⟨q0,h0,r',hr,rfl⟩:=h;exact (ag (sE N q0 r' hr))
 ·cases h
@[go_sem] def rO (N d f:Nat):Option FnS:=aw [(10,105,fG N),(28,115,zu N)] d f
def rU (N:Nat) (a0:List aa) (r:List aa) (h:bY N a0=some r):Con prog 114 [true,false] false [sO 3 (a0.map aa.row),.clo 115 []] (sO 3 (r.map aa.row)):=by
 refine AF (G:=(rO N)) (L:=noL) func114 rfl (by decide) (by kernel_rfl) (gc 10 (qf N) (gc 28 (B2 N) gn)) (fun _ _ _ h=>by cases h) [] mix (nb rfl) ?_;rw [show gh [true,false] [sO 3 (a0.map aa.row),.clo 115 []]=(af (af au 0 (.pal 0 [] 0 a0.length none)) 1 (.clo 115 [])) from by funext t; match t with|0=>simp [gh,iX,kr,af]|1=>rfl|t+2=>rfl];rw [show R0 [true,false] [sO 3 (a0.map aa.row),.clo 115 []]=upd RZ 0 (sO 3 (a0.map aa.row)) from by funext t; match t with|0=>rfl|1=>rfl|t+2=>rfl];simp only [f114];unfold bY at h;refine z0 ?_;obtain ⟨r1,hr1,h⟩:=bI h;refine z1 hr1 ?_;refine z0 ?_;refine oo rfl (fun hc2=>?_) (fun hc2=>?_)
 ·have hc2d:=decide_eq_true hc2;rw [if_pos hc2] at h;refine z1 hc2d ?_;refine fa (pp ?_);cases h;simp (config := { maxSteps := 4000000 }) only [go_sem,seval,dQ];exact ⟨_,rfl,gO.h,qx.h⟩
 have hc2d:=decide_eq_false hc2;rw [if_neg hc2] at h;refine z1 hc2d ?_;refine aQ (gH (fun (b:List aa × Int × Int)=>⟨tab 42 (af (af (af (af au 0 (.pal 0 [] 0 b.1.length none)) 1 (.clo 115 [])) 5 (vI b.2.1)) 6 (vI b.2.2)),(upd RZ 0 (sO 3 (b.1.map aa.row)))⟩) (a0,r1,IntKind.i64.wrap (r1+1)) h ?_ ?_)
 ·exact wF (k2 hr1 hc2d)
 rintro n ⟨l4,v5,v6⟩ h -;cases n with
 | zero=>simp [aX] at h
 | succ n=>
 simp only [aX] at h;refine z0 ?_;refine sw (oo rfl) (fun hc3=>?_) (fun hc3=>?_)
 ·have hc3d:=decide_eq_false hc3;rw [if_neg hc3] at h;refine gr (pp ?_);unfold dJ at h;refine aL ?_;obtain ⟨hs12,h⟩:=iU h;try simp only [cL] at hs12 h
  refine iP fun Z hZ=>?_;simp (config := { maxSteps := 4000000 }) only [go_sem,seval,hc3d,hs12,cU,N8 (row:=aa.row) (rz:=[vS (⟨#[]⟩),vS (⟨#[]⟩),.val (.slice none 0 0)]) (k:=(v5).toNat) (l:=l4) (by have:=hs12; omega),fZ,yc,dA,aF.allD aa.row_ok];refine hZ _ (pp (my (wJ (n:=0) ((tL (aa.mk (Ref.mk (⟨#[]⟩) (⟨#[]⟩)) []) (v5).toNat l4).map aa.row) rfl (by simp only [go_sem,seval]; rfl) (by simp only [jh,gY,go_sem,seval]; rfl) (hle:=QN (by repeat' (first|exact Le.refl _|exact LeL.nil|exact Le.nils|refine LeL.cons ?_ ?_)))) ?_));refine aL ?_;obtain ⟨hs13,h⟩:=iU h;try simp only [xr] at hs13 h
  refine iP fun Z hZ=>?_;simp (config := { maxSteps := 4000000 }) only [go_sem,seval,hs12,cV,ua,hs13];refine hZ _ (pp (fa (pp ?_)));cases h;simp (config := { maxSteps := 4000000 }) only [go_sem,seval,dQ];exact ⟨_,rfl,gO.h,qx.h⟩
 have hc3d:=decide_eq_true hc3;rw [if_pos hc3] at h;obtain ⟨x13,hb4,hx5,h⟩:=aH h;refine z1 (k2 hb4 hx5) ?_;obtain ⟨r14,hr6,h⟩:=bI h;refine z1 hr6 ?_;refine sw (qi rfl) (fun hc7=>?_) (fun hc7=>?_)
 ·first|rw [if_pos hc7] at h|simp only [hc7,nH,nE,nt,nU,nJ,xj,nB,nX,ny,nV,cR,if_true,if_false] at h
  refine z1 hc7 ?_;refine ⟨_,na _,(l4,v5,IntKind.i64.wrap (v6+1)),?_,h⟩;exact wF (k5 hr1 hc2d hc3d hb4 (k3 hx5 hr6 hc7))
 rw [if_neg (ne_true_of_eq_false hc7)] at h;obtain ⟨x15,hb8,hx9,h⟩:=aH h;have hx11:=kB (y:=x13) hx9;refine z1 (k4 hc7 hb8 hx9 (mm2 (row:=aa.row) (y:=x13) (rx:=[vS x15.Actor.Type_,vS x15.Actor.Key,sF 3 (x15.Layers.map al.row)]) (ry:=[vS x13.Actor.Type_,vS x13.Actor.Key,sF 3 (x13.Layers.map al.row)]) hx9 rfl rfl)) ?_;refine z0 ?_;refine z0 ?_;refine ⟨_,na _,((l4.set ((v5).toNat) x13),IntKind.i64.wrap (v5+1),IntKind.i64.wrap (v6+1)),?_,h⟩;refine wr ?_ ?_<;>repeat' first|rfl|constructor|simp only [go_sem,seval,cX]
def aW (N:Nat):FnS:={ own:=[true,false],pure:=false,fn:=fun cs=>match cs with
 | [c0,.clo 115 []]=>((vU 3 aa.dec) c0).bind fun q0=>(bY N q0).map fun r=>sO 3 (r.map aa.row)
 | _=>none }
theorem oS (N:Nat):(aW N).own=[true,false]:=rfl
theorem oa (N:Nat):(aW N).pure=false:=rfl
theorem oh (N:Nat):(aW N).peek=false:=rfl
attribute [go_sem] aW oS oa oh
def pJ (N:Nat):aA prog 114 (aW N):=by
 refine ⟨fun cs r h=>?_,fun h=>by cases h⟩;simp only [aW] at h;split at h
 ·simp only [ck,cj] at h;obtain ⟨q0,h0,r',hr,rfl⟩:=h;exact (rU N q0 r' hr).argsO rfl (jG (qj aa.row_ok aa.dec_le h0) (rJ (Le.clo (LeL.nil)) (oA)))
 ·cases h
@[go_sem] def Rw (N d f:Nat):Option FnS:=aw [(8,59,ql N),(12,110,bp N),(30,112,bh N),(36,114,aW N)] d f
def RF (N:Nat) (a0:ae) (a1:List Int) (r:ae) (h:tG N a0 a1=some r):Con prog 49 [] false [.agg (ae.row a0),sF 1 (a1.map (ay .i64))] (.agg [sO 11 (r.Txns.map Txn.row),sO 4 (r.Locks.map ai.row),sF 3 (r.Stacks.map aa.row)]):=by
 refine fk (G:=(Rw N)) func49 (gc 8 (ph N) (gc 12 (th N) (gc 30 (rR N) (gc 36 (pJ N) gn)))) ?_;simp only [f49];unfold tG at h;refine z0 ?_;obtain ⟨r1,hr1,h⟩:=bI h;refine z1 hr1 ?_;refine aL (my (WV (n:=3) (by simp only [go_sem,seval]; rfl) rfl (by simp only [jh,gY,Oq,M8,go_sem,seval]; rfl)) ?_);obtain ⟨r2,hr2,h⟩:=bI h;refine z1 hr2 ?_;refine z0 ?_;refine aQ (gG fun hreal4=>?_);have hl3:=hreal4.cell 5 2 (by simp only [go_sem,seval]; rfl) rfl;rw [cy] at hl3;refine pw (fun (v5:Nat) (b:List aa)=>⟨tab 39 (af (af (af (af (af au 3 (.iref 1 [[sF 1 (a1.map (ay .i64))]] 0 0)) 4 (pF 4)) 5 (pF 5)) 16 (vI (r1.Stacks.length:Int))) 17 (vI (v5:Int))),(upd (upd RZ 4 (vA 3 [.val (.slice none 0 0),.val (.slice none 0 0),.val (.slice none 0 0)])) 5 (vA 3 [sO 11 (r2.map Txn.row),sO 4 (r1.Locks.map ai.row),sO 3 (b.map aa.rowD)]))⟩) r1.Stacks h ?_ ?_
 ·exact wF (k2 hr1 hr2)
 rintro v5 l4 _ h -;rcases (jr r1.Stacks.length v5).symm with ⟨hi5',hd8⟩|⟨hi5',hd8⟩
 ·rw [hd8] at h;simp only [mN] at h;refine z1 hi5' ?_;refine cf ?_;refine gr (pp ?_);unfold yK at h;refine aL (my (Sy aa.rowD aa.row 5 [(0,2)] l4 (by simp only [go_sem,seval]; rfl) (by simp only [jh,gY,go_sem,seval]; rfl) (by simp only [go_sem,seval]; rfl)) ?_);obtain ⟨r13,hr12,h⟩:=bI h;refine z1 hr12 ?_;refine z0 ?_;refine fa (pp ?_);cases h;simp (config := { maxSteps := 4000000 }) only [go_sem,seval];exact ⟨_,rfl,(by repeat' (first|exact ROk.refl _|exact ROk.nil _|((refine ROk.of _ ?_ ?_); (focus ((repeat' (first|exact Le.refl _|exact LeL.nil|exact Le.nils|exact dz.refl _|refine dz.mapAppend ?_ ?_|refine dz.cons ?_ ?_|refine Le.sl ?_|refine Le.tup ?_|refine Le.agg ?_|refine LeL.cons ?_ ?_)); done)); (focus ((repeat' (first|exact bW.val _|exact bW.sl _ _ _ _|refine bW.tup ?_|refine bW.agg ?_|exact Ed|refine CU ?_ ?_)); done)))|((refine ROk.own ?_ ?_); (focus ((repeat' (first|exact Le.refl _|exact LeL.nil|exact Le.nils|exact dz.refl _|refine dz.mapAppend ?_ ?_|refine dz.cons ?_ ?_|refine Le.sl ?_|refine Le.tup ?_|refine Le.agg ?_|refine LeL.cons ?_ ?_)); done)); (focus ((first|exact aF.noOwn (mA .i64) _|exact aF.noOwn ah.row_ok _|exact aF.noOwn al.row_ok _|exact aF.noOwn aa.row_ok _|exact aF.noOwn ai.row_ok _|exact aF.noOwn Txn.row_ok _|exact aF.noOwn Value.row_ok _|exact aF.noOwn FU _); done)))|refine ROk.agg rfl ?_|refine ROk.tup rfl ?_|exact NM|refine Lq ?_ ?_))⟩
 rw [hd8] at h;simp only [mN] at h;have hw7:=eA hi5' hl3;refine z1 hi5' ?_;refine ct ?_;refine z0 ?_;obtain ⟨x11,hb9,hx10,h⟩:=aH h;try simp only [cL] at hx10
 try simp only [nL,nM,true_and] at hb9
 refine Mh [0,1,2,3,4,5,6,7,8,9] [10] [] [11,12,13] [5] (by kernel_rfl) fun Z hZ Y hY=>?_;simp (config := { maxSteps := 4000000 }) only [go_sem,seval,hb9,hx10];refine hY _ (by kernel_rfl) (Lh (by simp only [go_sem,seval,DO,Option.isNone,nJ]; try rfl) fun Y hY=>?_);obtain ⟨r12,hr11,h⟩:=bI h;simp (config := { maxSteps := 4000000 }) only [go_sem,seval,hx10,Tr (row:=aa.rowD) (rx:=[vS x11.Actor.Type_,vS x11.Actor.Key,sO 3 (x11.Layers.map al.row)]) hx10 rfl rfl,hr11];refine hY _ (by kernel_rfl) (YM ?_);simp (config := { maxSteps := 4000000 }) only [go_sem,seval,hb9,Hv (row:=aa.rowD) _ hx10,Hw (row:=aa.rowD) hx10 rfl];refine hZ _ (z1 hw7 ?_);refine ⟨hi5',(l4.set v5 (aa.mk x11.Actor r12)),?_,h⟩;refine aV.trans (zn (n:=5) (c':=vA 3 [sO 11 (r2.map Txn.row),sO 4 (r1.Locks.map ai.row),sO 3 ((l4.set v5 (aa.mk x11.Actor r12)).map aa.rowD)]) (by simp only [go_sem,seval]; rfl) (by first|(simp only [oJ (row:=aa.rowD) (l:=l4) (i:=v5) (y:=(aa.mk x11.Actor r12)) (rc:=[vS x11.Actor.Type_,vS x11.Actor.Key,sO 3 (r12.map al.row)]) rfl]; done)|(simp only [oJ (row:=aa.rowD) (l:=l4) (i:=v5) (y:=(aa.mk x11.Actor r12)) (rc:=[vS x11.Actor.Type_,vS x11.Actor.Key,sO 3 (r12.map al.row)]) rfl,nr,nv,xg]<;>rfl)|(rw [<-oJ (row:=aa.rowD) (l:=l4) (i:=v5) (y:=(aa.mk x11.Actor r12)) (rc:=[vS x11.Actor.Type_,vS x11.Actor.Key,sO 3 (r12.map al.row)]) rfl]; simp only [nr,nv,xg]<;>rfl))) ?_
 exact wF (k5 hr1 hr2 hi5' hw7 (k5 hb9 hx10 (ov1 (row:=aa.rowD) (rx:=[vS x11.Actor.Type_,vS x11.Actor.Key,sO 3 (x11.Layers.map al.row)]) hx10 rfl) (ov2 (row:=aa.rowD) hx10) (k2 (ov3 (row:=aa.rowD) hx10) hr11)))
@[go_sem] def Cg (N:Nat):FnS:=⟨[],false,fn2 ae.decA (aJ 1 (dp (aG .i64))) fun q0 q1=>(tG N q0 q1).map fun r=>.agg (ae.row r),false⟩
def Dt (N:Nat):aA prog 49 (Cg N):=ok2 (fun q0 q1 r h=>by
 obtain ⟨r',hr,rfl⟩:=cj.1 h;exact (RF N q0 q1 r' hr).res (by first|((try simp only [go_sem]); exact gO.h)|(repeat' (first|exact ROk.refl _|exact ROk.nil _|((refine ROk.of _ ?_ ?_); (focus ((repeat' (first|exact Le.refl _|exact LeL.nil|exact Le.nils|exact dz.refl _|refine dz.mapAppend ?_ ?_|refine dz.cons ?_ ?_|refine Le.sl ?_|refine Le.tup ?_|refine Le.agg ?_|refine LeL.cons ?_ ?_)); done)); (focus ((repeat' (first|exact bW.val _|exact bW.sl _ _ _ _|refine bW.tup ?_|refine bW.agg ?_|exact Ed|refine CU ?_ ?_)); done)))|((refine ROk.own ?_ ?_); (focus ((repeat' (first|exact Le.refl _|exact LeL.nil|exact Le.nils|exact dz.refl _|refine dz.mapAppend ?_ ?_|refine dz.cons ?_ ?_|refine Le.sl ?_|refine Le.tup ?_|refine Le.agg ?_|refine LeL.cons ?_ ?_)); done)); (focus ((first|exact aF.noOwn (mA .i64) _|exact aF.noOwn ah.row_ok _|exact aF.noOwn al.row_ok _|exact aF.noOwn aa.row_ok _|exact aF.noOwn ai.row_ok _|exact aF.noOwn Txn.row_ok _|exact aF.noOwn Value.row_ok _|exact aF.noOwn FU _); done)))|refine ROk.agg rfl ?_|refine ROk.tup rfl ?_|exact NM|refine Lq ?_ ?_)))) (ae.decA_le) (fun h=>ia (jx .i64) h)
def Iw (N:Nat) (a0:Int) (c0_0:Int) (r:Bool) (h:lf N a0 c0_0=some r):Con prog 119 [] true [vI a0,.iref 1 [[vI c0_0]] 0 0] (vB r):=by
 refine fk (G:=(aw [])) func119 gn ?_;simp only [f119];unfold lf at h;refine z0 ?_;refine z0 ?_;exact e0 h
@[go_sem] def pN (N:Nat):FnS:={ own:=[],pure:=true,fn:=fun cs=>match cs with
 | [c0,.iref 1 [[c1_0]] 0 0]=>((aG .i64) c0).bind fun qc0=>((aG .i64) c1_0).bind fun qc1_0=>(lf N qc0 qc1_0).map fun r=>vB r
 | _=>none }
def yp (N:Nat):aA prog 119 (pN N):=by
 refine ⟨fun cs r h=>?_,fun h=>by cases h⟩;simp only [pN] at h;split at h
 ·simp only [ck,cj] at h;obtain ⟨q0,h0,q1,h1,r',hr,rfl⟩:=h;exact (ag (Iw N q0 q1 r' hr))
 ·cases h
@[go_sem] def uw (N d f:Nat):Option FnS:=aw [(16,119,pN N)] d f
def uG (N:Nat) (a0:List Int) (k1_0_0:Int) (r:Int) (h:dF N a0 k1_0_0=some r):Con prog 189 [] true [sF 1 (a0.map (ay .i64)),.clo 119 [.iref 1 [[vI k1_0_0]] 0 0]] (vI r):=by
 refine fk (G:=(uw N)) func189 (gc 16 (yp N) gn) ?_;simp only [f189];unfold dF at h;refine z0 ?_;refine z0 ?_;refine lT 0 (fun (v2:Nat) (b:Unit)=>⟨tab 19 (af (af (af (af au 0 (sF 1 (a0.map (ay .i64)))) 1 (.clo 119 [.iref 1 [[vI k1_0_0]] 0 0])) 7 (vI (a0.length:Int))) 8 (vI (v2:Int))),RZ⟩) () h ?_ ?_
 ·rintro v2 ⟨⟩ hi3' h;simp only [bj] at h;refine z1 hi3' ?_;refine cf ?_;refine z0 ?_;exact e0 h
 rintro v2 ⟨⟩ x5 hi3' hx4 hw5 h;simp only [bj] at h;refine z1 hi3' ?_;refine ct ?_;refine z0 ?_;obtain ⟨r1,hr7,h⟩:=bI h;refine z1 (k3 hx4 hi3' hr7) ?_;refine cB h (fun hc8 h=>?_) fun hc8 h=>?_
 ·refine z1 hc8 ?_;exact e0 h
 refine z1 (k2 hw5 hc8) ?_;refine ⟨hi3',(),?_,h⟩;exact wR
@[go_sem] def gy (N:Nat):FnS:={ own:=[],pure:=true,fn:=fun cs=>match cs with
 | [c0,.clo 119 [.iref 1 [[k1_0_0]] 0 0]]=>((aJ 1 (dp (aG .i64))) c0).bind fun qc0=>((aG .i64) k1_0_0).bind fun qk1_0_0=>(dF N qc0 qk1_0_0).map fun r=>vI r
 | _=>none }
def rY (N:Nat):aA prog 189 (gy N):=by
 refine ⟨fun cs r h=>?_,fun h=>by cases h⟩;simp only [gy] at h;split at h
 ·simp only [ck,cj] at h;obtain ⟨q0,h0,q1,h1,r',hr,rfl⟩:=h;exact (ag (uG N q0 q1 r' hr))
 ·cases h
@[go_sem] def tw (N d f:Nat):Option FnS:=aw [(10,189,gy N),(28,119,pN N)] d f
def uf (N:Nat) (a0:List Int) (k1_0_0:Int) (r:List Int) (h:bA N a0 k1_0_0=some r):Con prog 118 [true,false] true [sO 1 (a0.map (ay .i64)),.clo 119 [.iref 1 [[vI k1_0_0]] 0 0]] (sO 1 (r.map (ay .i64))):=by
 refine AF (G:=(tw N)) (L:=noL) func118 rfl (by decide) (by kernel_rfl) (gc 10 (rY N) (gc 28 (yp N) gn)) (fun _ _ _ h=>by cases h) [] mix (nb rfl) ?_;rw [show gh [true,false] [sO 1 (a0.map (ay .i64)),.clo 119 [.iref 1 [[vI k1_0_0]] 0 0]]=(af (af au 0 (.pal 0 [] 0 a0.length none)) 1 (.clo 119 [.iref 1 [[vI k1_0_0]] 0 0])) from by funext t; match t with|0=>simp [gh,iX,kr,af]|1=>rfl|t+2=>rfl];rw [show R0 [true,false] [sO 1 (a0.map (ay .i64)),.clo 119 [.iref 1 [[vI k1_0_0]] 0 0]]=upd RZ 0 (sO 1 (a0.map (ay .i64))) from by funext t; match t with|0=>rfl|1=>rfl|t+2=>rfl];simp only [f118];unfold bA at h;refine z0 ?_;obtain ⟨r1,hr1,h⟩:=bI h;refine z1 hr1 ?_;refine z0 ?_;refine cD h (fun hc2 hc2d h=>?_) fun hc2 hc2d h=>?_
 ·refine z1 hc2d ?_;refine fa (pp ?_);cases h;simp only [go_sem,seval,dQ];exact ⟨_,rfl,gO.h,qx.h,qJ.h⟩
 refine z1 hc2d ?_;refine aQ (gH (fun (b:List Int × Int × Int)=>⟨tab 42 (af (af (af (af au 0 (.pal 0 [] 0 b.1.length none)) 1 (.clo 119 [.iref 1 [[vI k1_0_0]] 0 0])) 5 (vI b.2.1)) 6 (vI b.2.2)),(upd RZ 0 (sO 1 (b.1.map (ay .i64))))⟩) (a0,r1,IntKind.i64.wrap (r1+1)) h ?_ ?_)
 ·exact wF (k2 hr1 hc2d)
 rintro n ⟨l4,v5,v6⟩ h -;cases n with
 | zero=>simp [bf] at h
 | succ n=>
 simp only [bf] at h;refine z0 ?_;refine cDs h (fun hc3 hc3d h=>?_) fun hc3 hc3d h=>?_
 ·refine gr (pp ?_);unfold dV at h;refine aL ?_;obtain ⟨hs12,h⟩:=iU h;try simp only [cL] at hs12 h
  refine iP fun Z hZ=>?_;simp only [go_sem,seval,hc3d,hs12,cU,Q7 (row:=(ay .i64)) (z:=0) (rz:=[vI 0]) (k:=(v5).toNat) (l:=l4) (by have:=hs12; omega) rfl,fZ,yc,dA,aF.allD (mA .i64)];refine hZ _ (pp (aL ?_));obtain ⟨hs13,h⟩:=iU h;try simp only [xr] at hs13 h
  refine iP fun Z hZ=>?_;simp only [go_sem,seval,hs12,cV,ua,hs13];refine hZ _ (pp (fa (pp ?_)));cases h;simp only [go_sem,seval,dQ];exact ⟨_,rfl,gO.h,qx.h,qJ.h⟩
 obtain ⟨x13,hb4,hx5,h⟩:=aH h;refine z1 (k2 hb4 hx5) ?_;obtain ⟨r14,hr6,h⟩:=bI h;refine z1 hr6 ?_;refine cMs h (fun hc7 h=>?_) fun hc7 h=>?_
 ·refine z1 hc7 ?_;refine ⟨_,na _,(l4,v5,IntKind.i64.wrap (v6+1)),?_,h⟩;exact wF (k5 hr1 hc2d hc3d hb4 (k3 hx5 hr6 hc7))
 obtain ⟨x15,hb8,hx9,h⟩:=aH h;have hx11:=kB (y:=x13) hx9;refine z1 (k4 hc7 hb8 hx9 (mm2 (row:=(ay .i64)) (y:=x13) (rx:=[vI x15]) (ry:=[vI x13]) hx9 rfl rfl)) ?_;refine z0 ?_;refine z0 ?_;refine ⟨_,na _,((l4.set ((v5).toNat) x13),IntKind.i64.wrap (v5+1),IntKind.i64.wrap (v6+1)),?_,h⟩;refine wr ?_ ?_<;>repeat' first|rfl|constructor|simp only [go_sem,seval,cX]
def bc (N:Nat):FnS:={ own:=[true,false],pure:=true,fn:=fun cs=>match cs with
 | [c0,.clo 119 [.iref 1 [[k1_0_0]] 0 0]]=>((vU 1 (dp (aG .i64))) c0).bind fun q0=>((aG .i64) k1_0_0).bind fun q1=>(bA N q0 q1).map fun r=>sO 1 (r.map (ay .i64))
 | _=>none }
theorem p9 (N:Nat):(bc N).own=[true,false]:=rfl
theorem pT (N:Nat):(bc N).pure=true:=rfl
theorem pR (N:Nat):(bc N).peek=false:=rfl
attribute [go_sem] bc p9 pT pR
def qF (N:Nat):aA prog 118 (bc N):=by
 refine ⟨fun cs r h=>?_,fun h=>by cases h⟩;simp only [bc] at h;split at h
 ·simp only [ck,cj] at h;obtain ⟨q0,h0,q1,h1,r',hr,rfl⟩:=h;exact (uf N q0 q1 r' hr).argsO rfl (jG (qj (mA .i64) (jx .i64) h0) (rJ (Le.clo (LeL.cons (Le.iref1 (LeL.cons (bz h1) (LeL.nil))) (LeL.nil))) (oA)))
 ·cases h
@[go_sem] def Lr (N d f:Nat):Option FnS:=aw [(8,116,lE N),(11,117,zD N),(25,118,bc N)] d f
def LJ (N:Nat) (a0:List ai) (a1:Int) (r:List ai) (h:oO N a0 a1=some r):Con prog 50 [] false [sF 4 (a0.map ai.row),vI a1] (sO 4 (r.map ai.rowD)):=by
 refine fk (G:=(Lr N)) func50 (gc 8 (kJ N) (gc 11 (BQ N) (gc 25 (qF N) gn))) ?_;simp only [f50];unfold oO at h;refine z0 ?_;obtain ⟨r1,hr1,h⟩:=bI h;refine z1 hr1 ?_;refine cM h (fun hc2 h=>?_) fun hc2 h=>?_
 ·refine z1 hc2 ?_;exact f0 h
 obtain ⟨r2,hr3,h⟩:=bI h;refine z1 (k2 hc2 hr3) ?_;refine z0 ?_;refine aQ (gG fun hreal5=>?_);have hl4:=hreal5.lenX 11 (by simp only [go_sem,seval]; rfl);rw [cy] at hl4;refine pw (fun (v6:Nat) (b:List ai)=>⟨tab 30 (af (af (af (af au 3 (pF 3)) 5 (.pal 11 [] 0 b.length none)) 13 (vI (r2.length:Int))) 14 (vI (v6:Int))),(upd (upd RZ 3 (vA 1 [vI a1])) 11 (sO 4 (b.map ai.rowD)))⟩) r2 h ?_ ?_
 ·exact wF (k3 hr1 hc2 hr3)
 rintro v6 l5 _ h -;rcases (jr r2.length v6).symm with ⟨hi6',hd9⟩|⟨hi6',hd9⟩
 ·rw [hd9] at h;simp only [iY] at h;refine z1 hi6' ?_;refine cf ?_;refine z0 ?_;exact f0 h
 rw [hd9] at h;simp only [iY] at h;have hw8:=eA hi6' hl4;refine z1 hi6' ?_;refine ct ?_;refine z0 ?_;obtain ⟨x3,hb10,hx11,h⟩:=aH h;try simp only [cL] at hx11
 try simp only [nL,nM,true_and] at hb10
 obtain ⟨r4,hr12,h⟩:=bI h;refine z1 (k5 hb10 hx11 (ov1 (row:=ai.rowD) (rx:=[vS x3.Actor.Type_,vS x3.Actor.Key,vI x3.Owner,sO 1 (x3.Waiters.map (ay .i64))]) hx11 rfl) (ov2 (row:=ai.rowD) hx11) (k2 (ov3 (row:=ai.rowD) hx11) hr12)) ?_;refine z1 hw8 ?_;refine ⟨hi6',(l5.set v6 (ai.mk x3.Actor x3.Owner r4)),?_,h⟩;refine aV.trans (Ud (n:=11) (ai.mk x3.Actor x3.Owner r4) (by simp only [go_sem,seval]; rfl) rfl rfl) ?_;refine wr ?_ ?_<;>repeat' first|rfl|constructor|simp only [go_sem,seval,nz,cX]
@[go_sem] def CB (N:Nat):FnS:=⟨[],false,fn2 (aJ 4 ai.dec) (aG .i64) fun q0 q1=>(oO N q0 q1).map fun r=>sF 4 (r.map ai.row),false⟩
def GM (N:Nat):aA prog 50 (CB N):=om2 fun q0 q1 r h=>rs (LJ N q0 q1 r h)
def mZ:Env:={ T:=eB prog,G:=fun d f=>none }
theorem EN:mZ.T=eB prog:=rfl
theorem w9 (d:Nat):mZ.F d=none:=rfl
def DZ:GOk prog { T:=eB prog,G:=mZ.G }:=by
 refine ⟨?_,fun _ _ _ h=>by cases h⟩;intro d f fs hfs;cases hfs
theorem FL:EJ prog 190 f190 f190.body.get! := ⟨func190,rfl,by decide,by kernel_rfl⟩
set_option maxHeartbeats 4000000 in
section
attribute [local go_sem] EN Nat.le_refl fZ Option.map_some List.isEmpty_nil
def F7 {α:Type} (row:α->List C) (ok:aF row) (l:List α) (i j:Nat) (r:List α) (hr:r=l.take i++l.drop j) (hij:i<=j) (hj:j<=l.length) :
  Con prog 190 [true,false,false] false [sO 4 (l.map row),vI i,vI j] (sO 4 (r.map row)):=by
 refine JZ (E:=mZ) (zo prog _) DZ mix FL (nb rfl) ?_;intro _;rw [vE (by simp)];rw [show gh [true,false,false] [C.sl true none 4 none (l.map row),C.val (.int .i64 i),C.val (.int .i64 j)]=(af (af (af au 0 (.pal 0 [] 0 l.length none)) 1 (vI i)) 2 (vI j)) from by funext t; match t with|0=>simp [gh,iX,kr,af]|1=>rfl|2=>rfl|t+3=>rfl];rw [show R0 [true,false,false] [C.sl true none 4 none (l.map row),C.val (.int .i64 i),C.val (.int .i64 j)]=upd RZ 0 (C.sl true none 4 none (l.map row)) from by funext t; match t with|0=>rfl|1=>rfl|2=>rfl|t+3=>rfl];apply J5;simp only [f190,Option.get!];have hi1:(i:Int)<=(j:Int):=by omega
 have hj1:(j:Int)<=(l.length:Int):=by omega
 have hj0:i<=l.length:=by omega
 simp only [go_sem,seval,hij,hj];refine tH rfl (fun hc=>?_) (fun hc=>?_)
 ·have e:i=j:=by omega
  subst e;simp only [go_sem,seval,dQ];refine sM ok ?_;rw [hr];simp []
 ·have hc1:decide ((i:Int)=(j:Int))=false:=decide_eq_false hc;have hlt:i < j:=by omega
  have hlt2:i < l.length:=by omega
  have hm3:(l.drop j).take (l.length - j)=l.drop j:=ni (by simp);have hd:(l.drop j).length=l.length - j:=by simp
  have hle:i+(l.length - j)<=l.length:=by omega
  have hnle:¬ l.length<=i+(l.length - j):=by omega
  obtain ⟨A,hA⟩:∃ A,aK (List.map row l) i (List.map row (List.drop j l))=A:=⟨_,rfl⟩;have hAp:bJ A:=by rw [<-hA]; exact fY (fV ok _) (fV ok _)
  have hAl:A.length=l.length:=by rw [<-hA]; simp [aK]; omega
  obtain ⟨B,hB⟩:∃ B,aK A (i+(l.length - j)) (List.replicate (l.length - (i+(l.length - j))) [C.val (Value.string ⟨#[]⟩),C.val (Value.string ⟨#[]⟩),C.val (Value.int .i64 0),C.val (Value.slice none 0 0)])=B:=⟨_,rfl⟩;have hBp:bJ B:=by rw [<-hB]; exact fY hAp (Ab _ [Value.string ⟨#[]⟩,Value.string ⟨#[]⟩,Value.int .i64 0,Value.slice none 0 0] (by simp [Value.oneCell']))
  have hBe:B.take (i+(l.length - j))=r.map row:=by
   have:=XO (L:=l.map row) (List.replicate (l.length - (i+(l.length - j))) [C.val (Value.string ⟨#[]⟩),C.val (Value.string ⟨#[]⟩),C.val (Value.int .i64 0),C.val (Value.slice none 0 0)]) hij (by simpa using hj);rw [cy,<-nT,hA,hB] at this;rw [this,hr]; simp
  simp only [go_sem,seval,w9,hj,hj0,aF.frzRows ok,aF.allPlain ok,aF.allD ok,dA,Qd,tN,C4,BG,yc,KU,cU,cV,ua,hc1,hlt2,hm3,hd,hle,hnle,hA,hAl,hAp.1,hAp.2];repeat' ((with_reducible refine gl ?_ ?_); kernel_rfl)
  simp only [go_sem,seval,hB,dQ];repeat' ((with_reducible refine gl ?_ ?_); kernel_rfl)
  try simp only [go_sem,seval,w9,hi1,hj1,hij,hj,hj0,aF.frzRows ok,aF.all ok,aF.allPlain ok,aF.allD ok,dA,Qd,tN,C4,BG,yc,KU,Sn,cU,cV,ua,decide_not,xo,dQ,SW,hBp.1,hBp.2]
  refine sM ok ?_;rw [<-hBe]
end
def Hz (N:Nat) (a0:List ai) (a1:Int) (a2:Int) (r:List ai) (h:lV N a0 a1 a2=some r) :
  Con prog 190 [true,false,false] false [sO 4 (a0.map ai.row),vI a1,vI a2] (sO 4 (r.map ai.row)):=by
 unfold lV at h;obtain ⟨n,m,rfl,rfl,h1,h2,h3⟩:=Wu h;exact F7 ai.row ai.row_ok a0 n m r (ng h3).symm h1 h2
def fx (N:Nat):FnS:={ own:=[true,false,false],pure:=false,fn:=fun cs=>match cs with
 | [c0,c1,c2]=>(vU 4 ai.dec c0).bind fun q0=>(aG .i64 c1).bind fun q1=>(aG .i64 c2).bind fun q2=>(lV N q0 q1 q2).map fun r=>sO 4 (r.map ai.row)
 | _=>none }
theorem Co (N:Nat):(fx N).own=[true,false,false]:=rfl
theorem BH (N:Nat):(fx N).pure=false:=rfl
theorem B3 (N:Nat):(fx N).peek=false:=rfl
attribute [go_sem] fx Co BH B3
def CK (N:Nat):aA prog 190 (fx N):=by
 refine ⟨fun cs r h=>?_,fun h=>by cases h⟩;simp only [fx] at h;split at h
 ·simp only [ck,cj] at h;obtain ⟨q0,h0,q1,h1,q2,h2,r',hr,rfl⟩:=h;exact (Hz N q0 q1 q2 r' hr).argsO rfl (jG (qj ai.row_ok ai.dec_le h0) (rJ (bz h1) (rJ (bz h2) oA)))
 ·cases h
@[go_sem] def Qv (N d f:Nat):Option FnS:=aw [(20,190,fx N)] d f
def Ri (N:Nat) (a0:List ai) (a1:Int) (r:(List ai) × Int) (h:tA N a0 a1=some r):Con prog 120 [true,false] false [sO 4 (a0.map ai.row),vI a1] (.tup [sO 4 (r.1.map ai.row),vI r.2]):=by
 refine AF (G:=(Qv N)) (L:=noL) func120 rfl (by decide) (by kernel_rfl) (gc 20 (CK N) gn) (fun _ _ _ h=>by cases h) [] mix (nb rfl) ?_;rw [show gh [true,false] [sO 4 (a0.map ai.row),vI a1]=(af (af au 0 (.pal 0 [] 0 a0.length none)) 1 (vI a1)) from by funext t; match t with|0=>simp [gh,iX,kr,af]|1=>rfl|t+2=>rfl];rw [show R0 [true,false] [sO 4 (a0.map ai.row),vI a1]=upd RZ 0 (sO 4 (a0.map ai.row)) from by funext t; match t with|0=>rfl|1=>rfl|t+2=>rfl];simp only [f120];unfold tA at h;refine z0 ?_;obtain ⟨x1,hb1,hx2,h⟩:=aH h;refine z1 (k2 hb1 hx2) ?_;refine z0 ?_;refine cD h (fun hc3 hc3d h=>?_) fun hc3 hc3d h=>?_
 ·obtain ⟨r2,hr4,h⟩:=bI h;refine z1 (k2 hc3d hr4) ?_;refine fa (pp ?_);cases h;simp only [go_sem,seval,dQ];exact ⟨_,rfl,gO.h,qx.h⟩
 obtain ⟨x3,hb5,hx6,h⟩:=aH h;refine z1 (k5 hb1 hx2 hc3d hb5 hx6) ?_;obtain ⟨hs7,ht8,h⟩:=R3 h;try simp only [cL] at hs7 ht8 h
 have hx10:=kB (y:=(ai.mk x1.Actor x3 x1.Waiters)) hx2;refine d1 (k5 hb1 hx2 hb5 hs7 (k5 @cV @cU @cw (mm2 (row:=ai.row) (y:=(ai.mk x1.Actor x3 x1.Waiters)) (rx:=[vS x1.Actor.Type_,vS x1.Actor.Key,vI x1.Owner,sF 1 (x1.Waiters.map (ay .i64))]) (ry:=[vS x1.Actor.Type_,vS x1.Actor.Key,vI x3,sF 1 (x1.Waiters.map (ay .i64))]) hx2 rfl rfl) (k2 hx10 (ov1 (row:=ai.row) (rx:=[vS x1.Actor.Type_,vS x1.Actor.Key,vI x3,sF 1 (x1.Waiters.map (ay .i64))]) hx10 rfl)))) ?_;refine z0 ?_;refine fa (pp ?_);cases h;simp only [go_sem,seval,dQ];exact ⟨_,rfl,gO.h,qx.h⟩
def jV (N:Nat):FnS:={ own:=[true,false],pure:=false,fn:=fun cs=>match cs with
 | [c0,c1]=>((vU 4 ai.dec) c0).bind fun q0=>((aG .i64) c1).bind fun q1=>(tA N q0 q1).map fun r=>.tup [sO 4 (r.1.map ai.row),vI r.2]
 | _=>none }
theorem Iy (N:Nat):(jV N).own=[true,false]:=rfl
theorem Il (N:Nat):(jV N).pure=false:=rfl
theorem H9 (N:Nat):(jV N).peek=false:=rfl
attribute [go_sem] jV Iy Il H9
def Cv (N:Nat):aA prog 120 (jV N):=by
 refine ⟨fun cs r h=>?_,fun h=>by cases h⟩;simp only [jV] at h;split at h
 ·simp only [ck,cj] at h;obtain ⟨q0,h0,q1,h1,r',hr,rfl⟩:=h;exact (Ri N q0 q1 r' hr).argsO rfl (jG (qj ai.row_ok ai.dec_le h0) (rJ (bz h1) (oA)))
 ·cases h
@[go_sem] def IQ (N d f:Nat):Option FnS:=aw [(12,116,lE N),(15,117,ke N),(37,120,jV N)] d f
def I2 (N:Nat) (a0:List ai) (a1:Int) (r:(List ai) × (List az)) (h:lz N a0 a1=some r):Con prog 51 [] false [sF 4 (a0.map ai.row),vI a1] (.tup [sO 4 (r.1.map ai.row),sO 3 (r.2.map az.row)]):=by
 refine fk (G:=(IQ N)) func51 (gc 12 (kJ N) (gc 15 (jW N) (gc 37 (Cv N) gn))) ?_;simp only [f51];unfold lz at h;refine z0 ?_;obtain ⟨r1,hr1,h⟩:=bI h;refine z1 hr1 ?_;refine cM h (fun hc2 h=>?_) fun hc2 h=>?_
 ·refine z1 hc2 ?_;exact f0 h
 obtain ⟨r2,hr3,h⟩:=bI h;refine z1 (k2 hc2 hr3) ?_;refine z0 ?_;refine z0 ?_;refine aQ (gH (fun (b:List ai × List az × Int)=>⟨tab 52 (af (af (af (af au 1 (vI a1)) 6 (.pal 15 [] 0 b.1.length none)) 7 (.pal 47 [] 0 b.2.1.length none)) 8 (vI b.2.2)),(upd (upd RZ 15 (sO 4 (b.1.map ai.row))) 47 (sO 3 (b.2.1.map az.row)))⟩) (r2,[],0) h ?_ ?_)
 ·refine aV.trans (lQ 7 47 3 (by simp only [go_sem,seval]) (by simp only [go_sem,seval])) ?_;exact wF (k3 hr1 hc2 hr3)
 rintro n ⟨l5,l6,v7⟩ h -;cases n with
 | zero=>simp [eI] at h
 | succ n=>
 simp only [eI] at h;refine z0 ?_;refine cDs h (fun hc4 hc4d h=>?_) fun hc4 hc4d h=>?_
 ·refine z1 hc4d ?_;exact f0 h
 obtain ⟨x3,hb5,hx6,h⟩:=aH h;refine z1 (k2 hb5 hx6) ?_;refine cN h (fun hc7 hc7d h=>?_) fun hc7 hc7d h=>?_
 ·refine z1 hc7d ?_;refine gr (pp (⟨_,na _,(l5,l6,IntKind.i64.wrap (v7+1)),?_,h⟩));exact wF (k5 hr1 hc2 hr3 hc4d (k3 hb5 hx6 hc7d))
 refine z1 (k3 hb5 hx6 hc7d) ?_;obtain ⟨r4,hr8,h⟩:=bI h;refine z1 hr8 ?_;refine z0 ?_;refine cNs h (fun hc9 hc9d h=>?_) fun hc9 hc9d h=>?_
 ·refine aU (pp (⟨_,na _,(r4.1,l6,v7),?_,h⟩));refine aV.trans (OK 6 37 [(0,0)] 15 (by decide) (by decide) (by simp only [go_sem,seval]) (by simp only [go_sem,seval]; rfl) (by simp only [go_sem,seval,hc9d]; rfl) (by simp) (by simp only [jh,gY,go_sem,seval]; rfl) (by simp only [go_sem,seval]; rfl)) ?_;exact wF (k5 hr1 hc2 hr3 hc4d (k5 hb5 hx6 hc7d hr8 hc9d))
 obtain ⟨ha10,h⟩:=iT h;simp only [cC,cW,cS,Nat.reduceAdd] at ha10;refine z1 (k2 hc9d ha10) ?_;refine z0 ?_;refine ⟨_,na _,(r4.1,(l6++[(az.mk x3.Actor r4.2)]),IntKind.i64.wrap (v7+1)),?_,h⟩;refine aV.trans (OK 6 37 [(0,0)] 15 (by decide) (by decide) (by simp only [go_sem,seval]) (by simp only [go_sem,seval]; rfl) (by simp only [go_sem,seval]; rfl) (by simp) (by simp only [jh,gY,go_sem,seval]; rfl) (by simp only [go_sem,seval]; rfl)) ?_;refine wr ?_ ?_<;>repeat' first|rfl|constructor|simp only [go_sem,seval]
@[go_sem] def Aw (N:Nat):FnS:=⟨[],false,fn2 (aJ 4 ai.dec) (aG .i64) fun q0 q1=>(lz N q0 q1).map fun r=>.tup [sF 4 (r.1.map ai.row),sF 3 (r.2.map az.row)],false⟩
def Fk (N:Nat):aA prog 51 (Aw N):=om2 fun q0 q1 r h=>rs (I2 N q0 q1 r h)
@[go_sem] def SK (N d f:Nat):Option FnS:=aw [(13,23,j7 N),(19,40,gE N),(24,48,CA N),(27,49,Cg N),(37,50,CB N),(50,51,Aw N)] d f
def SX (N:Nat) (a0:ae) (a1:Int) (r:ae × (List Int) × Int) (h:jD N a0 a1=some r):Con prog 20 [] false [.agg (ae.row a0),vI a1] (.tup [.agg (ae.row r.1),sF 1 (r.2.1.map (ay .i64)),vI r.2.2]):=by
 refine fk (G:=(SK N)) func20 (gc 13 (jd N) (gc 19 (fc N) (gc 24 (Hu N) (gc 27 (Dt N) (gc 37 (GM N) (gc 50 (Fk N) gn)))))) ?_;simp only [f20];unfold jD at h;refine z0 ?_;obtain ⟨r1,hr1,h⟩:=bI h;refine z1 hr1 ?_;refine cM h (fun hc2 h=>?_) fun hc2 h=>?_
 ·refine z1 hc2 ?_;exact f0 h
 obtain ⟨r2,hr3,h⟩:=bI h;refine z1 (k2 hc2 hr3) ?_;refine cD h (fun hc4 hc4d h=>?_) fun hc4 hc4d h=>?_
 ·refine z1 hc4d ?_;exact f0 h
 obtain ⟨r3,hr5,h⟩:=bI h;refine z1 (k2 hc4d hr5) ?_;obtain ⟨r4,hr6,h⟩:=bI h;refine z1 hr6 ?_;refine z0 ?_;refine lTs 5 (fun (v8:Nat) (b:List ai)=>⟨tab 57 (af (af (af (af (af au 4 (pF 4)) 5 (sF 1 (r3.map (ay .i64)))) 28 (sF 1 (r3.map (ay .i64)))) 29 (vI (r3.length:Int))) 30 (vI (v8:Int))),(upd RZ 4 (vA 3 [sF 11 (r4.Txns.map Txn.row),sF 4 (b.map ai.row),sF 3 (r4.Stacks.map aa.row)]))⟩) r4.Locks h ?_ ?_
 ·rintro v8 l7 x11 hi9' hx10 hw11 h;simp only [px] at h;refine z1 hi9' ?_;refine ct ?_;refine z1 (k2 hx10 hi9') ?_;obtain ⟨r13,hr13,h⟩:=bI h;refine z1 hr13 ?_;refine z1 hw11 ?_;refine ⟨hi9',r13,?_,h⟩;exact wR
 rintro v8 l7 hi9' h;simp only [px] at h;refine z1 hi9' ?_;refine cf ?_;unfold Dn at h;refine z0 ?_;refine lT 5 (fun (v18:Nat) (b:List ai)=>⟨tab 57 (af (af (af (af (af au 4 (pF 4)) 5 (sF 1 (r3.map (ay .i64)))) 40 (sF 1 (r3.map (ay .i64)))) 41 (vI (r3.length:Int))) 42 (vI (v18:Int))),(upd RZ 4 (vA 3 [sF 11 (r4.Txns.map Txn.row),sF 4 (b.map ai.row),sF 3 (r4.Stacks.map aa.row)]))⟩) l7 h ?_ ?_
 ·rintro v18 l17 hi16' h;simp only [o5] at h;refine z1 hi16' ?_;refine cf ?_;refine z0 ?_;exact f0 h
 rintro v18 l17 x21 hi16' hx17 hw18 h;simp only [o5] at h;refine z1 hi16' ?_;refine ct ?_;refine z1 (k2 hx17 hi16') ?_;obtain ⟨r14,hr20,h⟩:=bI h;refine z1 hr20 ?_;refine z1 hw18 ?_;refine ⟨hi16',r14.1,?_,h⟩;exact wR
@[go_sem] def vx (N:Nat):FnS:=⟨[],false,fn2 ae.decA (aG .i64) fun q0 q1=>(jD N q0 q1).map fun r=>.tup [.agg (ae.row r.1),sF 1 (r.2.1.map (ay .i64)),vI r.2.2],false⟩
def vj (N:Nat):aA prog 20 (vx N):=om2 (SX N)
@[go_sem] def UY (N d f:Nat):Option FnS:=aw [(12,23,j7 N),(18,24,E2 N),(30,58,CE N),(43,20,vx N),(52,59,ql N)] d f
def T9 (N:Nat) (a0:ae) (a1:Int) (r:ae × Int × (List Int) × Int) (h:iJ N a0 a1=some r):Con prog 25 [] false [.agg (ae.row a0),vI a1] (.tup [.agg (ae.row r.1),vI r.2.1,sF 1 (r.2.2.1.map (ay .i64)),vI r.2.2.2]):=by
 refine fk (G:=(UY N)) func25 (gc 12 (jd N) (gc 18 (Gf N) (gc 30 (Gr N) (gc 43 (vj N) (gc 52 (ph N) gn))))) ?_;simp only [f25];unfold iJ at h;refine z0 ?_;obtain ⟨r1,hr1,h⟩:=bI h;refine z1 hr1 ?_;refine cM h (fun hc2 h=>?_) fun hc2 h=>?_
 ·refine z1 hc2 ?_;exact f0 h
 obtain ⟨r2,hr3,h⟩:=bI h;refine z1 (k2 hc2 hr3) ?_;refine z0 ?_;refine cM h (fun hc4 h=>?_) fun hc4 h=>?_
 ·refine z1 hc4 ?_;exact f0 h
 obtain ⟨r3,hr5,h⟩:=bI h;refine z1 (k2 hc4 hr5) ?_;refine z0 ?_;refine cN h (fun hc6 hc6d h=>?_) fun hc6 hc6d h=>?_
 ·refine z1 hc6d ?_;exact f0 h
 refine z1 hc6d ?_;refine cD h (fun hc7 hc7d h=>?_) fun hc7 hc7d h=>?_
 ·obtain ⟨r4,hr8,h⟩:=bI h;refine z1 (k2 hc7d hr8) ?_;refine z0 ?_;exact f0 h
 obtain ⟨r5,hr9,h⟩:=bI h;refine z1 (k2 hc7d hr9) ?_;refine z0 ?_;refine z0 ?_;exact f0 h
@[go_sem] def Bw (N:Nat):FnS:=⟨[],false,fn2 ae.decA (aG .i64) fun q0 q1=>(iJ N q0 q1).map fun r=>.tup [.agg (ae.row r.1),vI r.2.1,sF 1 (r.2.2.1.map (ay .i64)),vI r.2.2.2],false⟩
def AB (N:Nat):aA prog 25 (Bw N):=om2 (T9 N)
def TQ (N:Nat) (a0:Int) (r:Value) (h:k9 N a0=some r):Con prog 34 [] true [vI a0] (.agg (Value.row r)):=by
 refine fk (G:=(aw [])) func34 gn ?_;simp only [f34];unfold k9 at h;refine z0 ?_;refine z0 ?_;exact e0 h
@[go_sem] def rI (N:Nat):FnS:=⟨[],true,fn1 (aG .i64) fun q0=>(k9 N q0).map fun r=>.agg (Value.row r),false⟩
def oL (N:Nat):aA prog 34 (rI N):=om1 (TQ N)
end
end Go.Proofs.YtmacaidmhchpgaaGreat
