/- Walks: each function computes its model. No condition. -/
import Derived.Test.YtmacaidmhchpgaaGreatB
/- Each Go function computes its model: proofs laid by a program of ours. -/
set_option maxHeartbeats 40000000
set_option synthInstance.maxHeartbeats 2000000
set_option synthInstance.maxSize 4000
set_option linter.unusedSimpArgs false
set_option linter.unusedVariables false
set_option maxRecDepth 100000
namespace Go.Proofs.YtmacaidmhchpgaaGreat
open Go Go.Proofs Go.Abs
theorem Jx (N:Nat) (a0:Value) (r:Bool) (h:iK N a0=some r):Con Tryz.prog 61 [] true [.agg (Value.row a0)] (vB r):=by
 refine fk (G:=(ay [])) Tryz.func61 gn ?_;simp only [Tryz.f61];unfold iK at h;refine z0 ?_;refine aM ?_;apply aW (fun (c3:Bool)=>⟨tab 86 (af (af av 1 (pF 1)) 12 (vB c3)),(upd RZ 1 (vA 5 (Value.row a0)))⟩)
 ·intro hJ1;refine iD h (fun hc2 hc2d h=>?_) fun hc2 hc2d h=>?_
  ·refine z1 hc2d ?_;refine hJ1 _ true ?_ h;exact wF hc2d
  refine z1 hc2d ?_;refine hJ1 _ (decide (5 < a0.Kind)) ?_ h;exact wF hc2d
 intro c3 h;unfold rm at h;refine cB h (fun hc3 h=>?_) fun hc3 h=>?_
 ·refine z1 hc3 ?_;exact e0 h
 refine bf (pp ?_);unfold qO at h;refine aM (aX ?_);apply aW (fun (c12:Bool)=>⟨tab 86 (af (af av 1 (pF 1)) 13 (vB c12)),(upd RZ 1 (vA 5 (Value.row a0)))⟩)
 ·intro hJ4;refine iD h (fun hc5 hc5d h=>?_) fun hc5 hc5d h=>?_
  ·refine z1 (k2 hc3 hc5d) ?_;refine hJ4 _ false ?_ h;exact wF (k2 hc3 hc5d)
  refine iD h (fun hc6 hc6d h=>?_) fun hc6 hc6d h=>?_
  ·refine z1 (k3 hc3 hc5d hc6d) ?_;refine hJ4 _ false ?_ h;exact wF (k3 hc3 hc5d hc6d)
  refine iDs h (fun hc7 hc7d h=>?_) fun hc7 hc7d h=>?_
  ·refine z1 (k4 hc3 hc5d hc6d hc7d) ?_;refine hJ4 _ true ?_ h;exact wF (k4 hc3 hc5d hc6d hc7d)
  refine z1 (k4 hc3 hc5d hc6d hc7d) ?_;refine hJ4 _ (!decide (a0.N=1)) ?_ h;exact wF (k4 hc3 hc5d hc6d hc7d)
 intro c12 h;unfold jX at h;refine cB h (fun hc8 h=>?_) fun hc8 h=>?_
 ·refine z1 hc8 ?_;exact e0 h
 apply aW (fun (c17:Bool)=>⟨tab 86 (af (af av 1 (pF 1)) 32 (vB c17)),(upd RZ 1 (vA 5 (Value.row a0)))⟩)
 ·intro hJ9;apply aW (fun (c18:Bool)=>⟨tab 86 (af (af av 1 (pF 1)) 32 (vB c18)),(upd RZ 1 (vA 5 (Value.row a0)))⟩)
  ·intro hJ10;refine iBs h (fun hc11 h=>?_) fun hc11 h=>?_
   ·refine z1 (k2 hc8 hc11) ?_;refine hJ10 _ (!decide (a0.Kind=3)) ?_ h;exact wF (k3 hc3 hc8 hc11)
   refine z1 (k2 hc8 hc11) ?_;refine hJ10 _ false ?_ h;exact wF (k3 hc3 hc8 hc11)
  intro c18 h;unfold qF at h;refine cB h (fun hc12 h=>?_) fun hc12 h=>?_
  ·refine bf (pp (hJ9 _ true ?_ h));exact wF hc12
  apply aW (fun (c19:Bool)=>⟨tab 86 (af (af av 1 (pF 1)) 32 (vB c19)),(upd RZ 1 (vA 5 (Value.row a0)))⟩)
  ·intro hJ13;refine iD h (fun hc14 hc14d h=>?_) fun hc14 hc14d h=>?_
   ·refine z1 (k2 hc12 hc14d) ?_;refine hJ13 _ (!decide (a0.Kind=4)) ?_ h;exact wF (k4 hc3 hc8 hc12 hc14d)
   refine z1 (k2 hc12 hc14d) ?_;refine hJ13 _ false ?_ h;exact wF (k4 hc3 hc8 hc12 hc14d)
  intro c19 h;unfold qG at h;refine cB h (fun hc15 h=>?_) fun hc15 h=>?_
  ·refine bf (pp (hJ9 _ true ?_ h));exact wF hc15
  refine iD h (fun hc16 hc16d h=>?_) fun hc16 hc16d h=>?_
  ·refine z1 (k2 hc15 hc16d) ?_;refine hJ9 _ (!decide (a0.Kind=5)) ?_ h;exact wF (k5 hc3 hc8 hc12 hc15 hc16d)
  refine z1 (k2 hc15 hc16d) ?_;refine hJ9 _ false ?_ h;exact wF (k5 hc3 hc8 hc12 hc15 hc16d)
 intro c17 h;unfold qA at h;refine cB h (fun hc17 h=>?_) fun hc17 h=>?_
 ·refine z1 hc17 ?_;exact e0 h
 refine bf (pp ?_);unfold j5 at h;refine aM ?_;apply aW (fun (c22:Bool)=>⟨tab 86 (af (af av 1 (pF 1)) 74 (vB c22)),(upd RZ 1 (vA 5 (Value.row a0)))⟩)
 ·intro hJ18;refine iD h (fun hc19 hc19d h=>?_) fun hc19 hc19d h=>?_
  ·refine z1 (k2 hc17 hc19d) ?_;refine hJ18 _ true ?_ h;exact wF (k4 hc3 hc8 hc17 hc19d)
  refine iD h (fun hc20 hc20d h=>?_) fun hc20 hc20d h=>?_
  ·refine z1 (k3 hc17 hc19d hc20d) ?_;refine hJ18 _ true ?_ h;exact wF (k5 hc3 hc8 hc17 hc19d hc20d)
  refine z1 (k3 hc17 hc19d hc20d) ?_;refine hJ18 _ (decide (16 < (a0.L.length:Int))) ?_ h;exact wF (k5 hc3 hc8 hc17 hc19d hc20d)
 intro c22 h;unfold mE at h;refine cB h (fun hc21 h=>?_) fun hc21 h=>?_
 ·refine z1 hc21 ?_;exact e0 h
 unfold mw at h;refine z1 hc21 ?_;refine lT 76 (fun (v17:Nat) (b:Unit)=>⟨tab 86 (af (af (af av 76 (sF 1 (a0.L.map ey))) 77 (vI (a0.L.length:Int))) 78 (vI (v17:Int))),RZ⟩) () h ?_ ?_ (h0:=wF (k4 hc3 hc8 hc17 hc21))
 ·rintro v17 ⟨⟩ hi24' h;simp only [j7] at h;refine z1 hi24' ?_;refine cf ?_;refine z0 ?_;exact e0 h
 rintro v17 ⟨⟩ x20 hi24' hx25 hw26 h;simp only [j7] at h;refine z1 hi24' ?_;refine ct ?_;refine z1 (k2 hx25 hi24') ?_;refine z0 ?_;refine cD h (fun hc28 hc28d h=>?_) fun hc28 hc28d h=>?_
 ·refine z1 hc28d ?_;exact e0 h
 refine z1 (k2 hw26 hc28d) ?_;first|refine ⟨(),?_,h⟩|refine ⟨hi24',(),?_,h⟩
 exact wF (k5 hc3 hc8 hc17 hc21 (k4 hx25 hi24' hw26 hc28d))
@[go_sem] def mq (N:Nat):FnS:=⟨[],true,fn1 Value.decA fun q0=>(iK N q0).map fun r=>vB r,false⟩
theorem mJ (N:Nat):aC Tryz.prog 61 (mq N):=om1 (Jx N)


@[go_sem] noncomputable def Jr (N d f:Nat):Option FnS:=ay [(8,61,mq N)] d f
theorem JE (N:Nat) (a0:Value) (r:Bool) (h:mG N a0=some r):Con Tryz.prog 213 [] true [.agg (Value.row a0)] (vB r):=by
 refine fk (G:=(Jr N)) Tryz.func213 (gc 8 (mJ N) gn) ?_;simp only [Tryz.f213];unfold mG at h;refine z0 ?_;refine iD h (fun hc1 hc1d h=>?_) fun hc1 hc1d h=>?_
 ·refine z1 hc1d ?_;exact e0 h
 obtain ⟨r1,hr2,h⟩:=bI h;refine z1 (k2 hc1d hr2) ?_;exact e0 h
@[go_sem] def BS (N:Nat):FnS:=⟨[],true,fn1 Value.decA fun q0=>(mG N q0).map fun r=>vB r,false⟩
theorem E2 (N:Nat):aC Tryz.prog 213 (BS N):=om1 (JE N)


@[go_sem] noncomputable def tI (N d f:Nat):Option FnS:=ay [(16,213,BS N)] d f
theorem tH (N:Nat) (a0:(List Value)) (r:Int) (h:dN N a0=some r):Con Tryz.prog 201 [] true [sF 5 (a0.map Value.row),.clo 213 []] (vI r):=by
 refine fk (G:=(tI N)) Tryz.func201 (gc 16 (E2 N) gn) ?_;simp only [Tryz.f201];unfold dN at h;refine z0 ?_;refine z0 ?_;refine lT 0 (fun (v2:Nat) (b:Unit)=>⟨tab 19 (af (af (af (af av 0 (sF 5 (a0.map Value.row))) 1 (.clo 213 [])) 7 (vI (a0.length:Int))) 8 (vI (v2:Int))),RZ⟩) () h ?_ ?_
 ·rintro v2 ⟨⟩ hi3' h;simp only [dw] at h;refine z1 hi3' ?_;refine cf ?_;refine z0 ?_;exact e0 h
 rintro v2 ⟨⟩ x5 hi3' hx4 hw5 h;simp only [dw] at h;refine z1 hi3' ?_;refine ct ?_;refine z0 ?_;obtain ⟨r1,hr7,h⟩:=bI h;refine z1 (k3 hx4 hi3' hr7) ?_;refine cB h (fun hc8 h=>?_) fun hc8 h=>?_
 ·refine z1 hc8 ?_;exact e0 h
 refine z1 (k2 hw5 hc8) ?_;first|refine ⟨(),?_,h⟩|refine ⟨hi3',(),?_,h⟩
 exact wR
@[go_sem] def gL (N:Nat):FnS:={ own:=[],pure:=true,fn:=fun cs=>match cs with
 | [c0,.clo 213 []]=>((aJ 5 Value.dec) c0).bind fun qc0=>(dN N qc0).map fun r=>vI r
 | _=>none }
theorem rF (N:Nat):aC Tryz.prog 201 (gL N):=by
 refine ⟨fun cs r h=>?_,fun h=>by cases h⟩;simp only [gL] at h;split at h
 ·simp only [abC,abB] at h;obtain ⟨q0,h0,r',hr,rfl⟩:=h;exact (ag (tH N q0 r' hr))
 ·cases h


@[go_sem] noncomputable def sa (N d f:Nat):Option FnS:=ay [(7,201,gL N)] d f
theorem si (N:Nat) (a0:(List Value)) (r:Bool) (h:bG N a0=some r):Con Tryz.prog 134 [] true [sF 5 (a0.map Value.row),.clo 213 []] (vB r):=by
 refine fk (G:=(sa N)) Tryz.func134 (gc 7 (rF N) gn) ?_;simp only [Tryz.f134];unfold bG at h;refine z0 ?_;obtain ⟨r1,hr1,h⟩:=bI h;refine z1 hr1 ?_;exact e0 h
@[go_sem] def fQ (N:Nat):FnS:={ own:=[],pure:=true,fn:=fun cs=>match cs with
 | [c0,.clo 213 []]=>((aJ 5 Value.dec) c0).bind fun qc0=>(bG N qc0).map fun r=>vB r
 | _=>none }
theorem pX (N:Nat):aC Tryz.prog 134 (fQ N):=by
 refine ⟨fun cs r h=>?_,fun h=>by cases h⟩;simp only [fQ] at h;split at h
 ·simp only [abC,abB] at h;obtain ⟨q0,h0,r',hr,rfl⟩:=h;exact (ag (si N q0 r' hr))
 ·cases h


@[go_sem] noncomputable def Mh (N d f:Nat):Option FnS:=ay [(42,134,fQ N)] d f
theorem Ls (N:Nat) (a0:ah) (r:Bool) (h:qn N a0=some r):Con Tryz.prog 172 [] true [.agg (ah.row a0)] (vB r):=by
 refine fk (G:=(Mh N)) Tryz.func172 (gc 42 (pX N) gn) ?_;simp only [Tryz.f172];unfold qn at h;refine z0 ?_;refine aM ?_;apply aW (fun (c3:Bool)=>⟨tab 44 (af (af av 1 (pF 1)) 39 (vB c3)),(upd RZ 1 (vA 4 (ah.row a0)))⟩)
 ·intro hJ1;refine iD h (fun hc2 hc2d h=>?_) fun hc2 hc2d h=>?_
  ·refine z1 hc2d ?_;refine hJ1 _ true ?_ h;exact wR
  refine iD h (fun hc3 hc3d h=>?_) fun hc3 hc3d h=>?_
  ·refine z1 (k2 hc2d hc3d) ?_;refine hJ1 _ true ?_ h;exact wR
  refine iD h (fun hc4 hc4d h=>?_) fun hc4 hc4d h=>?_
  ·refine z1 (k3 hc2d hc3d hc4d) ?_;refine hJ1 _ true ?_ h;exact wR
  refine iD h (fun hc5 hc5d h=>?_) fun hc5 hc5d h=>?_
  ·refine z1 (k4 hc2d hc3d hc4d hc5d) ?_;refine hJ1 _ true ?_ h;exact wR
  refine iD h (fun hc6 hc6d h=>?_) fun hc6 hc6d h=>?_
  ·refine z1 (k5 hc2d hc3d hc4d hc5d hc6d) ?_;refine hJ1 _ true ?_ h;exact wR
  refine z1 (k5 hc2d hc3d hc4d hc5d hc6d) ?_;refine hJ1 _ (decide (4 < (a0.Args.length:Int))) ?_ h;exact wR
 intro c3 h;unfold iW at h;refine cB h (fun hc7 h=>?_) fun hc7 h=>?_
 ·refine z1 hc7 ?_;exact e0 h
 refine bf (pp ?_);unfold jk at h;obtain ⟨r4,hr8,h⟩:=bI h;refine z1 (k2 hc7 hr8) ?_;exact e0 h
@[go_sem] def Da (N:Nat):FnS:=⟨[],true,fn1 ah.decA fun q0=>(qn N q0).map fun r=>vB r,false⟩
theorem Hj (N:Nat):aC Tryz.prog 172 (Da N):=om1 (Ls N)


@[go_sem] noncomputable def Kh (N d f:Nat):Option FnS:=ay [(4,172,Da N)] d f
theorem KW (N:Nat) (a0:ah) (r:Bool) (h:oQ N a0=some r):Con Tryz.prog 171 [] true [.agg (ah.row a0)] (vB r):=by
 refine fk (G:=(Kh N)) Tryz.func171 (gc 4 (Hj N) gn) ?_;simp only [Tryz.f171];unfold oQ at h;refine z0 ?_;obtain ⟨r1,hr1,h⟩:=bI h;refine z1 hr1 ?_;exact e0 h
@[go_sem] def Cc (N:Nat):FnS:=⟨[],true,fn1 ah.decA fun q0=>(oQ N q0).map fun r=>vB r,false⟩
theorem F1 (N:Nat):aC Tryz.prog 171 (Cc N):=om1 (KW N)


@[go_sem] noncomputable def se (N d f:Nat):Option FnS:=ay [(16,171,Cc N)] d f
theorem rR (N:Nat) (a0:(List ah)) (r:Int) (h:dA N a0=some r):Con Tryz.prog 203 [] true [sF 4 (a0.map ah.row),.clo 171 []] (vI r):=by
 refine fk (G:=(se N)) Tryz.func203 (gc 16 (F1 N) gn) ?_;simp only [Tryz.f203];unfold dA at h;refine z0 ?_;refine z0 ?_;refine lT 0 (fun (v2:Nat) (b:Unit)=>⟨tab 19 (af (af (af (af av 0 (sF 4 (a0.map ah.row))) 1 (.clo 171 [])) 7 (vI (a0.length:Int))) 8 (vI (v2:Int))),RZ⟩) () h ?_ ?_
 ·rintro v2 ⟨⟩ hi3' h;simp only [bU] at h;refine z1 hi3' ?_;refine cf ?_;refine z0 ?_;exact e0 h
 rintro v2 ⟨⟩ x5 hi3' hx4 hw5 h;simp only [bU] at h;refine z1 hi3' ?_;refine ct ?_;refine z0 ?_;obtain ⟨r1,hr7,h⟩:=bI h;refine z1 (k3 hx4 hi3' hr7) ?_;refine cB h (fun hc8 h=>?_) fun hc8 h=>?_
 ·refine z1 hc8 ?_;exact e0 h
 refine z1 (k2 hw5 hc8) ?_;first|refine ⟨(),?_,h⟩|refine ⟨hi3',(),?_,h⟩
 exact wR
@[go_sem] def fW (N:Nat):FnS:={ own:=[],pure:=true,fn:=fun cs=>match cs with
 | [c0,.clo 171 []]=>((aJ 4 ah.dec) c0).bind fun qc0=>(dA N qc0).map fun r=>vI r
 | _=>none }
theorem pY (N:Nat):aC Tryz.prog 203 (fW N):=by
 refine ⟨fun cs r h=>?_,fun h=>by cases h⟩;simp only [fW] at h;split at h
 ·simp only [abC,abB] at h;obtain ⟨q0,h0,r',hr,rfl⟩:=h;exact (ag (rR N q0 r' hr))
 ·cases h


@[go_sem] noncomputable def qj (N d f:Nat):Option FnS:=ay [(7,203,fW N)] d f
theorem qg (N:Nat) (a0:(List ah)) (r:Bool) (h:bx N a0=some r):Con Tryz.prog 140 [] true [sF 4 (a0.map ah.row),.clo 171 []] (vB r):=by
 refine fk (G:=(qj N)) Tryz.func140 (gc 7 (pY N) gn) ?_;simp only [Tryz.f140];unfold bx at h;refine z0 ?_;obtain ⟨r1,hr1,h⟩:=bI h;refine z1 hr1 ?_;exact e0 h
@[go_sem] def fo (N:Nat):FnS:={ own:=[],pure:=true,fn:=fun cs=>match cs with
 | [c0,.clo 171 []]=>((aJ 4 ah.dec) c0).bind fun qc0=>(bx N qc0).map fun r=>vB r
 | _=>none }
theorem og (N:Nat):aC Tryz.prog 140 (fo N):=by
 refine ⟨fun cs r h=>?_,fun h=>by cases h⟩;simp only [fo] at h;split at h
 ·simp only [abC,abB] at h;obtain ⟨q0,h0,r',hr,rfl⟩:=h;exact (ag (qg N q0 r' hr))
 ·cases h


@[go_sem] noncomputable def MP (N d f:Nat):Option FnS:=ay [(69,61,mq N),(85,140,fo N)] d f
theorem Nj (N:Nat) (a0:Txn) (r:Bool) (h:py N a0=some r):Con Tryz.prog 98 [] true [.agg (Txn.row a0)] (vB r):=by
 refine fk (G:=(MP N)) Tryz.func98 (gc 69 (mJ N) (gc 85 (og N) gn)) ?_;simp only [Tryz.f98];unfold py at h;refine z0 ?_;refine aM ?_;apply aW (fun (c3:Bool)=>⟨tab 87 (af (af av 1 (pF 1)) 42 (vB c3)),(upd RZ 1 (vA 11 (Txn.row a0)))⟩)
 ·intro hJ1;refine iD h (fun hc2 hc2d h=>?_) fun hc2 hc2d h=>?_
  ·refine z1 hc2d ?_;refine hJ1 _ true ?_ h;exact wR
  refine iD h (fun hc3 hc3d h=>?_) fun hc3 hc3d h=>?_
  ·refine z1 (k2 hc2d hc3d) ?_;refine hJ1 _ true ?_ h;exact wR
  refine iD h (fun hc4 hc4d h=>?_) fun hc4 hc4d h=>?_
  ·refine z1 (k3 hc2d hc3d hc4d) ?_;refine hJ1 _ true ?_ h;exact wR
  refine iD h (fun hc5 hc5d h=>?_) fun hc5 hc5d h=>?_
  ·refine z1 (k4 hc2d hc3d hc4d hc5d) ?_;refine hJ1 _ true ?_ h;exact wR
  refine iD h (fun hc6 hc6d h=>?_) fun hc6 hc6d h=>?_
  ·refine z1 (k5 hc2d hc3d hc4d hc5d hc6d) ?_;refine hJ1 _ true ?_ h;exact wR
  refine iD h (fun hc7 hc7d h=>?_) fun hc7 hc7d h=>?_
  ·refine z1 (k5 hc2d hc3d hc4d hc5d (k2 hc6d hc7d)) ?_;refine hJ1 _ true ?_ h;exact wR
  refine iD h (fun hc8 hc8d h=>?_) fun hc8 hc8d h=>?_
  ·refine z1 (k5 hc2d hc3d hc4d hc5d (k3 hc6d hc7d hc8d)) ?_;refine hJ1 _ true ?_ h;exact wR
  refine z1 (k5 hc2d hc3d hc4d hc5d (k3 hc6d hc7d hc8d)) ?_;refine hJ1 _ (decide (1099511627776 < a0.Seq)) ?_ h;exact wR
 intro c3 h;unfold gG at h;refine cB h (fun hc9 h=>?_) fun hc9 h=>?_
 ·refine z1 hc9 ?_;exact e0 h
 refine bf (pp ?_);unfold gD at h;refine aM ?_;apply aW (fun (c8:Bool)=>⟨tab 87 (af (af av 1 (pF 1)) 82 (vB c8)),(upd RZ 1 (vA 11 (Txn.row a0)))⟩)
 ·intro hJ10;refine iD h (fun hc11 hc11d h=>?_) fun hc11 hc11d h=>?_
  ·refine z1 (k2 hc9 hc11d) ?_;refine hJ10 _ true ?_ h;exact wR
  refine iD h (fun hc12 hc12d h=>?_) fun hc12 hc12d h=>?_
  ·refine z1 (k3 hc9 hc11d hc12d) ?_;refine hJ10 _ true ?_ h;exact wR
  refine iD h (fun hc13 hc13d h=>?_) fun hc13 hc13d h=>?_
  ·refine z1 (k4 hc9 hc11d hc12d hc13d) ?_;refine hJ10 _ true ?_ h;exact wR
  refine iD h (fun hc14 hc14d h=>?_) fun hc14 hc14d h=>?_
  ·refine z1 (k5 hc9 hc11d hc12d hc13d hc14d) ?_;refine hJ10 _ true ?_ h;exact wR
  obtain ⟨r9,hr15,h⟩:=bI h;refine iBs h (fun hc16 h=>?_) fun hc16 h=>?_
  ·refine z1 (k5 hc9 hc11d hc12d hc13d (k3 hc14d hr15 hc16)) ?_;refine hJ10 _ true ?_ h;exact wR
  refine iD h (fun hc17 hc17d h=>?_) fun hc17 hc17d h=>?_
  ·refine z1 (k5 hc9 hc11d hc12d hc13d (k4 hc14d hr15 hc16 hc17d)) ?_;refine hJ10 _ (!decide (a0.Last.Kind=0)) ?_ h;exact wR
  refine z1 (k5 hc9 hc11d hc12d hc13d (k4 hc14d hr15 hc16 hc17d)) ?_;refine hJ10 _ false ?_ h;exact wR
 intro c8 h;unfold iJ at h;refine cB h (fun hc18 h=>?_) fun hc18 h=>?_
 ·refine z1 hc18 ?_;exact e0 h
 refine bf (pp ?_);unfold iM at h;obtain ⟨r10,hr19,h⟩:=bI h;refine z1 (k2 hc18 hr19) ?_;exact e0 h
@[go_sem] def z8 (N:Nat):FnS:=⟨[],true,fn1 Txn.decA fun q0=>(py N q0).map fun r=>vB r,false⟩
theorem BQ (N:Nat):aC Tryz.prog 98 (z8 N):=om1 (Nj N)


@[go_sem] noncomputable def Lp (N d f:Nat):Option FnS:=ay [(14,98,z8 N)] d f
theorem K8 (N:Nat) (a0:ae) (r:Bool) (h:ub N a0=some r):Con Tryz.prog 52 [] true [.agg (ae.row a0)] (vB r):=by
 refine fk (G:=(Lp N)) Tryz.func52 (gc 14 (BQ N) gn) ?_;simp only [Tryz.f52];unfold ub at h;refine z0 ?_;refine z0 ?_;refine lT 6 (fun (v2:Nat) (b:Unit)=>⟨tab 37 (af (af (af (af av 1 (pF 1)) 6 (sF 11 (a0.Txns.map Txn.row))) 7 (vI (a0.Txns.length:Int))) 8 (vI (v2:Int))),(upd RZ 1 (vA 3 (ae.row a0)))⟩) () h ?_ ?_
 ·rintro v2 ⟨⟩ hi3' h;simp only [gW] at h;refine z1 hi3' ?_;refine cf ?_;refine z0 ?_;exact e0 h
 rintro v2 ⟨⟩ x5 hi3' hx4 hw5 h;simp only [gW] at h;refine z1 hi3' ?_;refine ct ?_;refine z1 (k2 hx4 hi3') ?_;apply aW (fun (c3:Bool)=>⟨tab 37 (af (af (af (af (af av 1 (pF 1)) 6 (sF 11 (a0.Txns.map Txn.row))) 7 (vI (a0.Txns.length:Int))) 8 (vI (v2:Int))) 31 (vB c3)),(upd RZ 1 (vA 3 (ae.row a0)))⟩)
 ·intro hJ7;obtain ⟨r4,hr8,h⟩:=bI h;refine mh fun Z hZ=>?_;simp only [go_sem,seval,hr8];repeat with_reducible refine gS (by kernel_rfl) ?_
  refine sM rfl (fun hc9=>?_) (fun hc9=>?_)
  ·rw [if_neg (ne_true_of_eq_false hc9)] at h;simp only [go_sem,seval,hc9];refine hZ _ (by kernel_rfl) (pp (hJ7 _ true ?_ h));exact wR
  rw [if_pos hc9] at h;simp only [go_sem,seval,hc9];refine mi rfl (fun hc10=>?_) (fun hc10=>?_)
  ·have hc10d:=decide_eq_true hc10;rw [if_pos hc10] at h;obtain ⟨x6,hb11,hx12,h⟩:=aH h;simp only [go_sem,seval,hc10d,hb11,hx12];refine hZ _ (by kernel_rfl) (pp (hJ7 _ (decide (x5.ID<=x6.ID)) ?_ h));exact wR
  have hc10d:=decide_eq_false hc10;rw [if_neg hc10] at h;simp only [go_sem,seval,hc10d];refine hZ _ (by kernel_rfl) (pp (hJ7 _ false ?_ h));exact wR
 intro c3 h;unfold lE at h;refine cB h (fun hc13 h=>?_) fun hc13 h=>?_
 ·refine z1 hc13 ?_;exact e0 h
 refine z1 (k2 hw5 hc13) ?_;first|refine ⟨(),?_,h⟩|refine ⟨hi3',(),?_,h⟩
 exact wR
@[go_sem] def CY (N:Nat):FnS:=⟨[],true,fn1 ae.decA fun q0=>(ub N q0).map fun r=>vB r,false⟩
theorem Hk (N:Nat):aC Tryz.prog 52 (CY N):=om1 (K8 N)


theorem Hv (N:Nat) (a0:Ref) (r:Bool) (h:jh N a0=some r):Con Tryz.prog 124 [] true [.agg [vS a0.Type_,vS a0.Key]] (vB r):=by
 refine fk (G:=(ay [])) Tryz.func124 gn ?_;simp only [Tryz.f124];unfold jh at h;refine z0 ?_;refine iDs h (fun hc1 hc1d h=>?_) fun hc1 hc1d h=>?_
 ·refine z1 hc1d ?_;exact e0 h
 refine iD h (fun hc2 hc2d h=>?_) fun hc2 hc2d h=>?_
 ·refine z1 (k2 hc1d hc2d) ?_;exact e0 h
 refine z1 (k2 hc1d hc2d) ?_;exact e0 h
@[go_sem] def pU (N:Nat):FnS:=⟨[],true,fn1 Ref.decA fun q0=>(jh N q0).map fun r=>vB r,false⟩
theorem rN (N:Nat):aC Tryz.prog 124 (pU N):=om1 (Hv N)


theorem K3 (N:Nat) (a0:Int) (r:Bool) (h:jV N a0=some r):Con Tryz.prog 125 [] true [vI a0] (vB r):=by
 refine fk (G:=(ay [])) Tryz.func125 gn ?_;simp only [Tryz.f125];unfold jV at h;refine z0 ?_;refine iD h (fun hc1 hc1d h=>?_) fun hc1 hc1d h=>?_
 ·refine z1 hc1d ?_;exact e0 h
 refine z1 hc1d ?_;exact e0 h
@[go_sem] def sj (N:Nat):FnS:=⟨[],true,fn1 (aG .i64) fun q0=>(jV N q0).map fun r=>vB r,false⟩
theorem tU (N:Nat):aC Tryz.prog 125 (sj N):=om1 (K3 N)


@[go_sem] noncomputable def JB (N d f:Nat):Option FnS:=ay [(7,124,pU N),(12,125,sj N)] d f
theorem JC (N:Nat) (a0:ai) (r:Bool) (h:mK N a0=some r):Con Tryz.prog 187 [] true [.agg (ai.row a0)] (vB r):=by
 refine fk (G:=(JB N)) Tryz.func187 (gc 7 (rN N) (gc 12 (tU N) gn)) ?_;simp only [Tryz.f187];unfold mK at h;refine z0 ?_;refine aM ?_;apply aW (fun (c7:Bool)=>⟨tab 52 (af (af av 1 (pF 1)) 20 (vB c7)),(upd RZ 1 (vA 4 (ai.row a0)))⟩)
 ·intro hJ1;obtain ⟨r8,hr2,h⟩:=bI h;refine iBs h (fun hc3 h=>?_) fun hc3 h=>?_
  ·refine z1 (k2 hr2 hc3) ?_;refine hJ1 _ true ?_ h;exact wR
  obtain ⟨r9,hr4,h⟩:=bI h;refine iBs h (fun hc5 h=>?_) fun hc5 h=>?_
  ·refine z1 (k4 hr2 hc3 hr4 hc5) ?_;refine hJ1 _ true ?_ h;exact wR
  refine z1 (k4 hr2 hc3 hr4 hc5) ?_;refine hJ1 _ (decide (32 < (a0.Waiters.length:Int))) ?_ h;exact wR
 intro c7 h;unfold mC at h;refine cB h (fun hc6 h=>?_) fun hc6 h=>?_
 ·refine z1 hc6 ?_;exact e0 h
 unfold mB at h;refine z1 hc6 ?_;refine lT 22 (fun (v7:Nat) (b:Unit)=>⟨tab 52 (af (af (af (af av 1 (pF 1)) 22 (sF 1 (a0.Waiters.map (aA .i64)))) 23 (vI (a0.Waiters.length:Int))) 24 (vI (v7:Int))),(upd RZ 1 (vA 4 (ai.row a0)))⟩) () h ?_ ?_
 ·rintro v7 ⟨⟩ hi9' h;simp only [fJ] at h;refine z1 hi9' ?_;refine cf ?_;refine z0 ?_;exact e0 h
 rintro v7 ⟨⟩ x10 hi9' hx10 hw11 h;simp only [fJ] at h;refine z1 hi9' ?_;refine ct ?_;refine z1 (k2 hx10 hi9') ?_;apply aW (fun (c12:Bool)=>⟨tab 52 (af (af (af (af (af av 1 (pF 1)) 22 (sF 1 (a0.Waiters.map (aA .i64)))) 23 (vI (a0.Waiters.length:Int))) 24 (vI (v7:Int))) 50 (vB c12)),(upd RZ 1 (vA 4 (ai.row a0)))⟩)
 ·intro hJ13;refine iD h (fun hc14 hc14d h=>?_) fun hc14 hc14d h=>?_
  ·refine z1 hc14d ?_;refine hJ13 _ true ?_ h;exact wR
  refine iD h (fun hc15 hc15d h=>?_) fun hc15 hc15d h=>?_
  ·refine z1 (k2 hc14d hc15d) ?_;refine hJ13 _ true ?_ h;exact wR
  refine iD h (fun hc16 hc16d h=>?_) fun hc16 hc16d h=>?_
  ·obtain ⟨x13,hb17,hx18,h⟩:=aH h;refine z1 (k5 hc14d hc15d hc16d hb17 hx18) ?_;refine hJ13 _ (decide (x10<=x13)) ?_ h;exact wR
  refine z1 (k3 hc14d hc15d hc16d) ?_;refine hJ13 _ false ?_ h;exact wR
 intro c12 h;unfold jb at h;refine cB h (fun hc19 h=>?_) fun hc19 h=>?_
 ·refine z1 hc19 ?_;exact e0 h
 refine z1 (k2 hw11 hc19) ?_;first|refine ⟨(),?_,h⟩|refine ⟨hi9',(),?_,h⟩
 exact wR
@[go_sem] def BE (N:Nat):FnS:=⟨[],true,fn1 ai.decA fun q0=>(mK N q0).map fun r=>vB r,false⟩
theorem ES (N:Nat):aC Tryz.prog 187 (BE N):=om1 (JC N)


theorem HN (N:Nat) (a0:ByteArray) (r:Bool) (h:lQ N a0=some r):Con Tryz.prog 183 [] true [vS a0] (vB r):=by
 refine fk (G:=(ay [])) Tryz.func183 gn ?_;simp only [Tryz.f183];unfold lQ at h;refine z0 ?_;refine z0 ?_;exact e0 h
@[go_sem] def uS (N:Nat):FnS:=⟨[],true,fn1 du fun q0=>(lQ N q0).map fun r=>vB r,false⟩
theorem yn (N:Nat):aC Tryz.prog 183 (uS N):=om1 (HN N)


@[go_sem] noncomputable def Gc (N d f:Nat):Option FnS:=ay [(8,183,uS N),(10,183,uS N)] d f
theorem FT (N:Nat) (a0:ByteArray) (a1:ByteArray) (r:Int) (h:fE N a0 a1=some r):Con Tryz.prog 104 [] true [vS a0,vS a1] (vI r):=by
 refine fk (G:=(Gc N)) Tryz.func104 (gc 8 (yn N) (gc 10 (yn N) gn)) ?_;simp only [Tryz.f104];unfold fE at h;refine z0 ?_;obtain ⟨r1,hr1,h⟩:=bI h;refine z1 hr1 ?_;obtain ⟨r2,hr2,h⟩:=bI h;refine z1 hr2 ?_;refine z0 ?_;refine pI rfl (fun hc3=>?_) (fun hc3=>?_)
 ·first|rw [if_pos hc3] at h|simp only [hc3,acA,acE,acu,acO,acD,acP,acs,acF,ab6,aca,abN,if_true,if_false] at h
  refine z1 hc3 ?_;refine pI rfl (fun hc4=>?_) (fun hc4=>?_)
  ·first|rw [if_pos hc4] at h|simp only [hc4,hc3,acA,acE,acu,acO,acD,acP,acs,acF,ab6,aca,abN,if_true,if_false] at h
   refine z1 hc4 ?_;exact e0 h
  first|rw [if_neg (ne_true_of_eq_false hc4)] at h|simp only [hc4,hc3,acA,acE,acu,acO,acD,acP,acs,acF,ab6,aca,abN,if_true,if_false] at h
  refine z1 hc4 ?_;exact e0 h
 first|rw [if_neg (ne_true_of_eq_false hc3)] at h|simp only [hc3,acA,acE,acu,acO,acD,acP,acs,acF,ab6,aca,abN,if_true,if_false] at h
 refine z1 hc3 ?_;refine pI rfl (fun hc5=>?_) (fun hc5=>?_)
 ·first|rw [if_pos hc5] at h|simp only [hc5,hc3,acA,acE,acu,acO,acD,acP,acs,acF,ab6,aca,abN,if_true,if_false] at h
  refine z1 hc5 ?_;exact e0 h
 first|rw [if_neg (ne_true_of_eq_false hc5)] at h|simp only [hc5,hc3,acA,acE,acu,acO,acD,acP,acs,acF,ab6,aca,abN,if_true,if_false] at h
 refine z1 hc5 ?_;refine pI rfl (fun hc6=>?_) (fun hc6=>?_)
 ·first|rw [if_pos hc6] at h|simp only [hc6,hc3,hc5,acA,acE,acu,acO,acD,acP,acs,acF,ab6,aca,abN,if_true,if_false] at h
  refine z1 hc6 ?_;exact e0 h
 first|rw [if_neg (ne_true_of_eq_false hc6)] at h|simp only [hc6,hc3,hc5,acA,acE,acu,acO,acD,acP,acs,acF,ab6,aca,abN,if_true,if_false] at h
 refine z1 hc6 ?_;refine qk rfl (fun hc7=>?_) (fun hc7=>?_)
 ·first|rw [if_neg (ne_true_of_eq_false hc7)] at h|simp only [hc7,hc6,acA,abN,if_false] at h
  refine z1 hc7 ?_;exact e0 h
 first|rw [if_pos hc7] at h|simp only [hc7,hc6,acE,if_true] at h
 refine z1 hc7 ?_;exact e0 h
@[go_sem] def kf (N:Nat):FnS:=⟨[],true,fn2 du du fun q0 q1=>(fE N q0 q1).map fun r=>vI r,false⟩
theorem kB (N:Nat):aC Tryz.prog 104 (kf N):=om2 (FT N)


theorem P8 (N:Nat) (a0:(List Int)) (r:Int) (h:tX N a0=some r):Con Tryz.prog 103 [] true [sF 1 (a0.map (aA .i64))] (vI r):=by
 refine fk (G:=(ay [])) Tryz.func103 gn ?_;simp only [Tryz.f103];unfold tX at h;refine z0 ?_;refine z0 ?_;refine z0 ?_;refine lT 0 (fun (v2:Nat) (b:Unit)=>⟨tab 18 (af (af (af (af av 3 (vI 0)) 6 (sF 1 (a0.map (aA .i64)))) 7 (vI (a0.length:Int))) 8 (vI (v2:Int))),RZ⟩) () h ?_ ?_
 ·rintro v2 ⟨⟩ hi3' h;simp only [qt] at h;refine z1 hi3' ?_;refine cf ?_;refine z0 ?_;exact e0 h
 rintro v2 ⟨⟩ x5 hi3' hx4 hw5 h;simp only [qt] at h;refine z1 hi3' ?_;refine ct ?_;refine z1 (k2 hx4 hi3') ?_;refine z0 ?_;refine cN h (fun hc7 hc7d h=>?_) fun hc7 hc7d h=>?_
 ·refine z1 hc7d ?_;exact e0 h
 refine z1 (k2 hw5 hc7d) ?_;first|refine ⟨(),?_,h⟩|refine ⟨hi3',(),?_,h⟩
 exact wR
@[go_sem] def B5 (N:Nat):FnS:=⟨[],true,fn1 (aJ 1 (eb (aG .i64))) fun q0=>(tX N q0).map fun r=>vI r,false⟩
theorem CQ (N:Nat):aC Tryz.prog 103 (B5 N):=om1 (P8 N)


@[go_sem] noncomputable def Ld (N d f:Nat):Option FnS:=ay [(9,104,kf N),(14,104,kf N),(16,103,B5 N)] d f
theorem Ml (N:Nat) (a0:Ref) (a1:Ref) (r:Int) (h:mY N a0 a1=some r):Con Tryz.prog 188 [] true [.agg [vS a0.Type_,vS a0.Key],.agg [vS a1.Type_,vS a1.Key]] (vI r):=by
 refine fk (G:=(Ld N)) Tryz.func188 (gc 9 (kB N) (gc 14 (kB N) (gc 16 (CQ N) gn))) ?_;simp only [Tryz.f188];unfold mY at h;refine z0 ?_;obtain ⟨r1,hr1,h⟩:=bI h;obtain ⟨r2,hr2,h⟩:=bI h;obtain ⟨r3,hr3,h⟩:=bI h;refine d1 (k3 hr1 hr2 hr3) ?_;exact e0 h
@[go_sem] def yQ (N:Nat):FnS:=⟨[],true,fn2 Ref.decA Ref.decA fun q0 q1=>(mY N q0 q1).map fun r=>vI r,false⟩
theorem Ah (N:Nat):aC Tryz.prog 188 (yQ N):=om2 (Ml N)


@[go_sem] noncomputable def Om (N d f:Nat):Option FnS:=ay [(16,187,BE N),(30,188,yQ N)] d f
theorem Ob (N:Nat) (a0:(List ai)) (r:Bool) (h:jJ N a0=some r):Con Tryz.prog 116 [] true [sF 4 (a0.map ai.row)] (vB r):=by
 refine fk (G:=(Om N)) Tryz.func116 (gc 16 (ES N) (gc 30 (Ah N) gn)) ?_;simp only [Tryz.f116];unfold jJ at h;refine z0 ?_;refine z0 ?_;refine cD h (fun hc1 hc1d h=>?_) fun hc1 hc1d h=>?_
 ·refine z1 hc1d ?_;exact e0 h
 refine z1 hc1d ?_;refine lT 0 (fun (v3:Nat) (b:Unit)=>⟨tab 35 (af (af (af (af av 0 (sF 4 (a0.map ai.row))) 8 (sF 4 (a0.map ai.row))) 9 (vI (a0.length:Int))) 10 (vI (v3:Int))),RZ⟩) () h ?_ ?_
 ·rintro v3 ⟨⟩ hi4' h;simp only [jY] at h;refine z1 hi4' ?_;refine cf ?_;refine z0 ?_;exact e0 h
 rintro v3 ⟨⟩ x6 hi4' hx5 hw6 h;simp only [jY] at h;refine z1 hi4' ?_;refine ct ?_;refine z1 (k2 hx5 hi4') ?_;apply aW (fun (c4:Bool)=>⟨tab 35 (af (af (af (af (af av 0 (sF 4 (a0.map ai.row))) 8 (sF 4 (a0.map ai.row))) 9 (vI (a0.length:Int))) 10 (vI (v3:Int))) 33 (vB c4)),RZ⟩)
 ·intro hJ8;obtain ⟨r5,hr9,h⟩:=bI h;refine mh fun Z hZ=>?_;simp only [go_sem,seval,hr9];repeat with_reducible refine gS (by kernel_rfl) ?_
  refine sM rfl (fun hc10=>?_) (fun hc10=>?_)
  ·rw [if_neg (ne_true_of_eq_false hc10)] at h;simp only [go_sem,seval,hc10];refine hZ _ (by kernel_rfl) (pp (hJ8 _ true ?_ h));exact wR
  rw [if_pos hc10] at h;simp only [go_sem,seval,hc10];refine mi rfl (fun hc11=>?_) (fun hc11=>?_)
  ·have hc11d:=decide_eq_true hc11;rw [if_pos hc11] at h;obtain ⟨x7,hb12,hx13,h⟩:=aH h;obtain ⟨r8,hr14,h⟩:=bI h;simp only [go_sem,seval,hc11d,hb12,hx13,hr14];repeat with_reducible refine gS (by kernel_rfl) ?_
   refine hZ _ (by kernel_rfl) (pp (hJ8 _ (decide (0<=r8)) ?_ h));exact wR
  have hc11d:=decide_eq_false hc11;rw [if_neg hc11] at h;simp only [go_sem,seval,hc11d];refine hZ _ (by kernel_rfl) (pp (hJ8 _ false ?_ h));exact wR
 intro c4 h;unfold oL at h;refine cB h (fun hc15 h=>?_) fun hc15 h=>?_
 ·refine z1 hc15 ?_;exact e0 h
 refine z1 (k2 hw6 hc15) ?_;first|refine ⟨(),?_,h⟩|refine ⟨hi4',(),?_,h⟩
 exact wR
@[go_sem] def lD (N:Nat):FnS:=⟨[],true,fn1 (aJ 4 ai.dec) fun q0=>(jJ N q0).map fun r=>vB r,false⟩
theorem kU (N:Nat):aC Tryz.prog 116 (lD N):=om1 (Ob N)


theorem OD (N:Nat) (a0:Txn) (c0_0:Int) (r:Bool) (h:wZ N a0 c0_0=some r):Con Tryz.prog 99 [] true [.agg (Txn.row a0),.iref 1 [[vI c0_0]] 0 0] (vB r):=by
 refine fk (G:=(ay [])) Tryz.func99 gn ?_;simp only [Tryz.f99];unfold wZ at h;refine z0 ?_;refine z0 ?_;exact e0 h
@[go_sem] def AF (N:Nat):FnS:={ own:=[],pure:=true,fn:=fun cs=>match cs with
 | [c0,.iref 1 [[c1_0]] 0 0]=>(Txn.decA c0).bind fun qc0=>((aG .i64) c1_0).bind fun qc1_0=>(wZ N qc0 qc1_0).map fun r=>vB r
 | _=>none }
theorem Jz (N:Nat):aC Tryz.prog 99 (AF N):=by
 refine ⟨fun cs r h=>?_,fun h=>by cases h⟩;simp only [AF] at h;split at h
 ·simp only [abC,abB] at h;obtain ⟨q0,h0,q1,h1,r',hr,rfl⟩:=h;exact (ag (OD N q0 q1 r' hr))
 ·cases h


@[go_sem] noncomputable def wO (N d f:Nat):Option FnS:=ay [(16,99,AF N)] d f
theorem wK (N:Nat) (a0:(List Txn)) (k1_0_0:Int) (r:Int) (h:ff N a0 k1_0_0=some r):Con Tryz.prog 71 [] true [sF 11 (a0.map Txn.row),.clo 99 [.iref 1 [[vI k1_0_0]] 0 0]] (vI r):=by
 refine fk (G:=(wO N)) Tryz.func71 (gc 16 (Jz N) gn) ?_;simp only [Tryz.f71];unfold ff at h;refine z0 ?_;refine z0 ?_;refine lT 0 (fun (v2:Nat) (b:Unit)=>⟨tab 19 (af (af (af (af av 0 (sF 11 (a0.map Txn.row))) 1 (.clo 99 [.iref 1 [[vI k1_0_0]] 0 0])) 7 (vI (a0.length:Int))) 8 (vI (v2:Int))),RZ⟩) () h ?_ ?_
 ·rintro v2 ⟨⟩ hi3' h;simp only [ew] at h;refine z1 hi3' ?_;refine cf ?_;refine z0 ?_;exact e0 h
 rintro v2 ⟨⟩ x5 hi3' hx4 hw5 h;simp only [ew] at h;refine z1 hi3' ?_;refine ct ?_;refine z0 ?_;obtain ⟨r1,hr7,h⟩:=bI h;refine z1 (k3 hx4 hi3' hr7) ?_;refine cB h (fun hc8 h=>?_) fun hc8 h=>?_
 ·refine z1 hc8 ?_;exact e0 h
 refine z1 (k2 hw5 hc8) ?_;first|refine ⟨(),?_,h⟩|refine ⟨hi3',(),?_,h⟩
 exact wR
@[go_sem] def jn (N:Nat):FnS:={ own:=[],pure:=true,fn:=fun cs=>match cs with
 | [c0,.clo 99 [.iref 1 [[k1_0_0]] 0 0]]=>((aJ 11 Txn.dec) c0).bind fun qc0=>((aG .i64) k1_0_0).bind fun qk1_0_0=>(ff N qc0 qk1_0_0).map fun r=>vI r
 | _=>none }
theorem uP (N:Nat):aC Tryz.prog 71 (jn N):=by
 refine ⟨fun cs r h=>?_,fun h=>by cases h⟩;simp only [jn] at h;split at h
 ·simp only [abC,abB] at h;obtain ⟨q0,h0,q1,h1,r',hr,rfl⟩:=h;exact (ag (wK N q0 q1 r' hr))
 ·cases h


@[go_sem] noncomputable def Rx (N d f:Nat):Option FnS:=ay [(8,71,jn N)] d f
theorem Rp (N:Nat) (a0:ae) (a1:Int) (r:Int) (h:fM N a0 a1=some r):Con Tryz.prog 40 [] true [.agg (ae.row a0),vI a1] (vI r):=by
 refine fk (G:=(Rx N)) Tryz.func40 (gc 8 (uP N) gn) ?_;simp only [Tryz.f40];unfold fM at h;refine z0 ?_;obtain ⟨r1,hr1,h⟩:=bI h;refine z1 hr1 ?_;exact e0 h
@[go_sem] def ia (N:Nat):FnS:=⟨[],true,fn2 ae.decA (aG .i64) fun q0 q1=>(fM N q0 q1).map fun r=>vI r,false⟩
theorem fH (N:Nat):aC Tryz.prog 40 (ia N):=om2 (Rp N)


@[go_sem] noncomputable def Hx (N d f:Nat):Option FnS:=ay [(6,40,ia N)] d f
theorem HL (N:Nat) (a0:Int) (c0_0:(List Txn)) (c0_1:(List ai)) (c0_2:(List aa)) (r:Bool) (h:lI N a0 c0_0 c0_1 c0_2=some r):Con Tryz.prog 122 [] true [vI a0,.iref 3 [[sF 11 (c0_0.map Txn.row),sF 4 (c0_1.map ai.row),sF 3 (c0_2.map aa.row)]] 0 0] (vB r):=by
 refine fk (G:=(Hx N)) Tryz.func122 (gc 6 (fH N) gn) ?_;simp only [Tryz.f122];unfold lI at h;refine z0 ?_;obtain ⟨r1,hr1,h⟩:=bI h;refine z1 hr1 ?_;exact e0 h
@[go_sem] def uT (N:Nat):FnS:={ own:=[],pure:=true,fn:=fun cs=>match cs with
 | [c0,.iref 3 [[c1_0,c1_1,c1_2]] 0 0]=>((aG .i64) c0).bind fun qc0=>((aJ 11 Txn.dec) c1_0).bind fun qc1_0=>((aJ 4 ai.dec) c1_1).bind fun qc1_1=>((aJ 3 aa.dec) c1_2).bind fun qc1_2=>(lI N qc0 qc1_0 qc1_1 qc1_2).map fun r=>vB r
 | _=>none }
theorem EM (N:Nat):aC Tryz.prog 122 (uT N):=by
 refine ⟨fun cs r h=>?_,fun h=>by cases h⟩;simp only [uT] at h;split at h
 ·simp only [abC,abB] at h;obtain ⟨q0,h0,q1,h1,q2,h2,q3,h3,r',hr,rfl⟩:=h;exact (ag (HL N q0 q1 q2 q3 r' hr))
 ·cases h


@[go_sem] noncomputable def uC (N d f:Nat):Option FnS:=ay [(16,122,uT N)] d f
theorem uD (N:Nat) (a0:(List Int)) (k1_0_0:(List Txn)) (k1_0_1:(List ai)) (k1_0_2:(List aa)) (r:Int) (h:dU N a0 k1_0_0 k1_0_1 k1_0_2=some r):Con Tryz.prog 189 [] true [sF 1 (a0.map (aA .i64)),.clo 122 [.iref 3 [[sF 11 (k1_0_0.map Txn.row),sF 4 (k1_0_1.map ai.row),sF 3 (k1_0_2.map aa.row)]] 0 0]] (vI r):=by
 refine fk (G:=(uC N)) Tryz.func189 (gc 16 (EM N) gn) ?_;simp only [Tryz.f189];unfold dU at h;refine z0 ?_;refine z0 ?_;refine lT 0 (fun (v2:Nat) (b:Unit)=>⟨tab 19 (af (af (af (af av 0 (sF 1 (a0.map (aA .i64)))) 1 (.clo 122 [.iref 3 [[sF 11 (k1_0_0.map Txn.row),sF 4 (k1_0_1.map ai.row),sF 3 (k1_0_2.map aa.row)]] 0 0])) 7 (vI (a0.length:Int))) 8 (vI (v2:Int))),RZ⟩) () h ?_ ?_
 ·rintro v2 ⟨⟩ hi3' h;simp only [dE] at h;refine z1 hi3' ?_;refine cf ?_;refine z0 ?_;exact e0 h
 rintro v2 ⟨⟩ x5 hi3' hx4 hw5 h;simp only [dE] at h;refine z1 hi3' ?_;refine ct ?_;refine z0 ?_;obtain ⟨r1,hr7,h⟩:=bI h;refine z1 (k3 hx4 hi3' hr7) ?_;refine cB h (fun hc8 h=>?_) fun hc8 h=>?_
 ·refine z1 hc8 ?_;exact e0 h
 refine z1 (k2 hw5 hc8) ?_;first|refine ⟨(),?_,h⟩|refine ⟨hi3',(),?_,h⟩
 exact wR
@[go_sem] def gX (N:Nat):FnS:={ own:=[],pure:=true,fn:=fun cs=>match cs with
 | [c0,.clo 122 [.iref 3 [[k1_0_0,k1_0_1,k1_0_2]] 0 0]]=>((aJ 1 (eb (aG .i64))) c0).bind fun qc0=>((aJ 11 Txn.dec) k1_0_0).bind fun qk1_0_0=>((aJ 4 ai.dec) k1_0_1).bind fun qk1_0_1=>((aJ 3 aa.dec) k1_0_2).bind fun qk1_0_2=>(dU N qc0 qk1_0_0 qk1_0_1 qk1_0_2).map fun r=>vI r
 | _=>none }
theorem rY (N:Nat):aC Tryz.prog 189 (gX N):=by
 refine ⟨fun cs r h=>?_,fun h=>by cases h⟩;simp only [gX] at h;split at h
 ·simp only [abC,abB] at h;obtain ⟨q0,h0,q1,h1,q2,h2,q3,h3,r',hr,rfl⟩:=h;exact (ag (uD N q0 q1 q2 q3 r' hr))
 ·cases h


@[go_sem] noncomputable def ta (N d f:Nat):Option FnS:=ay [(7,189,gX N)] d f
theorem sE (N:Nat) (a0:(List Int)) (k1_0_0:(List Txn)) (k1_0_1:(List ai)) (k1_0_2:(List aa)) (r:Bool) (h:dJ N a0 k1_0_0 k1_0_1 k1_0_2=some r):Con Tryz.prog 121 [] true [sF 1 (a0.map (aA .i64)),.clo 122 [.iref 3 [[sF 11 (k1_0_0.map Txn.row),sF 4 (k1_0_1.map ai.row),sF 3 (k1_0_2.map aa.row)]] 0 0]] (vB r):=by
 refine fk (G:=(ta N)) Tryz.func121 (gc 7 (rY N) gn) ?_;simp only [Tryz.f121];unfold dJ at h;refine z0 ?_;obtain ⟨r1,hr1,h⟩:=bI h;refine z1 hr1 ?_;exact e0 h
@[go_sem] def gg (N:Nat):FnS:={ own:=[],pure:=true,fn:=fun cs=>match cs with
 | [c0,.clo 122 [.iref 3 [[k1_0_0,k1_0_1,k1_0_2]] 0 0]]=>((aJ 1 (eb (aG .i64))) c0).bind fun qc0=>((aJ 11 Txn.dec) k1_0_0).bind fun qk1_0_0=>((aJ 4 ai.dec) k1_0_1).bind fun qk1_0_1=>((aJ 3 aa.dec) k1_0_2).bind fun qk1_0_2=>(dJ N qc0 qk1_0_0 qk1_0_1 qk1_0_2).map fun r=>vB r
 | _=>none }
theorem p8 (N:Nat):aC Tryz.prog 121 (gg N):=by
 refine ⟨fun cs r h=>?_,fun h=>by cases h⟩;simp only [gg] at h;split at h
 ·simp only [abC,abB] at h;obtain ⟨q0,h0,q1,h1,q2,h2,q3,h3,r',hr,rfl⟩:=h;exact (ag (sE N q0 q1 q2 q3 r' hr))
 ·cases h


@[go_sem] noncomputable def KM (N d f:Nat):Option FnS:=ay [(7,116,lD N),(19,40,ia N),(25,121,gg N)] d f
theorem Ko (N:Nat) (a0:ae) (r:Bool) (h:oU N a0=some r):Con Tryz.prog 53 [] true [.agg (ae.row a0)] (vB r):=by
 refine fk (G:=(KM N)) Tryz.func53 (gc 7 (kU N) (gc 19 (fH N) (gc 25 (p8 N) gn))) ?_;simp only [Tryz.f53];unfold oU at h;refine z0 ?_;obtain ⟨r1,hr1,h⟩:=bI h;refine z1 hr1 ?_;refine cM h (fun hc2 h=>?_) fun hc2 h=>?_
 ·refine z1 hc2 ?_;exact e0 h
 refine z1 hc2 ?_;refine lT 6 (fun (v4:Nat) (b:Unit)=>⟨tab 28 (af (af (af (af av 1 (pF 1)) 10 (sF 4 (a0.Locks.map ai.row))) 11 (vI (a0.Locks.length:Int))) 12 (vI (v4:Int))),(upd RZ 1 (vA 3 (ae.row a0)))⟩) () h ?_ ?_
 ·rintro v4 ⟨⟩ hi5' h;simp only [js] at h;refine z1 hi5' ?_;refine cf ?_;refine z0 ?_;exact e0 h
 rintro v4 ⟨⟩ x7 hi5' hx6 hw7 h;simp only [js] at h;refine z1 hi5' ?_;refine ct ?_;refine z1 (k2 hx6 hi5') ?_;apply aW (fun (c4:Bool)=>⟨tab 28 (af (af (af (af (af av 1 (pF 1)) 10 (sF 4 (a0.Locks.map ai.row))) 11 (vI (a0.Locks.length:Int))) 12 (vI (v4:Int))) 26 (vB c4)),(upd RZ 1 (vA 3 (ae.row a0)))⟩)
 ·intro hJ9;obtain ⟨r5,hr10,h⟩:=bI h;refine iD h (fun hc11 hc11d h=>?_) fun hc11 hc11d h=>?_
  ·refine z1 (k2 hr10 hc11d) ?_;refine hJ9 _ true ?_ h;exact wR
  obtain ⟨r6,hr12,h⟩:=bI h;refine z1 (k3 hr10 hc11d hr12) ?_;refine hJ9 _ r6 ?_ h;exact wR
 intro c4 h;unfold wP at h;refine cB h (fun hc13 h=>?_) fun hc13 h=>?_
 ·refine z1 hc13 ?_;exact e0 h
 refine z1 (k2 hw7 hc13) ?_;first|refine ⟨(),?_,h⟩|refine ⟨hi5',(),?_,h⟩
 exact wR
@[go_sem] def Ca (N:Nat):FnS:=⟨[],true,fn1 ae.decA fun q0=>(oU N q0).map fun r=>vB r,false⟩
theorem FQ (N:Nat):aC Tryz.prog 53 (Ca N):=om1 (Ko N)


@[go_sem] noncomputable def Ht (N d f:Nat):Option FnS:=ay [(4,61,mq N)] d f
theorem Hr (N:Nat) (a0:Value) (r:Bool) (h:k7 N a0=some r):Con Tryz.prog 135 [] true [.agg (Value.row a0)] (vB r):=by
 refine fk (G:=(Ht N)) Tryz.func135 (gc 4 (mJ N) gn) ?_;simp only [Tryz.f135];unfold k7 at h;refine z0 ?_;obtain ⟨r1,hr1,h⟩:=bI h;refine z1 hr1 ?_;exact e0 h
@[go_sem] def zR (N:Nat):FnS:=⟨[],true,fn1 Value.decA fun q0=>(k7 N q0).map fun r=>vB r,false⟩
theorem DC (N:Nat):aC Tryz.prog 135 (zR N):=om1 (Hr N)


@[go_sem] noncomputable def sK (N d f:Nat):Option FnS:=ay [(16,135,zR N)] d f
theorem su (N:Nat) (a0:(List Value)) (r:Int) (h:dH N a0=some r):Con Tryz.prog 201 [] true [sF 5 (a0.map Value.row),.clo 135 []] (vI r):=by
 refine fk (G:=(sK N)) Tryz.func201 (gc 16 (DC N) gn) ?_;simp only [Tryz.f201];unfold dH at h;refine z0 ?_;refine z0 ?_;refine lT 0 (fun (v2:Nat) (b:Unit)=>⟨tab 19 (af (af (af (af av 0 (sF 5 (a0.map Value.row))) 1 (.clo 135 [])) 7 (vI (a0.length:Int))) 8 (vI (v2:Int))),RZ⟩) () h ?_ ?_
 ·rintro v2 ⟨⟩ hi3' h;simp only [bZ] at h;refine z1 hi3' ?_;refine cf ?_;refine z0 ?_;exact e0 h
 rintro v2 ⟨⟩ x5 hi3' hx4 hw5 h;simp only [bZ] at h;refine z1 hi3' ?_;refine ct ?_;refine z0 ?_;obtain ⟨r1,hr7,h⟩:=bI h;refine z1 (k3 hx4 hi3' hr7) ?_;refine cB h (fun hc8 h=>?_) fun hc8 h=>?_
 ·refine z1 hc8 ?_;exact e0 h
 refine z1 (k2 hw5 hc8) ?_;first|refine ⟨(),?_,h⟩|refine ⟨hi3',(),?_,h⟩
 exact wR
@[go_sem] def gi (N:Nat):FnS:={ own:=[],pure:=true,fn:=fun cs=>match cs with
 | [c0,.clo 135 []]=>((aJ 5 Value.dec) c0).bind fun qc0=>(dH N qc0).map fun r=>vI r
 | _=>none }
theorem p9 (N:Nat):aC Tryz.prog 201 (gi N):=by
 refine ⟨fun cs r h=>?_,fun h=>by cases h⟩;simp only [gi] at h;split at h
 ·simp only [abC,abB] at h;obtain ⟨q0,h0,r',hr,rfl⟩:=h;exact (ag (su N q0 r' hr))
 ·cases h


@[go_sem] noncomputable def re (N d f:Nat):Option FnS:=ay [(7,201,gi N)] d f
theorem qT (N:Nat) (a0:(List Value)) (r:Bool) (h:da N a0=some r):Con Tryz.prog 134 [] true [sF 5 (a0.map Value.row),.clo 135 []] (vB r):=by
 refine fk (G:=(re N)) Tryz.func134 (gc 7 (p9 N) gn) ?_;simp only [Tryz.f134];unfold da at h;refine z0 ?_;obtain ⟨r1,hr1,h⟩:=bI h;refine z1 hr1 ?_;exact e0 h
@[go_sem] def fx (N:Nat):FnS:={ own:=[],pure:=true,fn:=fun cs=>match cs with
 | [c0,.clo 135 []]=>((aJ 5 Value.dec) c0).bind fun qc0=>(da N qc0).map fun r=>vB r
 | _=>none }
theorem oX (N:Nat):aC Tryz.prog 134 (fx N):=by
 refine ⟨fun cs r h=>?_,fun h=>by cases h⟩;simp only [fx] at h;split at h
 ·simp only [abC,abB] at h;obtain ⟨q0,h0,r',hr,rfl⟩:=h;exact (ag (qT N q0 r' hr))
 ·cases h


@[go_sem] noncomputable def Jk (N d f:Nat):Option FnS:=ay [(8,134,fx N)] d f
theorem Jh (N:Nat) (a0:(List Value)) (r:Bool) (h:kP N a0=some r):Con Tryz.prog 60 [] true [sF 5 (a0.map Value.row)] (vB r):=by
 refine fk (G:=(Jk N)) Tryz.func60 (gc 8 (oX N) gn) ?_;simp only [Tryz.f60];unfold kP at h;refine z0 ?_;refine iD h (fun hc1 hc1d h=>?_) fun hc1 hc1d h=>?_
 ·obtain ⟨r1,hr2,h⟩:=bI h;refine z1 (k2 hc1d hr2) ?_;exact e0 h
 refine z1 hc1d ?_;exact e0 h
@[go_sem] def vC (N:Nat):FnS:=⟨[],true,fn1 (aJ 5 Value.dec) fun q0=>(kP N q0).map fun r=>vB r,false⟩
theorem ze (N:Nat):aC Tryz.prog 60 (vC N):=om1 (Jh N)


theorem Hh (N:Nat) (a0:al) (c0_0:Int) (c0_1:(List Value)) (c0_2:Bool) (r:Bool) (h:kZ N a0 c0_0 c0_1 c0_2=some r):Con Tryz.prog 192 [] true [.agg (al.row a0),.iref 3 [[vI c0_0,sF 5 (c0_1.map Value.row),vB c0_2]] 0 0] (vB r):=by
 refine fk (G:=(ay [])) Tryz.func192 gn ?_;simp only [Tryz.f192];unfold kZ at h;refine z0 ?_;refine z0 ?_;exact e0 h
@[go_sem] def tJ (N:Nat):FnS:={ own:=[],pure:=true,fn:=fun cs=>match cs with
 | [c0,.iref 3 [[c1_0,c1_1,c1_2]] 0 0]=>(al.decA c0).bind fun qc0=>((aG .i64) c1_0).bind fun qc1_0=>((aJ 5 Value.dec) c1_1).bind fun qc1_1=>(Dl c1_2).bind fun qc1_2=>(kZ N qc0 qc1_0 qc1_1 qc1_2).map fun r=>vB r
 | _=>none }
theorem DG (N:Nat):aC Tryz.prog 192 (tJ N):=by
 refine ⟨fun cs r h=>?_,fun h=>by cases h⟩;simp only [tJ] at h;split at h
 ·simp only [abC,abB] at h;obtain ⟨q0,h0,q1,h1,q2,h2,q3,h3,r',hr,rfl⟩:=h;exact (ag (Hh N q0 q1 q2 q3 r' hr))
 ·cases h


@[go_sem] noncomputable def s4 (N d f:Nat):Option FnS:=ay [(16,192,tJ N)] d f
theorem sH (N:Nat) (a0:(List al)) (k1_0_0:Int) (k1_0_1:(List Value)) (k1_0_2:Bool) (r:Int) (h:dG N a0 k1_0_0 k1_0_1 k1_0_2=some r):Con Tryz.prog 186 [] true [sF 3 (a0.map al.row),.clo 192 [.iref 3 [[vI k1_0_0,sF 5 (k1_0_1.map Value.row),vB k1_0_2]] 0 0]] (vI r):=by
 refine fk (G:=(s4 N)) Tryz.func186 (gc 16 (DG N) gn) ?_;simp only [Tryz.f186];unfold dG at h;refine z0 ?_;refine z0 ?_;refine lT 0 (fun (v2:Nat) (b:Unit)=>⟨tab 19 (af (af (af (af av 0 (sF 3 (a0.map al.row))) 1 (.clo 192 [.iref 3 [[vI k1_0_0,sF 5 (k1_0_1.map Value.row),vB k1_0_2]] 0 0])) 7 (vI (a0.length:Int))) 8 (vI (v2:Int))),RZ⟩) () h ?_ ?_
 ·rintro v2 ⟨⟩ hi3' h;simp only [b8] at h;refine z1 hi3' ?_;refine cf ?_;refine z0 ?_;exact e0 h
 rintro v2 ⟨⟩ x5 hi3' hx4 hw5 h;simp only [b8] at h;refine z1 hi3' ?_;refine ct ?_;refine z0 ?_;obtain ⟨r1,hr7,h⟩:=bI h;refine z1 (k3 hx4 hi3' hr7) ?_;refine cB h (fun hc8 h=>?_) fun hc8 h=>?_
 ·refine z1 hc8 ?_;exact e0 h
 refine z1 (k2 hw5 hc8) ?_;first|refine ⟨(),?_,h⟩|refine ⟨hi3',(),?_,h⟩
 exact wR
@[go_sem] def gj (N:Nat):FnS:={ own:=[],pure:=true,fn:=fun cs=>match cs with
 | [c0,.clo 192 [.iref 3 [[k1_0_0,k1_0_1,k1_0_2]] 0 0]]=>((aJ 3 al.dec) c0).bind fun qc0=>((aG .i64) k1_0_0).bind fun qk1_0_0=>((aJ 5 Value.dec) k1_0_1).bind fun qk1_0_1=>(Dl k1_0_2).bind fun qk1_0_2=>(dG N qc0 qk1_0_0 qk1_0_1 qk1_0_2).map fun r=>vI r
 | _=>none }
theorem qf (N:Nat):aC Tryz.prog 186 (gj N):=by
 refine ⟨fun cs r h=>?_,fun h=>by cases h⟩;simp only [gj] at h;split at h
 ·simp only [abC,abB] at h;obtain ⟨q0,h0,q1,h1,q2,h2,q3,h3,r',hr,rfl⟩:=h;exact (ag (sH N q0 q1 q2 q3 r' hr))
 ·cases h


@[go_sem] noncomputable def rr (N d f:Nat):Option FnS:=ay [(7,186,gj N)] d f
theorem rh (N:Nat) (a0:(List al)) (k1_0_0:Int) (k1_0_1:(List Value)) (k1_0_2:Bool) (r:Bool) (h:bc N a0 k1_0_0 k1_0_1 k1_0_2=some r):Con Tryz.prog 191 [] true [sF 3 (a0.map al.row),.clo 192 [.iref 3 [[vI k1_0_0,sF 5 (k1_0_1.map Value.row),vB k1_0_2]] 0 0]] (vB r):=by
 refine fk (G:=(rr N)) Tryz.func191 (gc 7 (qf N) gn) ?_;simp only [Tryz.f191];unfold bc at h;refine z0 ?_;obtain ⟨r1,hr1,h⟩:=bI h;refine z1 hr1 ?_;exact e0 h
@[go_sem] def fy (N:Nat):FnS:={ own:=[],pure:=true,fn:=fun cs=>match cs with
 | [c0,.clo 192 [.iref 3 [[k1_0_0,k1_0_1,k1_0_2]] 0 0]]=>((aJ 3 al.dec) c0).bind fun qc0=>((aG .i64) k1_0_0).bind fun qk1_0_0=>((aJ 5 Value.dec) k1_0_1).bind fun qk1_0_1=>(Dl k1_0_2).bind fun qk1_0_2=>(bc N qc0 qk1_0_0 qk1_0_1 qk1_0_2).map fun r=>vB r
 | _=>none }
theorem oM (N:Nat):aC Tryz.prog 191 (fy N):=by
 refine ⟨fun cs r h=>?_,fun h=>by cases h⟩;simp only [fy] at h;split at h
 ·simp only [abC,abB] at h;obtain ⟨q0,h0,q1,h1,q2,h2,q3,h3,r',hr,rfl⟩:=h;exact (ag (rh N q0 q1 q2 q3 r' hr))
 ·cases h


@[go_sem] noncomputable def Jl (N d f:Nat):Option FnS:=ay [(17,40,ia N),(22,60,vC N),(42,191,fy N)] d f
theorem Jm (N:Nat) (a0:ae) (a1:(List al)) (r:Bool) (h:kI N a0 a1=some r):Con Tryz.prog 123 [] true [.agg (ae.row a0),sF 3 (a1.map al.row)] (vB r):=by
 refine fk (G:=(Jl N)) Tryz.func123 (gc 17 (fH N) (gc 22 (ze N) (gc 42 (oM N) gn))) ?_;simp only [Tryz.f123];unfold kI at h;refine z0 ?_;refine z0 ?_;refine aX (iP fun hreal2=>?_);have hl1:=hreal2.lenT 1 (by decide) (by simp only [go_sem,seval]; rfl);first|rw [abJ] at hl1|rw [fY] at hl1|rw [<-ab4,abJ] at hl1
 refine tz (fun (v2:Nat) (b:Unit)=>⟨tab 48 (af (af (af (af (af av 1 (sF 3 (a1.map al.row))) 2 (pF 2)) 7 (sF 3 (a1.map al.row))) 8 (vI (a1.length:Int))) 9 (vI (v2:Int))),(upd RZ 2 (vA 3 (ae.row a0)))⟩) () h ?_ ?_
 ·refine wr ?_ ?_<;>repeat' first|rfl|constructor|simp only [go_sem,seval,acN,acf,acC,acw]
 rintro v2 ⟨⟩ hi3 h -;rcases (ov a1 v2 hi3).symm with ⟨hi3',_,hd6⟩|⟨x5,hi3',hx4,hd6⟩
 ·rw [hd6] at h;simp only [eW] at h;refine z1 hi3' ?_;refine cf ?_;refine z0 ?_;refine fD (pp ?_);cases h;simp (config := { maxSteps := 4000000 }) only [go_sem,seval];exact ⟨_,rfl,(by exact ROk.refl _),(by repeat' (first|exact bQ.val _|refine bQ.tup ?_|refine bQ.agg ?_|exact vE|refine jB ?_ ?_))⟩
 rw [hd6] at h;simp only [eW] at h;have hw5:=fm hi3' hl1;refine z1 hi3' ?_;refine ct ?_;refine z1 (k2 hx4 hi3') ?_;apply aW (fun (c7:Bool)=>⟨tab 48 (af (af (af (af (af (af av 1 (sF 3 (a1.map al.row))) 2 (pF 2)) 7 (sF 3 (a1.map al.row))) 8 (vI (a1.length:Int))) 9 (vI (v2:Int))) 43 (vB c7)),(upd RZ 2 (vA 3 (ae.row a0)))⟩)
 ·intro hJ7;obtain ⟨r8,hr8,h⟩:=bI h;refine iL fun Z hZ=>?_;simp (config := { maxSteps := 4000000 }) only [go_sem,seval,hr8];refine mi rfl (fun hc9=>?_) (fun hc9=>?_)
  ·have hc9d:=decide_eq_true hc9;first|rw [if_pos hc9] at h|rw [if_pos hc9d] at h|simp only [hc9d,ab6,aca,abN,if_true,if_false] at h
   simp (config := { maxSteps := 4000000 }) only [go_sem,seval,hc9d];refine hZ _ (pp (hJ7 _ true ?_ h));exact wF (k5 hx4 hi3' hw5 hr8 hc9d)
  have hc9d:=decide_eq_false hc9;first|rw [if_neg hc9] at h|rw [if_neg (ne_true_of_eq_false hc9d)] at h|simp only [hc9d,ab6,aca,abN,if_true,if_false] at h
  obtain ⟨r9,hr10,h⟩:=bI h;simp (config := { maxSteps := 4000000 }) only [go_sem,seval,hc9d,hr10];refine sM rfl (fun hc11=>?_) (fun hc11=>?_)
  ·first|rw [if_neg (ne_true_of_eq_false hc11)] at h|simp only [hc11,acA,acE,acu,acO,acD,acP,acs,acF,ab6,aca,abN,if_true,if_false] at h
   simp (config := { maxSteps := 4000000 }) only [go_sem,seval,hc11];refine hZ _ (pp (hJ7 _ true ?_ h));exact wF (k5 hx4 hi3' hw5 hr8 (k3 hc9d hr10 hc11))
  first|rw [if_pos hc11] at h|simp only [hc11,acA,acE,acu,acO,acD,acP,acs,acF,ab6,aca,abN,if_true,if_false] at h
  simp (config := { maxSteps := 4000000 }) only [go_sem,seval,hc11];refine sw (sM rfl) (fun hc12=>?_) (fun hc12=>?_)
  ·first|rw [if_pos hc12] at h|simp only [hc12,hc11,acA,acE,acu,acO,acD,acP,acs,acF,ab6,aca,abN,if_true,if_false] at h
   obtain ⟨hs16,h⟩:=jw h;try simp only [abX,adp,abU,ada] at hs16 h
   obtain ⟨r11,hr17,h⟩:=bI h;try simp only [hc12] at hr17
   simp (config := { maxSteps := 4000000 }) only [go_sem,seval,hc12,hs16,abU,hr17];refine hZ _ (pp (hJ7 _ r11 ?_ h));exact wF (k5 hx4 hi3' hw5 hr8 (k5 hc9d hr10 hc11 hc12 (k4 hs16 @abU @ab2 hr17)))
  first|rw [if_neg (ne_true_of_eq_false hc12)] at h|simp only [hc12,hc11,acA,acE,acu,acO,acD,acP,acs,acF,ab6,aca,abN,if_true,if_false] at h
  simp (config := { maxSteps := 4000000 }) only [go_sem,seval,hc12];refine mi rfl (fun hc13=>?_) (fun hc13=>?_)
  ·have hc13d:=decide_eq_true hc13;first|rw [if_pos hc13] at h|rw [if_pos hc13d] at h|simp only [hc13d,ab6,aca,abN,if_true,if_false] at h
   simp (config := { maxSteps := 4000000 }) only [go_sem,seval,hc13d];refine hZ _ (pp (hJ7 _ true ?_ h));exact wF (k5 hx4 hi3' hw5 hr8 (k5 hc9d hr10 hc11 hc12 hc13d))
  have hc13d:=decide_eq_false hc13;first|rw [if_neg hc13] at h|rw [if_neg (ne_true_of_eq_false hc13d)] at h|simp only [hc13d,ab6,aca,abN,if_true,if_false] at h
  obtain ⟨hs14,h⟩:=jw h;try simp only [abX,adp,abU,ada] at hs14 h
  obtain ⟨r10,hr15,h⟩:=bI h;try simp only [hc12] at hr15
  simp (config := { maxSteps := 4000000 }) only [go_sem,seval,hc13d,hs14,abU,hr15];refine hZ _ (pp (hJ7 _ r10 ?_ h));exact wF (k5 hx4 hi3' hw5 hr8 (k5 hc9d hr10 hc11 hc12 (k5 hc13d hs14 @abU @ab2 hr15)))
 intro c7 h;unfold ke at h;refine pI rfl (fun hc18=>?_) (fun hc18=>?_)
 ·first|rw [if_pos hc18] at h|simp only [hc18,acA,acE,acu,acO,acD,acP,acs,acF,ab6,aca,abN,if_true,if_false] at h
  refine z1 hc18 ?_;refine fD (pp ?_);cases h;simp (config := { maxSteps := 4000000 }) only [go_sem,seval];exact ⟨_,rfl,(by exact ROk.refl _),(by repeat' (first|exact bQ.val _|refine bQ.tup ?_|refine bQ.agg ?_|exact vE|refine jB ?_ ?_))⟩
 first|rw [if_neg (ne_true_of_eq_false hc18)] at h|simp only [hc18,acA,acE,acu,acO,acD,acP,acs,acF,ab6,aca,abN,if_true,if_false] at h
 refine z1 (k2 hw5 hc18) ?_;first|refine ⟨(),?_,h⟩|refine ⟨hi3',(),?_,h⟩
 exact wF (k4 hx4 hi3' hw5 hc18)
@[go_sem] def Bi (N:Nat):FnS:=⟨[],true,fn2 ae.decA (aJ 3 al.dec) fun q0 q1=>(kI N q0 q1).map fun r=>vB r,false⟩
theorem E5 (N:Nat):aC Tryz.prog 123 (Bi N):=om2 (Jm N)


@[go_sem] noncomputable def Nb (N d f:Nat):Option FnS:=ay [(8,188,yQ N)] d f
theorem Nd (N:Nat) (a0:ai) (a1:Ref) (r:Int) (h:pB N a0 a1=some r):Con Tryz.prog 194 [] true [.agg (ai.row a0),.agg [vS a1.Type_,vS a1.Key]] (vI r):=by
 refine fk (G:=(Nb N)) Tryz.func194 (gc 8 (Ah N) gn) ?_;simp only [Tryz.f194];unfold pB at h;refine z0 ?_;obtain ⟨r1,hr1,h⟩:=bI h;refine z1 hr1 ?_;exact e0 h
@[go_sem] def zt (N:Nat):FnS:=⟨[],true,fn2 ai.decA Ref.decA fun q0 q1=>(pB N q0 q1).map fun r=>vI r,false⟩
theorem Br (N:Nat):aC Tryz.prog 194 (zt N):=om2 (Nd N)


@[go_sem] noncomputable def sR (N d f:Nat):Option FnS:=ay [(30,194,zt N),(46,194,zt N)] d f
theorem sG (N:Nat) (a0:(List ai)) (a1:Ref) (r:Int × Bool) (h:dF N a0 a1=some r):Con Tryz.prog 193 [] true [sF 4 (a0.map ai.row),.agg [vS a1.Type_,vS a1.Key],.clo 194 []] (.tup [vI r.1,vB r.2]):=by
 refine fk (G:=(sR N)) Tryz.func193 (gc 30 (Br N) (gc 46 (Br N) gn)) ?_;simp only [Tryz.f193];unfold dF at h;refine z0 ?_;refine z0 ?_;refine z0 ?_;refine aM (aX (iT (fun (b:Int × Int)=>⟨tab 49 (af (af (af (af (af (af av 0 (sF 4 (a0.map ai.row))) 2 (.clo 194 [])) 4 (pF 4)) 8 (vI (a0.length:Int))) 9 (vI b.1)) 10 (vI b.2)),(upd RZ 4 (vA 2 [vS a1.Type_,vS a1.Key]))⟩) (0,(a0.length:Int)) h ?_ ?_))
 ·exact wR
 rintro n ⟨v2,v3⟩ h -;cases n with
 | zero=>simp [be] at h
 | succ n=>
 simp only [be] at h;refine z0 ?_;refine cDs h (fun hc1 hc1d h=>?_) fun hc1 hc1d h=>?_
 ·refine iR (pp ?_);unfold ei at h;refine iD h (fun hc6 hc6d h=>?_) fun hc6 hc6d h=>?_
  ·obtain ⟨x11,hb7,hx8,h⟩:=aH h;obtain ⟨r12,hr9,h⟩:=bI h;refine d1 (k4 hc1d hb7 hx8 hr9) ?_;exact e0 h
  refine d1 (k2 hc1d hc6d) ?_;exact e0 h
 refine z1 hc1d ?_;obtain ⟨x9,hb2,hx3,h⟩:=aH h;obtain ⟨r10,hr4,h⟩:=bI h;refine d1 (k3 hb2 hx3 hr4) ?_;refine cD h (fun hc5 hc5d h=>?_) fun hc5 hc5d h=>?_
 ·refine z1 hc5d ?_;refine ⟨_,acn _,(IntKind.i64.wrap ((IntKind.i64.wrap (kJ .u64 (IntKind.u64.wrap (IntKind.i64.wrap (v2+v3))) 1))+1),v3),?_,h⟩;exact wR
 refine z1 hc5d ?_;refine ⟨_,acn _,(v2,IntKind.i64.wrap (kJ .u64 (IntKind.u64.wrap (IntKind.i64.wrap (v2+v3))) 1)),?_,h⟩;exact wR
@[go_sem] def gf (N:Nat):FnS:={ own:=[],pure:=true,fn:=fun cs=>match cs with
 | [c0,c1,.clo 194 []]=>((aJ 4 ai.dec) c0).bind fun qc0=>(Ref.decA c1).bind fun qc1=>(dF N qc0 qc1).map fun r=>.tup [vI r.1,vB r.2]
 | _=>none }
theorem qe (N:Nat):aC Tryz.prog 193 (gf N):=by
 refine ⟨fun cs r h=>?_,fun h=>by cases h⟩;simp only [gf] at h;split at h
 ·simp only [abC,abB] at h;obtain ⟨q0,h0,q1,h1,r',hr,rfl⟩:=h;exact (ag (sG N q0 q1 r' hr))
 ·cases h


@[go_sem] noncomputable def PF (N d f:Nat):Option FnS:=ay [(8,193,gf N)] d f
theorem Pl (N:Nat) (a0:(List ai)) (a1:Ref) (r:Int × Bool) (h:qM N a0 a1=some r):Con Tryz.prog 126 [] true [sF 4 (a0.map ai.row),.agg [vS a1.Type_,vS a1.Key]] (.tup [vI r.1,vB r.2]):=by
 refine fk (G:=(PF N)) Tryz.func126 (gc 8 (qe N) gn) ?_;simp only [Tryz.f126];unfold qM at h;refine z0 ?_;obtain ⟨r1,hr1,h⟩:=bI h;refine z1 hr1 ?_;exact e0 h
@[go_sem] def yA (N:Nat):FnS:=⟨[],true,fn2 (aJ 4 ai.dec) Ref.decA fun q0 q1=>(qM N q0 q1).map fun r=>.tup [vI r.1,vB r.2],false⟩
theorem yX (N:Nat):aC Tryz.prog 126 (yA N):=om2 (Pl N)


@[go_sem] noncomputable def Oh (N d f:Nat):Option FnS:=ay [(8,116,lD N),(13,126,yA N)] d f
theorem Oj (N:Nat) (a0:(List ai)) (a1:Ref) (r:Int) (h:oE N a0 a1=some r):Con Tryz.prog 62 [] true [sF 4 (a0.map ai.row),.agg [vS a1.Type_,vS a1.Key]] (vI r):=by
 refine fk (G:=(Oh N)) Tryz.func62 (gc 8 (kU N) (gc 13 (yX N) gn)) ?_;simp only [Tryz.f62];unfold oE at h;refine z0 ?_;obtain ⟨r1,hr1,h⟩:=bI h;refine z1 hr1 ?_;refine cM h (fun hc2 h=>?_) fun hc2 h=>?_
 ·refine z1 hc2 ?_;exact e0 h
 obtain ⟨r2,hr3,h⟩:=bI h;refine z1 (k2 hc2 hr3) ?_;refine z0 ?_;refine cB h (fun hc4 h=>?_) fun hc4 h=>?_
 ·obtain ⟨x3,hb5,hx6,h⟩:=aH h;refine z1 (k3 hc4 hb5 hx6) ?_;exact e0 h
 refine z1 hc4 ?_;exact e0 h
@[go_sem] def AP (N:Nat):FnS:=⟨[],true,fn2 (aJ 4 ai.dec) Ref.decA fun q0 q1=>(oE N q0 q1).map fun r=>vI r,false⟩
theorem Ci (N:Nat):aC Tryz.prog 62 (AP N):=om2 (Oj N)


theorem Lc (N:Nat) (a0:ah) (c0_0:ByteArray) (c0_1:ByteArray) (r:Bool) (h:uj N a0 c0_0 c0_1=some r):Con Tryz.prog 141 [] true [.agg (ah.row a0),.iref 2 [[vS c0_0,vS c0_1]] 0 0] (vB r):=by
 refine fk (G:=(ay [])) Tryz.func141 gn ?_;simp only [Tryz.f141];unfold uj at h;refine z0 ?_;refine z0 ?_;exact e0 h
@[go_sem] def yI (N:Nat):FnS:={ own:=[],pure:=true,fn:=fun cs=>match cs with
 | [c0,.iref 2 [[c1_0,c1_1]] 0 0]=>(ah.decA c0).bind fun qc0=>(du c1_0).bind fun qc1_0=>(du c1_1).bind fun qc1_1=>(uj N qc0 qc1_0 qc1_1).map fun r=>vB r
 | _=>none }
theorem Hc (N:Nat):aC Tryz.prog 141 (yI N):=by
 refine ⟨fun cs r h=>?_,fun h=>by cases h⟩;simp only [yI] at h;split at h
 ·simp only [abC,abB] at h;obtain ⟨q0,h0,q1,h1,q2,h2,r',hr,rfl⟩:=h;exact (ag (Lc N q0 q1 q2 r' hr))
 ·cases h


@[go_sem] noncomputable def sy (N d f:Nat):Option FnS:=ay [(16,141,yI N)] d f
theorem sD (N:Nat) (a0:(List ah)) (k1_0_0:ByteArray) (k1_0_1:ByteArray) (r:Int) (h:dI N a0 k1_0_0 k1_0_1=some r):Con Tryz.prog 203 [] true [sF 4 (a0.map ah.row),.clo 141 [.iref 2 [[vS k1_0_0,vS k1_0_1]] 0 0]] (vI r):=by
 refine fk (G:=(sy N)) Tryz.func203 (gc 16 (Hc N) gn) ?_;simp only [Tryz.f203];unfold dI at h;refine z0 ?_;refine z0 ?_;refine lT 0 (fun (v2:Nat) (b:Unit)=>⟨tab 19 (af (af (af (af av 0 (sF 4 (a0.map ah.row))) 1 (.clo 141 [.iref 2 [[vS k1_0_0,vS k1_0_1]] 0 0])) 7 (vI (a0.length:Int))) 8 (vI (v2:Int))),RZ⟩) () h ?_ ?_
 ·rintro v2 ⟨⟩ hi3' h;simp only [b9] at h;refine z1 hi3' ?_;refine cf ?_;refine z0 ?_;exact e0 h
 rintro v2 ⟨⟩ x5 hi3' hx4 hw5 h;simp only [b9] at h;refine z1 hi3' ?_;refine ct ?_;refine z0 ?_;obtain ⟨r1,hr7,h⟩:=bI h;refine z1 (k3 hx4 hi3' hr7) ?_;refine cB h (fun hc8 h=>?_) fun hc8 h=>?_
 ·refine z1 hc8 ?_;exact e0 h
 refine z1 (k2 hw5 hc8) ?_;first|refine ⟨(),?_,h⟩|refine ⟨hi3',(),?_,h⟩
 exact wR
@[go_sem] def gb (N:Nat):FnS:={ own:=[],pure:=true,fn:=fun cs=>match cs with
 | [c0,.clo 141 [.iref 2 [[k1_0_0,k1_0_1]] 0 0]]=>((aJ 4 ah.dec) c0).bind fun qc0=>(du k1_0_0).bind fun qk1_0_0=>(du k1_0_1).bind fun qk1_0_1=>(dI N qc0 qk1_0_0 qk1_0_1).map fun r=>vI r
 | _=>none }
theorem qh (N:Nat):aC Tryz.prog 203 (gb N):=by
 refine ⟨fun cs r h=>?_,fun h=>by cases h⟩;simp only [gb] at h;split at h
 ·simp only [abC,abB] at h;obtain ⟨q0,h0,q1,h1,q2,h2,r',hr,rfl⟩:=h;exact (ag (sD N q0 q1 q2 r' hr))
 ·cases h


@[go_sem] noncomputable def ru (N d f:Nat):Option FnS:=ay [(7,203,gb N)] d f
theorem qD (N:Nat) (a0:(List ah)) (k1_0_0:ByteArray) (k1_0_1:ByteArray) (r:Bool) (h:db N a0 k1_0_0 k1_0_1=some r):Con Tryz.prog 140 [] true [sF 4 (a0.map ah.row),.clo 141 [.iref 2 [[vS k1_0_0,vS k1_0_1]] 0 0]] (vB r):=by
 refine fk (G:=(ru N)) Tryz.func140 (gc 7 (qh N) gn) ?_;simp only [Tryz.f140];unfold db at h;refine z0 ?_;obtain ⟨r1,hr1,h⟩:=bI h;refine z1 hr1 ?_;exact e0 h
@[go_sem] def fB (N:Nat):FnS:={ own:=[],pure:=true,fn:=fun cs=>match cs with
 | [c0,.clo 141 [.iref 2 [[k1_0_0,k1_0_1]] 0 0]]=>((aJ 4 ah.dec) c0).bind fun qc0=>(du k1_0_0).bind fun qk1_0_0=>(du k1_0_1).bind fun qk1_0_1=>(db N qc0 qk1_0_0 qk1_0_1).map fun r=>vB r
 | _=>none }
theorem oN (N:Nat):aC Tryz.prog 140 (fB N):=by
 refine ⟨fun cs r h=>?_,fun h=>by cases h⟩;simp only [fB] at h;split at h
 ·simp only [abC,abB] at h;obtain ⟨q0,h0,q1,h1,q2,h2,r',hr,rfl⟩:=h;exact (ag (qD N q0 q1 q2 r' hr))
 ·cases h


@[go_sem] noncomputable def N9 (N d f:Nat):Option FnS:=ay [(7,140,fB N)] d f
theorem Ox (N:Nat) (a0:(List ah)) (a1:Ref) (r:Bool) (h:oG N a0 a1=some r):Con Tryz.prog 68 [] true [sF 4 (a0.map ah.row),.agg [vS a1.Type_,vS a1.Key]] (vB r):=by
 refine fk (G:=(N9 N)) Tryz.func68 (gc 7 (oN N) gn) ?_;simp only [Tryz.f68];unfold oG at h;refine z0 ?_;obtain ⟨r1,hr1,h⟩:=bI h;refine z1 hr1 ?_;exact e0 h
@[go_sem] def AK (N:Nat):FnS:=⟨[],true,fn2 (aJ 4 ah.dec) Ref.decA fun q0 q1=>(oG N q0 q1).map fun r=>vB r,false⟩
theorem Ck (N:Nat):aC Tryz.prog 68 (AK N):=om2 (Ox N)


@[go_sem] noncomputable def Ou (N d f:Nat):Option FnS:=ay [(9,104,kf N),(14,104,kf N),(16,103,B5 N)] d f
theorem GW (N:Nat) (a0:Ref) (a1:Ref) (r:Int) (h:il N a0 a1=some r):Con Tryz.prog 43 [] true [.agg [vS a0.Type_,vS a0.Key],.agg [vS a1.Type_,vS a1.Key]] (vI r):=by
 refine fk (G:=(Ou N)) Tryz.func43 (gc 9 (kB N) (gc 14 (kB N) (gc 16 (CQ N) gn))) ?_;simp only [Tryz.f43];unfold il at h;refine z0 ?_;obtain ⟨r1,hr1,h⟩:=bI h;obtain ⟨r2,hr2,h⟩:=bI h;obtain ⟨r3,hr3,h⟩:=bI h;refine d1 (k3 hr1 hr2 hr3) ?_;exact e0 h
@[go_sem] def vU (N:Nat):FnS:=⟨[],true,fn2 Ref.decA Ref.decA fun q0 q1=>(il N q0 q1).map fun r=>vI r,false⟩
theorem wT (N:Nat):aC Tryz.prog 43 (vU N):=om2 (GW N)


@[go_sem] noncomputable def Jn (N d f:Nat):Option FnS:=ay [(36,123,Bi N),(55,62,AP N),(72,40,ia N),(82,68,AK N),(29,43,vU N)] d f
theorem Jo (N:Nat) (a0:ae) (r:Bool) (h:mH N a0=some r):Con Tryz.prog 54 [] true [.agg (ae.row a0)] (vB r):=by
 refine fk (G:=(Jn N)) Tryz.func54 (gc 36 (E5 N) (gc 55 (Ci N) (gc 72 (fH N) (gc 82 (Ck N) (gc 29 (wT N) gn))))) ?_;simp only [Tryz.f54];unfold mH at h;refine z0 ?_;refine z0 ?_;refine lT 10 (fun (v2:Nat) (b:Unit)=>⟨tab 98 (af (af (af (af av 1 (pF 1)) 10 (sF 3 (a0.Stacks.map aa.row))) 11 (vI (a0.Stacks.length:Int))) 12 (vI (v2:Int))),(upd RZ 1 (vA 3 (ae.row a0)))⟩) () h ?_ ?_
 ·rintro v2 ⟨⟩ hi3' h;simp only [eZ] at h;refine z1 hi3' ?_;refine cf ?_;refine z0 ?_;exact e0 h
 rintro v2 ⟨⟩ x5 hi3' hx4 hw5 h;simp only [eZ] at h;refine z1 hi3' ?_;refine ct ?_;refine z1 (k2 hx4 hi3') ?_;refine aM ?_;apply aW (fun (c11:Bool)=>⟨tab 98 (af (af (af (af (af (af av 1 (pF 1)) 4 (pF 4)) 10 (sF 3 (a0.Stacks.map aa.row))) 11 (vI (a0.Stacks.length:Int))) 12 (vI (v2:Int))) 38 (vB c11)),(upd (upd RZ 1 (vA 3 (ae.row a0))) 4 (vA 3 (aa.row x5)))⟩)
 ·intro hJ7;refine mh fun Z hZ=>?_;simp only [go_sem,seval];refine sw (mi rfl) (fun hc8=>?_) (fun hc8=>?_)
  ·have hc8d:=decide_eq_false hc8;rw [if_neg hc8] at h;obtain ⟨r15,hr14,h⟩:=bI h;simp only [go_sem,seval,hc8d,hr14];repeat with_reducible refine gS (by kernel_rfl) ?_
   refine hZ _ (by kernel_rfl) (pp (hJ7 _ (!r15) ?_ h));exact wR
  have hc8d:=decide_eq_true hc8;rw [if_pos hc8] at h;obtain ⟨x12,hb9,hx10,h⟩:=aH h;obtain ⟨r13,hr11,h⟩:=bI h;simp only [go_sem,seval,hc8d,hb9,hx10,hr11];repeat with_reducible refine gS (by kernel_rfl) ?_
  refine mi rfl (fun hc12=>?_) (fun hc12=>?_)
  ·have hc12d:=decide_eq_true hc12;rw [if_pos hc12] at h;simp only [go_sem,seval,hc12d];refine hZ _ (by kernel_rfl) (pp (hJ7 _ true ?_ h));exact wR
  have hc12d:=decide_eq_false hc12;rw [if_neg hc12] at h;obtain ⟨r14,hr13,h⟩:=bI h;simp only [go_sem,seval,hc12d,hr13];repeat with_reducible refine gS (by kernel_rfl) ?_
  refine hZ _ (by kernel_rfl) (pp (hJ7 _ (!r14) ?_ h));exact wR
 intro c11 h;unfold j8 at h;refine cB h (fun hc15 h=>?_) fun hc15 h=>?_
 ·refine z1 hc15 ?_;exact e0 h
 refine bf (pp ?_);unfold kt at h;obtain ⟨x16,hb16,hx17,h⟩:=aH h;refine z1 (k3 hc15 hb16 hx17) ?_;refine aM ?_;apply aW (fun (c21:Bool)=>⟨tab 98 (af (af (af (af (af (af av 1 (pF 1)) 4 (pF 4)) 10 (sF 3 (a0.Stacks.map aa.row))) 11 (vI (a0.Stacks.length:Int))) 12 (vI (v2:Int))) 59 (vB c21)),(upd (upd RZ 1 (vA 3 (ae.row a0))) 4 (vA 3 (aa.row x5)))⟩)
 ·intro hJ18;refine iBs h (fun hc19 h=>?_) fun hc19 h=>?_
  ·obtain ⟨r22,hr20,h⟩:=bI h;refine d1 (k2 hc19 hr20) ?_;refine hJ18 _ (!decide (r22=x16.Txn_)) ?_ h;exact wR
  refine d1 hc19 ?_;refine hJ18 _ false ?_ h;exact wR
 intro c21 h;unfold mA at h;refine cB h (fun hc21 h=>?_) fun hc21 h=>?_
 ·refine z1 hc21 ?_;exact e0 h
 unfold mj at h;refine z1 hc21 ?_;refine lT 61 (fun (v20:Nat) (b:Unit)=>⟨tab 98 (af (af (af (af (af (af (af (af av 1 (pF 1)) 4 (pF 4)) 10 (sF 3 (a0.Stacks.map aa.row))) 11 (vI (a0.Stacks.length:Int))) 12 (vI (v2:Int))) 61 (sF 3 (x5.Layers.map al.row))) 62 (vI (x5.Layers.length:Int))) 63 (vI (v20:Int))),(upd (upd RZ 1 (vA 3 (ae.row a0))) 4 (vA 3 (aa.row x5)))⟩) () h ?_ ?_
 ·rintro v20 ⟨⟩ hi24' h;simp only [fL] at h;refine z1 hi24' ?_;refine cf ?_;refine z1 hw5 ?_;first|refine ⟨(),?_,h⟩|refine ⟨hi3',(),?_,h⟩
  exact wR
 rintro v20 ⟨⟩ x23 hi24' hx25 hw26 h;simp only [fL] at h;refine z1 hi24' ?_;refine ct ?_;refine z1 (k2 hx25 hi24') ?_;obtain ⟨r23,hr28,h⟩:=bI h;obtain ⟨x24,hb29,hx30,h⟩:=aH h;refine d1 (k3 hr28 hb29 hx30) ?_;apply aW (fun (c27:Bool)=>⟨tab 98 (af (af (af (af (af (af (af (af (af av 1 (pF 1)) 4 (pF 4)) 10 (sF 3 (a0.Stacks.map aa.row))) 11 (vI (a0.Stacks.length:Int))) 12 (vI (v2:Int))) 61 (sF 3 (x5.Layers.map al.row))) 62 (vI (x5.Layers.length:Int))) 63 (vI (v20:Int))) 95 (vB c27)),(upd (upd RZ 1 (vA 3 (ae.row a0))) 4 (vA 3 (aa.row x5)))⟩)
 ·intro hJ31;obtain ⟨hs32,h⟩:=jw h;try simp only [adp,abU,ada] at hs32 h
  obtain ⟨r28,hr33,h⟩:=bI h;refine mh fun Z hZ=>?_;simp only [go_sem,seval,hs32,abU,hr33];repeat with_reducible refine gS (by kernel_rfl) ?_
  refine sM rfl (fun hc34=>?_) (fun hc34=>?_)
  ·rw [if_neg (ne_true_of_eq_false hc34)] at h;simp only [go_sem,seval,hc34];refine hZ _ (by kernel_rfl) (pp (hJ31 _ true ?_ h));exact wR
  rw [if_pos hc34] at h;simp only [go_sem,seval,hc34];refine Ol rfl (fun hc35=>?_) (fun hc35=>?_)
  ·rw [if_pos hc35] at h;simp only [go_sem,seval,hc35];repeat with_reducible refine gS (by kernel_rfl) ?_
   refine hZ _ (by kernel_rfl) (pp (hJ31 _ (decide (x24.Done < (x24.Calls.length:Int))) ?_ h));exact wR
  rw [if_neg (ne_true_of_eq_false hc35)] at h;simp only [go_sem,seval,hc35];refine hZ _ (by kernel_rfl) (pp (hJ31 _ false ?_ h));exact wR
 intro c27 h;unfold kg at h;refine cB h (fun hc36 h=>?_) fun hc36 h=>?_
 ·refine z1 hc36 ?_;exact e0 h
 refine z1 (k2 hw26 hc36) ?_;first|refine ⟨(),?_,h⟩|refine ⟨hi24',(),?_,h⟩
 exact wR
@[go_sem] def Bn (N:Nat):FnS:=⟨[],true,fn1 ae.decA fun q0=>(mH N q0).map fun r=>vB r,false⟩
theorem Fp (N:Nat):aC Tryz.prog 54 (Bn N):=om1 (Jo N)


theorem Od (N:Nat) (a0:aa) (c0_0:ByteArray) (c0_1:ByteArray) (r:Bool) (h:yi N a0 c0_0 c0_1=some r):Con Tryz.prog 106 [] true [.agg (aa.row a0),.iref 2 [[vS c0_0,vS c0_1]] 0 0] (vB r):=by
 refine fk (G:=(ay [])) Tryz.func106 gn ?_;simp only [Tryz.f106];unfold yi at h;refine z0 ?_;refine z0 ?_;exact e0 h
@[go_sem] def AB (N:Nat):FnS:={ own:=[],pure:=true,fn:=fun cs=>match cs with
 | [c0,.iref 2 [[c1_0,c1_1]] 0 0]=>(aa.decA c0).bind fun qc0=>(du c1_0).bind fun qc1_0=>(du c1_1).bind fun qc1_1=>(yi N qc0 qc1_0 qc1_1).map fun r=>vB r
 | _=>none }
theorem Jw (N:Nat):aC Tryz.prog 106 (AB N):=by
 refine ⟨fun cs r h=>?_,fun h=>by cases h⟩;simp only [AB] at h;split at h
 ·simp only [abC,abB] at h;obtain ⟨q0,h0,q1,h1,q2,h2,r',hr,rfl⟩:=h;exact (ag (Od N q0 q1 q2 r' hr))
 ·cases h


@[go_sem] noncomputable def tl (N d f:Nat):Option FnS:=ay [(16,106,AB N)] d f
theorem th (N:Nat) (a0:(List aa)) (k1_0_0:ByteArray) (k1_0_1:ByteArray) (r:Int) (h:dK N a0 k1_0_0 k1_0_1=some r):Con Tryz.prog 105 [] true [sF 3 (a0.map aa.row),.clo 106 [.iref 2 [[vS k1_0_0,vS k1_0_1]] 0 0]] (vI r):=by
 refine fk (G:=(tl N)) Tryz.func105 (gc 16 (Jw N) gn) ?_;simp only [Tryz.f105];unfold dK at h;refine z0 ?_;refine z0 ?_;refine lT 0 (fun (v2:Nat) (b:Unit)=>⟨tab 19 (af (af (af (af av 0 (sF 3 (a0.map aa.row))) 1 (.clo 106 [.iref 2 [[vS k1_0_0,vS k1_0_1]] 0 0])) 7 (vI (a0.length:Int))) 8 (vI (v2:Int))),RZ⟩) () h ?_ ?_
 ·rintro v2 ⟨⟩ hi3' h;simp only [de] at h;refine z1 hi3' ?_;refine cf ?_;refine z0 ?_;exact e0 h
 rintro v2 ⟨⟩ x5 hi3' hx4 hw5 h;simp only [de] at h;refine z1 hi3' ?_;refine ct ?_;refine z0 ?_;obtain ⟨r1,hr7,h⟩:=bI h;refine z1 (k3 hx4 hi3' hr7) ?_;refine cB h (fun hc8 h=>?_) fun hc8 h=>?_
 ·refine z1 hc8 ?_;exact e0 h
 refine z1 (k2 hw5 hc8) ?_;first|refine ⟨(),?_,h⟩|refine ⟨hi3',(),?_,h⟩
 exact wR
@[go_sem] def gp (N:Nat):FnS:={ own:=[],pure:=true,fn:=fun cs=>match cs with
 | [c0,.clo 106 [.iref 2 [[k1_0_0,k1_0_1]] 0 0]]=>((aJ 3 aa.dec) c0).bind fun qc0=>(du k1_0_0).bind fun qk1_0_0=>(du k1_0_1).bind fun qk1_0_1=>(dK N qc0 qk1_0_0 qk1_0_1).map fun r=>vI r
 | _=>none }
theorem ra (N:Nat):aC Tryz.prog 105 (gp N):=by
 refine ⟨fun cs r h=>?_,fun h=>by cases h⟩;simp only [gp] at h;split at h
 ·simp only [abC,abB] at h;obtain ⟨q0,h0,q1,h1,q2,h2,r',hr,rfl⟩:=h;exact (ag (th N q0 q1 q2 r' hr))
 ·cases h


@[go_sem] noncomputable def Ro (N d f:Nat):Option FnS:=ay [(8,105,gp N)] d f
theorem Rs (N:Nat) (a0:ae) (a1:Ref) (r:Int) (h:mv N a0 a1=some r):Con Tryz.prog 46 [] true [.agg (ae.row a0),.agg [vS a1.Type_,vS a1.Key]] (vI r):=by
 refine fk (G:=(Ro N)) Tryz.func46 (gc 8 (ra N) gn) ?_;simp only [Tryz.f46];unfold mv at h;refine z0 ?_;obtain ⟨r1,hr1,h⟩:=bI h;refine z1 hr1 ?_;exact e0 h
@[go_sem] def vl (N:Nat):FnS:=⟨[],true,fn2 ae.decA Ref.decA fun q0 q1=>(mv N q0 q1).map fun r=>vI r,false⟩
theorem u4 (N:Nat):aC Tryz.prog 46 (vl N):=om2 (Rs N)


@[go_sem] noncomputable def Ru (N d f:Nat):Option FnS:=ay [(13,46,vl N)] d f
theorem RB (N:Nat) (a0:ae) (a1:Ref) (a2:Int) (r:al × Bool) (h:jD N a0 a1 a2=some r):Con Tryz.prog 69 [] false [.agg (ae.row a0),.agg [vS a1.Type_,vS a1.Key],vI a2] (.tup [.agg (al.row r.1),vB r.2]):=by
 refine fk (G:=(Ru N)) Tryz.func69 (gc 13 (u4 N) gn) ?_;simp only [Tryz.f69];unfold jD at h;refine z0 ?_;obtain ⟨r1,hr1,h⟩:=bI h;refine z1 hr1 ?_;refine z0 ?_;refine cDs h (fun hc2 hc2d h=>?_) fun hc2 hc2d h=>?_
 ·refine z1 hc2d ?_;exact f0 h
 obtain ⟨x2,hb3,hx4,h⟩:=aH h;refine z1 (k2 hb3 hx4) ?_;refine lT 21 (fun (v4:Nat) (b:Unit)=>⟨tab 34 (af (af (af (af (af av 2 (vI a2)) 6 (pF 6)) 21 (sF 3 (x2.Layers.map al.row))) 22 (vI (x2.Layers.length:Int))) 23 (vI (v4:Int))),(upd RZ 6 (vA 3 [vI 0,.val (.slice none 0 0),vB false]))⟩) () h ?_ ?_
 ·rintro v4 ⟨⟩ hi7' h;simp only [sY] at h;refine z1 hi7' ?_;refine cf ?_;refine z0 ?_;exact f0 h
 rintro v4 ⟨⟩ x7 hi7' hx8 hw9 h;simp only [sY] at h;refine z1 hi7' ?_;refine ct ?_;refine z1 (k2 hx8 hi7') ?_;refine z0 ?_;refine cD h (fun hc11 hc11d h=>?_) fun hc11 hc11d h=>?_
 ·refine z1 hc11d ?_;exact f0 h
 refine z1 (k2 hw9 hc11d) ?_;first|refine ⟨(),?_,h⟩|refine ⟨hi7',(),?_,h⟩
 exact wR
@[go_sem] def s6 (N:Nat):FnS:=⟨[],false,fn3 ae.decA Ref.decA (aG .i64) fun q0 q1 q2=>(jD N q0 q1 q2).map fun r=>.tup [.agg (al.row r.1),vB r.2],false⟩
theorem qX (N:Nat):aC Tryz.prog 69 (s6 N):=om3 (RB N)


@[go_sem] noncomputable def Hp (N d f:Nat):Option FnS:=ay [(41,69,s6 N),(60,40,ia N),(69,69,s6 N),(115,40,ia N)] d f
theorem Hb (N:Nat) (a0:ae) (r:Bool) (h:kW N a0=some r):Con Tryz.prog 55 [] true [.agg (ae.row a0)] (vB r):=by
 refine fk (G:=(Hp N)) Tryz.func55 (gc 41 (qX N) (gc 60 (fH N) (gc 69 (qX N) (gc 115 (fH N) gn)))) ?_;simp only [Tryz.f55];unfold kW at h;refine z0 ?_;refine z0 ?_;refine lTs 19 (fun (v2:Nat) (b:Unit)=>⟨tab 138 (af (af (af (af av 1 (pF 1)) 19 (sF 11 (a0.Txns.map Txn.row))) 20 (vI (a0.Txns.length:Int))) 21 (vI (v2:Int))),(upd RZ 1 (vA 3 (ae.row a0)))⟩) () h ?_ ?_
 ·rintro v2 ⟨⟩ x5 hi3' hx4 hw5 h;simp only [jm] at h;refine z1 hi3' ?_;refine ct ?_;refine z1 (k2 hx4 hi3') ?_;obtain ⟨hs7,h⟩:=jw h;try simp only [adp,abU,ada] at hs7 h
  refine z1 (k2 hs7 @abU) ?_;refine lT 29 (fun (v9:Nat) (b:Unit)=>⟨tab 138 (af (af (af (af (af (af (af (af av 1 (pF 1)) 4 (pF 4)) 19 (sF 11 (a0.Txns.map Txn.row))) 20 (vI (a0.Txns.length:Int))) 21 (vI (v2:Int))) 29 (sF 4 ((x5.Calls.take ((x5.Done).toNat)).map ah.row))) 30 (vI (((x5.Calls.take ((x5.Done).toNat)).length:Nat):Int))) 31 (vI (v9:Int))),(upd (upd RZ 1 (vA 3 (ae.row a0))) 4 (vA 11 (Txn.row x5)))⟩) () h ?_ ?_
  ·rintro v9 ⟨⟩ hi10' h;simp only [gY] at h;refine z1 hi10' ?_;refine cf ?_;refine z1 hw5 ?_;first|refine ⟨(),?_,h⟩|refine ⟨hi3',(),?_,h⟩
   exact wR
  rintro v9 ⟨⟩ x12 hi10' hx11 hw12 h;simp only [gY] at h;refine z1 hi10' ?_;refine ct ?_;refine z1 (k2 hx11 hi10') ?_;obtain ⟨r15,hr14,h⟩:=bI h;refine z1 hr14 ?_;refine z0 ?_;refine cM h (fun hc15 h=>?_) fun hc15 h=>?_
  ·refine z1 hc15 ?_;exact e0 h
  refine z1 (k2 hw12 hc15) ?_;first|refine ⟨(),?_,h⟩|refine ⟨hi10',(),?_,h⟩
  exact wR
 rintro v2 ⟨⟩ hi3' h;simp only [jm] at h;refine z1 hi3' ?_;refine cf ?_;unfold ou at h;refine z0 ?_;refine lT 49 (fun (v17:Nat) (b:Unit)=>⟨tab 138 (af (af (af (af av 1 (pF 1)) 49 (sF 4 (a0.Locks.map ai.row))) 50 (vI (a0.Locks.length:Int))) 51 (vI (v17:Int))),(upd RZ 1 (vA 3 (ae.row a0)))⟩) () h ?_ ?_
 ·rintro v17 ⟨⟩ hi18' h;simp only [bW] at h;refine z1 hi18' ?_;refine cf ?_;refine z0 ?_;exact e0 h
 rintro v17 ⟨⟩ x20 hi18' hx19 hw20 h;simp only [bW] at h;refine z1 hi18' ?_;refine ct ?_;refine z1 (k2 hx19 hi18') ?_;obtain ⟨r16,hr22,h⟩:=bI h;obtain ⟨x17,hb23,hx24,h⟩:=aH h;refine d1 (k3 hr22 hb23 hx24) ?_;obtain ⟨r18,hr25,h⟩:=bI h;refine z1 hr25 ?_;refine z0 ?_;refine aM ?_;apply aW (fun (c24:Bool)=>⟨tab 138 (af (af (af (af (af (af av 1 (pF 1)) 10 (pF 10)) 49 (sF 4 (a0.Locks.map ai.row))) 50 (vI (a0.Locks.length:Int))) 51 (vI (v17:Int))) 103 (vB c24)),(upd (upd RZ 1 (vA 3 (ae.row a0))) 10 (vA 4 (ai.row x20)))⟩)
 ·intro hJ26;refine iD h (fun hc27 hc27d h=>?_) fun hc27 hc27d h=>?_
  ·refine iBs h (fun hc30 h=>?_) fun hc30 h=>?_
   ·obtain ⟨x25,hb31,hx32,h⟩:=aH h;refine d1 (k4 hc27d hc30 hb31 hx32) ?_;refine hJ26 _ (!(sEq x25.Target.Type_ x20.Actor.Type_ && sEq x25.Target.Key x20.Actor.Key)) ?_ h;exact wR
   refine d1 (k2 hc27d hc30) ?_;refine hJ26 _ false ?_ h;exact wR
  refine iBs h (fun hc28 h=>?_) fun hc28 h=>?_
  ·refine d1 (k2 hc27d hc28) ?_;refine hJ26 _ true ?_ h;exact wR
  refine iB h (fun hc29 h=>?_) fun hc29 h=>?_
  ·refine d1 (k3 hc27d hc28 hc29) ?_;refine hJ26 _ true ?_ h;exact wR
  refine d1 (k3 hc27d hc28 hc29) ?_;refine hJ26 _ false ?_ h;exact wR
 intro c24 h;unfold fK at h;refine cB h (fun hc33 h=>?_) fun hc33 h=>?_
 ·refine z1 hc33 ?_;exact e0 h
 unfold fF at h;refine z1 hc33 ?_;refine lT 105 (fun (v30:Nat) (b:Unit)=>⟨tab 138 (af (af (af (af (af (af (af (af av 1 (pF 1)) 10 (pF 10)) 49 (sF 4 (a0.Locks.map ai.row))) 50 (vI (a0.Locks.length:Int))) 51 (vI (v17:Int))) 105 (sF 1 (x20.Waiters.map (aA .i64)))) 106 (vI (x20.Waiters.length:Int))) 107 (vI (v30:Int))),(upd (upd RZ 1 (vA 3 (ae.row a0))) 10 (vA 4 (ai.row x20)))⟩) () h ?_ ?_
 ·rintro v30 ⟨⟩ hi36' h;simp only [fI] at h;refine z1 hi36' ?_;refine cf ?_;refine z1 hw20 ?_;first|refine ⟨(),?_,h⟩|refine ⟨hi18',(),?_,h⟩
  exact wR
 rintro v30 ⟨⟩ x33 hi36' hx37 hw38 h;simp only [fI] at h;refine z1 hi36' ?_;refine ct ?_;refine z1 (k2 hx37 hi36') ?_;obtain ⟨r26,hr40,h⟩:=bI h;obtain ⟨x27,hb41,hx42,h⟩:=aH h;refine d1 (k3 hr40 hb41 hx42) ?_;apply aW (fun (c29:Bool)=>⟨tab 138 (af (af (af (af (af (af (af (af (af av 1 (pF 1)) 10 (pF 10)) 49 (sF 4 (a0.Locks.map ai.row))) 50 (vI (a0.Locks.length:Int))) 51 (vI (v17:Int))) 105 (sF 1 (x20.Waiters.map (aA .i64)))) 106 (vI (x20.Waiters.length:Int))) 107 (vI (v30:Int))) 135 (vB c29)),(upd (upd RZ 1 (vA 3 (ae.row a0))) 10 (vA 4 (ai.row x20)))⟩)
 ·intro hJ43;refine mh fun Z hZ=>?_;simp only [go_sem,seval];repeat with_reducible refine gS (by kernel_rfl) ?_
  refine mi rfl (fun hc44=>?_) (fun hc44=>?_)
  ·have hc44d:=decide_eq_true hc44;rw [if_pos hc44] at h;simp only [go_sem,seval,hc44d];refine hZ _ (by kernel_rfl) (pp (hJ43 _ true ?_ h));exact wR
  have hc44d:=decide_eq_false hc44;rw [if_neg hc44] at h;obtain ⟨x30,hb45,hx46,h⟩:=aH h;simp only [go_sem,seval,hc44d,hb45,hx46];refine hZ _ (by kernel_rfl) (pp (hJ43 _ (!(sEq x30.Target.Type_ x20.Actor.Type_ && sEq x30.Target.Key x20.Actor.Key)) ?_ h));exact wR
 intro c29 h;unfold oo at h;refine cB h (fun hc47 h=>?_) fun hc47 h=>?_
 ·refine z1 hc47 ?_;exact e0 h
 refine z1 (k2 hw38 hc47) ?_;first|refine ⟨(),?_,h⟩|refine ⟨hi36',(),?_,h⟩
 exact wR
@[go_sem] def zI (N:Nat):FnS:=⟨[],true,fn1 ae.decA fun q0=>(kW N q0).map fun r=>vB r,false⟩
theorem Dy (N:Nat):aC Tryz.prog 55 (zI N):=om1 (Hb N)


theorem Ij (N:Nat) (a0:(List Int)) (a1:Int) (r:Int) (h:pf N a0 a1=some r):Con Tryz.prog 184 [] true [sF 1 (a0.map (aA .i64)),vI a1] (vI r):=by
 refine fk (G:=(ay [])) Tryz.func184 gn ?_;simp only [Tryz.f184];unfold pf at h;refine z0 ?_;refine z0 ?_;refine lT 0 (fun (v2:Nat) (b:Unit)=>⟨tab 19 (af (af (af (af av 0 (sF 1 (a0.map (aA .i64)))) 1 (vI a1)) 7 (vI (a0.length:Int))) 8 (vI (v2:Int))),RZ⟩) () h ?_ ?_
 ·rintro v2 ⟨⟩ hi3' h;simp only [jH] at h;refine z1 hi3' ?_;refine cf ?_;refine z0 ?_;exact e0 h
 rintro v2 ⟨⟩ x5 hi3' hx4 hw5 h;simp only [jH] at h;refine z1 hi3' ?_;refine ct ?_;refine z0 ?_;refine z1 (k2 hx4 hi3') ?_;refine cD h (fun hc7 hc7d h=>?_) fun hc7 hc7d h=>?_
 ·refine z1 hc7d ?_;exact e0 h
 refine z1 (k2 hw5 hc7d) ?_;first|refine ⟨(),?_,h⟩|refine ⟨hi3',(),?_,h⟩
 exact wR
@[go_sem] def Ak (N:Nat):FnS:=⟨[],true,fn2 (aJ 1 (eb (aG .i64))) (aG .i64) fun q0 q1=>(pf N q0 q1).map fun r=>vI r,false⟩
theorem Ev (N:Nat):aC Tryz.prog 184 (Ak N):=om2 (Ij N)


@[go_sem] noncomputable def EW (N d f:Nat):Option FnS:=ay [(7,184,Ak N)] d f
theorem ER (N:Nat) (a0:(List Int)) (a1:Int) (r:Bool) (h:dL N a0 a1=some r):Con Tryz.prog 108 [] true [sF 1 (a0.map (aA .i64)),vI a1] (vB r):=by
 refine fk (G:=(EW N)) Tryz.func108 (gc 7 (Ev N) gn) ?_;simp only [Tryz.f108];unfold dL at h;refine z0 ?_;obtain ⟨r1,hr1,h⟩:=bI h;refine z1 hr1 ?_;exact e0 h
@[go_sem] def fV (N:Nat):FnS:=⟨[],true,fn2 (aJ 1 (eb (aG .i64))) (aG .i64) fun q0 q1=>(dL N q0 q1).map fun r=>vB r,false⟩
theorem fX (N:Nat):aC Tryz.prog 108 (fV N):=om2 (ER N)


@[go_sem] noncomputable def Rd (N d f:Nat):Option FnS:=ay [(38,108,fV N)] d f
theorem Re (N:Nat) (a0:ae) (a1:Int) (a2:(List Int)) (r:Bool) (h:vH N a0 a1 a2=some r):Con Tryz.prog 74 [] true [.agg (ae.row a0),vI a1,sF 1 (a2.map (aA .i64))] (vB r):=by
 refine fk (G:=(Rd N)) Tryz.func74 (gc 38 (fX N) gn) ?_;simp only [Tryz.f74];unfold vH at h;refine z0 ?_;refine z0 ?_;refine lT 13 (fun (v2:Nat) (b:Unit)=>⟨tab 43 (af (af (af (af (af av 1 (vI a1)) 2 (sF 1 (a2.map (aA .i64)))) 13 (sF 3 (a0.Stacks.map aa.row))) 14 (vI (a0.Stacks.length:Int))) 15 (vI (v2:Int))),RZ⟩) () h ?_ ?_
 ·rintro v2 ⟨⟩ hi3' h;simp only [pq] at h;refine z1 hi3' ?_;refine cf ?_;refine z0 ?_;exact e0 h
 rintro v2 ⟨⟩ x5 hi3' hx4 hw5 h;simp only [pq] at h;refine z1 hi3' ?_;refine ct ?_;refine z1 (k2 hx4 hi3') ?_;refine z0 ?_;refine z0 ?_;refine lT 20 (fun (v9:Nat) (b:Bool)=>⟨tab 43 (af (af (af (af (af (af (af (af (af av 1 (vI a1)) 2 (sF 1 (a2.map (aA .i64)))) 9 (vB b)) 13 (sF 3 (a0.Stacks.map aa.row))) 14 (vI (a0.Stacks.length:Int))) 15 (vI (v2:Int))) 20 (sF 3 (x5.Layers.map al.row))) 21 (vI (x5.Layers.length:Int))) 22 (vI (v9:Int))),RZ⟩) false h ?_ ?_
 ·rintro v9 c8 hi9' h;simp only [kO] at h;refine z1 hi9' ?_;refine cf ?_;refine z1 hw5 ?_;first|refine ⟨(),?_,h⟩|refine ⟨hi3',(),?_,h⟩
  exact wR
 rintro v9 c8 x12 hi9' hx10 hw11 h;simp only [kO] at h;refine z1 hi9' ?_;refine ct ?_;refine z1 (k2 hx10 hi9') ?_;refine aM ?_;apply aW (fun (c3:Bool)=>⟨tab 43 (af (af (af (af (af (af (af (af (af (af (af av 1 (vI a1)) 2 (sF 1 (a2.map (aA .i64)))) 9 (vB c8)) 11 (pF 11)) 13 (sF 3 (a0.Stacks.map aa.row))) 14 (vI (a0.Stacks.length:Int))) 15 (vI (v2:Int))) 20 (sF 3 (x5.Layers.map al.row))) 21 (vI (x5.Layers.length:Int))) 22 (vI (v9:Int))) 32 (vB c3)),(upd RZ 11 (vA 3 (al.row x12)))⟩)
 ·intro hJ13;refine iD h (fun hc14 hc14d h=>?_) fun hc14 hc14d h=>?_
  ·refine z1 hc14d ?_;refine hJ13 _ c8 ?_ h;exact wR
  refine z1 hc14d ?_;refine hJ13 _ false ?_ h;exact wR
 intro c3 h;unfold zG at h;refine cB h (fun hc15 h=>?_) fun hc15 h=>?_
 ·refine z1 hc15 ?_;exact e0 h
 refine bf (pp ?_);unfold vQ at h;refine iB h (fun hc16 h=>?_) fun hc16 h=>?_
 ·refine z1 (k2 hc15 hc16) ?_;refine z1 hw11 ?_;first|refine ⟨true,?_,h⟩|refine ⟨hi9',true,?_,h⟩
  exact wR
 obtain ⟨r4,hr17,h⟩:=bI h;refine z1 (k3 hc15 hc16 hr17) ?_;refine z1 hw11 ?_;first|refine ⟨(!r4),?_,h⟩|refine ⟨hi9',(!r4),?_,h⟩
 exact wR
@[go_sem] def C3 (N:Nat):FnS:=⟨[],true,fn3 ae.decA (aG .i64) (aJ 1 (eb (aG .i64))) fun q0 q1 q2=>(vH N q0 q1 q2).map fun r=>vB r,false⟩
theorem D8 (N:Nat):aC Tryz.prog 74 (C3 N):=om3 (Re N)


@[go_sem] noncomputable def Ot (N d f:Nat):Option FnS:=ay [(21,108,fV N),(28,74,C3 N)] d f
theorem OA (N:Nat) (a0:ae) (r:Bool) (h:uN N a0=some r):Con Tryz.prog 56 [] true [.agg (ae.row a0)] (vB r):=by
 refine fk (G:=(Ot N)) Tryz.func56 (gc 21 (fX N) (gc 28 (D8 N) gn)) ?_;simp only [Tryz.f56];unfold uN at h;refine z0 ?_;refine z0 ?_;refine z0 ?_;refine aX (iP fun hreal2=>?_);have hl1:=hreal2.lenT 7 (by decide) (by simp only [go_sem,seval]; rfl);first|rw [abJ] at hl1|rw [fY] at hl1|rw [<-ab4,abJ] at hl1
 refine pj (fun (v3:Nat) (b:List Int)=>⟨tab 43 (af (af (af (af av 1 (pF 1)) 3 (.pal 34 [] 0 b.length none)) 8 (vI (a0.Txns.length:Int))) 9 (vI (v3:Int))),(upd (upd RZ 1 (vA 3 (ae.row a0))) 34 (sO 1 (b.map (aA .i64))))⟩) [] h ?_ ?_
 ·refine bm.trans (qS 3 34 1 (by simp only [go_sem,seval]) (by simp only [go_sem,seval])) ?_;refine wr ?_ ?_<;>repeat' first|rfl|constructor|simp only [go_sem,seval,acN,acf,acC,acw]
 rintro v3 l2 _ h -;rcases (jK a0.Txns.length v3).symm with ⟨hi3',hd6⟩|⟨hi3',hd6⟩
 ·rw [hd6] at h;simp only [lW] at h;refine z1 hi3' ?_;refine cf ?_;refine z0 ?_;exact e0 h
 rw [hd6] at h;simp only [lW] at h;have hw5:=fm hi3' hl1;refine z1 hi3' ?_;refine ct ?_;refine z0 ?_;refine lT 12 (fun (v9:Nat) (b:List Int)=>⟨tab 43 (af (af (af (af (af (af (af av 1 (pF 1)) 3 (.pal 34 [] 0 b.length none)) 8 (vI (a0.Txns.length:Int))) 9 (vI (v3:Int))) 12 (sF 11 (a0.Txns.map Txn.row))) 13 (vI (a0.Txns.length:Int))) 14 (vI (v9:Int))),(upd (upd RZ 1 (vA 3 (ae.row a0))) 34 (sO 1 (b.map (aA .i64))))⟩) l2 h ?_ ?_ (h0:=wF (k2 hi3' hw5))
 ·rintro v9 l8 hi9' h;simp only [jU] at h;refine z1 hi9' ?_;refine cf ?_;refine z1 hw5 ?_;first|refine ⟨l8,?_,h⟩|refine ⟨hi3',l8,?_,h⟩
  exact wF (k3 hi3' hw5 hi9')
 rintro v9 l8 x12 hi9' hx10 hw11 h;simp only [jU] at h;refine z1 hi9' ?_;refine ct ?_;refine z1 (k2 hx10 hi9') ?_;apply aW (fun (c3:Bool)=>⟨tab 43 (af (af (af (af (af (af (af (af (af av 1 (pF 1)) 3 (.pal 34 [] 0 l8.length none)) 5 (pF 5)) 8 (vI (a0.Txns.length:Int))) 9 (vI (v3:Int))) 12 (sF 11 (a0.Txns.map Txn.row))) 13 (vI (a0.Txns.length:Int))) 14 (vI (v9:Int))) 29 (vB c3)),(upd (upd (upd RZ 1 (vA 3 (ae.row a0))) 5 (vA 11 (Txn.row x12))) 34 (sO 1 (l8.map (aA .i64))))⟩)
 ·intro hJ13;obtain ⟨r4,hr14,h⟩:=bI h;refine iBs h (fun hc15 h=>?_) fun hc15 h=>?_
  ·obtain ⟨r5,hr16,h⟩:=bI h;refine z1 (k3 hr14 hc15 hr16) ?_;refine hJ13 _ r5 ?_ h;exact wF (k5 hi3' hw5 hx10 hi9' (k4 hw11 hr14 hc15 hr16))
  refine z1 (k2 hr14 hc15) ?_;refine hJ13 _ false ?_ h;exact wF (k5 hi3' hw5 hx10 hi9' (k3 hw11 hr14 hc15))
 intro c3 h;unfold sW at h;refine cBs h (fun hc17 h=>?_) fun hc17 h=>?_
 ·refine z1 (k2 hw11 hc17) ?_;first|refine ⟨l8,?_,h⟩|refine ⟨hi9',l8,?_,h⟩
  exact wF (k5 hi3' hw5 hx10 hi9' (k2 hw11 hc17))
 obtain ⟨ha18,h⟩:=eN h;simp only [abW,acm,acv,Nat.reduceAdd] at ha18;refine z1 (k2 hc17 ha18) ?_;refine z1 hw11 ?_;first|refine ⟨(l8++[x12.ID]),?_,h⟩|refine ⟨hi9',(l8++[x12.ID]),?_,h⟩
 refine wr ?_ ?_<;>repeat' first|rfl|constructor|simp only [go_sem,seval]
@[go_sem] def ET (N:Nat):FnS:=⟨[],true,fn1 ae.decA fun q0=>(uN N q0).map fun r=>vB r,false⟩
theorem JD (N:Nat):aC Tryz.prog 56 (ET N):=om1 (OA N)


@[go_sem] noncomputable def Q6 (N d f:Nat):Option FnS:=ay [(4,52,CY N),(7,53,Ca N),(11,54,Bn N),(15,55,zI N),(19,56,ET N)] d f
theorem Rt (N:Nat) (a0:ae) (r:Bool) (h:kh N a0=some r):Con Tryz.prog 23 [] true [.agg (ae.row a0)] (vB r):=by
 refine fk (G:=(Q6 N)) Tryz.func23 (gc 4 (Hk N) (gc 7 (FQ N) (gc 11 (Fp N) (gc 15 (Dy N) (gc 19 (JD N) gn))))) ?_;simp only [Tryz.f23];unfold kh at h;refine z0 ?_;refine aM ?_;obtain ⟨r1,hr1,h⟩:=bI h;refine iBs h (fun hc2 h=>?_) fun hc2 h=>?_
 ·refine z1 (k2 hr1 hc2) ?_;exact e0 h
 obtain ⟨r2,hr3,h⟩:=bI h;refine iBs h (fun hc4 h=>?_) fun hc4 h=>?_
 ·refine z1 (k4 hr1 hc2 hr3 hc4) ?_;exact e0 h
 obtain ⟨r3,hr5,h⟩:=bI h;refine iBs h (fun hc6 h=>?_) fun hc6 h=>?_
 ·refine z1 (k5 hr1 hc2 hr3 hc4 (k2 hr5 hc6)) ?_;exact e0 h
 obtain ⟨r4,hr7,h⟩:=bI h;refine iB h (fun hc8 h=>?_) fun hc8 h=>?_
 ·obtain ⟨r5,hr9,h⟩:=bI h;refine z1 (k5 hr1 hc2 hr3 hc4 (k5 hr5 hc6 hr7 hc8 hr9)) ?_;exact e0 h
 refine z1 (k5 hr1 hc2 hr3 hc4 (k4 hr5 hc6 hr7 hc8)) ?_;exact e0 h
@[go_sem] def mu (N:Nat):FnS:=⟨[],true,fn1 ae.decA fun q0=>(kh N q0).map fun r=>vB r,false⟩
theorem kL (N:Nat):aC Tryz.prog 23 (mu N):=om1 (Rt N)


theorem Fg (N:Nat) (a0:(List Txn)) (r:(List Txn)) (h:iY N a0=some r):Con Tryz.prog 130 [] false [.sl false (some false) 11 none (a0.map Txn.row)] (sO 11 (r.map Txn.row)):=by
 refine fk (G:=(ay [])) Tryz.func130 gn ?_;simp only [Tryz.f130];unfold iY at h;refine z0 ?_;refine z0 ?_;refine cf ?_;first|rw [if_pos (rfl:true=true)] at h|rw [if_neg acz] at h|skip
 refine bf (pp (aM ?_));first|obtain ⟨ha1,h⟩:=px h|(obtain ⟨ha1,h⟩:=eN h; rw [abS] at h)
 simp only [Nat.reduceAdd] at ha1;refine z1 ha1 ?_;exact f0 h
theorem Es (N:Nat)  (r:(List Txn)) (h:iY N []=some r):Con Tryz.prog 130 [] false [.val (.slice none 0 0)] (sO 11 (r.map Txn.row)):=by
 refine fk (G:=(ay [])) Tryz.func130 gn ?_;simp only [Tryz.f130];unfold iY at h;refine z0 ?_;refine z0 ?_;refine ct ?_;first|rw [if_pos (rfl:true=true)] at h|rw [if_neg acz] at h|skip
 refine z0 ?_;refine fD (pp ?_);obtain rfl:r=[]:=by simpa [apn] using h.symm
 simp only [go_sem,seval];exact ⟨_,rfl,iE.h⟩
theorem HJ (N:Nat) (a0:(List Txn)) (r:(List Txn)) (h:iY N a0=some r):Con Tryz.prog 130 [] false [sF 11 (a0.map Txn.row)] (sO 11 (r.map Txn.row)):=
 Bu (fun e=>by obtain rfl:a0=[]:=adv.1 e; exact Es N r h) (Fg N a0 r h)
@[go_sem] def zw (N:Nat):FnS:=⟨[],false,fn1 (aJ 11 Txn.dec) fun q0=>(iY N q0).map fun r=>sO 11 (r.map Txn.row),false⟩
theorem DB (N:Nat):aC Tryz.prog 130 (zw N):=om1 (HJ N)


theorem EJ (N:Nat) (a0:(List ai)) (r:(List ai)) (h:fq N a0=some r):Con Tryz.prog 131 [] false [.sl false (some false) 4 none (a0.map ai.row)] (sO 4 (r.map ai.row)):=by
 refine fk (G:=(ay [])) Tryz.func131 gn ?_;simp only [Tryz.f131];unfold fq at h;refine z0 ?_;refine z0 ?_;refine cf ?_;first|rw [if_pos (rfl:true=true)] at h|rw [if_neg acz] at h|skip
 refine bf (pp (aM ?_));first|obtain ⟨ha1,h⟩:=px h|(obtain ⟨ha1,h⟩:=eN h; rw [abS] at h)
 simp only [Nat.reduceAdd] at ha1;refine z1 ha1 ?_;exact f0 h
theorem Dz (N:Nat)  (r:(List ai)) (h:fq N []=some r):Con Tryz.prog 131 [] false [.val (.slice none 0 0)] (sO 4 (r.map ai.row)):=by
 refine fk (G:=(ay [])) Tryz.func131 gn ?_;simp only [Tryz.f131];unfold fq at h;refine z0 ?_;refine z0 ?_;refine ct ?_;first|rw [if_pos (rfl:true=true)] at h|rw [if_neg acz] at h|skip
 refine z0 ?_;refine fD (pp ?_);obtain rfl:r=[]:=by simpa [apn] using h.symm
 simp only [go_sem,seval];exact ⟨_,rfl,iE.h⟩
theorem Hu (N:Nat) (a0:(List ai)) (r:(List ai)) (h:fq N a0=some r):Con Tryz.prog 131 [] false [sF 4 (a0.map ai.row)] (sO 4 (r.map ai.row)):=
 Bu (fun e=>by obtain rfl:a0=[]:=adv.1 e; exact Dz N r h) (EJ N a0 r h)
@[go_sem] def sx (N:Nat):FnS:=⟨[],false,fn1 (aJ 4 ai.dec) fun q0=>(fq N q0).map fun r=>sO 4 (r.map ai.row),false⟩
theorem vM (N:Nat):aC Tryz.prog 131 (sx N):=om1 (Hu N)


theorem Av (N:Nat) (a0:(List aa)) (r:(List aa)) (h:eE N a0=some r):Con Tryz.prog 132 [] false [.sl false (some false) 3 none (a0.map aa.row)] (sO 3 (r.map aa.row)):=by
 refine fk (G:=(ay [])) Tryz.func132 gn ?_;simp only [Tryz.f132];unfold eE at h;refine z0 ?_;refine z0 ?_;refine cf ?_;first|rw [if_pos (rfl:true=true)] at h|rw [if_neg acz] at h|skip
 refine bf (pp (aM ?_));first|obtain ⟨ha1,h⟩:=px h|(obtain ⟨ha1,h⟩:=eN h; rw [abS] at h)
 simp only [Nat.reduceAdd] at ha1;refine z1 ha1 ?_;exact f0 h
theorem Ad (N:Nat)  (r:(List aa)) (h:eE N []=some r):Con Tryz.prog 132 [] false [.val (.slice none 0 0)] (sO 3 (r.map aa.row)):=by
 refine fk (G:=(ay [])) Tryz.func132 gn ?_;simp only [Tryz.f132];unfold eE at h;refine z0 ?_;refine z0 ?_;refine ct ?_;first|rw [if_pos (rfl:true=true)] at h|rw [if_neg acz] at h|skip
 refine z0 ?_;refine fD (pp ?_);obtain rfl:r=[]:=by simpa [apn] using h.symm
 simp only [go_sem,seval];exact ⟨_,rfl,iE.h⟩
theorem CH (N:Nat) (a0:(List aa)) (r:(List aa)) (h:eE N a0=some r):Con Tryz.prog 132 [] false [sF 3 (a0.map aa.row)] (sO 3 (r.map aa.row)):=
 Bu (fun e=>by obtain rfl:a0=[]:=adv.1 e; exact Ad N r h) (Av N a0 r h)
@[go_sem] def tn (N:Nat):FnS:=⟨[],false,fn1 (aJ 3 aa.dec) fun q0=>(eE N q0).map fun r=>sO 3 (r.map aa.row),false⟩
theorem zX (N:Nat):aC Tryz.prog 132 (tn N):=om1 (CH N)


theorem BO (N:Nat) (a0:(List ah)) (r:(List ah)) (h:eX N a0=some r):Con Tryz.prog 100 [] false [.sl false (some false) 4 none (a0.map ah.row)] (sO 4 (r.map ah.row)):=by
 refine fk (G:=(ay [])) Tryz.func100 gn ?_;simp only [Tryz.f100];unfold eX at h;refine z0 ?_;refine z0 ?_;refine cf ?_;first|rw [if_pos (rfl:true=true)] at h|rw [if_neg acz] at h|skip
 refine bf (pp (aM ?_));first|obtain ⟨ha1,h⟩:=px h|(obtain ⟨ha1,h⟩:=eN h; rw [abS] at h)
 simp only [Nat.reduceAdd] at ha1;refine z1 ha1 ?_;exact f0 h
theorem AG (N:Nat)  (r:(List ah)) (h:eX N []=some r):Con Tryz.prog 100 [] false [.val (.slice none 0 0)] (sO 4 (r.map ah.row)):=by
 refine fk (G:=(ay [])) Tryz.func100 gn ?_;simp only [Tryz.f100];unfold eX at h;refine z0 ?_;refine z0 ?_;refine ct ?_;first|rw [if_pos (rfl:true=true)] at h|rw [if_neg acz] at h|skip
 refine z0 ?_;refine fD (pp ?_);obtain rfl:r=[]:=by simpa [apn] using h.symm
 simp only [go_sem,seval];exact ⟨_,rfl,iE.h⟩
theorem CZ (N:Nat) (a0:(List ah)) (r:(List ah)) (h:eX N a0=some r):Con Tryz.prog 100 [] false [sF 4 (a0.map ah.row)] (sO 4 (r.map ah.row)):=
 Bu (fun e=>by obtain rfl:a0=[]:=adv.1 e; exact AG N r h) (BO N a0 r h)
@[go_sem] def ua (N:Nat):FnS:=⟨[],false,fn1 (aJ 4 ah.dec) fun q0=>(eX N q0).map fun r=>sO 4 (r.map ah.row),false⟩
theorem Ac (N:Nat):aC Tryz.prog 100 (ua N):=om1 (CZ N)


theorem DE (N:Nat) (a0:(List Value)) (r:(List Value)) (h:gP N a0=some r):Con Tryz.prog 139 [] false [.sl false (some false) 5 none (a0.map Value.row)] (sO 5 (r.map Value.row)):=by
 refine fk (G:=(ay [])) Tryz.func139 gn ?_;simp only [Tryz.f139];unfold gP at h;refine z0 ?_;refine z0 ?_;refine cf ?_;first|rw [if_pos (rfl:true=true)] at h|rw [if_neg acz] at h|skip
 refine bf (pp (aM ?_));first|obtain ⟨ha1,h⟩:=px h|(obtain ⟨ha1,h⟩:=eN h; rw [abS] at h)
 simp only [Nat.reduceAdd] at ha1;refine z1 ha1 ?_;exact f0 h
theorem Di (N:Nat)  (r:(List Value)) (h:gP N []=some r):Con Tryz.prog 139 [] false [.val (.slice none 0 0)] (sO 5 (r.map Value.row)):=by
 refine fk (G:=(ay [])) Tryz.func139 gn ?_;simp only [Tryz.f139];unfold gP at h;refine z0 ?_;refine z0 ?_;refine ct ?_;first|rw [if_pos (rfl:true=true)] at h|rw [if_neg acz] at h|skip
 refine z0 ?_;refine fD (pp ?_);obtain rfl:r=[]:=by simpa [apn] using h.symm
 simp only [go_sem,seval];exact ⟨_,rfl,iE.h⟩
theorem Gk (N:Nat) (a0:(List Value)) (r:(List Value)) (h:gP N a0=some r):Con Tryz.prog 139 [] false [sF 5 (a0.map Value.row)] (sO 5 (r.map Value.row)):=
 Bu (fun e=>by obtain rfl:a0=[]:=adv.1 e; exact Di N r h) (DE N a0 r h)
@[go_sem] def yb (N:Nat):FnS:=⟨[],false,fn1 (aJ 5 Value.dec) fun q0=>(gP N q0).map fun r=>sO 5 (r.map Value.row),false⟩
theorem Cy (N:Nat):aC Tryz.prog 139 (yb N):=om1 (Gk N)


theorem Ft (N:Nat) (a0:(List Int)) (r:(List Int)) (h:eB N a0=some r):Con Tryz.prog 133 [] true [.sl false (some false) 1 none (a0.map (aA .i64))] (sO 1 (r.map (aA .i64))):=by
 refine fk (G:=(ay [])) Tryz.func133 gn ?_;simp only [Tryz.f133];unfold eB at h;refine z0 ?_;refine z0 ?_;refine cf ?_;first|rw [if_pos (rfl:true=true)] at h|rw [if_neg acz] at h|skip
 refine bf (pp (aM ?_));first|obtain ⟨ha1,h⟩:=px h|(obtain ⟨ha1,h⟩:=eN h; rw [abS] at h)
 simp only [Nat.reduceAdd] at ha1;refine z1 ha1 ?_;exact e0 h
theorem Em (N:Nat)  (r:(List Int)) (h:eB N []=some r):Con Tryz.prog 133 [] true [.val (.slice none 0 0)] (sO 1 (r.map (aA .i64))):=by
 refine fk (G:=(ay [])) Tryz.func133 gn ?_;simp only [Tryz.f133];unfold eB at h;refine z0 ?_;refine z0 ?_;refine ct ?_;first|rw [if_pos (rfl:true=true)] at h|rw [if_neg acz] at h|skip
 refine z0 ?_;refine fD (pp ?_);obtain rfl:r=[]:=by simpa [apn] using h.symm
 simp only [go_sem,seval];exact ⟨_,rfl,iE.h,rp.h⟩
theorem BC (N:Nat) (a0:(List Int)) (r:(List Int)) (h:eB N a0=some r):Con Tryz.prog 133 [] true [sF 1 (a0.map (aA .i64))] (sO 1 (r.map (aA .i64))):=
 Bu (fun e=>by obtain rfl:a0=[]:=adv.1 e; exact Em N r h) (Ft N a0 r h)
@[go_sem] def Ao (N:Nat):FnS:=⟨[],true,fn1 (aJ 1 (eb (aG .i64))) fun q0=>(eB N q0).map fun r=>sF 1 (r.map (aA .i64)),false⟩
theorem EL (N:Nat):aC Tryz.prog 133 (Ao N):=om1 fun q0 r h=>rs (BC N q0 r h)

@[go_sem] def tT (N:Nat):FnS:=⟨[],true,fn1 (aJ 1 (eb (aG .i64))) fun q0=>(eB N q0).map fun r=>sO 1 (r.map (aA .i64)),false⟩
theorem wI (N:Nat):aC Tryz.prog 133 (tT N):=om1 (BC N)


theorem C6 (N:Nat) (a0:(List ByteArray)) (r:(List ByteArray)) (h:gl N a0=some r):Con Tryz.prog 136 [] true [.sl false (some false) 1 none (a0.map ey)] (sO 1 (r.map ey)):=by
 refine fk (G:=(ay [])) Tryz.func136 gn ?_;simp only [Tryz.f136];unfold gl at h;refine z0 ?_;refine z0 ?_;refine cf ?_;first|rw [if_pos (rfl:true=true)] at h|rw [if_neg acz] at h|skip
 refine bf (pp (aM ?_));first|obtain ⟨ha1,h⟩:=px h|(obtain ⟨ha1,h⟩:=eN h; rw [abS] at h)
 simp only [Nat.reduceAdd] at ha1;refine z1 ha1 ?_;exact e0 h
theorem CE (N:Nat)  (r:(List ByteArray)) (h:gl N []=some r):Con Tryz.prog 136 [] true [.val (.slice none 0 0)] (sO 1 (r.map ey)):=by
 refine fk (G:=(ay [])) Tryz.func136 gn ?_;simp only [Tryz.f136];unfold gl at h;refine z0 ?_;refine z0 ?_;refine ct ?_;first|rw [if_pos (rfl:true=true)] at h|rw [if_neg acz] at h|skip
 refine z0 ?_;refine fD (pp ?_);obtain rfl:r=[]:=by simpa [apn] using h.symm
 simp only [go_sem,seval];exact ⟨_,rfl,iE.h,rp.h⟩
theorem Fi (N:Nat) (a0:(List ByteArray)) (r:(List ByteArray)) (h:gl N a0=some r):Con Tryz.prog 136 [] true [sF 1 (a0.map ey)] (sO 1 (r.map ey)):=
 Bu (fun e=>by obtain rfl:a0=[]:=adv.1 e; exact CE N r h) (C6 N a0 r h)
@[go_sem] def wJ (N:Nat):FnS:=⟨[],true,fn1 (aJ 1 (eb du)) fun q0=>(gl N q0).map fun r=>sO 1 (r.map ey),false⟩
theorem B6 (N:Nat):aC Tryz.prog 136 (wJ N):=om1 (Fi N)


@[go_sem] noncomputable def Kk (N d f:Nat):Option FnS:=ay [(5,133,tT N),(8,136,wJ N)] d f
theorem Df (N:Nat) (a0:Value) (r:Value) (h:ig N a0=some r):Con Tryz.prog 63 [] true [.agg (Value.row a0)] (.agg [vI r.Kind,vI r.N,vS r.S,sO 1 (r.I.map (aA .i64)),sO 1 (r.L.map ey)]):=by
 refine fk (G:=(Kk N)) Tryz.func63 (gc 5 (wI N) (gc 8 (B6 N) gn)) ?_;simp only [Tryz.f63];unfold ig at h;refine z0 ?_;obtain ⟨r1,hr1,h⟩:=bI h;obtain ⟨r2,hr2,h⟩:=bI h;refine d1 (k2 hr1 hr2) ?_;refine z0 ?_;exact e0 h
@[go_sem] def sm (N:Nat):FnS:=⟨[],true,fn1 Value.decA fun q0=>(ig N q0).map fun r=>.agg (Value.row r),false⟩
theorem tY (N:Nat):aC Tryz.prog 63 (sm N):=om1 fun q0 r h=>rs (Df N q0 r h)

@[go_sem] def BA (N:Nat):FnS:=⟨[],true,fn1 Value.decA fun q0=>(ig N q0).map fun r=>.agg [vI r.Kind,vI r.N,vS r.S,sO 1 (r.I.map (aA .i64)),sO 1 (r.L.map ey)],false⟩
theorem Fz (N:Nat):aC Tryz.prog 63 (BA N):=om1 (Df N)


@[go_sem] noncomputable def Jq (N d f:Nat):Option FnS:=ay [(6,139,yb N),(18,63,sm N)] d f
theorem Cl (N:Nat) (a0:(List Value)) (r:(List Value)) (h:fe N a0=some r):Con Tryz.prog 67 [] false [sF 5 (a0.map Value.row)] (sO 5 (r.map Value.row)):=by
 refine fk (G:=(Jq N)) Tryz.func67 (gc 6 (Cy N) (gc 18 (tY N) gn)) ?_;simp only [Tryz.f67];unfold fe at h;refine z0 ?_;obtain ⟨r1,hr1,h⟩:=bI h;refine z1 hr1 ?_;refine z0 ?_;refine aX (iP fun hreal3=>?_);have hl2:=hreal3.lenX 6 (by simp only [go_sem,seval]; rfl);first|rw [abJ] at hl2|rw [fY] at hl2|rw [<-ab4,abJ] at hl2
 refine pj (fun (v4:Nat) (b:List Value)=>⟨tab 22 (af (af (af av 3 (.pal 6 [] 0 b.length none)) 8 (vI (r1.length:Int))) 9 (vI (v4:Int))),(upd RZ 6 (sO 5 (b.map Value.row)))⟩) r1 h ?_ ?_
 ·exact wF hr1
 rintro v4 l3 _ h -;rcases (jK r1.length v4).symm with ⟨hi4',hd7⟩|⟨hi4',hd7⟩
 ·rw [hd7] at h;simp only [ja] at h;refine z1 hi4' ?_;refine cf ?_;refine z0 ?_;exact f0 h
 rw [hd7] at h;simp only [ja] at h;have hw6:=fm hi4' hl2;refine z1 hi4' ?_;refine ct ?_;refine z0 ?_;obtain ⟨x2,hb8,hx9,h⟩:=aH h;try simp only [abX] at hx9
 try simp only [adD,ac3,true_and] at hb8
 obtain ⟨r3,hr10,h⟩:=bI h;have hx12:=kX (y:=r3) hx9;refine z1 (k4 hb8 hx9 hr10 (mm2 (row:=Value.row) (y:=r3) (rx:=[vI x2.Kind,vI x2.N,vS x2.S,sF 1 (x2.I.map (aA .i64)),sF 1 (x2.L.map ey)]) (ry:=[vI r3.Kind,vI r3.N,vS r3.S,sF 1 (r3.I.map (aA .i64)),sF 1 (r3.L.map ey)]) hx9 rfl rfl)) ?_;refine z1 hw6 ?_;first|refine ⟨(l3.set v4 r3),?_,h⟩|refine ⟨hi4',(l3.set v4 r3),?_,h⟩
 refine wr ?_ ?_<;>repeat' first|rfl|constructor|simp only [go_sem,seval,acf]
@[go_sem] def qB (N:Nat):FnS:=⟨[],false,fn1 (aJ 5 Value.dec) fun q0=>(fe N q0).map fun r=>sF 5 (r.map Value.row),false⟩
theorem sr (N:Nat):aC Tryz.prog 67 (qB N):=om1 fun q0 r h=>rs (Cl N q0 r h)

@[go_sem] def pQ (N:Nat):FnS:=⟨[],false,fn1 (aJ 5 Value.dec) fun q0=>(fe N q0).map fun r=>sO 5 (r.map Value.row),false⟩
theorem rI (N:Nat):aC Tryz.prog 67 (pQ N):=om1 (Cl N)


@[go_sem] noncomputable def Lz (N d f:Nat):Option FnS:=ay [(5,67,pQ N)] d f
theorem DP (N:Nat) (a0:ah) (r:ah) (h:lj N a0=some r):Con Tryz.prog 57 [] false [.agg (ah.row a0)] (.agg [vS r.Target.Type_,vS r.Target.Key,vS r.Method,sO 5 (r.Args.map Value.row)]):=by
 refine fk (G:=(Lz N)) Tryz.func57 (gc 5 (rI N) gn) ?_;simp only [Tryz.f57];unfold lj at h;refine z0 ?_;obtain ⟨r1,hr1,h⟩:=bI h;refine z1 hr1 ?_;refine z0 ?_;exact f0 h
@[go_sem] def CV (N:Nat):FnS:=⟨[],false,fn1 ah.decA fun q0=>(lj N q0).map fun r=>.agg (ah.row r),false⟩
theorem He (N:Nat):aC Tryz.prog 57 (CV N):=om1 fun q0 r h=>rs (DP N q0 r h)

@[go_sem] def Cd (N:Nat):FnS:=⟨[],false,fn1 ah.decA fun q0=>(lj N q0).map fun r=>.agg [vS r.Target.Type_,vS r.Target.Key,vS r.Method,sO 5 (r.Args.map Value.row)],false⟩
theorem Ge (N:Nat):aC Tryz.prog 57 (Cd N):=om1 (DP N)


@[go_sem] noncomputable def Np (N d f:Nat):Option FnS:=ay [(6,100,ua N),(22,57,CV N),(27,63,BA N)] d f
theorem Fs (N:Nat) (a0:Txn) (r:Txn) (h:kK N a0=some r):Con Tryz.prog 41 [] false [.agg (Txn.row a0)] (.agg [vI r.ID,vI r.Born,vS r.Client,vI r.Seq,sO 4 (r.Calls.map ah.row),vI r.Done,vI r.Last.Kind,vI r.Last.N,vS r.Last.S,sO 1 (r.Last.I.map (aA .i64)),sO 1 (r.Last.L.map ey)]):=by
 refine fk (G:=(Np N)) Tryz.func41 (gc 6 (Ac N) (gc 22 (He N) (gc 27 (Fz N) gn))) ?_;simp only [Tryz.f41];unfold kK at h;refine z0 ?_;obtain ⟨r1,hr1,h⟩:=bI h;refine z1 hr1 ?_;refine z0 ?_;refine aX (iP fun hreal3=>?_);have hl2:=hreal3.cell 1 4 (by simp only [go_sem,seval]; rfl) rfl;first|rw [abJ] at hl2|rw [fY] at hl2|rw [<-ab4,abJ] at hl2
 refine pj (fun (v4:Nat) (b:List ah)=>⟨tab 30 (af (af (af (af av 1 (pF 1)) 2 (pF 2)) 10 (vI (r1.length:Int))) 11 (vI (v4:Int))),(upd (upd RZ 1 (vA 11 [vI a0.ID,vI a0.Born,vS a0.Client,vI a0.Seq,sO 4 (b.map ah.row),vI a0.Done,vI a0.Last.Kind,vI a0.Last.N,vS a0.Last.S,sF 1 (a0.Last.I.map (aA .i64)),sF 1 (a0.Last.L.map ey)])) 2 (vA 11 [vI 0,vI 0,vS (⟨#[]⟩),vI 0,.val (.slice none 0 0),vI 0,vI 0,vI 0,vS (⟨#[]⟩),.val (.slice none 0 0),.val (.slice none 0 0)]))⟩) r1 h ?_ ?_
 ·exact wR
 rintro v4 l3 _ h -;rcases (jK r1.length v4).symm with ⟨hi4',hd7⟩|⟨hi4',hd7⟩
 ·rw [hd7] at h;simp only [kE] at h;refine z1 hi4' ?_;refine cf ?_;refine iR (pp ?_);unfold u9 at h;obtain ⟨r12,hr13,h⟩:=bI h;refine z1 hr13 ?_;refine z0 ?_;exact f0 h
 rw [hd7] at h;simp only [kE] at h;have hw6:=fm hi4' hl2;refine z1 hi4' ?_;refine ct ?_;refine z0 ?_;obtain ⟨x10,hb8,hx9,h⟩:=aH h;try simp only [abX] at hx9
 try simp only [adD,ac3,true_and] at hb8
 obtain ⟨r11,hr10,h⟩:=bI h;have hx12:=kX (y:=r11) hx9;refine d1 (k4 hb8 hx9 hr10 (mm2 (row:=ah.row) (y:=r11) (rx:=[vS x10.Target.Type_,vS x10.Target.Key,vS x10.Method,sF 5 (x10.Args.map Value.row)]) (ry:=[vS r11.Target.Type_,vS r11.Target.Key,vS r11.Method,sF 5 (r11.Args.map Value.row)]) hx9 rfl rfl)) ?_;refine z1 hw6 ?_;first|refine ⟨(l3.set v4 r11),?_,h⟩|refine ⟨hi4',(l3.set v4 r11),?_,h⟩
 exact wR
@[go_sem] def zY (N:Nat):FnS:=⟨[],false,fn1 Txn.decA fun q0=>(kK N q0).map fun r=>.agg (Txn.row r),false⟩
theorem Bw (N:Nat):aC Tryz.prog 41 (zY N):=om1 fun q0 r h=>rs (Fs N q0 r h)

@[go_sem] def CT (N:Nat):FnS:=⟨[],false,fn1 Txn.decA fun q0=>(kK N q0).map fun r=>.agg [vI r.ID,vI r.Born,vS r.Client,vI r.Seq,sO 4 (r.Calls.map ah.row),vI r.Done,vI r.Last.Kind,vI r.Last.N,vS r.Last.S,sO 1 (r.Last.I.map (aA .i64)),sO 1 (r.Last.L.map ey)],false⟩
theorem Hq (N:Nat):aC Tryz.prog 41 (CT N):=om1 (Fs N)


theorem DA (N:Nat) (a0:(List al)) (r:(List al)) (h:gQ N a0=some r):Con Tryz.prog 107 [] false [.sl false (some false) 3 none (a0.map al.row)] (sO 3 (r.map al.row)):=by
 refine fk (G:=(ay [])) Tryz.func107 gn ?_;simp only [Tryz.f107];unfold gQ at h;refine z0 ?_;refine z0 ?_;refine cf ?_;first|rw [if_pos (rfl:true=true)] at h|rw [if_neg acz] at h|skip
 refine bf (pp (aM ?_));first|obtain ⟨ha1,h⟩:=px h|(obtain ⟨ha1,h⟩:=eN h; rw [abS] at h)
 simp only [Nat.reduceAdd] at ha1;refine z1 ha1 ?_;exact f0 h
theorem C9 (N:Nat)  (r:(List al)) (h:gQ N []=some r):Con Tryz.prog 107 [] false [.val (.slice none 0 0)] (sO 3 (r.map al.row)):=by
 refine fk (G:=(ay [])) Tryz.func107 gn ?_;simp only [Tryz.f107];unfold gQ at h;refine z0 ?_;refine z0 ?_;refine ct ?_;first|rw [if_pos (rfl:true=true)] at h|rw [if_neg acz] at h|skip
 refine z0 ?_;refine fD (pp ?_);obtain rfl:r=[]:=by simpa [apn] using h.symm
 simp only [go_sem,seval];exact ⟨_,rfl,iE.h⟩
theorem Gb (N:Nat) (a0:(List al)) (r:(List al)) (h:gQ N a0=some r):Con Tryz.prog 107 [] false [sF 3 (a0.map al.row)] (sO 3 (r.map al.row)):=
 Bu (fun e=>by obtain rfl:a0=[]:=adv.1 e; exact C9 N r h) (DA N a0 r h)
@[go_sem] def yc (N:Nat):FnS:=⟨[],false,fn1 (aJ 3 al.dec) fun q0=>(gQ N q0).map fun r=>sO 3 (r.map al.row),false⟩
theorem CG (N:Nat):aC Tryz.prog 107 (yc N):=om1 (Gb N)


@[go_sem] noncomputable def JA (N d f:Nat):Option FnS:=ay [(6,107,yc N),(19,67,qB N)] d f
theorem Ji (N:Nat) (a0:(List al)) (r:(List al)) (h:kD N a0=some r):Con Tryz.prog 47 [] false [sF 3 (a0.map al.row)] (sO 3 (r.map al.row)):=by
 refine fk (G:=(JA N)) Tryz.func47 (gc 6 (CG N) (gc 19 (sr N) gn)) ?_;simp only [Tryz.f47];unfold kD at h;refine z0 ?_;obtain ⟨r1,hr1,h⟩:=bI h;refine z1 hr1 ?_;refine z0 ?_;refine aX (iP fun hreal3=>?_);have hl2:=hreal3.lenX 6 (by simp only [go_sem,seval]; rfl);first|rw [abJ] at hl2|rw [fY] at hl2|rw [<-ab4,abJ] at hl2
 refine pj (fun (v4:Nat) (b:List al)=>⟨tab 24 (af (af (af av 3 (.pal 6 [] 0 b.length none)) 8 (vI (r1.length:Int))) 9 (vI (v4:Int))),(upd RZ 6 (sO 3 (b.map al.row)))⟩) r1 h ?_ ?_
 ·exact wF hr1
 rintro v4 l3 _ h -;rcases (jK r1.length v4).symm with ⟨hi4',hd7⟩|⟨hi4',hd7⟩
 ·rw [hd7] at h;simp only [iZ] at h;refine z1 hi4' ?_;refine cf ?_;refine z0 ?_;exact f0 h
 rw [hd7] at h;simp only [iZ] at h;have hw6:=fm hi4' hl2;refine z1 hi4' ?_;refine ct ?_;refine z0 ?_;obtain ⟨x2,hb8,hx9,h⟩:=aH h;try simp only [abX] at hx9
 try simp only [adD,ac3,true_and] at hb8
 obtain ⟨r3,hr10,h⟩:=bI h;have hx12:=kX (y:=(al.mk x2.Txn_ r3 x2.Prepared)) hx9;refine z1 (k4 hb8 hx9 hr10 (mm2 (row:=al.row) (y:=(al.mk x2.Txn_ r3 x2.Prepared)) (rx:=[vI x2.Txn_,sF 5 (x2.Fields.map Value.row),vB x2.Prepared]) (ry:=[vI x2.Txn_,sF 5 (r3.map Value.row),vB x2.Prepared]) hx9 rfl rfl)) ?_;refine z1 hw6 ?_;first|refine ⟨(l3.set v4 (al.mk x2.Txn_ r3 x2.Prepared)),?_,h⟩|refine ⟨hi4',(l3.set v4 (al.mk x2.Txn_ r3 x2.Prepared)),?_,h⟩
 refine wr ?_ ?_<;>repeat' first|rfl|constructor|simp only [go_sem,seval,acf]
@[go_sem] def uV (N:Nat):FnS:=⟨[],false,fn1 (aJ 3 al.dec) fun q0=>(kD N q0).map fun r=>sO 3 (r.map al.row),false⟩
theorem wY (N:Nat):aC Tryz.prog 47 (uV N):=om1 (Ji N)


@[go_sem] noncomputable def Rf (N d f:Nat):Option FnS:=ay [(9,130,zw N),(12,131,sx N),(15,132,tn N),(31,41,zY N),(49,133,Ao N),(68,47,uV N)] d f
theorem JN (N:Nat) (a0:ae) (r:ae) (h:lh N a0=some r):Con Tryz.prog 59 [] false [.agg (ae.row a0)] (.agg [sO 11 (r.Txns.map Txn.row),sO 4 (r.Locks.map ai.row),sO 3 (r.Stacks.map aa.rowD)]):=by
 refine fk (G:=(Rf N)) Tryz.func59 (gc 9 (DB N) (gc 12 (vM N) (gc 15 (zX N) (gc 31 (Bw N) (gc 49 (EL N) (gc 68 (wY N) gn)))))) ?_;simp only [Tryz.f59];unfold lh at h;refine z0 ?_;obtain ⟨r1,hr1,h⟩:=bI h;obtain ⟨r2,hr2,h⟩:=bI h;obtain ⟨r3,hr3,h⟩:=bI h;refine d1 (k3 hr1 hr2 hr3) ?_;refine z0 ?_;refine aX (iP fun hreal5=>?_);have hl4:=hreal5.cell 3 0 (by simp only [go_sem,seval]; rfl) rfl;first|rw [abJ] at hl4|rw [fY] at hl4|rw [<-ab4,abJ] at hl4
 refine pj (fun (v6:Nat) (b:List Txn)=>⟨tab 73 (af (af (af (af av 2 (pF 2)) 3 (pF 3)) 19 (vI (r1.length:Int))) 20 (vI (v6:Int))),(upd (upd RZ 2 (vA 3 [.val (.slice none 0 0),.val (.slice none 0 0),.val (.slice none 0 0)])) 3 (vA 3 [sO 11 (b.map Txn.row),sO 4 (r2.map ai.row),sO 3 (r3.map aa.row)]))⟩) r1 h ?_ ?_
 ·exact wR
 rintro v6 l5 _ h -;rcases (jK r1.length v6) with ⟨hi6',hd9⟩|⟨hi6',hd9⟩
 ·rw [hd9] at h;simp only [pw] at h;have hw8:=fm hi6' hl4;refine z1 hi6' ?_;refine ct ?_;refine z0 ?_;obtain ⟨x12,hb10,hx11,h⟩:=aH h;try simp only [abX] at hx11
  try simp only [adD,ac3,true_and] at hb10
  obtain ⟨r13,hr12,h⟩:=bI h;have hx14:=kX (y:=r13) hx11;refine d1 (k4 hb10 hx11 hr12 (mm2 (row:=Txn.row) (y:=r13) (rx:=[vI x12.ID,vI x12.Born,vS x12.Client,vI x12.Seq,sF 4 (x12.Calls.map ah.row),vI x12.Done,vI x12.Last.Kind,vI x12.Last.N,vS x12.Last.S,sF 1 (x12.Last.I.map (aA .i64)),sF 1 (x12.Last.L.map ey)]) (ry:=[vI r13.ID,vI r13.Born,vS r13.Client,vI r13.Seq,sF 4 (r13.Calls.map ah.row),vI r13.Done,vI r13.Last.Kind,vI r13.Last.N,vS r13.Last.S,sF 1 (r13.Last.I.map (aA .i64)),sF 1 (r13.Last.L.map ey)]) hx11 rfl rfl)) ?_;refine z1 hw8 ?_;first|refine ⟨(l5.set v6 r13),?_,h⟩|refine ⟨hi6',(l5.set v6 r13),?_,h⟩
  exact wR
 rw [hd9] at h;simp only [pw] at h;refine z1 hi6' ?_;refine cf ?_;unfold Aa at h;refine z0 ?_;refine aX (iP fun hreal16=>?_);have hl15:=hreal16.cell 3 1 (by simp only [go_sem,seval]; rfl) rfl;first|rw [abJ] at hl15|rw [fY] at hl15|rw [<-ab4,abJ] at hl15
 refine pj (fun (v16:Nat) (b:List ai)=>⟨tab 73 (af (af (af (af av 2 (pF 2)) 3 (pF 3)) 36 (vI (r2.length:Int))) 37 (vI (v16:Int))),(upd (upd RZ 2 (vA 3 [.val (.slice none 0 0),.val (.slice none 0 0),.val (.slice none 0 0)])) 3 (vA 3 [sO 11 (l5.map Txn.row),sO 4 (b.map ai.row),sO 3 (r3.map aa.row)]))⟩) r2 h ?_ ?_
 ·exact wR
 rintro v16 l15 _ h -;rcases (jK r2.length v16) with ⟨hi17',hd20⟩|⟨hi17',hd20⟩
 ·rw [hd20] at h;simp only [pP] at h;have hw19:=fm hi17' hl15;refine z1 hi17' ?_;refine ct ?_;refine z0 ?_;obtain ⟨x22,hb21,hx22,h⟩:=aH h;try simp only [abX] at hx22
  try simp only [adD,ac3,true_and] at hb21
  obtain ⟨r23,hr23,h⟩:=bI h;have hx25:=kX (y:=(ai.mk x22.Actor x22.Owner r23)) hx22;refine d1 (k4 hb21 hx22 hr23 (mm2 (row:=ai.row) (y:=(ai.mk x22.Actor x22.Owner r23)) (rx:=[vS x22.Actor.Type_,vS x22.Actor.Key,vI x22.Owner,sF 1 (x22.Waiters.map (aA .i64))]) (ry:=[vS x22.Actor.Type_,vS x22.Actor.Key,vI x22.Owner,sF 1 (r23.map (aA .i64))]) hx22 rfl rfl)) ?_;refine z1 hw19 ?_;first|refine ⟨(l15.set v16 (ai.mk x22.Actor x22.Owner r23)),?_,h⟩|refine ⟨hi17',(l15.set v16 (ai.mk x22.Actor x22.Owner r23)),?_,h⟩
  exact wR
 rw [hd20] at h;simp only [pP] at h;refine z1 hi17' ?_;refine cf ?_;unfold zr at h;refine z0 ?_;refine aX (iP fun hreal27=>?_);have hl26:=hreal27.cell 3 2 (by simp only [go_sem,seval]; rfl) rfl;first|rw [abJ] at hl26|rw [fY] at hl26|rw [<-ab4,abJ] at hl26
 refine pj (fun (v26:Nat) (b:List aa)=>⟨tab 73 (af (af (af (af av 2 (pF 2)) 3 (pF 3)) 55 (vI (r3.length:Int))) 56 (vI (v26:Int))),(upd (upd RZ 2 (vA 3 [.val (.slice none 0 0),.val (.slice none 0 0),.val (.slice none 0 0)])) 3 (vA 3 [sO 11 (l5.map Txn.row),sO 4 (l15.map ai.row),sO 3 (mxR aa.rowD aa.row v26 b)]))⟩) r3 h ?_ ?_
 ·exact wR
 rintro v26 l25 _ h -;rcases (jK r3.length v26).symm with ⟨hi28',hd31⟩|⟨hi28',hd31⟩
 ·rw [hd31] at h;simp only [pM] at h;obtain ⟨hg35,h⟩:=Nw h;refine z1 (k2 hi28' (mi4 hg35)) ?_;refine cf ?_;refine z0 ?_;exact f0 h
 rw [hd31] at h;simp only [pM] at h;have hw30:=fm hi28' hl26;refine z1 hi28' ?_;refine ct ?_;refine z0 ?_;obtain ⟨x24,hb32,hx33,h⟩:=aH h;try simp only [abX] at hx33
 try simp only [adD,ac3,true_and] at hb32
 obtain ⟨r25,hr34,h⟩:=bI h;refine mh fun Z hZ=>?_;simp only [go_sem,seval,hb32,Nq (f:=aa.rowD) (g:=aa.row) hx33,fY,hr34,TQ (f:=aa.rowD) (g:=aa.row) (rx:=[vS x24.Actor.Type_,vS x24.Actor.Key,sF 3 (x24.Layers.map al.row)]) hx33 rfl rfl];repeat with_reducible refine gS (by kernel_rfl) ?_
 refine hZ _ (by kernel_rfl) (z1 hw30 ?_);first|refine ⟨(l25.set v26 (aa.mk x24.Actor r25)),?_,h⟩|refine ⟨hi28',(l25.set v26 (aa.mk x24.Actor r25)),?_,h⟩
 refine bm.trans (zg (n:=3) (c':=vA 3 [sO 11 (l5.map Txn.row),sO 4 (l15.map ai.row),sO 3 (mxR aa.rowD aa.row (v26+1) (l25.set v26 (aa.mk x24.Actor r25)))]) (by simp only [go_sem,seval]; rfl) (by first|(simp only [<-J6 (f:=_) (g:=_) hx33 (aa.mk x24.Actor r25)]; done)|(rw [<-J6 (f:=_) (g:=_) hx33 (aa.mk x24.Actor r25)]; rfl))) ?_;exact wR
@[go_sem] def Ip (N:Nat):FnS:=⟨[],false,fn1 ae.decA fun q0=>(lh N q0).map fun r=>.agg (ae.row r),false⟩
theorem Lg (N:Nat):aC Tryz.prog 59 (Ip N):=om1 fun q0 r h=>rs (JN N q0 r h)

@[go_sem] def qu (N:Nat):FnS:=⟨[],false,fn1 ae.decA fun q0=>(lh N q0).map fun r=>.agg [sO 11 (r.Txns.map Txn.row),sO 4 (r.Locks.map ai.row),sO 3 (r.Stacks.map aa.rowD)],false⟩
theorem pE (N:Nat):aC Tryz.prog 59 (qu N):=om1 (JN N)


@[go_sem] noncomputable def Q2 (N d f:Nat):Option FnS:=ay [(24,23,mu N),(27,98,z8 N),(56,59,qu N),(60,41,zY N)] d f
theorem Ry (N:Nat) (a0:ae) (a1:Int) (a2:Int) (a3:ByteArray) (a4:Int) (a5:(List ah)) (r:ae × Int) (h:j9 N a0 a1 a2 a3 a4 a5=some r):Con Tryz.prog 38 [] false [.agg (ae.row a0),vI a1,vI a2,vS a3,vI a4,sF 4 (a5.map ah.row)] (.tup [.agg [sO 11 (r.1.Txns.map Txn.row),sO 4 (r.1.Locks.map ai.row),sO 3 (r.1.Stacks.map aa.row)],vI r.2]):=by
 refine fk (G:=(Q2 N)) Tryz.func38 (gc 24 (kL N) (gc 27 (BQ N) (gc 56 (pE N) (gc 60 (Bw N) gn)))) ?_;simp only [Tryz.f38];unfold j9 at h;refine z0 ?_;refine z0 ?_;refine aM (aX ?_);apply aW (fun (c10:Bool)=>⟨tab 65 (af (af (af (af (af av 1 (vI a1)) 6 (pF 6)) 12 (pF 12)) 14 (pF 14)) 22 (vB c10)),(upd (upd (upd RZ 6 (vA 3 (ae.row a0))) 12 (vA 3 [.val (.slice none 0 0),.val (.slice none 0 0),.val (.slice none 0 0)])) 14 (vA 11 [vI a1,vI a2,vS a3,vI a4,sF 4 (a5.map ah.row),vI 0,vI 0,vI 0,vS (⟨#[]⟩),.val (.slice none 0 0),.val (.slice none 0 0)]))⟩)
 ·intro hJ1;obtain ⟨r11,hr2,h⟩:=bI h;refine z1 hr2 ?_;refine cM h (fun hc3 h=>?_) fun hc3 h=>?_
  ·refine bf (pp (hJ1 _ true ?_ h));exact wF hc3
  obtain ⟨r12,hr4,h⟩:=bI h;refine z1 (k2 hc3 hr4) ?_;refine hJ1 _ (!r12) ?_ h;exact wF (k3 hr2 hc3 hr4)
 intro c10 h;unfold zs at h;refine cB h (fun hc5 h=>?_) fun hc5 h=>?_
 ·refine z1 hc5 ?_;exact f0 h
 apply aW (fun (c14:Bool)=>⟨tab 65 (af (af (af (af av 6 (pF 6)) 12 (pF 12)) 14 (pF 14)) 30 (vB c14)),(upd (upd (upd RZ 6 (vA 3 (ae.row a0))) 12 (vA 3 [.val (.slice none 0 0),.val (.slice none 0 0),.val (.slice none 0 0)])) 14 (vA 11 [vI a1,vI a2,vS a3,vI a4,sF 4 (a5.map ah.row),vI 0,vI 0,vI 0,vS (⟨#[]⟩),.val (.slice none 0 0),.val (.slice none 0 0)]))⟩)
 ·intro hJ6;refine iD h (fun hc7 hc7d h=>?_) fun hc7 hc7d h=>?_
  ·obtain ⟨x15,hb8,hx9,h⟩:=aH h;refine z1 (k4 hc5 hc7d hb8 hx9) ?_;refine hJ6 _ (decide (a1<=x15.ID)) ?_ h;exact wF (k4 hc5 hc7d hb8 hx9)
  refine z1 (k2 hc5 hc7d) ?_;refine hJ6 _ false ?_ h;exact wF (k2 hc5 hc7d)
 intro c14 h;unfold pG at h;refine cB h (fun hc10 h=>?_) fun hc10 h=>?_
 ·refine z1 hc10 ?_;exact f0 h
 refine z1 hc10 ?_;refine cD h (fun hc11 hc11d h=>?_) fun hc11 hc11d h=>?_
 ·refine z1 hc11d ?_;exact f0 h
 refine bf (pp ?_);unfold po at h;obtain ⟨r16,hr12,h⟩:=bI h;refine z1 (k2 hc11d hr12) ?_;obtain ⟨r17,hr13,h⟩:=bI h;obtain ⟨ha14,h⟩:=eN h;simp only [abW,acm,acv,Nat.reduceAdd] at ha14;refine d1 (k2 hr13 ha14) ?_;refine z0 ?_;exact f0 h
@[go_sem] def z7 (N:Nat):FnS:=⟨[],false,fn6 ae.decA (aG .i64) (aG .i64) du (aG .i64) (aJ 4 ah.dec) fun q0 q1 q2 q3 q4 q5=>(j9 N q0 q1 q2 q3 q4 q5).map fun r=>.tup [.agg (ae.row r.1),vI r.2],false⟩
theorem zq (N:Nat):aC Tryz.prog 38 (z7 N):=om6 fun q0 q1 q2 q3 q4 q5 r h=>rs (Ry N q0 q1 q2 q3 q4 q5 r h)

@[go_sem] noncomputable def SH (N d f:Nat):Option FnS:=ay [(9,40,ia N),(52,57,Cd N)] d f
theorem Tb (N:Nat) (a0:ae) (a1:Int) (r:ah × Bool) (h:pk N a0 a1=some r):Con Tryz.prog 24 [] false [.agg (ae.row a0),vI a1] (.tup [.agg [vS r.1.Target.Type_,vS r.1.Target.Key,vS r.1.Method,sO 5 (r.1.Args.map Value.row)],vB r.2]):=by
 refine fk (G:=(SH N)) Tryz.func24 (gc 9 (fH N) (gc 52 (Ge N) gn)) ?_;simp only [Tryz.f24];unfold pk at h;refine z0 ?_;obtain ⟨r1,hr1,h⟩:=bI h;refine z1 hr1 ?_;refine aM ?_;apply aW (fun (c6:Bool)=>⟨tab 53 (af (af (af (af av 2 (pF 2)) 4 (pF 4)) 6 (vI r1)) 36 (vB c6)),(upd (upd RZ 2 (vA 3 (ae.row a0))) 4 (vA 4 [vS (⟨#[]⟩),vS (⟨#[]⟩),vS (⟨#[]⟩),.val (.slice none 0 0)]))⟩)
 ·intro hJ2;refine iD h (fun hc3 hc3d h=>?_) fun hc3 hc3d h=>?_
  ·refine d1 hc3d ?_;refine hJ2 _ true ?_ h;exact wR
  obtain ⟨x7,hb4,hx5,h⟩:=aH h;refine iD h (fun hc6 hc6d h=>?_) fun hc6 hc6d h=>?_
  ·refine d1 (k4 hc3d hb4 hx5 hc6d) ?_;refine hJ2 _ true ?_ h;exact wR
  refine d1 (k4 hc3d hb4 hx5 hc6d) ?_;refine hJ2 _ (decide ((x7.Calls.length:Int)<=x7.Done)) ?_ h;exact wR
 intro c6 h;unfold rv at h;refine cB h (fun hc7 h=>?_) fun hc7 h=>?_
 ·refine z1 hc7 ?_;exact f0 h
 refine bf (pp ?_);unfold yl at h;obtain ⟨x8,hb8,hx9,h⟩:=aH h;obtain ⟨x9,hb10,hx11,h⟩:=aH h;obtain ⟨r10,hr12,h⟩:=bI h;refine d1 (k5 hc7 hb8 hx9 hb10 (k2 hx11 hr12)) ?_;exact f0 h
@[go_sem] def Ej (N:Nat):FnS:=⟨[],false,fn2 ae.decA (aG .i64) fun q0 q1=>(pk N q0 q1).map fun r=>.tup [.agg (ah.row r.1),vB r.2],false⟩
theorem FE (N:Nat):aC Tryz.prog 24 (Ej N):=om2 fun q0 q1 r h=>rs (Tb N q0 q1 r h)

@[go_sem] noncomputable def OG (N d f:Nat):Option FnS:=ay [(6,131,sx N),(19,133,tT N)] d f
theorem GU (N:Nat) (a0:(List ai)) (r:(List ai)) (h:gB N a0=some r):Con Tryz.prog 117 [] false [sF 4 (a0.map ai.row)] (sO 4 (r.map ai.rowD)):=by
 refine fk (G:=(OG N)) Tryz.func117 (gc 6 (vM N) (gc 19 (wI N) gn)) ?_;simp only [Tryz.f117];unfold gB at h;refine z0 ?_;obtain ⟨r1,hr1,h⟩:=bI h;refine z1 hr1 ?_;refine z0 ?_;refine aX (iP fun hreal3=>?_);have hl2:=hreal3.lenX 6 (by simp only [go_sem,seval]; rfl);first|rw [abJ] at hl2|rw [fY] at hl2|rw [<-ab4,abJ] at hl2
 refine pj (fun (v4:Nat) (b:List ai)=>⟨tab 24 (af (af (af av 3 (.pal 6 [] 0 b.length none)) 8 (vI (r1.length:Int))) 9 (vI (v4:Int))),(upd RZ 6 (sO 4 (mxR ai.rowD ai.row v4 b)))⟩) r1 h ?_ ?_
 ·exact wF hr1
 rintro v4 l3 _ h -;rcases (jK r1.length v4).symm with ⟨hi4',hd7⟩|⟨hi4',hd7⟩
 ·rw [hd7] at h;simp only [lM] at h;obtain ⟨hg11,h⟩:=Nw h;refine z1 (k2 hi4' (mi4 hg11)) ?_;refine cf ?_;refine z0 ?_;exact f0 h
 rw [hd7] at h;simp only [lM] at h;have hw6:=fm hi4' hl2;refine z1 hi4' ?_;refine ct ?_;refine z0 ?_;obtain ⟨x2,hb8,hx9,h⟩:=aH h;try simp only [abX] at hx9
 try simp only [adD,ac3,true_and] at hb8
 obtain ⟨r3,hr10,h⟩:=bI h;refine z1 (k4 hb8 (Nq (f:=ai.rowD) (g:=ai.row) hx9) hr10 (mi1 (f:=ai.rowD) (g:=ai.row) (rx:=[vS x2.Actor.Type_,vS x2.Actor.Key,vI x2.Owner,sF 1 (x2.Waiters.map (aA .i64))]) hx9 rfl)) ?_;refine z1 hw6 ?_;first|refine ⟨(l3.set v4 (ai.mk x2.Actor x2.Owner r3)),?_,h⟩|refine ⟨hi4',(l3.set v4 (ai.mk x2.Actor x2.Owner r3)),?_,h⟩
 refine bm.trans (Si (n:=6) (ai.mk x2.Actor x2.Owner r3) hx9 (by simp only [go_sem,seval]; rfl) rfl rfl) ?_;refine wr ?_ ?_<;>repeat' first|rfl|constructor|simp only [go_sem,seval,acN,acf]
@[go_sem] def kF (N:Nat):FnS:=⟨[],false,fn1 (aJ 4 ai.dec) fun q0=>(gB N q0).map fun r=>sO 4 (r.map ai.row),false⟩
theorem kn (N:Nat):aC Tryz.prog 117 (kF N):=om1 fun q0 r h=>rs (GU N q0 r h)

@[go_sem] def zu (N:Nat):FnS:=⟨[],false,fn1 (aJ 4 ai.dec) fun q0=>(gB N q0).map fun r=>sO 4 (r.map ai.rowD),false⟩
theorem BP (N:Nat):aC Tryz.prog 117 (zu N):=om1 (GU N)


def eo:FnS:={ own:=[true,true],pure:=false,fn:=fun _=>none,peek:=true }
theorem bh:eo.own=[true,true]:=rfl
theorem ba:eo.peek=true:=rfl
theorem BG:HY Tryz.prog 195:=
 Na (fn:=Tryz.f195) (tS:=25) (tR:=4) (e:=100) (size:=4) Tryz.func195 rfl rfl (by kernel_rfl) (by kernel_rfl) (by kernel_rfl) (by kernel_rfl)
theorem w4:aC Tryz.prog 195 eo:=⟨(fun cs r h=>by simp [eo] at h),fun _=>BG⟩
noncomputable def gV:Env:={ T:=fa Tryz.prog,G:=fun d f=>if d=67/\f=195 then some eo else none }
theorem dY:gV.T=fa Tryz.prog:=rfl
theorem dV (d:Nat):gV.F d=none:=rfl
theorem dW (d f:Nat):gV.L d f=none:=rfl
theorem dZ:gV.G 67 195=some eo:=rfl
theorem DD:GOk Tryz.prog { T:=fa Tryz.prog,G:=gV.G }:=by
 refine ⟨?_,fun _ _ _ h=>by cases h⟩;intro d f fs hfs;simp only [gV] at hfs;split at hfs
 ·rename_i hc; obtain ⟨rfl,rfl⟩:=hc; obtain rfl:=aco hfs; exact w4
 cases hfs
theorem Fk:Eg Tryz.prog 127 Tryz.f127 Tryz.f127.body.get! := ⟨Tryz.func127,rfl,by decide,by kernel_rfl⟩
set_option maxHeartbeats 4000000 in
theorem EP {α:Type} (row:α->List C) (ok:ar row) (l:List α) (i:Nat) (x:α) (k:Nat) (r:List α) (hr:r=l.take i++[x]++l.drop i) (hi:i<=l.length) (hsz:(l.length+1) * 64<=140737488355328) (hk1:l.length<=k) (hk2:k<=maxLen) :
  Con Tryz.prog 127 [true,false,true] false [.sl true none 4 (some k) (l.map row),vI i,sO 4 ([x].map row)] (sO 4 (r.map row)):=by
 refine IK (E:=gV) (y6 Tryz.prog _) DD mix Fk (ab5 rfl) ?_;intro _;rw [vk (by simp)];rw [show gN [true,false,true] [C.sl true none 4 (some k) (l.map row),C.val (.int .i64 i),C.sl true none 4 none ([x].map row)]=(af (af (af av 0 (.pal 0 [] 0 l.length none)) 1 (vI i)) 2 (.pal 2 [] 0 1 none)) from by funext t; match t with|0=>simp [gN,jz,kG,af]|1=>rfl|2=>rfl|t+3=>rfl];rw [show R0 [true,false,true] [C.sl true none 4 (some k) (l.map row),C.val (.int .i64 i),C.sl true none 4 none ([x].map row)]=upd (upd RZ 0 (C.sl true none 4 (some k) (l.map row))) 2 (C.sl true none 4 none ([x].map row)) from by funext t; match t with|0=>rfl|1=>rfl|2=>rfl|t+3=>rfl];apply IX;simp only [Tryz.f127,Option.get!];have hi1:(i:Int)<=(l.length:Int):=by omega
 have hi2:i<=l.length:=hi;have h10:(((1:Nat):Int)=0)=False:=by simp
 have hp:(row x).all Abs.plainCell=true:=ok.plain x;have hf:(row x).map C.frz=(row x):=ok.frz x;have hpD:(row x).all qL=true:=by have:=(ar.allD ok [x]); simpa using this
 have hw1:IntKind.i64.wrap ((l.length:Int)+((1:Nat):Int))=((l.length+1:Nat):Int):=by rw [my (by omega) (by omega)]; rfl
 have hlt0:(l.take i).length=i:=by simp; omega
 have hes:(4 != 0)=true:=rfl;have hm1:min 1 (l.length+1 - i)=1:=by omega
 have hm2:min (l.length - i) (l.length+1 - (i+1))=l.length - i:=by omega
 have hm3:(l.drop i).take (l.length - i)=l.drop i:=ab3 (by simp);have hm4:i+1<=l.length+1:=by omega
 have hw2:IntKind.i64.wrap (((l.length+1:Nat):Int) - (i:Int))=((l.length+1 - i:Nat):Int):=by rw [my (by omega) (by omega)]; omega
 have hw1b:IntKind.i64.wrap ((l.length:Int)+1)=((l.length+1:Nat):Int):=hw1;have hw3:IntKind.i64.wrap ((i:Int)+((1:Nat):Int))=((i+1:Nat):Int):=by rw [my (by omega) (by omega)]; rfl
 have hw3b:IntKind.i64.wrap ((i:Int)+1)=((i+1:Nat):Int):=hw3;simp only [go_sem,seval,dY,dV,dW,dZ,hi1,hi2,h10,abI,hp,hf,hpD,ar.frzRows ok,ar.all ok,ar.allPlain ok,ar.allD ok,aK,gv,fb,bO,eP,fw,kz,ic,dt,aS,gH,Ext.all,ib,bA,abF,hw1,hw2,hw3,hw1b,hw3b,acB,ab2,abU,eh,bne_self_eq_false,acg,decide_not,abR,hlt0,hm1,hm2,hm3,hm4,bh,ba,ace];refine Kq rfl ?_;simp only [go_sem,seval,dY,dV,dW,dZ,hi1,hi2,h10,abI,hp,hf,hpD,ar.frzRows ok,ar.all ok,ar.allPlain ok,ar.allD ok,aK,gv,fb,bO,eP,fw,kz,ic,dt,aS,gH,Ext.all,ib,bA,abF,hw1,hw2,hw3,hw1b,hw3b,acB,ab2,abU,eh,bne_self_eq_false,acg,decide_not,abR,hlt0,hm1,hm2,hm3,hm4,bh,ba,ace];refine tM rfl (fun hc=>?_) (fun hc=>?_)
 ·have e:i=l.length:=by omega
  subst e;simp only [go_sem,seval,dY,dV,dW,dZ,hi1,hi2,h10,abI,hp,hf,hpD,ar.frzRows ok,ar.all ok,ar.allPlain ok,ar.allD ok,aK,gv,fb,bO,eP,fw,kz,ic,dt,aS,gH,Ext.all,ib,bA,abF,hw1,hw2,hw3,hw1b,hw3b,acB,ab2,abU,eh,bne_self_eq_false,acg,decide_not,abR,hlt0,hm1,hm2,hm3,hm4,bh,ba,ace,eD,gI,hsz];refine sI ok ?_;rw [hr];simp [ab3]
 ·have hc1:decide ((i:Int)=(l.length:Int))=false:=decide_eq_false hc;have hlt:i < l.length:=by omega
  simp only [go_sem,seval,dY,dV,dW,dZ,hi1,hi2,h10,abI,hp,hf,hpD,ar.frzRows ok,ar.all ok,ar.allPlain ok,ar.allD ok,aK,gv,fb,bO,eP,fw,kz,ic,dt,aS,gH,Ext.all,ib,bA,abF,hw1,hw2,hw3,hw1b,hw3b,acB,ab2,abU,eh,bne_self_eq_false,acg,decide_not,abR,hlt0,hm1,hm2,hm3,hm4,bh,ba,ace,hc1];refine tM rfl (fun hk=>?_) (fun hk=>?_)
  ·have hk1:decide (k < l.length+1)=true:=decide_eq_true hk;have hk2:k < i+(l.length+1 - i):=by omega
   have e1:i+(l.length+1 - i)=l.length+1:=by omega
   have hi3:(i:Int)<=((l.length+1:Nat):Int):=by omega
   have hi4:i<=l.length+1:=by omega
   obtain ⟨A,hA⟩:∃ A,List.map row (List.take i l)++List.replicate (l.length+1 - i) [C.val (Value.string ⟨#[]⟩),C.val (Value.string ⟨#[]⟩),C.val (Value.int .i64 0),C.val (Value.slice none 0 0)]=A:=⟨_,rfl⟩;have hAp:bX A:=by rw [<-hA]; exact j6 (gF ok _) (zS _ [Value.string ⟨#[]⟩,Value.string ⟨#[]⟩,Value.int .i64 0,Value.slice none 0 0] (by simp [Value.oneCell']))
   have hAl:A.length=l.length+1:=by rw [<-hA,ack,abJ,hlt0,abR]; omega
   obtain ⟨B,hB⟩:∃ B,aL A i [(row x)]=B:=⟨_,rfl⟩;have hBp:bX B:=by rw [<-hB]; exact gK hAp ⟨by simp [frzRows,hf],by simp [hpD]⟩
   have hBl:B.length=l.length+1:=by rw [<-hB]; simp [aL,hAl]; omega
   obtain ⟨D,hD⟩:∃ D,aL B (i+1) (List.map row (List.drop i l))=D:=⟨_,rfl⟩;have hDp:bX D:=by rw [<-hD]; exact gK hBp (gF ok _)
   have hDl:D.length=l.length+1:=by rw [<-hD]; simp [aL,hBl]; omega
   have hDe:D=(l.take i++[x]++l.drop i).map row:=by
    rw [<-hD,<-hB,<-hA,ado,ade,Nl (A:=l.map row) (n:=l.length) (by simp) hi2 (by simp)];simp
   simp only [go_sem,seval,dY,dV,dW,dZ,hi1,hi2,h10,abI,hp,hf,hpD,ar.frzRows ok,ar.all ok,ar.allPlain ok,ar.allD ok,aK,gv,fb,bO,eP,fw,kz,ic,dt,aS,gH,Ext.all,ib,bA,abF,hw1,hw2,hw3,hw1b,hw3b,acB,ab2,abU,eh,bne_self_eq_false,acg,decide_not,abR,hlt0,hm1,hm2,hm3,hm4,bh,ba,ace,hc1,hk1,hk,hk2,e1,hi3,hi4,hA,hAl,hAp.1,hAp.2,hB,hBp.1,hBp.2,hBl,hD,hDp.1,hDp.2,hsz];repeat' ((with_reducible refine gS ?_ ?_); kernel_rfl)
   simp only [go_sem,seval,dY,dV,dW,dZ,hi1,hi2,h10,abI,hp,hf,hpD,ar.frzRows ok,ar.all ok,ar.allPlain ok,ar.allD ok,aK,gv,fb,bO,eP,fw,kz,ic,dt,aS,gH,Ext.all,ib,bA,abF,hw1,hw2,hw3,hw1b,hw3b,acB,ab2,abU,eh,bne_self_eq_false,acg,decide_not,abR,hlt0,hm1,hm2,hm3,hm4,bh,ba,ace,eD,gI,hDp.1,hDp.2,hD];refine sI ok ?_;rw [hr,<-hDe,<-hDl,adC]
  ·have hk1:decide (k < l.length+1)=false:=decide_eq_false hk;have hk2:¬ k < i+(l.length+1 - i):=by omega
   have hk3:l.length+1<=k:=by omega
   have e2:l.length+1 - l.length=1:=by omega
   have e3:l.length<=l.length+1:=by omega
   have hi3:(i:Int)<=((l.length+1:Nat):Int):=by omega
   have hi4:i<=l.length+1:=by omega
   have hne:¬ l.length+1 - (i+1)=0:=by omega
   have hne2:¬ l.length - i=0:=by omega
   obtain ⟨A,hA⟩:∃ A,List.map row l++[[C.dead,C.dead,C.dead,C.dead]]=A:=⟨_,rfl⟩;have hAp:bX A:=by rw [<-hA]; exact j6 (gF ok _) (Dw 1 4)
   have hAl:A.length=l.length+1:=by rw [<-hA]; simp
   have hm5:min (l.length+1 - i) (l.length+1 - (i+1))=l.length - i:=by omega
   have hm5b:min (l.length+1 - i) (l.length - i)=l.length - i:=by omega
   obtain ⟨A2,hA2⟩:∃ A2,(A.drop i).take (l.length - i)=A2:=⟨_,rfl⟩;have hA2e:A2=List.map row (l.drop i):=by
    rw [<-hA2,<-hA,adV,abJ,show i - l.length=0 by omega,ada,adn,ab3 (by simp),show l.length - i - (List.drop i (List.map row l)).length=0 by simp];simp [ade]
   have hA2p:(A2.all fun r=>r.all Abs.plainCell)=true:=by rw [hA2e]; exact ok.allPlain _
   have hA2f:frzRows A2=A2:=by rw [hA2e]; exact ok.frzRows _
   have hA2d:bX A2:=by rw [hA2e]; exact gF ok _
   obtain ⟨B,hB⟩:∃ B,aL A (i+1) A2=B:=⟨_,rfl⟩;have hBp:bX B:=by rw [<-hB]; exact gK hAp hA2d
   have hBl:B.length=l.length+1:=by rw [<-hB]; simp [aL,hAl,hA2e]; omega
   obtain ⟨D,hD⟩:∃ D,aL B i [(row x)]=D:=⟨_,rfl⟩;have hDp:bX D:=by rw [<-hD]; exact gK hBp ⟨by simp [frzRows,hf],by simp [hpD]⟩
   have hDl:D.length=l.length+1:=by rw [<-hD]; simp [aL,hBl]; omega
   have hDe:D=(l.take i++[x]++l.drop i).map row:=by
    rw [<-hD,<-hB,<-hA2,<-hA,Kl (A:=l.map row) (n:=l.length) (by simp) hi2];simp [ado,ade]
   simp only [go_sem,seval,dY,dV,dW,dZ,hi1,hi2,h10,abI,hp,hf,hpD,ar.frzRows ok,ar.all ok,ar.allPlain ok,ar.allD ok,aK,gv,fb,bO,eP,fw,kz,ic,dt,aS,gH,Ext.all,ib,bA,abF,hw1,hw2,hw3,hw1b,hw3b,acB,ab2,abU,eh,bne_self_eq_false,acg,decide_not,abR,hlt0,hm1,hm2,hm3,hm4,bh,ba,ace,hc1,hk1,hk,hk2,hk3,e2,e3,hi3,hi4,hne,hne2,hA,hAl,hAp.1,hAp.2,hes,hA2,hA2p,hA2f,hB,hBp.1,hBp.2,hBl,hD,hDp.1,hDp.2,hDl,hm5,hm5b];refine Kx rfl ?_;simp only [go_sem,seval,dY,dV,dW,dZ,hi1,hi2,h10,abI,hp,hf,hpD,ar.frzRows ok,ar.all ok,ar.allPlain ok,ar.allD ok,aK,gv,fb,bO,eP,fw,kz,ic,dt,aS,gH,Ext.all,ib,bA,abF,hw1,hw2,hw3,hw1b,hw3b,acB,ab2,abU,eh,bne_self_eq_false,acg,decide_not,abR,hlt0,hm1,hm2,hm3,hm4,bh,ba,ace,hc1,hk1,hk,hk2,hk3,e2,e3,hi3,hi4,hne,hne2,hA,hAl,hAp.1,hAp.2,hes,hA2,hA2p,hA2f,hB,hBp.1,hBp.2,hBl,hD,hDp.1,hDp.2,hDl,hm5,hm5b];repeat' ((with_reducible refine gS ?_ ?_); kernel_rfl)
   simp only [go_sem,seval,dY,dV,dW,dZ,hi1,hi2,h10,abI,hp,hf,hpD,ar.frzRows ok,ar.all ok,ar.allPlain ok,ar.allD ok,aK,gv,fb,bO,eP,fw,kz,ic,dt,aS,gH,Ext.all,ib,bA,abF,hw1,hw2,hw3,hw1b,hw3b,acB,ab2,abU,eh,bne_self_eq_false,acg,decide_not,abR,hlt0,hm1,hm2,hm3,hm4,bh,ba,ace,eD,gI,hDp.1,hDp.2,hD,hDl];refine sI ok ?_;rw [hr,<-hDe,<-hDl,adC]
theorem Gy (N:Nat) (a0:List ai) (a1:Int) (a2:List ai) (r:List ai) (h:mD N a0 a1 a2=some r) :
  Con Tryz.prog 127 [true,false,true] false [sO 4 (a0.map ai.row),vI a1,sO 4 (a2.map ai.row)] (sO 4 (r.map ai.row)):=by
 unfold mD at h;obtain ⟨n,x,rfl,rfl,h1,h2,h3⟩:=Bl h;exact Jg fun k hk1 hk2=>EP ai.row ai.row_ok a0 n x k r (aco h3).symm h1 h2 (by simpa using hk1) hk2
def fU (N:Nat):FnS:={ own:=[true,false,true],pure:=false,fn:=fun cs=>match cs with
 | [c0,c1,c2]=>(vL 4 ai.dec c0).bind fun q0=>(aG .i64 c1).bind fun q1=>(vL 4 ai.dec c2).bind fun q2=>(mD N q0 q1 q2).map fun r=>sO 4 (r.map ai.row)
 | _=>none }
theorem BX (N:Nat):(fU N).own=[true,false,true]:=rfl
theorem BL (N:Nat):(fU N).pure=false:=rfl
theorem Bv (N:Nat):(fU N).peek=false:=rfl
attribute [go_sem] fU BX BL Bv
theorem Cs (N:Nat):aC Tryz.prog 127 (fU N):=by
 refine ⟨fun cs r h=>?_,fun h=>by cases h⟩;simp only [fU] at h;split at h
 ·simp only [abC,abB] at h;obtain ⟨q0,h0,q1,h1,q2,h2,r',hr,rfl⟩:=h;exact (Gy N q0 q1 q2 r' hr).argsO rfl (jW (qq ai.row_ok ai.dec_le h0) (rG (bN h1) (jW (qq ai.row_ok ai.dec_le h2) oD)))
 ·cases h


theorem L8 (N:Nat) (a0:Int) (r:Bool) (h:qv N a0=some r):Con Tryz.prog 228 [] true [vI a0] (vB r):=by
 refine fk (G:=(ay [])) Tryz.func228 gn ?_;simp only [Tryz.f228];unfold qv at h;refine z0 ?_;refine z0 ?_;exact e0 h
@[go_sem] def yV (N:Nat):FnS:=⟨[],true,fn1 (aG .i64) fun q0=>(qv N q0).map fun r=>vB r,false⟩
theorem Am (N:Nat):aC Tryz.prog 228 (yV N):=om1 (L8 N)


@[go_sem] noncomputable def Nk (N d f:Nat):Option FnS:=ay [(6,228,yV N),(9,228,yV N)] d f
theorem MF (N:Nat) (a0:Int) (a1:Int) (r:Bool) (h:pN N a0 a1=some r):Con Tryz.prog 197 [] true [vI a0,vI a1] (vB r):=by
 refine fk (G:=(Nk N)) Tryz.func197 (gc 6 (Am N) (gc 9 (Am N) gn)) ?_;simp only [Tryz.f197];unfold pN at h;refine z0 ?_;refine aM ?_;obtain ⟨r1,hr1,h⟩:=bI h;refine iBs h (fun hc2 h=>?_) fun hc2 h=>?_
 ·refine z1 (k2 hr1 hc2) ?_;exact e0 h
 obtain ⟨r2,hr3,h⟩:=bI h;refine iBs h (fun hc4 h=>?_) fun hc4 h=>?_
 ·refine z1 (k4 hr1 hc2 hr3 hc4) ?_;exact e0 h
 refine z1 (k4 hr1 hc2 hr3 hc4) ?_;exact e0 h
@[go_sem] def zA (N:Nat):FnS:=⟨[],true,fn2 (aG .i64) (aG .i64) fun q0 q1=>(pN N q0 q1).map fun r=>vB r,false⟩
theorem BF (N:Nat):aC Tryz.prog 197 (zA N):=om2 (MF N)


theorem HU (N:Nat) (a0:Int) (r:Bool) (h:lX N a0=some r):Con Tryz.prog 198 [] true [vI a0] (vB r):=by
 refine fk (G:=(ay [])) Tryz.func198 gn ?_;simp only [Tryz.f198];unfold lX at h;refine z0 ?_;refine z0 ?_;exact e0 h
@[go_sem] def uW (N:Nat):FnS:=⟨[],true,fn1 (aG .i64) fun q0=>(lX N q0).map fun r=>vB r,false⟩
theorem yd (N:Nat):aC Tryz.prog 198 (uW N):=om1 (HU N)


@[go_sem] noncomputable def Cv (N d f:Nat):Option FnS:=ay [(27,197,zA N),(47,198,uW N),(50,198,uW N)] d f
theorem Cp (N:Nat) (a0:(List Int)) (a1:Int) (r:Int × Bool) (h:gT N a0 a1=some r):Con Tryz.prog 128 [] true [sF 1 (a0.map (aA .i64)),vI a1] (.tup [vI r.1,vB r.2]):=by
 refine fk (G:=(Cv N)) Tryz.func128 (gc 27 (BF N) (gc 47 (yd N) (gc 50 (yd N) gn))) ?_;simp only [Tryz.f128];unfold gT at h;refine z0 ?_;refine z0 ?_;refine z0 ?_;refine aM (aX (iT (fun (b:Int × Int)=>⟨tab 54 (af (af (af (af (af av 0 (sF 1 (a0.map (aA .i64)))) 1 (vI a1)) 6 (vI (a0.length:Int))) 7 (vI b.1)) 8 (vI b.2)),RZ⟩) (0,(a0.length:Int)) h ?_ ?_))
 ·exact wR
 rintro n ⟨v2,v3⟩ h -;cases n with
 | zero=>simp [eC] at h
 | succ n=>
 simp only [eC] at h;refine z0 ?_;refine cD h (fun hc1 hc1d h=>?_) fun hc1 hc1d h=>?_
 ·refine z1 hc1d ?_;obtain ⟨x9,hb2,hx3,h⟩:=aH h;obtain ⟨r10,hr4,h⟩:=bI h;refine z1 (k3 hb2 hx3 hr4) ?_;refine cB h (fun hc5 h=>?_) fun hc5 h=>?_
  ·refine z1 hc5 ?_;refine ⟨_,acn _,(IntKind.i64.wrap ((IntKind.i64.wrap (kJ .u64 (IntKind.u64.wrap (IntKind.i64.wrap (v2+v3))) 1))+1),v3),?_,h⟩;exact wR
  refine z1 hc5 ?_;refine ⟨_,acn _,(v2,IntKind.i64.wrap (kJ .u64 (IntKind.u64.wrap (IntKind.i64.wrap (v2+v3))) 1)),?_,h⟩;exact wR
 refine iR (pp ?_);unfold jN at h;refine iDs h (fun hc6 hc6d h=>?_) fun hc6 hc6d h=>?_
 ·refine z1 (k2 hc1d hc6d) ?_;exact e0 h
 obtain ⟨x11,hb7,hx8,h⟩:=aH h;refine iD h (fun hc9 hc9d h=>?_) fun hc9 hc9d h=>?_
 ·refine z1 (k4 hc1d hb7 hx8 hc9d) ?_;exact e0 h
 obtain ⟨r12,hr10,h⟩:=bI h;refine iB h (fun hc11 h=>?_) fun hc11 h=>?_
 ·obtain ⟨r13,hr12,h⟩:=bI h;refine z1 (k5 hc1d hb7 hx8 hc9d (k3 hr10 hc11 hr12)) ?_;exact e0 h
 refine z1 (k5 hc1d hb7 hx8 hc9d (k2 hr10 hc11)) ?_;exact e0 h
@[go_sem] def uA (N:Nat):FnS:=⟨[],true,fn2 (aJ 1 (eb (aG .i64))) (aG .i64) fun q0 q1=>(gT N q0 q1).map fun r=>.tup [vI r.1,vB r.2],false⟩
theorem Af (N:Nat):aC Tryz.prog 128 (uA N):=om2 (Cp N)


def eL:FnS:={ own:=[true,true],pure:=false,fn:=fun _=>none,peek:=true }
theorem bn:eL.own=[true,true]:=rfl
theorem bj:eL.peek=true:=rfl
theorem BV:HY Tryz.prog 199:=
 Na (fn:=Tryz.f199) (tS:=35) (tR:=4) (e:=3) (size:=1) Tryz.func199 rfl rfl (by kernel_rfl) (by kernel_rfl) (by kernel_rfl) (by kernel_rfl)
theorem yT:aC Tryz.prog 199 eL:=⟨(fun cs r h=>by simp [eL] at h),fun _=>BV⟩
noncomputable def iz:Env:={ T:=fa Tryz.prog,G:=fun d f=>if d=67/\f=199 then some eL else none }
theorem ej:iz.T=fa Tryz.prog:=rfl
theorem eu (d:Nat):iz.F d=none:=rfl
theorem en (d f:Nat):iz.L d f=none:=rfl
theorem ek:iz.G 67 199=some eL:=rfl
theorem EI:GOk Tryz.prog { T:=fa Tryz.prog,G:=iz.G }:=by
 refine ⟨?_,fun _ _ _ h=>by cases h⟩;intro d f fs hfs;simp only [iz] at hfs;split at hfs
 ·rename_i hc; obtain ⟨rfl,rfl⟩:=hc; obtain rfl:=aco hfs; exact yT
 cases hfs
theorem FH:Eg Tryz.prog 129 Tryz.f129 Tryz.f129.body.get! := ⟨Tryz.func129,rfl,by decide,by kernel_rfl⟩
set_option maxHeartbeats 4000000 in
theorem Gh {α:Type} (row:α->List C) (ok:ar row) (l:List α) (i:Nat) (x:α) (k:Nat) (r:List α) (hr:r=l.take i++[x]++l.drop i) (hi:i<=l.length) (hsz:(l.length+1) * 8<=140737488355328) (hk1:l.length<=k) (hk2:k<=maxLen) :
  Con Tryz.prog 129 [true,false,true] false [.sl true none 1 (some k) (l.map row),vI i,sO 1 ([x].map row)] (sO 1 (r.map row)):=by
 refine IK (E:=iz) (y6 Tryz.prog _) EI mix FH (ab5 rfl) ?_;intro _;rw [vk (by simp)];rw [show gN [true,false,true] [C.sl true none 1 (some k) (l.map row),C.val (.int .i64 i),C.sl true none 1 none ([x].map row)]=(af (af (af av 0 (.pal 0 [] 0 l.length none)) 1 (vI i)) 2 (.pal 2 [] 0 1 none)) from by funext t; match t with|0=>simp [gN,jz,kG,af]|1=>rfl|2=>rfl|t+3=>rfl];rw [show R0 [true,false,true] [C.sl true none 1 (some k) (l.map row),C.val (.int .i64 i),C.sl true none 1 none ([x].map row)]=upd (upd RZ 0 (C.sl true none 1 (some k) (l.map row))) 2 (C.sl true none 1 none ([x].map row)) from by funext t; match t with|0=>rfl|1=>rfl|2=>rfl|t+3=>rfl];apply IX;simp only [Tryz.f129,Option.get!];have hi1:(i:Int)<=(l.length:Int):=by omega
 have hi2:i<=l.length:=hi;have h10:(((1:Nat):Int)=0)=False:=by simp
 have hp:(row x).all Abs.plainCell=true:=ok.plain x;have hf:(row x).map C.frz=(row x):=ok.frz x;have hpD:(row x).all qL=true:=by have:=(ar.allD ok [x]); simpa using this
 have hw1:IntKind.i64.wrap ((l.length:Int)+((1:Nat):Int))=((l.length+1:Nat):Int):=by rw [my (by omega) (by omega)]; rfl
 have hlt0:(l.take i).length=i:=by simp; omega
 have hes:(1 != 0)=true:=rfl;have hm1:min 1 (l.length+1 - i)=1:=by omega
 have hm2:min (l.length - i) (l.length+1 - (i+1))=l.length - i:=by omega
 have hm3:(l.drop i).take (l.length - i)=l.drop i:=ab3 (by simp);have hm4:i+1<=l.length+1:=by omega
 have hw2:IntKind.i64.wrap (((l.length+1:Nat):Int) - (i:Int))=((l.length+1 - i:Nat):Int):=by rw [my (by omega) (by omega)]; omega
 have hw1b:IntKind.i64.wrap ((l.length:Int)+1)=((l.length+1:Nat):Int):=hw1;have hw3:IntKind.i64.wrap ((i:Int)+((1:Nat):Int))=((i+1:Nat):Int):=by rw [my (by omega) (by omega)]; rfl
 have hw3b:IntKind.i64.wrap ((i:Int)+1)=((i+1:Nat):Int):=hw3;simp only [go_sem,seval,ej,eu,en,ek,hi1,hi2,h10,abI,hp,hf,hpD,ar.frzRows ok,ar.all ok,ar.allPlain ok,ar.allD ok,aK,gv,fb,bO,eP,fw,kz,ic,dt,aS,gH,Ext.all,ib,bA,abF,hw1,hw2,hw3,hw1b,hw3b,acB,ab2,abU,eh,bne_self_eq_false,acg,decide_not,abR,hlt0,hm1,hm2,hm3,hm4,bn,bj,ace];refine Kq rfl ?_;simp only [go_sem,seval,ej,eu,en,ek,hi1,hi2,h10,abI,hp,hf,hpD,ar.frzRows ok,ar.all ok,ar.allPlain ok,ar.allD ok,aK,gv,fb,bO,eP,fw,kz,ic,dt,aS,gH,Ext.all,ib,bA,abF,hw1,hw2,hw3,hw1b,hw3b,acB,ab2,abU,eh,bne_self_eq_false,acg,decide_not,abR,hlt0,hm1,hm2,hm3,hm4,bn,bj,ace];refine tM rfl (fun hc=>?_) (fun hc=>?_)
 ·have e:i=l.length:=by omega
  subst e;simp only [go_sem,seval,ej,eu,en,ek,hi1,hi2,h10,abI,hp,hf,hpD,ar.frzRows ok,ar.all ok,ar.allPlain ok,ar.allD ok,aK,gv,fb,bO,eP,fw,kz,ic,dt,aS,gH,Ext.all,ib,bA,abF,hw1,hw2,hw3,hw1b,hw3b,acB,ab2,abU,eh,bne_self_eq_false,acg,decide_not,abR,hlt0,hm1,hm2,hm3,hm4,bn,bj,ace,eD,gI,hsz];refine sI ok ?_;rw [hr];simp [ab3]
 ·have hc1:decide ((i:Int)=(l.length:Int))=false:=decide_eq_false hc;have hlt:i < l.length:=by omega
  simp only [go_sem,seval,ej,eu,en,ek,hi1,hi2,h10,abI,hp,hf,hpD,ar.frzRows ok,ar.all ok,ar.allPlain ok,ar.allD ok,aK,gv,fb,bO,eP,fw,kz,ic,dt,aS,gH,Ext.all,ib,bA,abF,hw1,hw2,hw3,hw1b,hw3b,acB,ab2,abU,eh,bne_self_eq_false,acg,decide_not,abR,hlt0,hm1,hm2,hm3,hm4,bn,bj,ace,hc1];refine tM rfl (fun hk=>?_) (fun hk=>?_)
  ·have hk1:decide (k < l.length+1)=true:=decide_eq_true hk;have hk2:k < i+(l.length+1 - i):=by omega
   have e1:i+(l.length+1 - i)=l.length+1:=by omega
   have hi3:(i:Int)<=((l.length+1:Nat):Int):=by omega
   have hi4:i<=l.length+1:=by omega
   obtain ⟨A,hA⟩:∃ A,List.map row (List.take i l)++List.replicate (l.length+1 - i) [C.val (Value.int .i64 0)]=A:=⟨_,rfl⟩;have hAp:bX A:=by rw [<-hA]; exact j6 (gF ok _) (zS _ [Value.int .i64 0] (by simp [Value.oneCell']))
   have hAl:A.length=l.length+1:=by rw [<-hA,ack,abJ,hlt0,abR]; omega
   obtain ⟨B,hB⟩:∃ B,aL A i [(row x)]=B:=⟨_,rfl⟩;have hBp:bX B:=by rw [<-hB]; exact gK hAp ⟨by simp [frzRows,hf],by simp [hpD]⟩
   have hBl:B.length=l.length+1:=by rw [<-hB]; simp [aL,hAl]; omega
   obtain ⟨D,hD⟩:∃ D,aL B (i+1) (List.map row (List.drop i l))=D:=⟨_,rfl⟩;have hDp:bX D:=by rw [<-hD]; exact gK hBp (gF ok _)
   have hDl:D.length=l.length+1:=by rw [<-hD]; simp [aL,hBl]; omega
   have hDe:D=(l.take i++[x]++l.drop i).map row:=by
    rw [<-hD,<-hB,<-hA,ado,ade,Nl (A:=l.map row) (n:=l.length) (by simp) hi2 (by simp)];simp
   simp only [go_sem,seval,ej,eu,en,ek,hi1,hi2,h10,abI,hp,hf,hpD,ar.frzRows ok,ar.all ok,ar.allPlain ok,ar.allD ok,aK,gv,fb,bO,eP,fw,kz,ic,dt,aS,gH,Ext.all,ib,bA,abF,hw1,hw2,hw3,hw1b,hw3b,acB,ab2,abU,eh,bne_self_eq_false,acg,decide_not,abR,hlt0,hm1,hm2,hm3,hm4,bn,bj,ace,hc1,hk1,hk,hk2,e1,hi3,hi4,hA,hAl,hAp.1,hAp.2,hB,hBp.1,hBp.2,hBl,hD,hDp.1,hDp.2,hsz];repeat' ((with_reducible refine gS ?_ ?_); kernel_rfl)
   simp only [go_sem,seval,ej,eu,en,ek,hi1,hi2,h10,abI,hp,hf,hpD,ar.frzRows ok,ar.all ok,ar.allPlain ok,ar.allD ok,aK,gv,fb,bO,eP,fw,kz,ic,dt,aS,gH,Ext.all,ib,bA,abF,hw1,hw2,hw3,hw1b,hw3b,acB,ab2,abU,eh,bne_self_eq_false,acg,decide_not,abR,hlt0,hm1,hm2,hm3,hm4,bn,bj,ace,eD,gI,hDp.1,hDp.2,hD];refine sI ok ?_;rw [hr,<-hDe,<-hDl,adC]
  ·have hk1:decide (k < l.length+1)=false:=decide_eq_false hk;have hk2:¬ k < i+(l.length+1 - i):=by omega
   have hk3:l.length+1<=k:=by omega
   have e2:l.length+1 - l.length=1:=by omega
   have e3:l.length<=l.length+1:=by omega
   have hi3:(i:Int)<=((l.length+1:Nat):Int):=by omega
   have hi4:i<=l.length+1:=by omega
   have hne:¬ l.length+1 - (i+1)=0:=by omega
   have hne2:¬ l.length - i=0:=by omega
   obtain ⟨A,hA⟩:∃ A,List.map row l++[[C.dead]]=A:=⟨_,rfl⟩;have hAp:bX A:=by rw [<-hA]; exact j6 (gF ok _) (Dw 1 1)
   have hAl:A.length=l.length+1:=by rw [<-hA]; simp
   have hm5:min (l.length+1 - i) (l.length+1 - (i+1))=l.length - i:=by omega
   have hm5b:min (l.length+1 - i) (l.length - i)=l.length - i:=by omega
   obtain ⟨A2,hA2⟩:∃ A2,(A.drop i).take (l.length - i)=A2:=⟨_,rfl⟩;have hA2e:A2=List.map row (l.drop i):=by
    rw [<-hA2,<-hA,adV,abJ,show i - l.length=0 by omega,ada,adn,ab3 (by simp),show l.length - i - (List.drop i (List.map row l)).length=0 by simp];simp [ade]
   have hA2p:(A2.all fun r=>r.all Abs.plainCell)=true:=by rw [hA2e]; exact ok.allPlain _
   have hA2f:frzRows A2=A2:=by rw [hA2e]; exact ok.frzRows _
   have hA2d:bX A2:=by rw [hA2e]; exact gF ok _
   obtain ⟨B,hB⟩:∃ B,aL A (i+1) A2=B:=⟨_,rfl⟩;have hBp:bX B:=by rw [<-hB]; exact gK hAp hA2d
   have hBl:B.length=l.length+1:=by rw [<-hB]; simp [aL,hAl,hA2e]; omega
   obtain ⟨D,hD⟩:∃ D,aL B i [(row x)]=D:=⟨_,rfl⟩;have hDp:bX D:=by rw [<-hD]; exact gK hBp ⟨by simp [frzRows,hf],by simp [hpD]⟩
   have hDl:D.length=l.length+1:=by rw [<-hD]; simp [aL,hBl]; omega
   have hDe:D=(l.take i++[x]++l.drop i).map row:=by
    rw [<-hD,<-hB,<-hA2,<-hA,Kl (A:=l.map row) (n:=l.length) (by simp) hi2];simp [ado,ade]
   simp only [go_sem,seval,ej,eu,en,ek,hi1,hi2,h10,abI,hp,hf,hpD,ar.frzRows ok,ar.all ok,ar.allPlain ok,ar.allD ok,aK,gv,fb,bO,eP,fw,kz,ic,dt,aS,gH,Ext.all,ib,bA,abF,hw1,hw2,hw3,hw1b,hw3b,acB,ab2,abU,eh,bne_self_eq_false,acg,decide_not,abR,hlt0,hm1,hm2,hm3,hm4,bn,bj,ace,hc1,hk1,hk,hk2,hk3,e2,e3,hi3,hi4,hne,hne2,hA,hAl,hAp.1,hAp.2,hes,hA2,hA2p,hA2f,hB,hBp.1,hBp.2,hBl,hD,hDp.1,hDp.2,hDl,hm5,hm5b];refine Kx rfl ?_;simp only [go_sem,seval,ej,eu,en,ek,hi1,hi2,h10,abI,hp,hf,hpD,ar.frzRows ok,ar.all ok,ar.allPlain ok,ar.allD ok,aK,gv,fb,bO,eP,fw,kz,ic,dt,aS,gH,Ext.all,ib,bA,abF,hw1,hw2,hw3,hw1b,hw3b,acB,ab2,abU,eh,bne_self_eq_false,acg,decide_not,abR,hlt0,hm1,hm2,hm3,hm4,bn,bj,ace,hc1,hk1,hk,hk2,hk3,e2,e3,hi3,hi4,hne,hne2,hA,hAl,hAp.1,hAp.2,hes,hA2,hA2p,hA2f,hB,hBp.1,hBp.2,hBl,hD,hDp.1,hDp.2,hDl,hm5,hm5b];repeat' ((with_reducible refine gS ?_ ?_); kernel_rfl)
   simp only [go_sem,seval,ej,eu,en,ek,hi1,hi2,h10,abI,hp,hf,hpD,ar.frzRows ok,ar.all ok,ar.allPlain ok,ar.allD ok,aK,gv,fb,bO,eP,fw,kz,ic,dt,aS,gH,Ext.all,ib,bA,abF,hw1,hw2,hw3,hw1b,hw3b,acB,ab2,abU,eh,bne_self_eq_false,acg,decide_not,abR,hlt0,hm1,hm2,hm3,hm4,bn,bj,ace,eD,gI,hDp.1,hDp.2,hD,hDl];refine sI ok ?_;rw [hr,<-hDe,<-hDl,adC]
theorem Ha (N:Nat) (a0:List Int) (a1:Int) (a2:List Int) (r:List Int) (h:m9 N a0 a1 a2=some r) :
  Con Tryz.prog 129 [true,false,true] false [sO 1 (a0.map (aA .i64)),vI a1,sO 1 (a2.map (aA .i64))] (sO 1 (r.map (aA .i64))):=by
 unfold m9 at h;obtain ⟨n,x,rfl,rfl,h1,h2,h3⟩:=Bl h;exact Jg fun k hk1 hk2=>Gh (aA .i64) (mR .i64) a0 n x k r (aco h3).symm h1 h2 (by simpa using hk1) hk2
def gy (N:Nat):FnS:={ own:=[true,false,true],pure:=false,fn:=fun cs=>match cs with
 | [c0,c1,c2]=>(vL 1 (eb (aG .i64)) c0).bind fun q0=>(aG .i64 c1).bind fun q1=>(vL 1 (eb (aG .i64)) c2).bind fun q2=>(m9 N q0 q1 q2).map fun r=>sO 1 (r.map (aA .i64))
 | _=>none }
theorem CA (N:Nat):(gy N).own=[true,false,true]:=rfl
theorem B7 (N:Nat):(gy N).pure=false:=rfl
theorem B4 (N:Nat):(gy N).peek=false:=rfl
attribute [go_sem] gy CA B7 B4
theorem Db (N:Nat):aC Tryz.prog 129 (gy N):=by
 refine ⟨fun cs r h=>?_,fun h=>by cases h⟩;simp only [gy] at h;split at h
 ·simp only [abC,abB] at h;obtain ⟨q0,h0,q1,h1,q2,h2,r',hr,rfl⟩:=h;exact (Ha N q0 q1 q2 r' hr).argsO rfl (jW (qq (mR .i64) (jR .i64) h0) (rG (bN h1) (jW (qq (mR .i64) (jR .i64) h2) oD)))
 ·cases h


@[go_sem] noncomputable def LZ (N d f:Nat):Option FnS:=ay [(14,116,lD N),(18,124,pU N),(23,125,sj N),(29,126,yA N),(38,117,kF N),(44,127,fU N),(52,128,uA N),(64,117,kF N),(74,117,kF N),(78,117,kF N),(88,117,zu N),(99,129,gy N)] d f
theorem Lw (N:Nat) (a0:(List ai)) (a1:Ref) (a2:Int) (r:(List ai) × Int × Int) (h:qm N a0 a1 a2=some r):Con Tryz.prog 58 [] false [sF 4 (a0.map ai.row),.agg [vS a1.Type_,vS a1.Key],vI a2] (.tup [sO 4 (r.1.map ai.row),vI r.2.1,vI r.2.2]):=by
 refine fk (G:=(LZ N)) Tryz.func58 (gc 14 (kU N) (gc 18 (rN N) (gc 23 (tU N) (gc 29 (yX N) (gc 38 (kn N) (gc 44 (Cs N) (gc 52 (Af N) (gc 64 (kn N) (gc 74 (kn N) (gc 78 (kn N) (gc 88 (BP N) (gc 99 (Db N) gn)))))))))))) ?_;simp only [Tryz.f58];unfold qm at h;refine z0 ?_;refine aM ?_;apply aW (fun (c9:Bool)=>⟨tab 103 (af (af (af (af av 0 (sF 4 (a0.map ai.row))) 2 (vI a2)) 4 (pF 4)) 25 (vB c9)),(upd RZ 4 (vA 2 [vS a1.Type_,vS a1.Key]))⟩)
 ·intro hJ1;obtain ⟨r10,hr2,h⟩:=bI h;refine iBs h (fun hc3 h=>?_) fun hc3 h=>?_
  ·refine z1 (k2 hr2 hc3) ?_;refine hJ1 _ true ?_ h;exact wR
  obtain ⟨r11,hr4,h⟩:=bI h;refine iBs h (fun hc5 h=>?_) fun hc5 h=>?_
  ·refine z1 (k4 hr2 hc3 hr4 hc5) ?_;refine hJ1 _ true ?_ h;exact wR
  obtain ⟨r12,hr6,h⟩:=bI h;refine z1 (k5 hr2 hc3 hr4 hc5 hr6) ?_;refine hJ1 _ (!r12) ?_ h;exact wR
 intro c9 h;unfold pA at h;refine cB h (fun hc7 h=>?_) fun hc7 h=>?_
 ·refine z1 hc7 ?_;exact f0 h
 refine bf (pp ?_);unfold pd at h;obtain ⟨r13,hr8,h⟩:=bI h;refine z1 (k2 hc7 hr8) ?_;refine z0 ?_;refine cM h (fun hc9 h=>?_) fun hc9 h=>?_
 ·refine z1 hc9 ?_;refine cD h (fun hc10 hc10d h=>?_) fun hc10 hc10d h=>?_
  ·refine z1 hc10d ?_;exact f0 h
  obtain ⟨r14,hr11,h⟩:=bI h;obtain ⟨r15,hr12,h⟩:=bI h;refine d1 (k3 hc10d hr11 hr12) ?_;exact f0 h
 obtain ⟨x16,hb13,hx14,h⟩:=aH h;obtain ⟨r17,hr15,h⟩:=bI h;refine z1 (k4 hc9 hb13 hx14 hr15) ?_;refine z1 (k2 hb13 hx14) ?_;refine cD h (fun hc16 hc16d h=>?_) fun hc16 hc16d h=>?_
 ·obtain ⟨r18,hr17,h⟩:=bI h;refine z1 (k2 hc16d hr17) ?_;exact f0 h
 refine z1 (k3 hb13 hx14 hc16d) ?_;refine cD h (fun hc18 hc18d h=>?_) fun hc18 hc18d h=>?_
 ·obtain ⟨r19,hr19,h⟩:=bI h;refine z1 (k2 hc18d hr19) ?_;exact f0 h
 refine z1 hc18d ?_;refine cB h (fun hc20 h=>?_) fun hc20 h=>?_
 ·obtain ⟨r20,hr21,h⟩:=bI h;refine z1 (k2 hc20 hr21) ?_;exact f0 h
 refine z1 (k3 hb13 hx14 hc20) ?_;refine cD h (fun hc22 hc22d h=>?_) fun hc22 hc22d h=>?_
 ·refine z1 hc22d ?_;exact f0 h
 obtain ⟨r21,hr23,h⟩:=bI h;refine z1 (k2 hc22d hr23) ?_;obtain ⟨x22,hb24,hx25,h⟩:=aH h;obtain ⟨r23,hr26,h⟩:=bI h;refine z1 (k5 hb13 hb24 hx25 (ov1 (row:=ai.rowD) (rx:=[vS x22.Actor.Type_,vS x22.Actor.Key,vI x22.Owner,sO 1 (x22.Waiters.map (aA .i64))]) hx25 rfl) (k3 (ov2 (row:=ai.rowD) hx25) (ov3 (row:=ai.rowD) hx25) hr26)) ?_;refine z0 ?_;exact f0 h
@[go_sem] def Cg (N:Nat):FnS:=⟨[],false,fn3 (aJ 4 ai.dec) Ref.decA (aG .i64) fun q0 q1 q2=>(qm N q0 q1 q2).map fun r=>.tup [sO 4 (r.1.map ai.row),vI r.2.1,vI r.2.2],false⟩
theorem GJ (N:Nat):aC Tryz.prog 58 (Cg N):=om3 (Lw N)


theorem Ju (N:Nat) (a0:Int) (r:Int) (h:vc N a0=some r):Con Tryz.prog 182 [] true [.val (.int .u64 a0)] (vI r):=by
 refine fk (G:=(ay [])) Tryz.func182 gn ?_;simp only [Tryz.f182];unfold vc at h;refine z0 ?_;apply Dv (fun (v1:Int) (v2:Int)=>⟨tab 25 (af (af av 0 (.val (.int .u64 v1))) 2 (vI v2)),RZ⟩)
 ·intro hJ1;refine z0 ?_;refine cD h (fun hc2 hc2d h=>?_) fun hc2 hc2d h=>?_
  ·refine z1 hc2d ?_;refine z0 ?_;refine hJ1 _ (kJ .u64 a0 32) 32 ?_ h;exact wR
  refine bf (pp (hJ1 _ a0 0 ?_ h));exact wR
 intro v1 v2 h;unfold vR at h;apply Dv (fun (v3:Int) (v4:Int)=>⟨tab 25 (af (af av 0 (.val (.int .u64 v3))) 2 (vI v4)),RZ⟩)
 ·intro hJ3;refine z0 ?_;refine cD h (fun hc4 hc4d h=>?_) fun hc4 hc4d h=>?_
  ·refine z1 hc4d ?_;refine z0 ?_;refine hJ3 _ (kJ .u64 v1 16) (IntKind.i64.wrap (v2+16)) ?_ h;exact wR
  refine bf (pp (hJ3 _ v1 v2 ?_ h));exact wR
 intro v3 v4 h;unfold vm at h;apply Dv (fun (v5:Int) (v6:Int)=>⟨tab 25 (af (af av 0 (.val (.int .u64 v5))) 2 (vI v6)),RZ⟩)
 ·intro hJ5;refine z0 ?_;refine cD h (fun hc6 hc6d h=>?_) fun hc6 hc6d h=>?_
  ·refine z1 hc6d ?_;refine z0 ?_;refine hJ5 _ (kJ .u64 v3 8) (IntKind.i64.wrap (v4+8)) ?_ h;exact wR
  refine bf (pp (hJ5 _ v3 v4 ?_ h));exact wR
 intro v5 v6 h;unfold vy at h;obtain ⟨b7,hb7,hx8,h⟩:=VR h;refine z1 (k2 hb7 hx8) ?_;exact e0 h
@[go_sem] def Bp (N:Nat):FnS:=⟨[],true,fn1 (aG .u64) fun q0=>(vc N q0).map fun r=>vI r,false⟩
theorem EX (N:Nat):aC Tryz.prog 182 (Bp N):=om1 (Ju N)


@[go_sem] noncomputable def Mq (N d f:Nat):Option FnS:=ay [(7,182,Bp N)] d f
theorem Lo (N:Nat) (a0:Int) (r:Int) (h:uE N a0=some r):Con Tryz.prog 102 [] true [.val (.int .u64 a0)] (vI r):=by
 refine fk (G:=(Mq N)) Tryz.func102 (gc 7 (EX N) gn) ?_;simp only [Tryz.f102];unfold uE at h;refine z0 ?_;refine cf ?_;first|rw [if_pos (rfl:true=true)] at h|rw [if_neg acz] at h|skip
 obtain ⟨r1,hr1,h⟩:=bI h;refine z1 hr1 ?_;exact e0 h
@[go_sem] def yR (N:Nat):FnS:=⟨[],true,fn1 (aG .u64) fun q0=>(uE N q0).map fun r=>vI r,false⟩
theorem Ai (N:Nat):aC Tryz.prog 102 (yR N):=om1 (Lo N)


@[go_sem] noncomputable def ve (N d f:Nat):Option FnS:=ay [(29,197,zA N)] d f
theorem k8 (N:Nat) (a0:(List Int)) (a1:Int) (a2:Int) (r:(List Int)) (h:dB N a0 a1 a2=some r):(r).length=a0.length:=by
 unfold dB at h; exact (lg h).2
theorem vg (N:Nat) (a0:(List Int)) (a1:Int) (a2:Int) (r:(List Int)) (h:dB N a0 a1 a2=some r):m6 Tryz.prog 219 1 [sO 1 (a0.map (aA .i64)),vI a1,vI a2] (.tup []) [sO 1 (r.map (aA .i64))]:=by
 unfold dB at h;obtain ⟨h,hlen⟩:=lg h;refine y9 (G:=(ve N)) (L:=noL) Tryz.func219 rfl (by decide) (by kernel_rfl) 1 (by kernel_rfl) (gc 29 (BF N) gn) (fun _ _ _ h=>by cases h) [] mix (ab5 rfl) (ab5 rfl) rfl (by simp [dT,hlen]) ?_;simp only [Tryz.f219];refine z0 ?_;refine aX (iT (fun (b:Int)=>⟨tab 49 (af (af (af (af av 0 (.pal 0 [] 0 a0.length none)) 1 (vI a1)) 2 (vI a2)) 6 (vI b)),(upd RZ 0 (sO 1 (a0.map (aA .i64))))⟩) (IntKind.i64.wrap (a1+1)) h ?_ ?_)
 ·exact wR
 rintro n v1 h -;cases n with
 | zero=>simp [fh] at h
 | succ n=>
 simp only [fh] at h;refine z0 ?_;refine cDs h (fun hc1 hc1d h=>?_) fun hc1 hc1d h=>?_
 ·refine iR (pp ?_);obtain rfl:=aco h;refine CN (.inr rfl) (bm.refl _) (by simp only [go_sem,seval,hc1d]; rfl) (by simp only [go_sem,seval]; rfl) (by (try simp only [go_sem,seval]); first|exact Le.refl _|exact LeI.h) ?_;exact CL (by simp only [go_sem,seval,hc1d]<;>rfl) (by simp only [go_sem,seval]<;>rfl) (Fq)
 refine z1 hc1d ?_;refine aX (iT (fun (b:Unit)=>⟨tab 49 (af (af (af (af (af av 0 (.pal 0 [] 0 a0.length none)) 1 (vI a1)) 2 (vI a2)) 6 (vI v1)) 7 (vI v1)),(upd RZ 0 (sO 1 (a0.map (aA .i64))))⟩) () h ?_ ?_)
 ·exact wR
 rintro n ⟨⟩ h -;cases n with
 | zero=>simp [iy] at h
 | succ n=>
 simp only [iy] at h;refine aM ?_;apply aW (fun (c9:Bool)=>⟨tab 49 (af (af (af (af (af (af av 0 (.pal 0 [] 0 a0.length none)) 1 (vI a1)) 2 (vI a2)) 6 (vI v1)) 7 (vI v1)) 30 (vB c9)),(upd RZ 0 (sO 1 (a0.map (aA .i64))))⟩)
 ·intro hJ2;refine iDs h (fun hc3 hc3d h=>?_) fun hc3 hc3d h=>?_
  ·refine d1 hc3d ?_;refine hJ2 _ false ?_ h;exact wR
  obtain ⟨x10,hb4,hx5,h⟩:=aH h;obtain ⟨x11,hb6,hx7,h⟩:=aH h;obtain ⟨r12,hr8,h⟩:=bI h;refine d1 (k5 hc3d hb4 hx5 hb6 (k2 hx7 hr8)) ?_;refine hJ2 _ r12 ?_ h;exact wR
 intro c9 h;unfold iq at h;refine cB h (fun hc9 h=>?_) fun hc9 h=>?_
 ·refine bf (pp ?_);unfold iC at h;refine aM (aX ?_);obtain ⟨x13,hb10,hx11,h⟩:=aH h;obtain ⟨x14,hb12,hx13,h⟩:=aH h;cases h
 refine z1 hc9 ?_;refine ⟨_,acn _,(IntKind.i64.wrap (v1+1)),?_,h⟩;exact wR
@[go_sem] def iA (N:Nat):FnL:=⟨1,fun cs rest=>match cs,rest with
 | [v0],[c1,c2]=>(CU 1 (eb (aG .i64)) v0).bind fun q0=>((aG .i64) c1).bind fun q1=>((aG .i64) c2).bind fun q2=>(dB N q0 q1 q2).map fun r=>(.tup [],[sO 1 (r.map (aA .i64))])
 | _,_=>none,false⟩
theorem tj (N:Nat):wM Tryz.prog 219 (iA N):=by
 refine H5 (adK _) rfl ?_;intro cs rest r ls hlen h;simp only [iA] at h;split at h
 ·simp only [abC,abB] at h;obtain ⟨q0,h0,q1,h1,q2,h2,r',hr,he⟩:=h;cases he;exact m6.told rfl rfl (zi (zh (mR .i64) (jR .i64) h0) (BB)) ((LeL.cons (bN h1) (LeL.cons (bN h2) (LeL.nil)))) (vg N q0 q1 q2 r' hr)
 ·cases h


@[go_sem] noncomputable def zl (N d f:Nat):Option FnL:=Bd [(27,219,iA N)] d f
theorem oF (N:Nat) (a0:(List Int)) (a1:Int) (a2:Int) (a3:Int) (r:(List Int)) (h:eJ N a0 a1 a2 a3=some r):(r).length=a0.length:=by
 unfold eJ at h; exact (lg h).2
theorem zj (N:Nat) (a0:(List Int)) (a1:Int) (a2:Int) (a3:Int) (r:(List Int)) (h:eJ N a0 a1 a2 a3=some r):m6 Tryz.prog 185 1 [sO 1 (a0.map (aA .i64)),vI a1,vI a2,vI a3] (.tup []) [sO 1 (r.map (aA .i64))]:=by
 unfold eJ at h;obtain ⟨h,hlen⟩:=lg h;refine y9 (G:=(ay [])) (L:=(zl N)) Tryz.func185 rfl (by decide) (by kernel_rfl) 1 (by kernel_rfl) gn (lc 27 (tj N) ln) [] mix (ab5 rfl) (ab5 rfl) rfl (by simp [dT,hlen]) ?_;simp only [Tryz.f185];refine z0 ?_;refine z0 ?_;refine aX (iT (fun (b:Unit)=>⟨tab 134 (af (af (af (af (af (af av 0 (.pal 0 [] 0 a0.length none)) 1 (vI a1)) 2 (vI a2)) 3 (vI a3)) 8 (vB true)) 9 (vB true)),(upd RZ 0 (sO 1 (a0.map (aA .i64))))⟩) () h ?_ ?_)
 ·exact wR
 rintro n ⟨⟩ h -;cases n with
 | zero=>simp [jO] at h
 | succ n=>
 simp only [jO] at h;refine z0 ?_;refine z0 ?_;refine cDs h (fun hc1 hc1d h=>?_) fun hc1 hc1d h=>?_
 ·refine z1 hc1d ?_;refine cD h (fun hc3 hc3d h=>?_) fun hc3 hc3d h=>?_
  ·refine aM ?_;cases h
  refine z1 hc3d ?_;refine cf ?_;first|rw [if_pos (rfl:true=true)] at h|rw [if_neg acz] at h|skip
  refine bf (pp (aM ?_));cases h
 obtain ⟨r1,hr2,h⟩:=bI h;refine z1 (k3 hc1d hr2 (k8 N a0 a1 a2 r1 hr2)) ?_;refine fD (pp ?_);obtain rfl:=aco h;refine CN (.inl rfl) (bm.refl _) (by simp only [go_sem,seval]; rfl) (by simp only [go_sem,seval]; rfl) (by (try simp only [go_sem,seval]); first|exact Le.refl _|exact LeI.h) ?_;exact CL (by simp only [go_sem,seval,k8 N a0 a1 a2 r1 hr2]<;>rfl) (by simp only [go_sem,seval]<;>rfl) (Fq)
@[go_sem] def jQ (N:Nat):FnL:=⟨1,fun cs rest=>match cs,rest with
 | [v0],[c1,c2,c3]=>(CU 1 (eb (aG .i64)) v0).bind fun q0=>((aG .i64) c1).bind fun q1=>((aG .i64) c2).bind fun q2=>((aG .i64) c3).bind fun q3=>(eJ N q0 q1 q2 q3).map fun r=>(.tup [],[sO 1 (r.map (aA .i64))])
 | _,_=>none,false⟩
theorem wk (N:Nat):wM Tryz.prog 185 (jQ N):=by
 refine H5 (adK _) rfl ?_;intro cs rest r ls hlen h;simp only [jQ] at h;split at h
 ·simp only [abC,abB] at h;obtain ⟨q0,h0,q1,h1,q2,h2,q3,h3,r',hr,he⟩:=h;cases he;exact m6.told rfl rfl (zi (zh (mR .i64) (jR .i64) h0) (BB)) ((LeL.cons (bN h1) (LeL.cons (bN h2) (LeL.cons (bN h3) (LeL.nil))))) (zj N q0 q1 q2 q3 r' hr)
 ·cases h


@[go_sem] noncomputable def DH (N d f:Nat):Option FnS:=ay [(9,102,yR N)] d f
@[go_sem] noncomputable def DF (N d f:Nat):Option FnL:=Bd [(10,185,jQ N)] d f
theorem Cz (N:Nat) (a0:(List Int)) (r:(List Int)) (h:iU N a0=some r):(r).length=a0.length:=by
 unfold iU at h; exact (lg h).2
theorem wH (N:Nat) (a0:(List Int)) (r:(List Int)) (h:iU N a0=some r):m6 Tryz.prog 109 1 [sO 1 (a0.map (aA .i64))] (.tup []) [sO 1 (r.map (aA .i64))]:=by
 unfold iU at h;obtain ⟨h,hlen⟩:=lg h;refine y9 (G:=(DH N)) (L:=(DF N)) Tryz.func109 rfl (by decide) (by kernel_rfl) 1 (by kernel_rfl) (gc 9 (Ai N) gn) (lc 10 (wk N) ln) [] mix (ab5 rfl) (ab5 rfl) rfl (by simp [dT,hlen]) ?_;simp only [Tryz.f109];refine z0 ?_;obtain ⟨r1,hr1,h⟩:=bI h;obtain ⟨r2,hr2,h⟩:=bI h;refine z1 (k3 hr1 hr2 (oF N a0 0 (a0.length:Int) r1 r2 hr2)) ?_;obtain rfl:=aco h;refine CN (.inr rfl) (bm.refl _) (by simp only [go_sem,seval]; rfl) (by simp only [go_sem,seval]; rfl) (by (try simp only [go_sem,seval]); first|exact Le.refl _|exact LeI.h) ?_;exact CL (by simp only [go_sem,seval,oF N a0 0 (a0.length:Int) r1 r2 hr2]<;>rfl) (by simp only [go_sem,seval]<;>rfl) (Fq)
@[go_sem] def vj (N:Nat):FnL:=⟨1,fun cs rest=>match cs,rest with
 | [v0],[]=>(CU 1 (eb (aG .i64)) v0).bind fun q0 =>  (iU N q0).map fun r=>(.tup [],[sO 1 (r.map (aA .i64))])
 | _,_=>none,false⟩
theorem NM (N:Nat):wM Tryz.prog 109 (vj N):=by
 refine H5 (adK _) rfl ?_;intro cs rest r ls hlen h;simp only [vj] at h;split at h
 ·simp only [abC,abB] at h;obtain ⟨q0,h0,r',hr,he⟩:=h;cases he;exact m6.told rfl rfl (zi (zh (mR .i64) (jR .i64) h0) (BB)) ((LeL.nil)) (wH N q0 r' hr)
 ·cases h


def Ho:Go.Shelf.Ren:=⟨fun|125=>102|128=>181|129=>182|189=>109|215=>228|216=>197|257=>185|294=>219|295=>220|296=>221|297=>222|298=>223|299=>224|300=>225|301=>226|328=>232|329=>215|330=>216|331=>233|332=>234|343=>237|n=>n,fun|0=>0|3=>3|4=>4|5=>5|9=>9|28=>35|46=>136|51=>186|53=>188|131=>115|182=>179|183=>180|218=>207|222=>211|228=>219|229=>220|n=>n,fun n=>n⟩
theorem Hi:Go.Proofs.Lays.n189 Tryz.prog Ho where
 mixed:=by kernel_rfl
 f125:=Tryz.func102.trans (congrArg some (by kernel_rfl))
 f128:=Tryz.func181.trans (congrArg some (by kernel_rfl))
 f129:=Tryz.func182.trans (congrArg some (by kernel_rfl))
 f189:=Tryz.func109.trans (congrArg some (by kernel_rfl))
 f215:=Tryz.func228.trans (congrArg some (by kernel_rfl))
 f216:=Tryz.func197.trans (congrArg some (by kernel_rfl))
 f257:=Tryz.func185.trans (congrArg some (by kernel_rfl))
 f294:=Tryz.func219.trans (congrArg some (by kernel_rfl))
 f295:=Tryz.func220.trans (congrArg some (by kernel_rfl))
 f296:=Tryz.func221.trans (congrArg some (by kernel_rfl))
 f297:=Tryz.func222.trans (congrArg some (by kernel_rfl))
 f298:=Tryz.func223.trans (congrArg some (by kernel_rfl))
 f299:=Tryz.func224.trans (congrArg some (by kernel_rfl))
 f300:=Tryz.func225.trans (congrArg some (by kernel_rfl))
 f301:=Tryz.func226.trans (congrArg some (by kernel_rfl))
 f328:=Tryz.func232.trans (congrArg some (by kernel_rfl))
 f329:=Tryz.func215.trans (congrArg some (by kernel_rfl))
 f330:=Tryz.func216.trans (congrArg some (by kernel_rfl))
 f331:=Tryz.func233.trans (congrArg some (by kernel_rfl))
 f332:=Tryz.func234.trans (congrArg some (by kernel_rfl))
 f343:=Tryz.func237.trans (congrArg some (by kernel_rfl))
 t0:=Tryz.underlying0
 a0:=Tryz.isAgg0
 z0:=Tryz.sizeOf0
 v0:=Tryz.zeroValue0
 t3:=Tryz.underlying3
 a3:=Tryz.isAgg3
 z3:=Tryz.sizeOf3
 v3:=Tryz.zeroValue3
 t4:=Tryz.underlying4
 a4:=Tryz.isAgg4
 z4:=Tryz.sizeOf4
 v4:=Tryz.zeroValue4
 t5:=Tryz.underlying5
 a5:=Tryz.isAgg5
 z5:=Tryz.sizeOf5
 v5:=Tryz.zeroValue5
 t9:=Tryz.underlying9
 a9:=Tryz.isAgg9
 z9:=Tryz.sizeOf9
 v9:=Tryz.zeroValue9
 t28:=Tryz.underlying35
 a28:=Tryz.isAgg35
 z28:=Tryz.sizeOf35
 v28:=Tryz.zeroValue35
 t46:=Tryz.underlying136
 a46:=Tryz.isAgg136
 z46:=Tryz.sizeOf136
 v46:=Tryz.zeroValue136
 t51:=Tryz.underlying186
 a51:=Tryz.isAgg186
 z51:=Tryz.sizeOf186
 v51:=Tryz.zeroValue186
 t53:=Tryz.underlying188
 a53:=Tryz.isAgg188
 z53:=Tryz.sizeOf188
 v53:=Tryz.zeroValue188
 t131:=Tryz.underlying115
 a131:=Tryz.isAgg115
 z131:=Tryz.sizeOf115
 v131:=Tryz.zeroValue115
 t182:=Tryz.underlying179
 a182:=Tryz.isAgg179
 z182:=Tryz.sizeOf179
 v182:=Tryz.zeroValue179
 t183:=Tryz.underlying180
 a183:=Tryz.isAgg180
 z183:=Tryz.sizeOf180
 v183:=Tryz.zeroValue180
 t218:=Tryz.underlying207
 a218:=Tryz.isAgg207
 z218:=Tryz.sizeOf207
 v218:=Tryz.zeroValue207
 t222:=Tryz.underlying211
 a222:=Tryz.isAgg211
 z222:=Tryz.sizeOf211
 v222:=Tryz.zeroValue211
 t228:=Tryz.underlying219
 a228:=Tryz.isAgg219
 z228:=Tryz.sizeOf219
 v228:=Tryz.zeroValue219
 t229:=Tryz.underlying220
 a229:=Tryz.isAgg220
 z229:=Tryz.sizeOf220
 v229:=Tryz.zeroValue220
theorem Ag (N:Nat) (a0:(List Int)) (r:(List Int)) (h:slices_Sort_int N a0=some r):(r).length=a0.length:=by
 unfold slices_Sort_int at h;split at h
 ·exact Cz N a0 r h
 ·exact NR h
theorem Jv (N:Nat) (a0:(List Int)) (r:(List Int)) (h:slices_Sort_int N a0=some r):m6 Tryz.prog 109 1 [sO 1 (a0.map (aA .i64))] (.tup []) [sO 1 (r.map (aA .i64))]:=by
 unfold slices_Sort_int at h;split at h
 ·exact wH N a0 r h
 ·rename_i hne;exact UO Hi rfl (enters_of Tryz.func109 (by kernel_rfl) rfl) (fun e=>hne (by rw [e]; rfl)) h
@[go_sem] def vF (N:Nat):FnL:=⟨1,fun cs rest=>match cs,rest with
 | [v0],[]=>(CU 1 (eb (aG .i64)) v0).bind fun q0 =>  (slices_Sort_int N q0).map fun r=>(.tup [],[sO 1 (r.map (aA .i64))])
 | _,_=>none,false⟩
theorem Fx (N:Nat):wM Tryz.prog 109 (vF N):=by
 refine H5 (adK _) rfl ?_;intro cs rest r ls hlen h;simp only [vF] at h;split at h
 ·simp only [abC,abB] at h;obtain ⟨q0,h0,r',hr,he⟩:=h;cases he;exact m6.told rfl rfl (zi (zh (mR .i64) (jR .i64) h0) (BB)) ((LeL.nil)) (Jv N q0 r' hr)
 ·cases h


@[go_sem] noncomputable def KX (N d f:Nat):Option FnS:=ay [(45,108,fV N),(32,108,fV N)] d f
@[go_sem] noncomputable def KG (N d f:Nat):Option FnL:=Bd [(50,109,vF N)] d f
theorem KL (N:Nat) (a0:ae) (a1:Int) (r:(List Int)) (h:oZ N a0 a1=some r):Con Tryz.prog 48 [] true [.agg (ae.row a0),vI a1] (sO 1 (r.map (aA .i64))):=by
 refine Sc (G:=(KX N)) (L:=(KG N)) Tryz.func48 rfl (by decide) (by kernel_rfl) (gc 45 (fX N) (gc 32 (fX N) gn)) (lc 50 (Fx N) ln) [] mix (ab5 rfl) ?_;simp only [Tryz.f48];unfold oZ at h;refine z0 ?_;refine z0 ?_;refine aM (We (pp (aX (iT (fun (b:List Int)=>⟨tab 52 (af (af av 2 (pF 2)) 5 (.pal 39 [] 0 b.length none)),(upd (upd RZ 2 (vA 3 (ae.row a0))) 39 (sO 1 (b.map (aA .i64))))⟩) [a1] h ?_ ?_))))
 ·refine bm.trans (Q8 5 12 39 (by decide) (by decide) (by simp only [go_sem,seval]) (by simp only [go_sem,seval]; rfl) (by simp only [go_sem,seval]; rfl) (by first|(simp; done)|simp only [go_sem,seval,acN,acf,acC,acw])) ?_;refine wr ?_ ?_<;>repeat' first|rfl|constructor|simp only [go_sem,seval,acN,acf,acC,acw]
 rintro n l1 h -;cases n with
 | zero=>simp [kV] at h
 | succ n=>
 simp only [kV] at h;refine z0 ?_;refine aX (iP fun hreal2=>?_);have hl1:=hreal2.lenT 14 (by decide) (by simp only [go_sem,seval]; rfl);first|rw [abJ] at hl1|rw [fY] at hl1|rw [<-ab4,abJ] at hl1
 refine tz (fun (v4:Nat) (b:Unit)=>⟨tab 52 (af (af (af (af (af av 2 (pF 2)) 5 (.pal 39 [] 0 l1.length none)) 14 (sF 3 (a0.Stacks.map aa.row))) 15 (vI (a0.Stacks.length:Int))) 16 (vI (v4:Int))),(upd (upd RZ 2 (vA 3 (ae.row a0))) 39 (sO 1 (l1.map (aA .i64))))⟩) () h ?_ ?_
 ·refine wr ?_ ?_<;>repeat' first|rfl|constructor|simp only [go_sem,seval,acN,acf,acC,acw]
 rintro v4 ⟨⟩ hi3 h -;rcases (ov a0.Stacks v4 hi3).symm with ⟨hi3',_,hd6⟩|⟨x7,hi3',hx4,hd6⟩
 ·rw [hd6] at h;simp only [jv] at h;refine z1 hi3' ?_;refine cf ?_;refine iR (pp ?_);unfold wQ at h;obtain ⟨r33,hr20,h⟩:=bI h;refine z1 (k2 hr20 (Ag N l1 r33 hr20)) ?_;refine z0 ?_;refine fD (pp ?_);obtain rfl:=aco h;simp only [go_sem,seval,ab3 (aeY (Ag N l1 r33 hr20))];exact ⟨_,rfl,iE.h,rp.h⟩
 rw [hd6] at h;simp only [jv] at h;have hw5:=fm hi3' hl1;refine z1 hi3' ?_;refine ct ?_;refine z1 (k2 hx4 hi3') ?_;refine z0 ?_;refine z0 ?_;refine lT 21 (fun (v11:Nat) (b:Bool)=>⟨tab 52 (af (af (af (af (af (af (af (af (af av 2 (pF 2)) 5 (.pal 39 [] 0 l1.length none)) 8 (vB b)) 14 (sF 3 (a0.Stacks.map aa.row))) 15 (vI (a0.Stacks.length:Int))) 16 (vI (v4:Int))) 21 (sF 3 (x7.Layers.map al.row))) 22 (vI (x7.Layers.length:Int))) 23 (vI (v11:Int))),(upd (upd RZ 2 (vA 3 (ae.row a0))) 39 (sO 1 (l1.map (aA .i64))))⟩) false h ?_ ?_ (h0:=wF (k3 hx4 hi3' hw5))
 ·rintro v11 c10 hi9' h;simp only [gm] at h;refine z1 hi9' ?_;refine cf ?_;refine z1 hw5 ?_;first|refine ⟨(),?_,h⟩|refine ⟨hi3',(),?_,h⟩
  exact wF (k4 hx4 hi3' hw5 hi9')
 rintro v11 c10 x14 hi9' hx10 hw11 h;simp only [gm] at h;refine z1 hi9' ?_;refine ct ?_;refine z1 (k2 hx10 hi9') ?_;refine aM ?_;apply Dv (fun (c29:Bool) (c30:Bool)=>⟨tab 52 (af (af (af (af (af (af (af (af (af (af (af av 2 (pF 2)) 5 (.pal 39 [] 0 l1.length none)) 8 (vB c29)) 10 (pF 10)) 14 (sF 3 (a0.Stacks.map aa.row))) 15 (vI (a0.Stacks.length:Int))) 16 (vI (v4:Int))) 21 (sF 3 (x7.Layers.map al.row))) 22 (vI (x7.Layers.length:Int))) 23 (vI (v11:Int))) 34 (vB c30)),(upd (upd (upd RZ 2 (vA 3 (ae.row a0))) 10 (vA 3 (al.row x14))) 39 (sO 1 (l1.map (aA .i64))))⟩)
 ·intro hJ13;refine iB h (fun hc14 h=>?_) fun hc14 h=>?_
  ·obtain ⟨r31,hr15,h⟩:=bI h;refine z1 (k2 hc14 hr15) ?_;refine hJ13 _ true (!r31) ?_ h;exact wF (k5 hx4 hi3' hw5 hx10 (k4 hi9' hw11 hc14 hr15))
  refine z1 hc14 ?_;refine hJ13 _ false false ?_ h;exact wF (k5 hx4 hi3' hw5 hx10 (k3 hi9' hw11 hc14))
 intro c29 c30 h;unfold oa at h;refine cB h (fun hc16 h=>?_) fun hc16 h=>?_
 ·obtain ⟨ha17,h⟩:=eN h;simp only [abW,acm,acv,Nat.reduceAdd] at ha17;refine z1 (k2 hc16 ha17) ?_;refine iR (pp (⟨_,acn _,(l1++[x14.Txn_]),?_,h⟩));refine wr ?_ ?_<;>repeat' first|rfl|constructor|simp only [go_sem,seval]
 refine bf (pp ?_);unfold od at h;refine iB h (fun hc18 h=>?_) fun hc18 h=>?_
 ·refine z1 (k2 hc16 hc18) ?_;refine z1 hw11 ?_;first|refine ⟨true,?_,h⟩|refine ⟨hi9',true,?_,h⟩
  exact wF (k5 hx4 hi3' hw5 hx10 (k4 hi9' hw11 hc16 hc18))
 obtain ⟨r32,hr19,h⟩:=bI h;refine z1 (k3 hc16 hc18 hr19) ?_;refine z1 hw11 ?_;first|refine ⟨r32,?_,h⟩|refine ⟨hi9',r32,?_,h⟩
 exact wF (k5 hx4 hi3' hw5 hx10 (k5 hi9' hw11 hc16 hc18 hr19))
@[go_sem] def B9 (N:Nat):FnS:=⟨[],true,fn2 ae.decA (aG .i64) fun q0 q1=>(oZ N q0 q1).map fun r=>sF 1 (r.map (aA .i64)),false⟩
theorem FM (N:Nat):aC Tryz.prog 48 (B9 N):=om2 fun q0 q1 r h=>rs (KL N q0 q1 r h)

@[go_sem] noncomputable def ML (N d f:Nat):Option FnS:=ay [(7,108,fV N)] d f
theorem Ns (N:Nat) (a0:Txn) (c0_0:(List Int)) (r:Bool) (h:o8 N a0 c0_0=some r):Con Tryz.prog 111 [] true [.agg (Txn.row a0),.iref 1 [[sF 1 (c0_0.map (aA .i64))]] 0 0] (vB r):=by
 refine fk (G:=(ML N)) Tryz.func111 (gc 7 (fX N) gn) ?_;simp only [Tryz.f111];unfold o8 at h;refine z0 ?_;obtain ⟨r1,hr1,h⟩:=bI h;refine z1 hr1 ?_;exact e0 h
@[go_sem] def vb (N:Nat):FnS:={ own:=[],pure:=true,fn:=fun cs=>match cs with
 | [c0,.iref 1 [[c1_0]] 0 0]=>(Txn.decA c0).bind fun qc0=>((aJ 1 (eb (aG .i64))) c1_0).bind fun qc1_0=>(o8 N qc0 qc1_0).map fun r=>vB r
 | _=>none }
theorem Bt (N:Nat):aC Tryz.prog 111 (vb N):=by
 refine ⟨fun cs r h=>?_,fun h=>by cases h⟩;simp only [vb] at h;split at h
 ·simp only [abC,abB] at h;obtain ⟨q0,h0,q1,h1,r',hr,rfl⟩:=h;exact (ag (Ns N q0 q1 r' hr))
 ·cases h


@[go_sem] noncomputable def wC (N d f:Nat):Option FnS:=ay [(16,111,vb N)] d f
theorem wq (N:Nat) (a0:(List Txn)) (k1_0_0:(List Int)) (r:Int) (h:gC N a0 k1_0_0=some r):Con Tryz.prog 71 [] true [sF 11 (a0.map Txn.row),.clo 111 [.iref 1 [[sF 1 (k1_0_0.map (aA .i64))]] 0 0]] (vI r):=by
 refine fk (G:=(wC N)) Tryz.func71 (gc 16 (Bt N) gn) ?_;simp only [Tryz.f71];unfold gC at h;refine z0 ?_;refine z0 ?_;refine lT 0 (fun (v2:Nat) (b:Unit)=>⟨tab 19 (af (af (af (af av 0 (sF 11 (a0.map Txn.row))) 1 (.clo 111 [.iref 1 [[sF 1 (k1_0_0.map (aA .i64))]] 0 0])) 7 (vI (a0.length:Int))) 8 (vI (v2:Int))),RZ⟩) () h ?_ ?_
 ·rintro v2 ⟨⟩ hi3' h;simp only [ed] at h;refine z1 hi3' ?_;refine cf ?_;refine z0 ?_;exact e0 h
 rintro v2 ⟨⟩ x5 hi3' hx4 hw5 h;simp only [ed] at h;refine z1 hi3' ?_;refine ct ?_;refine z0 ?_;obtain ⟨r1,hr7,h⟩:=bI h;refine z1 (k3 hx4 hi3' hr7) ?_;refine cB h (fun hc8 h=>?_) fun hc8 h=>?_
 ·refine z1 hc8 ?_;exact e0 h
 refine z1 (k2 hw5 hc8) ?_;first|refine ⟨(),?_,h⟩|refine ⟨hi3',(),?_,h⟩
 exact wR
@[go_sem] def jc (N:Nat):FnS:={ own:=[],pure:=true,fn:=fun cs=>match cs with
 | [c0,.clo 111 [.iref 1 [[k1_0_0]] 0 0]]=>((aJ 11 Txn.dec) c0).bind fun qc0=>((aJ 1 (eb (aG .i64))) k1_0_0).bind fun qk1_0_0=>(gC N qc0 qk1_0_0).map fun r=>vI r
 | _=>none }
theorem uq (N:Nat):aC Tryz.prog 71 (jc N):=by
 refine ⟨fun cs r h=>?_,fun h=>by cases h⟩;simp only [jc] at h;split at h
 ·simp only [abC,abB] at h;obtain ⟨q0,h0,q1,h1,r',hr,rfl⟩:=h;exact (ag (wq N q0 q1 r' hr))
 ·cases h


@[go_sem] noncomputable def vn (N d f:Nat):Option FnS:=ay [(10,71,jc N),(28,111,vb N)] d f
theorem vO (N:Nat) (a0:(List Txn)) (k1_0_0:(List Int)) (r:(List Txn)) (h:eG N a0 k1_0_0=some r):Con Tryz.prog 110 [true,false] false [sO 11 (a0.map Txn.row),.clo 111 [.iref 1 [[sF 1 (k1_0_0.map (aA .i64))]] 0 0]] (sO 11 (r.map Txn.row)):=by
 refine Aq (G:=(vn N)) (L:=noL) Tryz.func110 rfl (by decide) (by kernel_rfl) (gc 10 (uq N) (gc 28 (Bt N) gn)) (fun _ _ _ h=>by cases h) [] mix (ab5 rfl) ?_;rw [show gN [true,false] [sO 11 (a0.map Txn.row),.clo 111 [.iref 1 [[sF 1 (k1_0_0.map (aA .i64))]] 0 0]]=(af (af av 0 (.pal 0 [] 0 a0.length none)) 1 (.clo 111 [.iref 1 [[sF 1 (k1_0_0.map (aA .i64))]] 0 0])) from by funext t; match t with|0=>simp [gN,jz,kG,af]|1=>rfl|t+2=>rfl];rw [show R0 [true,false] [sO 11 (a0.map Txn.row),.clo 111 [.iref 1 [[sF 1 (k1_0_0.map (aA .i64))]] 0 0]]=upd RZ 0 (sO 11 (a0.map Txn.row)) from by funext t; match t with|0=>rfl|1=>rfl|t+2=>rfl];simp only [Tryz.f110];unfold eG at h;refine z0 ?_;obtain ⟨r1,hr1,h⟩:=bI h;refine z1 hr1 ?_;refine z0 ?_;refine oH rfl (fun hc2=>?_) (fun hc2=>?_)
 ·have hc2d:=decide_eq_true hc2;first|rw [if_pos hc2] at h|rw [if_pos hc2d] at h|simp only [hc2d,ab6,aca,abN,if_true,if_false] at h
  refine z1 hc2d ?_;refine fD (pp ?_);cases h;simp (config := { maxSteps := 4000000 }) only [go_sem,seval,eD];exact ⟨_,rfl,iE.h,qI.h⟩
 have hc2d:=decide_eq_false hc2;first|rw [if_neg hc2] at h|rw [if_neg (ne_true_of_eq_false hc2d)] at h|simp only [hc2d,ab6,aca,abN,if_true,if_false] at h
 refine z1 hc2d ?_;refine aX (iT (fun (b:List Txn × Int × Int)=>⟨tab 42 (af (af (af (af av 0 (.pal 0 [] 0 b.1.length none)) 1 (.clo 111 [.iref 1 [[sF 1 (k1_0_0.map (aA .i64))]] 0 0])) 5 (vI b.2.1)) 6 (vI b.2.2)),(upd RZ 0 (sO 11 (b.1.map Txn.row)))⟩) (a0,r1,IntKind.i64.wrap (r1+1)) h ?_ ?_)
 ·exact wF (k2 hr1 hc2d)
 rintro n ⟨l4,v5,v6⟩ h -;cases n with
 | zero=>simp [bC] at h
 | succ n=>
 simp only [bC] at h;refine z0 ?_;refine sw (oH rfl) (fun hc3=>?_) (fun hc3=>?_)
 ·have hc3d:=decide_eq_false hc3;first|rw [if_neg hc3] at h|rw [if_neg (ne_true_of_eq_false hc3d)] at h|simp only [hc3d,ab6,aca,abN,if_true,if_false] at h
  refine iR (pp ?_);unfold fu at h;refine aM ?_;obtain ⟨hs12,h⟩:=jw h;try simp only [abX] at hs12 h
  refine iL fun Z hZ=>?_;simp (config := { maxSteps := 4000000 }) only [go_sem,seval,hc3d,hs12,ab2,MS (row:=Txn.row) (rz:=[vI 0,vI 0,vS (⟨#[]⟩),vI 0,.val (.slice none 0 0),vI 0,vI 0,vI 0,vS (⟨#[]⟩),.val (.slice none 0 0),.val (.slice none 0 0)]) (k:=(v5).toNat) (l:=l4) (by have:=hs12; omega),bO,sV,aK,ar.allD Txn.row_ok];refine hZ _ (pp (mT (wi (n:=0) ((tD (Txn.mk 0 0 (⟨#[]⟩) 0 [] 0 (Value.mk 0 0 (⟨#[]⟩) [] [])) (v5).toNat l4).map Txn.row) rfl (by simp only [go_sem,seval]; rfl) (by simp only [jF,iI,go_sem,seval]; rfl) (hle:=QP (by repeat' (first|exact Le.refl _|exact LeL.nil|exact Le.nils|refine LeL.cons ?_ ?_)))) ?_));refine aM ?_;obtain ⟨hs13,h⟩:=jw h;try simp only [adp] at hs13 h
  refine iL fun Z hZ=>?_;simp (config := { maxSteps := 4000000 }) only [go_sem,seval,hs12,abU,eh,hs13];refine hZ _ (pp (fD (pp ?_)));cases h;simp (config := { maxSteps := 4000000 }) only [go_sem,seval,eD];exact ⟨_,rfl,iE.h,qI.h⟩
 have hc3d:=decide_eq_true hc3;first|rw [if_pos hc3] at h|rw [if_pos hc3d] at h|simp only [hc3d,ab6,aca,abN,if_true,if_false] at h
 obtain ⟨x13,hb4,hx5,h⟩:=aH h;refine z1 (k2 hb4 hx5) ?_;obtain ⟨r14,hr6,h⟩:=bI h;refine z1 hr6 ?_;refine sw (qk rfl) (fun hc7=>?_) (fun hc7=>?_)
 ·first|rw [if_pos hc7] at h|simp only [hc7,acA,acE,acu,acO,acD,acP,acs,acF,ab6,aca,abN,if_true,if_false] at h
  refine z1 hc7 ?_;refine ⟨_,acn _,(l4,v5,IntKind.i64.wrap (v6+1)),?_,h⟩;exact wF (k5 hr1 hc2d hc3d hb4 (k3 hx5 hr6 hc7))
 first|rw [if_neg (ne_true_of_eq_false hc7)] at h|simp only [hc7,acA,acE,acu,acO,acD,acP,acs,acF,ab6,aca,abN,if_true,if_false] at h
 obtain ⟨x15,hb8,hx9,h⟩:=aH h;have hx11:=kX (y:=x13) hx9;refine z1 (k4 hc7 hb8 hx9 (mm2 (row:=Txn.row) (y:=x13) (rx:=[vI x15.ID,vI x15.Born,vS x15.Client,vI x15.Seq,sF 4 (x15.Calls.map ah.row),vI x15.Done,vI x15.Last.Kind,vI x15.Last.N,vS x15.Last.S,sF 1 (x15.Last.I.map (aA .i64)),sF 1 (x15.Last.L.map ey)]) (ry:=[vI x13.ID,vI x13.Born,vS x13.Client,vI x13.Seq,sF 4 (x13.Calls.map ah.row),vI x13.Done,vI x13.Last.Kind,vI x13.Last.N,vS x13.Last.S,sF 1 (x13.Last.I.map (aA .i64)),sF 1 (x13.Last.L.map ey)]) hx9 rfl rfl)) ?_;refine z0 ?_;refine z0 ?_;refine ⟨_,acn _,((l4.set ((v5).toNat) x13),IntKind.i64.wrap (v5+1),IntKind.i64.wrap (v6+1)),?_,h⟩;refine wr ?_ ?_<;>repeat' first|rfl|constructor|simp only [go_sem,seval,acf]
def bB (N:Nat):FnS:={ own:=[true,false],pure:=false,fn:=fun cs=>match cs with
 | [c0,.clo 111 [.iref 1 [[k1_0_0]] 0 0]]=>((vL 11 Txn.dec) c0).bind fun q0=>((aJ 1 (eb (aG .i64))) k1_0_0).bind fun q1=>(eG N q0 q1).map fun r=>sO 11 (r.map Txn.row)
 | _=>none }
theorem sL (N:Nat):(bB N).own=[true,false]:=rfl
theorem rZ (N:Nat):(bB N).pure=false:=rfl
theorem rV (N:Nat):(bB N).peek=false:=rfl
attribute [go_sem] bB sL rZ rV
theorem tf (N:Nat):aC Tryz.prog 110 (bB N):=by
 refine ⟨fun cs r h=>?_,fun h=>by cases h⟩;simp only [bB] at h;split at h
 ·simp only [abC,abB] at h;obtain ⟨q0,h0,q1,h1,r',hr,rfl⟩:=h;exact (vO N q0 q1 r' hr).argsO rfl (jW (qq Txn.row_ok Txn.dec_le h0) (rG (Le.clo (LeL.cons (Le.iref1 (LeL.cons (iQ (jR .i64) h1) (LeL.nil))) (LeL.nil))) (oD)))
 ·cases h


@[go_sem] noncomputable def MB (N d f:Nat):Option FnS:=ay [(7,108,fV N)] d f
theorem MK (N:Nat) (a0:al) (c0_0:(List Int)) (r:Bool) (h:pg N a0 c0_0=some r):Con Tryz.prog 113 [] true [.agg (al.row a0),.iref 1 [[sF 1 (c0_0.map (aA .i64))]] 0 0] (vB r):=by
 refine fk (G:=(MB N)) Tryz.func113 (gc 7 (fX N) gn) ?_;simp only [Tryz.f113];unfold pg at h;refine z0 ?_;obtain ⟨r1,hr1,h⟩:=bI h;refine z1 hr1 ?_;exact e0 h
@[go_sem] def vd (N:Nat):FnS:={ own:=[],pure:=true,fn:=fun cs=>match cs with
 | [c0,.iref 1 [[c1_0]] 0 0]=>(al.decA c0).bind fun qc0=>((aJ 1 (eb (aG .i64))) c1_0).bind fun qc1_0=>(pg N qc0 qc1_0).map fun r=>vB r
 | _=>none }
theorem Bo (N:Nat):aC Tryz.prog 113 (vd N):=by
 refine ⟨fun cs r h=>?_,fun h=>by cases h⟩;simp only [vd] at h;split at h
 ·simp only [abC,abB] at h;obtain ⟨q0,h0,q1,h1,r',hr,rfl⟩:=h;exact (ag (MK N q0 q1 r' hr))
 ·cases h


@[go_sem] noncomputable def vi (N d f:Nat):Option FnS:=ay [(16,113,vd N)] d f
theorem vf (N:Nat) (a0:(List al)) (k1_0_0:(List Int)) (r:Int) (h:fZ N a0 k1_0_0=some r):Con Tryz.prog 186 [] true [sF 3 (a0.map al.row),.clo 113 [.iref 1 [[sF 1 (k1_0_0.map (aA .i64))]] 0 0]] (vI r):=by
 refine fk (G:=(vi N)) Tryz.func186 (gc 16 (Bo N) gn) ?_;simp only [Tryz.f186];unfold fZ at h;refine z0 ?_;refine z0 ?_;refine lT 0 (fun (v2:Nat) (b:Unit)=>⟨tab 19 (af (af (af (af av 0 (sF 3 (a0.map al.row))) 1 (.clo 113 [.iref 1 [[sF 1 (k1_0_0.map (aA .i64))]] 0 0])) 7 (vI (a0.length:Int))) 8 (vI (v2:Int))),RZ⟩) () h ?_ ?_
 ·rintro v2 ⟨⟩ hi3' h;simp only [dM] at h;refine z1 hi3' ?_;refine cf ?_;refine z0 ?_;exact e0 h
 rintro v2 ⟨⟩ x5 hi3' hx4 hw5 h;simp only [dM] at h;refine z1 hi3' ?_;refine ct ?_;refine z0 ?_;obtain ⟨r1,hr7,h⟩:=bI h;refine z1 (k3 hx4 hi3' hr7) ?_;refine cB h (fun hc8 h=>?_) fun hc8 h=>?_
 ·refine z1 hc8 ?_;exact e0 h
 refine z1 (k2 hw5 hc8) ?_;first|refine ⟨(),?_,h⟩|refine ⟨hi3',(),?_,h⟩
 exact wR
@[go_sem] def iH (N:Nat):FnS:={ own:=[],pure:=true,fn:=fun cs=>match cs with
 | [c0,.clo 113 [.iref 1 [[k1_0_0]] 0 0]]=>((aJ 3 al.dec) c0).bind fun qc0=>((aJ 1 (eb (aG .i64))) k1_0_0).bind fun qk1_0_0=>(fZ N qc0 qk1_0_0).map fun r=>vI r
 | _=>none }
theorem tg (N:Nat):aC Tryz.prog 186 (iH N):=by
 refine ⟨fun cs r h=>?_,fun h=>by cases h⟩;simp only [iH] at h;split at h
 ·simp only [abC,abB] at h;obtain ⟨q0,h0,q1,h1,r',hr,rfl⟩:=h;exact (ag (vf N q0 q1 r' hr))
 ·cases h


@[go_sem] noncomputable def uQ (N d f:Nat):Option FnS:=ay [(10,186,iH N),(28,113,vd N)] d f
theorem uR (N:Nat) (a0:(List al)) (k1_0_0:(List Int)) (r:(List al)) (h:ee N a0 k1_0_0=some r):Con Tryz.prog 112 [true,false] false [sO 3 (a0.map al.row),.clo 113 [.iref 1 [[sF 1 (k1_0_0.map (aA .i64))]] 0 0]] (sO 3 (r.map al.row)):=by
 refine Aq (G:=(uQ N)) (L:=noL) Tryz.func112 rfl (by decide) (by kernel_rfl) (gc 10 (tg N) (gc 28 (Bo N) gn)) (fun _ _ _ h=>by cases h) [] mix (ab5 rfl) ?_;rw [show gN [true,false] [sO 3 (a0.map al.row),.clo 113 [.iref 1 [[sF 1 (k1_0_0.map (aA .i64))]] 0 0]]=(af (af av 0 (.pal 0 [] 0 a0.length none)) 1 (.clo 113 [.iref 1 [[sF 1 (k1_0_0.map (aA .i64))]] 0 0])) from by funext t; match t with|0=>simp [gN,jz,kG,af]|1=>rfl|t+2=>rfl];rw [show R0 [true,false] [sO 3 (a0.map al.row),.clo 113 [.iref 1 [[sF 1 (k1_0_0.map (aA .i64))]] 0 0]]=upd RZ 0 (sO 3 (a0.map al.row)) from by funext t; match t with|0=>rfl|1=>rfl|t+2=>rfl];simp only [Tryz.f112];unfold ee at h;refine z0 ?_;obtain ⟨r1,hr1,h⟩:=bI h;refine z1 hr1 ?_;refine z0 ?_;refine oH rfl (fun hc2=>?_) (fun hc2=>?_)
 ·have hc2d:=decide_eq_true hc2;first|rw [if_pos hc2] at h|rw [if_pos hc2d] at h|simp only [hc2d,ab6,aca,abN,if_true,if_false] at h
  refine z1 hc2d ?_;refine fD (pp ?_);cases h;simp (config := { maxSteps := 4000000 }) only [go_sem,seval,eD];exact ⟨_,rfl,iE.h,qI.h⟩
 have hc2d:=decide_eq_false hc2;first|rw [if_neg hc2] at h|rw [if_neg (ne_true_of_eq_false hc2d)] at h|simp only [hc2d,ab6,aca,abN,if_true,if_false] at h
 refine z1 hc2d ?_;refine aX (iT (fun (b:List al × Int × Int)=>⟨tab 42 (af (af (af (af av 0 (.pal 0 [] 0 b.1.length none)) 1 (.clo 113 [.iref 1 [[sF 1 (k1_0_0.map (aA .i64))]] 0 0])) 5 (vI b.2.1)) 6 (vI b.2.2)),(upd RZ 0 (sO 3 (b.1.map al.row)))⟩) (a0,r1,IntKind.i64.wrap (r1+1)) h ?_ ?_)
 ·exact wF (k2 hr1 hc2d)
 rintro n ⟨l4,v5,v6⟩ h -;cases n with
 | zero=>simp [bu] at h
 | succ n=>
 simp only [bu] at h;refine z0 ?_;refine sw (oH rfl) (fun hc3=>?_) (fun hc3=>?_)
 ·have hc3d:=decide_eq_false hc3;first|rw [if_neg hc3] at h|rw [if_neg (ne_true_of_eq_false hc3d)] at h|simp only [hc3d,ab6,aca,abN,if_true,if_false] at h
  refine iR (pp ?_);unfold fc at h;refine aM ?_;obtain ⟨hs12,h⟩:=jw h;try simp only [abX] at hs12 h
  refine iL fun Z hZ=>?_;simp (config := { maxSteps := 4000000 }) only [go_sem,seval,hc3d,hs12,ab2,MS (row:=al.row) (rz:=[vI 0,.val (.slice none 0 0),vB false]) (k:=(v5).toNat) (l:=l4) (by have:=hs12; omega),bO,sV,aK,ar.allD al.row_ok];refine hZ _ (pp (mT (wi (n:=0) ((tD (al.mk 0 [] false) (v5).toNat l4).map al.row) rfl (by simp only [go_sem,seval]; rfl) (by simp only [jF,iI,go_sem,seval]; rfl) (hle:=QP (by repeat' (first|exact Le.refl _|exact LeL.nil|exact Le.nils|refine LeL.cons ?_ ?_)))) ?_));refine aM ?_;obtain ⟨hs13,h⟩:=jw h;try simp only [adp] at hs13 h
  refine iL fun Z hZ=>?_;simp (config := { maxSteps := 4000000 }) only [go_sem,seval,hs12,abU,eh,hs13];refine hZ _ (pp (fD (pp ?_)));cases h;simp (config := { maxSteps := 4000000 }) only [go_sem,seval,eD];exact ⟨_,rfl,iE.h,qI.h⟩
 have hc3d:=decide_eq_true hc3;first|rw [if_pos hc3] at h|rw [if_pos hc3d] at h|simp only [hc3d,ab6,aca,abN,if_true,if_false] at h
 obtain ⟨x13,hb4,hx5,h⟩:=aH h;refine z1 (k2 hb4 hx5) ?_;obtain ⟨r14,hr6,h⟩:=bI h;refine z1 hr6 ?_;refine sw (qk rfl) (fun hc7=>?_) (fun hc7=>?_)
 ·first|rw [if_pos hc7] at h|simp only [hc7,acA,acE,acu,acO,acD,acP,acs,acF,ab6,aca,abN,if_true,if_false] at h
  refine z1 hc7 ?_;refine ⟨_,acn _,(l4,v5,IntKind.i64.wrap (v6+1)),?_,h⟩;exact wF (k5 hr1 hc2d hc3d hb4 (k3 hx5 hr6 hc7))
 first|rw [if_neg (ne_true_of_eq_false hc7)] at h|simp only [hc7,acA,acE,acu,acO,acD,acP,acs,acF,ab6,aca,abN,if_true,if_false] at h
 obtain ⟨x15,hb8,hx9,h⟩:=aH h;have hx11:=kX (y:=x13) hx9;refine z1 (k4 hc7 hb8 hx9 (mm2 (row:=al.row) (y:=x13) (rx:=[vI x15.Txn_,sF 5 (x15.Fields.map Value.row),vB x15.Prepared]) (ry:=[vI x13.Txn_,sF 5 (x13.Fields.map Value.row),vB x13.Prepared]) hx9 rfl rfl)) ?_;refine z0 ?_;refine z0 ?_;refine ⟨_,acn _,((l4.set ((v5).toNat) x13),IntKind.i64.wrap (v5+1),IntKind.i64.wrap (v6+1)),?_,h⟩;refine wr ?_ ?_<;>repeat' first|rfl|constructor|simp only [go_sem,seval,acf]
def bt (N:Nat):FnS:={ own:=[true,false],pure:=false,fn:=fun cs=>match cs with
 | [c0,.clo 113 [.iref 1 [[k1_0_0]] 0 0]]=>((vL 3 al.dec) c0).bind fun q0=>((aJ 1 (eb (aG .i64))) k1_0_0).bind fun q1=>(ee N q0 q1).map fun r=>sO 3 (r.map al.row)
 | _=>none }
theorem rE (N:Nat):(bt N).own=[true,false]:=rfl
theorem qC (N:Nat):(bt N).pure=false:=rfl
theorem qZ (N:Nat):(bt N).peek=false:=rfl
attribute [go_sem] bt rE qC qZ
theorem sg (N:Nat):aC Tryz.prog 112 (bt N):=by
 refine ⟨fun cs r h=>?_,fun h=>by cases h⟩;simp only [bt] at h;split at h
 ·simp only [abC,abB] at h;obtain ⟨q0,h0,q1,h1,r',hr,rfl⟩:=h;exact (uR N q0 q1 r' hr).argsO rfl (jW (qq al.row_ok al.dec_le h0) (rG (Le.clo (LeL.cons (Le.iref1 (LeL.cons (iQ (jR .i64) h1) (LeL.nil))) (LeL.nil))) (oD)))
 ·cases h


theorem MI (N:Nat) (a0:aa) (r:Bool) (h:o9 N a0=some r):Con Tryz.prog 115 [] true [.agg (aa.row a0)] (vB r):=by
 refine fk (G:=(ay [])) Tryz.func115 gn ?_;simp only [Tryz.f115];unfold o9 at h;refine z0 ?_;refine z0 ?_;exact e0 h
@[go_sem] def zK (N:Nat):FnS:=⟨[],true,fn1 aa.decA fun q0=>(o9 N q0).map fun r=>vB r,false⟩
theorem Bk (N:Nat):aC Tryz.prog 115 (zK N):=om1 (MI N)


@[go_sem] noncomputable def sZ (N d f:Nat):Option FnS:=ay [(16,115,zK N)] d f
theorem sA (N:Nat) (a0:(List aa)) (r:Int) (h:eM N a0=some r):Con Tryz.prog 105 [] true [sF 3 (a0.map aa.row),.clo 115 []] (vI r):=by
 refine fk (G:=(sZ N)) Tryz.func105 (gc 16 (Bk N) gn) ?_;simp only [Tryz.f105];unfold eM at h;refine z0 ?_;refine z0 ?_;refine lT 0 (fun (v2:Nat) (b:Unit)=>⟨tab 19 (af (af (af (af av 0 (sF 3 (a0.map aa.row))) 1 (.clo 115 [])) 7 (vI (a0.length:Int))) 8 (vI (v2:Int))),RZ⟩) () h ?_ ?_
 ·rintro v2 ⟨⟩ hi3' h;simp only [dc] at h;refine z1 hi3' ?_;refine cf ?_;refine z0 ?_;exact e0 h
 rintro v2 ⟨⟩ x5 hi3' hx4 hw5 h;simp only [dc] at h;refine z1 hi3' ?_;refine ct ?_;refine z0 ?_;obtain ⟨r1,hr7,h⟩:=bI h;refine z1 (k3 hx4 hi3' hr7) ?_;refine cB h (fun hc8 h=>?_) fun hc8 h=>?_
 ·refine z1 hc8 ?_;exact e0 h
 refine z1 (k2 hw5 hc8) ?_;first|refine ⟨(),?_,h⟩|refine ⟨hi3',(),?_,h⟩
 exact wR
@[go_sem] def gh (N:Nat):FnS:={ own:=[],pure:=true,fn:=fun cs=>match cs with
 | [c0,.clo 115 []]=>((aJ 3 aa.dec) c0).bind fun qc0=>(eM N qc0).map fun r=>vI r
 | _=>none }
theorem qi (N:Nat):aC Tryz.prog 105 (gh N):=by
 refine ⟨fun cs r h=>?_,fun h=>by cases h⟩;simp only [gh] at h;split at h
 ·simp only [abC,abB] at h;obtain ⟨q0,h0,r',hr,rfl⟩:=h;exact (ag (sA N q0 r' hr))
 ·cases h


@[go_sem] noncomputable def rT (N d f:Nat):Option FnS:=ay [(10,105,gh N),(28,115,zK N)] d f
theorem rW (N:Nat) (a0:(List aa)) (r:(List aa)) (h:dz N a0=some r):Con Tryz.prog 114 [true,false] false [sO 3 (a0.map aa.row),.clo 115 []] (sO 3 (r.map aa.row)):=by
 refine Aq (G:=(rT N)) (L:=noL) Tryz.func114 rfl (by decide) (by kernel_rfl) (gc 10 (qi N) (gc 28 (Bk N) gn)) (fun _ _ _ h=>by cases h) [] mix (ab5 rfl) ?_;rw [show gN [true,false] [sO 3 (a0.map aa.row),.clo 115 []]=(af (af av 0 (.pal 0 [] 0 a0.length none)) 1 (.clo 115 [])) from by funext t; match t with|0=>simp [gN,jz,kG,af]|1=>rfl|t+2=>rfl];rw [show R0 [true,false] [sO 3 (a0.map aa.row),.clo 115 []]=upd RZ 0 (sO 3 (a0.map aa.row)) from by funext t; match t with|0=>rfl|1=>rfl|t+2=>rfl];simp only [Tryz.f114];unfold dz at h;refine z0 ?_;obtain ⟨r1,hr1,h⟩:=bI h;refine z1 hr1 ?_;refine z0 ?_;refine oH rfl (fun hc2=>?_) (fun hc2=>?_)
 ·have hc2d:=decide_eq_true hc2;first|rw [if_pos hc2] at h|rw [if_pos hc2d] at h|simp only [hc2d,ab6,aca,abN,if_true,if_false] at h
  refine z1 hc2d ?_;refine fD (pp ?_);cases h;simp (config := { maxSteps := 4000000 }) only [go_sem,seval,eD];exact ⟨_,rfl,iE.h,qI.h⟩
 have hc2d:=decide_eq_false hc2;first|rw [if_neg hc2] at h|rw [if_neg (ne_true_of_eq_false hc2d)] at h|simp only [hc2d,ab6,aca,abN,if_true,if_false] at h
 refine z1 hc2d ?_;refine aX (iT (fun (b:List aa × Int × Int)=>⟨tab 42 (af (af (af (af av 0 (.pal 0 [] 0 b.1.length none)) 1 (.clo 115 [])) 5 (vI b.2.1)) 6 (vI b.2.2)),(upd RZ 0 (sO 3 (b.1.map aa.row)))⟩) (a0,r1,IntKind.i64.wrap (r1+1)) h ?_ ?_)
 ·exact wF (k2 hr1 hc2d)
 rintro n ⟨l4,v5,v6⟩ h -;cases n with
 | zero=>simp [aZ] at h
 | succ n=>
 simp only [aZ] at h;refine z0 ?_;refine sw (oH rfl) (fun hc3=>?_) (fun hc3=>?_)
 ·have hc3d:=decide_eq_false hc3;first|rw [if_neg hc3] at h|rw [if_neg (ne_true_of_eq_false hc3d)] at h|simp only [hc3d,ab6,aca,abN,if_true,if_false] at h
  refine iR (pp ?_);unfold dX at h;refine aM ?_;obtain ⟨hs12,h⟩:=jw h;try simp only [abX] at hs12 h
  refine iL fun Z hZ=>?_;simp (config := { maxSteps := 4000000 }) only [go_sem,seval,hc3d,hs12,ab2,MS (row:=aa.row) (rz:=[vS (⟨#[]⟩),vS (⟨#[]⟩),.val (.slice none 0 0)]) (k:=(v5).toNat) (l:=l4) (by have:=hs12; omega),bO,sV,aK,ar.allD aa.row_ok];refine hZ _ (pp (mT (wi (n:=0) ((tD (aa.mk (Ref.mk (⟨#[]⟩) (⟨#[]⟩)) []) (v5).toNat l4).map aa.row) rfl (by simp only [go_sem,seval]; rfl) (by simp only [jF,iI,go_sem,seval]; rfl) (hle:=QP (by repeat' (first|exact Le.refl _|exact LeL.nil|exact Le.nils|refine LeL.cons ?_ ?_)))) ?_));refine aM ?_;obtain ⟨hs13,h⟩:=jw h;try simp only [adp] at hs13 h
  refine iL fun Z hZ=>?_;simp (config := { maxSteps := 4000000 }) only [go_sem,seval,hs12,abU,eh,hs13];refine hZ _ (pp (fD (pp ?_)));cases h;simp (config := { maxSteps := 4000000 }) only [go_sem,seval,eD];exact ⟨_,rfl,iE.h,qI.h⟩
 have hc3d:=decide_eq_true hc3;first|rw [if_pos hc3] at h|rw [if_pos hc3d] at h|simp only [hc3d,ab6,aca,abN,if_true,if_false] at h
 obtain ⟨x13,hb4,hx5,h⟩:=aH h;refine z1 (k2 hb4 hx5) ?_;obtain ⟨r14,hr6,h⟩:=bI h;refine z1 hr6 ?_;refine sw (qk rfl) (fun hc7=>?_) (fun hc7=>?_)
 ·first|rw [if_pos hc7] at h|simp only [hc7,acA,acE,acu,acO,acD,acP,acs,acF,ab6,aca,abN,if_true,if_false] at h
  refine z1 hc7 ?_;refine ⟨_,acn _,(l4,v5,IntKind.i64.wrap (v6+1)),?_,h⟩;exact wF (k5 hr1 hc2d hc3d hb4 (k3 hx5 hr6 hc7))
 first|rw [if_neg (ne_true_of_eq_false hc7)] at h|simp only [hc7,acA,acE,acu,acO,acD,acP,acs,acF,ab6,aca,abN,if_true,if_false] at h
 obtain ⟨x15,hb8,hx9,h⟩:=aH h;have hx11:=kX (y:=x13) hx9;refine z1 (k4 hc7 hb8 hx9 (mm2 (row:=aa.row) (y:=x13) (rx:=[vS x15.Actor.Type_,vS x15.Actor.Key,sF 3 (x15.Layers.map al.row)]) (ry:=[vS x13.Actor.Type_,vS x13.Actor.Key,sF 3 (x13.Layers.map al.row)]) hx9 rfl rfl)) ?_;refine z0 ?_;refine z0 ?_;refine ⟨_,acn _,((l4.set ((v5).toNat) x13),IntKind.i64.wrap (v5+1),IntKind.i64.wrap (v6+1)),?_,h⟩;refine wr ?_ ?_<;>repeat' first|rfl|constructor|simp only [go_sem,seval,acf]
def aY (N:Nat):FnS:={ own:=[true,false],pure:=false,fn:=fun cs=>match cs with
 | [c0,.clo 115 []]=>((vL 3 aa.dec) c0).bind fun q0=>(dz N q0).map fun r=>sO 3 (r.map aa.row)
 | _=>none }
theorem oY (N:Nat):(aY N).own=[true,false]:=rfl
theorem oz (N:Nat):(aY N).pure=false:=rfl
theorem ot (N:Nat):(aY N).peek=false:=rfl
attribute [go_sem] aY oY oz ot
theorem pn (N:Nat):aC Tryz.prog 114 (aY N):=by
 refine ⟨fun cs r h=>?_,fun h=>by cases h⟩;simp only [aY] at h;split at h
 ·simp only [abC,abB] at h;obtain ⟨q0,h0,r',hr,rfl⟩:=h;exact (rW N q0 r' hr).argsO rfl (jW (qq aa.row_ok aa.dec_le h0) (rG (Le.clo (LeL.nil)) (oD)))
 ·cases h


@[go_sem] noncomputable def QD (N d f:Nat):Option FnS:=ay [(8,59,qu N),(12,110,bB N),(30,112,bt N),(36,114,aY N)] d f
theorem PQ (N:Nat) (a0:ae) (a1:(List Int)) (r:ae) (h:tQ N a0 a1=some r):Con Tryz.prog 49 [] false [.agg (ae.row a0),sF 1 (a1.map (aA .i64))] (.agg [sO 11 (r.Txns.map Txn.row),sO 4 (r.Locks.map ai.row),sF 3 (r.Stacks.map aa.row)]):=by
 refine fk (G:=(QD N)) Tryz.func49 (gc 8 (pE N) (gc 12 (tf N) (gc 30 (sg N) (gc 36 (pn N) gn)))) ?_;simp only [Tryz.f49];unfold tQ at h;refine z0 ?_;obtain ⟨r1,hr1,h⟩:=bI h;refine z1 hr1 ?_;refine aM (mT (Vn (n:=3) (by simp only [go_sem,seval]; rfl) rfl (by simp only [jF,iI,Nu,Lf,go_sem,seval]; rfl)) ?_);obtain ⟨r2,hr2,h⟩:=bI h;refine z1 hr2 ?_;refine z0 ?_;refine aX (iP fun hreal4=>?_);have hl3:=hreal4.cell 5 2 (by simp only [go_sem,seval]; rfl) rfl;first|rw [abJ] at hl3|rw [fY] at hl3|rw [<-ab4,abJ] at hl3
 refine pj (fun (v5:Nat) (b:List aa)=>⟨tab 39 (af (af (af (af (af av 3 (.iref 1 [[sF 1 (a1.map (aA .i64))]] 0 0)) 4 (pF 4)) 5 (pF 5)) 16 (vI (r1.Stacks.length:Int))) 17 (vI (v5:Int))),(upd (upd RZ 4 (vA 3 [.val (.slice none 0 0),.val (.slice none 0 0),.val (.slice none 0 0)])) 5 (vA 3 [sO 11 (r2.map Txn.row),sO 4 (r1.Locks.map ai.row),sO 3 (b.map aa.rowD)]))⟩) r1.Stacks h ?_ ?_
 ·exact wF (k2 hr1 hr2)
 rintro v5 l4 _ h -;rcases (jK r1.Stacks.length v5).symm with ⟨hi5',hd8⟩|⟨hi5',hd8⟩
 ·rw [hd8] at h;simp only [m7] at h;refine z1 hi5' ?_;refine cf ?_;refine iR (pp ?_);unfold yC at h;refine aM (mT (RL aa.rowD aa.row 5 [(0,2)] l4 (by simp only [go_sem,seval]; rfl) (by simp only [jF,iI,go_sem,seval]; rfl) (by simp only [go_sem,seval]; rfl)) ?_);obtain ⟨r13,hr12,h⟩:=bI h;refine z1 hr12 ?_;refine z0 ?_;refine fD (pp ?_);cases h;simp (config := { maxSteps := 4000000 }) only [go_sem,seval];exact ⟨_,rfl,(by repeat' (first|exact ROk.refl _|exact ROk.nil _|((refine ROk.of _ ?_ ?_); (focus ((repeat' (first|exact Le.refl _|exact LeL.nil|exact Le.nils|exact dO.refl _|refine dO.mapAppend ?_ ?_|refine dO.cons ?_ ?_|refine Le.sl ?_|refine Le.tup ?_|refine Le.agg ?_|refine LeL.cons ?_ ?_)); done)); (focus ((repeat' (first|exact dp.val _|exact dp.sl _ _ _ _|refine dp.tup ?_|refine dp.agg ?_|exact DV|refine Cw ?_ ?_)); done)))|((refine ROk.own ?_ ?_); (focus ((repeat' (first|exact Le.refl _|exact LeL.nil|exact Le.nils|exact dO.refl _|refine dO.mapAppend ?_ ?_|refine dO.cons ?_ ?_|refine Le.sl ?_|refine Le.tup ?_|refine Le.agg ?_|refine LeL.cons ?_ ?_)); done)); (focus ((first|exact ar.noOwn (mR .i64) _|exact ar.noOwn ah.row_ok _|exact ar.noOwn al.row_ok _|exact ar.noOwn aa.row_ok _|exact ar.noOwn ai.row_ok _|exact ar.noOwn Txn.row_ok _|exact ar.noOwn Value.row_ok _|exact ar.noOwn Fl _); done)))|refine ROk.agg rfl ?_|refine ROk.tup rfl ?_|exact MX|refine Kw ?_ ?_))⟩
 rw [hd8] at h;simp only [m7] at h;have hw7:=fm hi5' hl3;refine z1 hi5' ?_;refine ct ?_;refine z0 ?_;obtain ⟨x11,hb9,hx10,h⟩:=aH h;try simp only [abX] at hx10
 try simp only [adD,ac3,true_and] at hb9
 refine Mc [0,1,2,3,4,5,6,7,8,9] [10] [] [11,12,13] [5] (by kernel_rfl) fun Z hZ Y hY=>?_;simp (config := { maxSteps := 4000000 }) only [go_sem,seval,hb9,hx10];refine hY _ (by kernel_rfl) (Kb (by simp only [go_sem,seval,Dh,Option.isNone,acD]; try rfl) fun Y hY=>?_);obtain ⟨r12,hr11,h⟩:=bI h;simp (config := { maxSteps := 4000000 }) only [go_sem,seval,hx10,Ff (row:=aa.rowD) (rx:=[vS x11.Actor.Type_,vS x11.Actor.Key,sO 3 (x11.Layers.map al.row)]) hx10 rfl rfl,hr11];refine hY _ (by kernel_rfl) (Xe ?_);simp (config := { maxSteps := 4000000 }) only [go_sem,seval,hb9,yU (row:=aa.rowD) _ hx10,yG (row:=aa.rowD) hx10 rfl];refine hZ _ (z1 hw7 ?_);first|refine ⟨(l4.set v5 (aa.mk x11.Actor r12)),?_,h⟩|refine ⟨hi5',(l4.set v5 (aa.mk x11.Actor r12)),?_,h⟩
 refine bm.trans (zg (n:=5) (c':=vA 3 [sO 11 (r2.map Txn.row),sO 4 (r1.Locks.map ai.row),sO 3 ((l4.set v5 (aa.mk x11.Actor r12)).map aa.rowD)]) (by simp only [go_sem,seval]; rfl) (by first|(simp only [oR (row:=aa.rowD) (l:=l4) (i:=v5) (y:=(aa.mk x11.Actor r12)) (rc:=[vS x11.Actor.Type_,vS x11.Actor.Key,sO 3 (r12.map al.row)]) rfl]; done)|(simp only [oR (row:=aa.rowD) (l:=l4) (i:=v5) (y:=(aa.mk x11.Actor r12)) (rc:=[vS x11.Actor.Type_,vS x11.Actor.Key,sO 3 (r12.map al.row)]) rfl,ab4,acT,adH]<;>rfl)|(rw [<-oR (row:=aa.rowD) (l:=l4) (i:=v5) (y:=(aa.mk x11.Actor r12)) (rc:=[vS x11.Actor.Type_,vS x11.Actor.Key,sO 3 (r12.map al.row)]) rfl]; simp only [ab4,acT,adH]<;>rfl))) ?_
 exact wF (k5 hr1 hr2 hi5' hw7 (k5 hb9 hx10 (ov1 (row:=aa.rowD) (rx:=[vS x11.Actor.Type_,vS x11.Actor.Key,sO 3 (x11.Layers.map al.row)]) hx10 rfl) (ov2 (row:=aa.rowD) hx10) (k2 (ov3 (row:=aa.rowD) hx10) hr11)))
@[go_sem] def B8 (N:Nat):FnS:=⟨[],false,fn2 ae.decA (aJ 1 (eb (aG .i64))) fun q0 q1=>(tQ N q0 q1).map fun r=>.agg (ae.row r),false⟩
theorem C7 (N:Nat):aC Tryz.prog 49 (B8 N):=ok2 (fun q0 q1 r h=>by
 obtain ⟨r',hr,rfl⟩:=abB.1 h;exact (PQ N q0 q1 r' hr).res (by first|((try simp only [go_sem]); exact iE.h)|(repeat' (first|exact ROk.refl _|exact ROk.nil _|((refine ROk.of _ ?_ ?_); (focus ((repeat' (first|exact Le.refl _|exact LeL.nil|exact Le.nils|exact dO.refl _|refine dO.mapAppend ?_ ?_|refine dO.cons ?_ ?_|refine Le.sl ?_|refine Le.tup ?_|refine Le.agg ?_|refine LeL.cons ?_ ?_)); done)); (focus ((repeat' (first|exact dp.val _|exact dp.sl _ _ _ _|refine dp.tup ?_|refine dp.agg ?_|exact DV|refine Cw ?_ ?_)); done)))|((refine ROk.own ?_ ?_); (focus ((repeat' (first|exact Le.refl _|exact LeL.nil|exact Le.nils|exact dO.refl _|refine dO.mapAppend ?_ ?_|refine dO.cons ?_ ?_|refine Le.sl ?_|refine Le.tup ?_|refine Le.agg ?_|refine LeL.cons ?_ ?_)); done)); (focus ((first|exact ar.noOwn (mR .i64) _|exact ar.noOwn ah.row_ok _|exact ar.noOwn al.row_ok _|exact ar.noOwn aa.row_ok _|exact ar.noOwn ai.row_ok _|exact ar.noOwn Txn.row_ok _|exact ar.noOwn Value.row_ok _|exact ar.noOwn Fl _); done)))|refine ROk.agg rfl ?_|refine ROk.tup rfl ?_|exact MX|refine Kw ?_ ?_)))) (ae.decA_le) (fun h=>iQ (jR .i64) h)

theorem Hy (N:Nat) (a0:Int) (c0_0:Int) (r:Bool) (h:lY N a0 c0_0=some r):Con Tryz.prog 119 [] true [vI a0,.iref 1 [[vI c0_0]] 0 0] (vB r):=by
 refine fk (G:=(ay [])) Tryz.func119 gn ?_;simp only [Tryz.f119];unfold lY at h;refine z0 ?_;refine z0 ?_;exact e0 h
@[go_sem] def pR (N:Nat):FnS:={ own:=[],pure:=true,fn:=fun cs=>match cs with
 | [c0,.iref 1 [[c1_0]] 0 0]=>((aG .i64) c0).bind fun qc0=>((aG .i64) c1_0).bind fun qc1_0=>(lY N qc0 qc1_0).map fun r=>vB r
 | _=>none }
theorem wX (N:Nat):aC Tryz.prog 119 (pR N):=by
 refine ⟨fun cs r h=>?_,fun h=>by cases h⟩;simp only [pR] at h;split at h
 ·simp only [abC,abB] at h;obtain ⟨q0,h0,q1,h1,r',hr,rfl⟩:=h;exact (ag (Hy N q0 q1 r' hr))
 ·cases h


@[go_sem] noncomputable def uw (N d f:Nat):Option FnS:=ay [(16,119,pR N)] d f
theorem uk (N:Nat) (a0:(List Int)) (k1_0_0:Int) (r:Int) (h:dS N a0 k1_0_0=some r):Con Tryz.prog 189 [] true [sF 1 (a0.map (aA .i64)),.clo 119 [.iref 1 [[vI k1_0_0]] 0 0]] (vI r):=by
 refine fk (G:=(uw N)) Tryz.func189 (gc 16 (wX N) gn) ?_;simp only [Tryz.f189];unfold dS at h;refine z0 ?_;refine z0 ?_;refine lT 0 (fun (v2:Nat) (b:Unit)=>⟨tab 19 (af (af (af (af av 0 (sF 1 (a0.map (aA .i64)))) 1 (.clo 119 [.iref 1 [[vI k1_0_0]] 0 0])) 7 (vI (a0.length:Int))) 8 (vI (v2:Int))),RZ⟩) () h ?_ ?_
 ·rintro v2 ⟨⟩ hi3' h;simp only [br] at h;refine z1 hi3' ?_;refine cf ?_;refine z0 ?_;exact e0 h
 rintro v2 ⟨⟩ x5 hi3' hx4 hw5 h;simp only [br] at h;refine z1 hi3' ?_;refine ct ?_;refine z0 ?_;obtain ⟨r1,hr7,h⟩:=bI h;refine z1 (k3 hx4 hi3' hr7) ?_;refine cB h (fun hc8 h=>?_) fun hc8 h=>?_
 ·refine z1 hc8 ?_;exact e0 h
 refine z1 (k2 hw5 hc8) ?_;first|refine ⟨(),?_,h⟩|refine ⟨hi3',(),?_,h⟩
 exact wR
@[go_sem] def gZ (N:Nat):FnS:={ own:=[],pure:=true,fn:=fun cs=>match cs with
 | [c0,.clo 119 [.iref 1 [[k1_0_0]] 0 0]]=>((aJ 1 (eb (aG .i64))) c0).bind fun qc0=>((aG .i64) k1_0_0).bind fun qk1_0_0=>(dS N qc0 qk1_0_0).map fun r=>vI r
 | _=>none }
theorem rU (N:Nat):aC Tryz.prog 189 (gZ N):=by
 refine ⟨fun cs r h=>?_,fun h=>by cases h⟩;simp only [gZ] at h;split at h
 ·simp only [abC,abB] at h;obtain ⟨q0,h0,q1,h1,r',hr,rfl⟩:=h;exact (ag (uk N q0 q1 r' hr))
 ·cases h


@[go_sem] noncomputable def tG (N d f:Nat):Option FnS:=ay [(10,189,gZ N),(28,119,pR N)] d f
theorem tW (N:Nat) (a0:(List Int)) (k1_0_0:Int) (r:(List Int)) (h:bP N a0 k1_0_0=some r):Con Tryz.prog 118 [true,false] true [sO 1 (a0.map (aA .i64)),.clo 119 [.iref 1 [[vI k1_0_0]] 0 0]] (sO 1 (r.map (aA .i64))):=by
 refine Aq (G:=(tG N)) (L:=noL) Tryz.func118 rfl (by decide) (by kernel_rfl) (gc 10 (rU N) (gc 28 (wX N) gn)) (fun _ _ _ h=>by cases h) [] mix (ab5 rfl) ?_;rw [show gN [true,false] [sO 1 (a0.map (aA .i64)),.clo 119 [.iref 1 [[vI k1_0_0]] 0 0]]=(af (af av 0 (.pal 0 [] 0 a0.length none)) 1 (.clo 119 [.iref 1 [[vI k1_0_0]] 0 0])) from by funext t; match t with|0=>simp [gN,jz,kG,af]|1=>rfl|t+2=>rfl];rw [show R0 [true,false] [sO 1 (a0.map (aA .i64)),.clo 119 [.iref 1 [[vI k1_0_0]] 0 0]]=upd RZ 0 (sO 1 (a0.map (aA .i64))) from by funext t; match t with|0=>rfl|1=>rfl|t+2=>rfl];simp only [Tryz.f118];unfold bP at h;refine z0 ?_;obtain ⟨r1,hr1,h⟩:=bI h;refine z1 hr1 ?_;refine z0 ?_;refine cD h (fun hc2 hc2d h=>?_) fun hc2 hc2d h=>?_
 ·refine z1 hc2d ?_;refine fD (pp ?_);cases h;simp only [go_sem,seval,eD];exact ⟨_,rfl,iE.h,qI.h,rp.h⟩
 refine z1 hc2d ?_;refine aX (iT (fun (b:List Int × Int × Int)=>⟨tab 42 (af (af (af (af av 0 (.pal 0 [] 0 b.1.length none)) 1 (.clo 119 [.iref 1 [[vI k1_0_0]] 0 0])) 5 (vI b.2.1)) 6 (vI b.2.2)),(upd RZ 0 (sO 1 (b.1.map (aA .i64))))⟩) (a0,r1,IntKind.i64.wrap (r1+1)) h ?_ ?_)
 ·exact wF (k2 hr1 hc2d)
 rintro n ⟨l4,v5,v6⟩ h -;cases n with
 | zero=>simp [bq] at h
 | succ n=>
 simp only [bq] at h;refine z0 ?_;refine cDs h (fun hc3 hc3d h=>?_) fun hc3 hc3d h=>?_
 ·refine iR (pp ?_);unfold eF at h;refine aM ?_;obtain ⟨hs12,h⟩:=jw h;try simp only [abX] at hs12 h
  refine iL fun Z hZ=>?_;simp only [go_sem,seval,hc3d,hs12,ab2,O7 (row:=(aA .i64)) (z:=0) (rz:=[vI 0]) (k:=(v5).toNat) (l:=l4) (by have:=hs12; omega) rfl,bO,sV,aK,ar.allD (mR .i64)];refine hZ _ (pp (aM ?_));obtain ⟨hs13,h⟩:=jw h;try simp only [adp] at hs13 h
  refine iL fun Z hZ=>?_;simp only [go_sem,seval,hs12,abU,eh,hs13];refine hZ _ (pp (fD (pp ?_)));cases h;simp only [go_sem,seval,eD];exact ⟨_,rfl,iE.h,qI.h,rp.h⟩
 obtain ⟨x13,hb4,hx5,h⟩:=aH h;refine z1 (k2 hb4 hx5) ?_;obtain ⟨r14,hr6,h⟩:=bI h;refine z1 hr6 ?_;refine cMs h (fun hc7 h=>?_) fun hc7 h=>?_
 ·refine z1 hc7 ?_;refine ⟨_,acn _,(l4,v5,IntKind.i64.wrap (v6+1)),?_,h⟩;exact wF (k5 hr1 hc2d hc3d hb4 (k3 hx5 hr6 hc7))
 obtain ⟨x15,hb8,hx9,h⟩:=aH h;have hx11:=kX (y:=x13) hx9;refine z1 (k4 hc7 hb8 hx9 (mm2 (row:=(aA .i64)) (y:=x13) (rx:=[vI x15]) (ry:=[vI x13]) hx9 rfl rfl)) ?_;refine z0 ?_;refine z0 ?_;refine ⟨_,acn _,((l4.set ((v5).toNat) x13),IntKind.i64.wrap (v5+1),IntKind.i64.wrap (v6+1)),?_,h⟩;refine wr ?_ ?_<;>repeat' first|rfl|constructor|simp only [go_sem,seval,acf]
def bk (N:Nat):FnS:={ own:=[true,false],pure:=true,fn:=fun cs=>match cs with
 | [c0,.clo 119 [.iref 1 [[k1_0_0]] 0 0]]=>((vL 1 (eb (aG .i64))) c0).bind fun q0=>((aG .i64) k1_0_0).bind fun q1=>(bP N q0 q1).map fun r=>sO 1 (r.map (aA .i64))
 | _=>none }
theorem qb (N:Nat):(bk N).own=[true,false]:=rfl
theorem pV (N:Nat):(bk N).pure=true:=rfl
theorem pW (N:Nat):(bk N).peek=false:=rfl
attribute [go_sem] bk qb pV pW
theorem qV (N:Nat):aC Tryz.prog 118 (bk N):=by
 refine ⟨fun cs r h=>?_,fun h=>by cases h⟩;simp only [bk] at h;split at h
 ·simp only [abC,abB] at h;obtain ⟨q0,h0,q1,h1,r',hr,rfl⟩:=h;exact (tW N q0 q1 r' hr).argsO rfl (jW (qq (mR .i64) (jR .i64) h0) (rG (Le.clo (LeL.cons (Le.iref1 (LeL.cons (bN h1) (LeL.nil))) (LeL.nil))) (oD)))
 ·cases h

end Go.Proofs.YtmacaidmhchpgaaGreat
