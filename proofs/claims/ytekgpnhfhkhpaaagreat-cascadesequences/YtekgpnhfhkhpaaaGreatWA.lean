/- Walks: each function computes its model. No condition. -/
import Derived.Test.YtekgpnhfhkhpaaaGreatB
/- Each Go function computes its model: proofs laid by a program of ours. -/
set_option maxHeartbeats 40000000
set_option synthInstance.maxHeartbeats 2000000
set_option synthInstance.maxSize 4000
set_option linter.unusedSimpArgs false
set_option linter.unusedVariables false
set_option maxRecDepth 100000
namespace Go.Proofs.YtekgpnhfhkhpaaaGreat
open Go Go.Proofs Go.Abs
theorem t7 (N:Nat) (a0:(List ae)) (r:(List ae)) (h:gA N a0=some r):Con Tryz.prog 35 [true] true [.sl true none 2 none (a0.map ae.row)] (.sl true none 2 none (r.map ae.row)):=by
 refine qA (G:=(glist [])) (L:=noL) Tryz.func35 rfl (by decide) (by kernel_rfl) gn (fun _ _ _ h=>by cases h) [] mix (Nat.le_of_ble_eq_true rfl) ?_;rw [show entryF [true] [.sl true none 2 none (a0.map ae.row)]=(updT deadT 0 (.pal 0 [] 0 a0.length none)) from by funext t; match t with|0=>simp [entryF,iW,viewD,updT]|t+1=>rfl];rw [show R0 [true] [.sl true none 2 none (a0.map ae.row)]=upd RZ 0 (.sl true none 2 none (a0.map ae.row)) from by funext t; match t with|0=>rfl|t+1=>rfl];simp only [Tryz.f35];unfold gA at h;refine Ws fun Z hZ=>?_;simp only [go_sem,seval];refine hZ _ (pp (Wk_seq (Ws fun Z hZ=>?_)));simp only [go_sem,seval];refine hZ _ (pp (am rfl (fun hc1=>?_) (fun hc1=>?_)))
 ·have hc1d:=decide_eq_true hc1;rw [if_pos hc1] at h;refine Ws fun Z hZ=>?_;simp only [go_sem,seval,hc1d];refine hZ _ (pp (Wk_ret (pp ?_)));cases h;simp only [go_sem,seval,fJ];exact ⟨_,rfl,RokI.h,KeepI.h,PureI.h⟩
 have hc1d:=decide_eq_false hc1;rw [if_neg hc1] at h;refine ak (pp (Wk_seq (Ws fun Z hZ=>?_)));simp only [go_sem,seval,hc1d];refine hZ _ (pp (al (dt fun hreal3=>?_)));have hl2:=hreal3.lenX 0 (by simp only [go_sem,seval]; rfl);first|rw [List.length_map] at hl2|rw [dy] at hl2|rw [<-List.map_append,List.length_map] at hl2
 refine yx (fun (v3:Nat) (b:Unit)=>⟨tab 61 (updT (updT deadT 0 (.pal 0 [] 0 a0.length none)) 3 (.val (.int .i64 ((v3:Nat):Int)))),(upd RZ 0 (.sl true none 2 none (a0.map ae.row)))⟩) () h ?_ ?_
 ·refine wr ?_ ?_<;>repeat' first|rfl|constructor|simp only [go_sem,seval,Bool.or_self,List.length_set,Int.natCast_zero,Int.cast_ofNat_Int,hc1d]
 rintro v3 ⟨⟩ _ h -;rcases (tu a0.length v3).symm with ⟨hi4',hd7⟩|⟨hi4',hd7⟩
 ·rw [hd7] at h;simp only [eZ] at h;refine Wk_seq (Ws fun Z hZ=>?_);simp only [go_sem,seval,hi4'];refine hZ _ (pp ?_);try simp only [Int.ofNat_lt,hi4',if_true,if_false] at h
  refine bc rfl (aP (pp (Ws fun Z hZ=>?_)));simp only [go_sem,seval];refine hZ _ (pp (Wk_ret (pp ?_)));cases h;simp only [go_sem,seval,fJ];exact ⟨_,rfl,RokI.h,KeepI.h,PureI.h⟩
 rw [hd7] at h;simp only [eZ] at h;have hw6:=bu hi4' hl2;refine Wk_seq (Ws fun Z hZ=>?_);simp only [go_sem,seval,hi4'];refine hZ _ (pp ?_);try simp only [Int.ofNat_lt,hi4',if_true,if_false] at h
 refine bm rfl (ak (pp (Wk_seq (al (Wk_seq ?_)))));obtain ⟨x1,hb8,hx9,h⟩:=aI h;try simp only [Int.toNat_natCast] at hx9
 try simp only [Int.ofNat_lt,Int.natCast_nonneg,true_and] at hb8
 obtain ⟨x2,hb10,hx11,h⟩:=aI h;refine bU fun Z hZ=>?_;simp only [go_sem,seval,hi4',hx9,hb10,hx11];refine hZ _ (by kernel_rfl) (pp (sw (au rfl) (fun hc12=>?_) (fun hc12=>?_)))
 ·rw [if_neg (ne_true_of_eq_false hc12)] at h;refine ak (pp (ai fun Z hZ=>?_));simp only [go_sem,seval,hw6,hc12];refine hZ _ (pp ?_);first|refine ⟨(),?_,h⟩|refine ⟨hi4',(),?_,h⟩
  refine wr ?_ ?_<;>repeat' first|rfl|constructor|simp only [go_sem,seval,Bool.or_self,List.length_set,Int.natCast_zero,Int.cast_ofNat_Int,hc1d,hi4',hw6,hb8,hx9,hb10,hx11,hc12]
 rw [if_pos hc12] at h;refine Wk_seq ?_;obtain ⟨hs13,h⟩:=gR h;try simp only [Int.toNat_natCast] at hs13 h
 refine ai fun Z hZ=>?_;simp only [go_sem,seval,hc12,hs13,Nat.zero_le];refine hZ _ (pp (Wk_seq (Ws fun Z hZ=>?_)));simp only [go_sem,seval];refine hZ _ (pp (al (fV (fun (b:List ae × Int × Int)=>⟨tab 61 (updT (updT (updT (updT deadT 0 (.pal 0 [] 0 b.1.length none)) 3 (.val (.int .i64 b.2.1))) 4 (.pal 0 [] v3 (a0.length - v3) none)) 5 (.val (.int .i64 b.2.2))),(upd RZ 0 (.sl true none 2 none (b.1.map ae.row)))⟩) (a0,((v3:Nat):Int),1) h ?_ ?_)))
 ·refine wr ?_ ?_<;>repeat' first|rfl|constructor|simp only [go_sem,seval,Bool.or_self,List.length_set,Int.natCast_zero,Int.cast_ofNat_Int,hc1d,hi4',hw6,hb8,hx9,hb10,hx11,hc12,hs13,Nat.sub_zero,Nat.zero_le]
 rintro n ⟨l12,v13,v14⟩ h -;cases n with
 | zero=>simp [ej] at h
 | succ n=>
 simp only [ej] at h;refine Wk_seq (Ws fun Z hZ=>?_);simp only [go_sem,seval];refine hZ _ (pp (sw (am rfl) (fun hc14=>?_) (fun hc14=>?_)))
 ·have hc14d:=decide_eq_false hc14;rw [if_neg hc14] at h;refine aP (pp ?_);unfold gC at h;refine Wk_seq ?_;obtain ⟨hs24,h⟩:=gR h;try simp only [Int.toNat_natCast] at hs24 h
  refine ai fun Z hZ=>?_;simp only [go_sem,seval,Nat.zero_le,hc14d,hs24,uz (row:=ae.row) (z:=(ae.mk 0 0)) (rz:=[.val (.int .i64 0),.val (.int .i64 0)]) (k:=(v13).toNat) (l:=l12) (by have:=hs24; omega) rfl,altX,clearX,dh,RowOk.allD ae.row_ok];refine hZ _ (pp (Wk_seq ?_));obtain ⟨hs25,h⟩:=gR h;try simp only [Int.toNat_zero] at hs25 h
  refine ai fun Z hZ=>?_;simp only [go_sem,seval,Nat.sub_zero,hs24,deepV,hs25];refine hZ _ (pp (Wk_ret (pp ?_)));cases h;simp only [go_sem,seval,fJ];exact ⟨_,rfl,RokI.h,KeepI.h,PureI.h⟩
 have hc14d:=decide_eq_true hc14;rw [if_pos hc14] at h;refine ak (pp (Wk_seq (al (Wk_seq ?_))));obtain ⟨x16,hb15,hx16,h⟩:=aI h;obtain ⟨x17,hb17,hx18,h⟩:=aI h;refine bU fun Z hZ=>?_;simp only [go_sem,seval,hb15,mX hx16,win_lt hb15,hb17,mX hx18,win_lt hb17];refine hZ _ (by kernel_rfl) (pp (sw (bQ rfl) (fun hc19=>?_) (fun hc19=>?_)))
 ·rw [if_pos hc19] at h;refine ak (pp (ai fun Z hZ=>?_));simp only [go_sem,seval,hc19];refine hZ _ (pp (⟨_,Nat.lt_succ_self _,(l12,v13,IntKind.i64.wrap (v14+1)),?_,h⟩));refine wr ?_ ?_<;>repeat' first|rfl|constructor|simp only [go_sem,seval,Bool.or_self,List.length_set,Int.natCast_zero,Int.cast_ofNat_Int,hc1d,hi4',hw6,hb8,hx9,hb10,hx11,hc12,hs13,Nat.sub_zero,Nat.zero_le,hc14d,hb15,hx16,mX hx16,win_lt hb15,hb17,hx18,mX hx18,win_lt hb17,hc19]
 rw [if_neg (ne_true_of_eq_false hc19)] at h;refine Wk_seq ?_;obtain ⟨x18,hb20,hx21,h⟩:=aI h;have hx23:=rO (y:=x16) hx21;refine ai fun Z hZ=>?_;simp only [go_sem,seval,hb15,win_lt hb15,hc19,mX hx16,hb20,hx21,mV (row:=ae.row) (y:=x16) (rx:=[.val (.int .i64 x18.e0),.val (.int .i64 x18.e1)]) (ry:=[.val (.int .i64 x16.e0),.val (.int .i64 x16.e1)]) hx21 rfl rfl];refine hZ _ (pp (ai fun Z hZ=>?_));simp only [go_sem,seval];refine hZ _ (pp (ai fun Z hZ=>?_));simp only [go_sem,seval];refine hZ _ (pp (⟨_,Nat.lt_succ_self _,((l12.set ((v13).toNat) x16),IntKind.i64.wrap (v13+1),IntKind.i64.wrap (v14+1)),?_,h⟩));refine wr ?_ ?_<;>repeat' first|rfl|constructor|simp only [go_sem,seval,List.length_set]
def dY (N:Nat):FnS:={ own:=[true],pure:=true,fn:=fun cs=>match cs with
 | [c0]=>((decO 2 ae.dec) c0).bind fun q0=>(gA N q0).map fun r=>.sl true none 2 none (r.map ae.row)
 | _=>none }
theorem qY (N:Nat):(dY N).own=[true]:=rfl
theorem qx (N:Nat):(dY N).pure=true:=rfl
theorem qB (N:Nat):(dY N).peek=false:=rfl
attribute [go_sem] dY qY qx qB
theorem rh (N:Nat):FSOk Tryz.prog 35 (dY N):=by
 refine ⟨fun cs r h=>?_,fun h=>by cases h⟩;simp only [dY] at h;split at h
 ·simp only [Option.bind_eq_some_iff,Option.map_eq_some_iff] at h;obtain ⟨q0,h0,r',hr,rfl⟩:=h;exact (t7 N q0 r' hr).argsO rfl (oD (qE ae.row_ok ae.dec_le h0) (oB))
 ·cases h


theorem wQ (N:Nat) (a0:Int) (r:Bool) (h:gm N a0=some r):Con Tryz.prog 73 [] true [.val (.int .i64 a0)] (.val (.bool r)):=by
 refine aV (G:=(glist [])) Tryz.func73 rfl (by decide) (by kernel_rfl) gn [] mix (Nat.le_of_ble_eq_true rfl) ?_;simp only [Tryz.f73];unfold gm at h;refine Ws fun Z hZ=>?_;simp only [go_sem,seval];refine hZ _ (pp (Ws fun Z hZ=>?_));simp only [go_sem,seval];refine bF rfl (fun hc1=>?_) (fun hc1=>?_)
 ·have hc1d:=decide_eq_true hc1;rw [if_pos hc1] at h;simp only [go_sem,seval,hc1d];refine hZ _ (pp (Wk_ret (pp ?_)));cases h;simp only [go_sem,seval];exact ⟨_,rfl,RokI.h,PureI.h⟩
 have hc1d:=decide_eq_false hc1;rw [if_neg hc1] at h;simp only [go_sem,seval,hc1d];refine hZ _ (pp (Wk_ret (pp ?_)));cases h;simp only [go_sem,seval];exact ⟨_,rfl,RokI.h,PureI.h⟩
def jO (N:Nat):FnS:=⟨[],true,fn1 (decI .i64) fun q0=>(gm N q0).map fun r=>.val (.bool r),false⟩
attribute [go_sem] jO
theorem mp (N:Nat):FSOk Tryz.prog 73 (jO N):=ok1 (fun q0 r h=>by
 obtain ⟨r',hr,rfl⟩:=Option.map_eq_some_iff.1 h;exact wQ N q0 r' hr) (ay)


theorem vV (N:Nat) (a0:(List Int)) (a1:Int) (r:Int) (h:gN N a0 a1=some r):Con Tryz.prog 51 [] true [.sl false none 1 none (a0.map (rowI .i64)),.val (.int .i64 a1)] (.val (.int .i64 r)):=by
 refine aV (G:=(glist [])) Tryz.func51 rfl (by decide) (by kernel_rfl) gn [] mix (Nat.le_of_ble_eq_true rfl) ?_;simp only [Tryz.f51];unfold gN at h;refine Ws fun Z hZ=>?_;simp only [go_sem,seval];refine hZ _ (pp (Wk_seq (Ws fun Z hZ=>?_)));simp only [go_sem,seval];refine hZ _ (pp (al (dt fun hreal2=>?_)));have hl1:=hreal2.lenT 0 (by decide) (by simp only [go_sem,seval]; rfl);first|rw [List.length_map] at hl1|rw [dy] at hl1|rw [<-List.map_append,List.length_map] at hl1
 refine dg (fun (v2:Nat) (b:Unit)=>⟨tab 19 (updT (updT (updT (updT deadT 0 (.sl false none 1 none (a0.map (rowI .i64)))) 1 (.val (.int .i64 a1))) 7 (.val (.int .i64 ((a0.length:Nat):Int)))) 8 (.val (.int .i64 ((v2:Nat):Int)))),RZ⟩) () h ?_ ?_
 ·refine wr ?_ ?_<;>repeat' first|rfl|constructor
 rintro v2 ⟨⟩ hi3 h -;rcases (bq a0 v2 hi3).symm with ⟨hi3',_,hd6⟩|⟨x5,hi3',hx4,hd6⟩
 ·rw [hd6] at h;simp only [gr] at h;refine Ws fun Z hZ=>?_;simp only [go_sem,seval,hi3'];refine hZ _ (pp (Wk_seq ?_));try simp only [Int.ofNat_lt,hi3',if_true,if_false] at h
  refine bc rfl (aP (pp (Ws fun Z hZ=>?_)));simp only [go_sem,seval];refine hZ _ (pp (Wk_ret (pp ?_)));cases h;simp only [go_sem,seval];exact ⟨_,rfl,RokI.h,PureI.h⟩
 rw [hd6] at h;simp only [gr] at h;have hw5:=bu hi3' hl1;refine Ws fun Z hZ=>?_;simp only [go_sem,seval,hi3'];refine hZ _ (pp (Wk_seq ?_));try simp only [Int.ofNat_lt,hi3',if_true,if_false] at h
 refine bm rfl (ak (pp (Wk_seq (al (Ws fun Z hZ=>?_)))));simp only [go_sem,seval];refine hZ _ (pp (Wk_seq ?_));try rw [gx_nat hx4] at h
 refine ai fun Z hZ=>?_;simp only [go_sem,seval,hx4,hi3'];refine hZ _ (pp (am rfl (fun hc7=>?_) (fun hc7=>?_)))
 ·have hc7d:=decide_eq_true hc7;rw [if_pos hc7] at h;refine Ws fun Z hZ=>?_;simp only [go_sem,seval,hc7d];refine hZ _ (pp (Wk_ret (pp ?_)));cases h;simp only [go_sem,seval];exact ⟨_,rfl,RokI.h,PureI.h⟩
 have hc7d:=decide_eq_false hc7;rw [if_neg hc7] at h;refine ak (pp (ai fun Z hZ=>?_));simp only [go_sem,seval,hw5,hc7d];refine hZ _ (pp ?_);first|refine ⟨(),?_,h⟩|refine ⟨hi3',(),?_,h⟩
 refine wr ?_ ?_<;>repeat' first|rfl|constructor
def lk (N:Nat):FnS:=⟨[],true,fn2 (decL 1 (dec1 (decI .i64))) (decI .i64) fun q0 q1=>(gN N q0 q1).map fun r=>.val (.int .i64 r),false⟩
attribute [go_sem] lk
theorem pk (N:Nat):FSOk Tryz.prog 51 (lk N):=ok2 (fun q0 q1 r h=>by
 obtain ⟨r',hr,rfl⟩:=Option.map_eq_some_iff.1 h;exact vV N q0 q1 r' hr) (fun h=>ar (aJ .i64) h) (ay)


noncomputable def pH (N d f:Nat):Option FnS:=glist [(7,51,lk N)] d f
attribute [go_sem] pH
theorem tO (N:Nat) (a0:(List Int)) (a1:Int) (r:Bool) (h:aN N a0 a1=some r):Con Tryz.prog 27 [] true [.sl false none 1 none (a0.map (rowI .i64)),.val (.int .i64 a1)] (.val (.bool r)):=by
 refine aV (G:=(pH N)) Tryz.func27 rfl (by decide) (by kernel_rfl) (gc 7 (pk N) gn) [] mix (Nat.le_of_ble_eq_true rfl) ?_;simp only [Tryz.f27];unfold aN at h;refine Ws fun Z hZ=>?_;simp only [go_sem,seval];refine hZ _ (pp (Wk_seq ?_));obtain ⟨r1,hr1,h⟩:=Option.bind_eq_some_iff.1 h;refine ai fun Z hZ=>?_;simp only [go_sem,seval,hr1];refine hZ _ (pp (Wk_ret (pp ?_)));cases h;simp only [go_sem,seval];exact ⟨_,rfl,RokI.h,PureI.h⟩
def aQ (N:Nat):FnS:=⟨[],true,fn2 (decL 1 (dec1 (decI .i64))) (decI .i64) fun q0 q1=>(aN N q0 q1).map fun r=>.val (.bool r),false⟩
attribute [go_sem] aQ
theorem aS (N:Nat):FSOk Tryz.prog 27 (aQ N):=ok2 (fun q0 q1 r h=>by
 obtain ⟨r',hr,rfl⟩:=Option.map_eq_some_iff.1 h;exact tO N q0 q1 r' hr) (fun h=>ar (aJ .i64) h) (ay)


noncomputable def pG (N d f:Nat):Option FnS:=glist [(10,27,aQ N),(17,27,aQ N)] d f
attribute [go_sem] pG
theorem uq (N:Nat) (a0:af) (a1:Int) (r:Bool) (h:dC N a0 a1=some r):Con Tryz.prog 39 [] true [.iref 6 [[.sl false none 2 none (a0.stacks.map ag.row),.sl false none 2 none (a0.prepared.map ae.row),.sl false none 1 none (a0.known.map (rowI .i64)),.sl false none 1 none (a0.committed.map (rowI .i64)),.sl false none 1 none (a0.aborted.map (rowI .i64)),.sl false none 2 none (a0.deps.map ae.row)]] 0 0,.val (.int .i64 a1)] (.val (.bool r)):=by
 refine aV (G:=(pG N)) Tryz.func39 rfl (by decide) (by kernel_rfl) (gc 10 (aS N) (gc 17 (aS N) gn)) [] mix (Nat.le_of_ble_eq_true rfl) ?_;simp only [Tryz.f39];unfold dC at h;refine Ws fun Z hZ=>?_;simp only [go_sem,seval];refine hZ _ (pp (Wk_seq ?_));obtain ⟨r1,hr1,h⟩:=Option.bind_eq_some_iff.1 h;refine ai fun Z hZ=>?_;simp only [go_sem,seval,hr1];refine bR rfl (fun hc2=>?_) (fun hc2=>?_)
 ·rw [if_pos hc2] at h;simp only [go_sem,seval,hc2];refine hZ _ (pp (Wk_ret (pp ?_)));cases h;simp only [go_sem,seval];exact ⟨_,rfl,RokI.h,PureI.h⟩
 rw [if_neg (ne_true_of_eq_false hc2)] at h;obtain ⟨r2,hr3,h⟩:=Option.bind_eq_some_iff.1 h;simp only [go_sem,seval,hc2,hr3];refine hZ _ (pp (Wk_ret (pp ?_)));cases h;simp only [go_sem,seval];exact ⟨_,rfl,RokI.h,PureI.h⟩
def gD (N:Nat):FnS:=⟨[],true,fn2 (decPt 6 af.dec) (decI .i64) fun q0 q1=>(dC N q0 q1).map fun r=>.val (.bool r),false⟩
attribute [go_sem] gD
theorem kr (N:Nat):FSOk Tryz.prog 39 (gD N):=ok2 (fun q0 q1 r h=>by
 obtain ⟨r',hr,rfl⟩:=Option.map_eq_some_iff.1 h;exact uq N q0 q1 r' hr) (fun h=>kU af.dec_le h) (ay)


theorem wo (N:Nat) (a0:af) (a1:Int) (r:(List Int)) (h:jB N a0 a1=some r):Con Tryz.prog 37 [] false [.iref 6 [[.sl false none 2 none (a0.stacks.map ag.row),.sl false none 2 none (a0.prepared.map ae.row),.sl false none 1 none (a0.known.map (rowI .i64)),.sl false none 1 none (a0.committed.map (rowI .i64)),.sl false none 1 none (a0.aborted.map (rowI .i64)),.sl false none 2 none (a0.deps.map ae.row)]] 0 0,.val (.int .i64 a1)] (.sl false none 1 none (r.map (rowI .i64))):=by
 refine aV (G:=(glist [])) Tryz.func37 rfl (by decide) (by kernel_rfl) gn [] mix (Nat.le_of_ble_eq_true rfl) ?_;simp only [Tryz.f37];unfold jB at h;refine Ws fun Z hZ=>?_;simp only [go_sem,seval];refine hZ _ (pp (Wk_seq (Ws fun Z hZ=>?_)));simp only [go_sem,seval];refine hZ _ (pp (al (dt fun hreal2=>?_)));have hl1:=hreal2.lenT 10 (by decide) (by simp only [go_sem,seval]; rfl);first|rw [List.length_map] at hl1|rw [dy] at hl1|rw [<-List.map_append,List.length_map] at hl1
 refine dg (fun (v2:Nat) (b:Unit)=>⟨tab 23 (updT (updT (updT (updT deadT 1 (.val (.int .i64 a1))) 10 (.sl false none 2 none (a0.stacks.map ag.row))) 11 (.val (.int .i64 ((a0.stacks.length:Nat):Int)))) 12 (.val (.int .i64 ((v2:Nat):Int)))),RZ⟩) () h ?_ ?_
 ·refine wr ?_ ?_<;>repeat' first|rfl|constructor
 rintro v2 ⟨⟩ hi3 h -;rcases (bq a0.stacks v2 hi3).symm with ⟨hi3',_,hd6⟩|⟨x5,hi3',hx4,hd6⟩
 ·rw [hd6] at h;simp only [gu] at h;refine Ws fun Z hZ=>?_;simp only [go_sem,seval,hi3'];refine hZ _ (pp (Wk_seq ?_));try simp only [Int.ofNat_lt,hi3',if_true,if_false] at h
  refine bc rfl (aP (pp (Ws fun Z hZ=>?_)));simp only [go_sem,seval];refine hZ _ (pp (Wk_ret (pp ?_)));cases h;simp only [go_sem,seval];exact ⟨_,rfl,RokI.h⟩
 rw [hd6] at h;simp only [gu] at h;have hw5:=bu hi3' hl1;refine Ws fun Z hZ=>?_;simp only [go_sem,seval,hi3'];refine hZ _ (pp (Wk_seq ?_));try simp only [Int.ofNat_lt,hi3',if_true,if_false] at h
 refine bm rfl (ak (pp (Wk_seq (al (Wk_seq ?_)))));try rw [gx_nat hx4] at h
 refine ai fun Z hZ=>?_;simp only [go_sem,seval,hx4,hi3'];refine hZ _ (pp (Ws fun Z hZ=>?_));simp only [go_sem,seval];refine hZ _ (pp (am rfl (fun hc7=>?_) (fun hc7=>?_)))
 ·have hc7d:=decide_eq_true hc7;rw [if_pos hc7] at h;refine Ws fun Z hZ=>?_;simp only [go_sem,seval,hc7d];refine hZ _ (pp (Wk_ret (pp ?_)));cases h;simp only [go_sem,seval];exact ⟨_,rfl,RokI.h⟩
 have hc7d:=decide_eq_false hc7;rw [if_neg hc7] at h;refine ak (pp (ai fun Z hZ=>?_));simp only [go_sem,seval,hw5,hc7d];refine hZ _ (pp ?_);first|refine ⟨(),?_,h⟩|refine ⟨hi3',(),?_,h⟩
 refine wr ?_ ?_<;>repeat' first|rfl|constructor
def lh (N:Nat):FnS:=⟨[],false,fn2 (decPt 6 af.dec) (decI .i64) fun q0 q1=>(jB N q0 q1).map fun r=>.sl false none 1 none (r.map (rowI .i64)),false⟩
attribute [go_sem] lh
theorem pe (N:Nat):FSOk Tryz.prog 37 (lh N):=ok2 (fun q0 q1 r h=>by
 obtain ⟨r',hr,rfl⟩:=Option.map_eq_some_iff.1 h;exact wo N q0 q1 r' hr) (fun h=>kU af.dec_le h) (ay)


theorem sx (N:Nat) (a0:ae) (c0_0:Int) (r:Bool) (h:io N a0 c0_0=some r):Con Tryz.prog 97 [] true [.agg [.val (.int .i64 a0.e0),.val (.int .i64 a0.e1)],.iref 1 [[.val (.int .i64 c0_0)]] 0 0] (.val (.bool r)):=by
 refine aV (G:=(glist [])) Tryz.func97 rfl (by decide) (by kernel_rfl) gn [] mix (Nat.le_of_ble_eq_true rfl) ?_;simp only [Tryz.f97];unfold io at h;refine Ws fun Z hZ=>?_;simp only [go_sem,seval];refine hZ _ (pp (Ws fun Z hZ=>?_));simp only [go_sem,seval];refine hZ _ (pp (Wk_ret (pp ?_)));cases h;simp only [go_sem,seval];exact ⟨_,rfl,RokI.h,PureI.h⟩
def iK (N:Nat):FnS:={ own:=[],pure:=true,fn:=fun cs=>match cs with
 | [c0,.iref 1 [[c1_0]] 0 0]=>(ae.decA c0).bind fun qc0=>((decI .i64) c1_0).bind fun qc1_0=>(io N qc0 qc1_0).map fun r=>.val (.bool r)
 | _=>none }
attribute [go_sem] iK
theorem qV (N:Nat):FSOk Tryz.prog 97 (iK N):=by
 refine ⟨fun cs r h=>?_,fun h=>by cases h⟩;simp only [iK] at h;split at h
 ·simp only [Option.bind_eq_some_iff,Option.map_eq_some_iff] at h;obtain ⟨q0,h0,q1,h1,r',hr,rfl⟩:=h;exact ((sx N q0 q1 r' hr).args (LeL.cons (ae.decA_le h0) (LeL.cons (Le.iref1 (LeL.cons (ay h1) (LeL.nil))) (LeL.nil))))
 ·cases h


noncomputable def gi (N d f:Nat):Option FnS:=glist [(16,97,iK N)] d f
attribute [go_sem] gi
theorem lJ (N:Nat) (a0:(List ae)) (k1_0_0:Int) (r:Int) (h:bB N a0 k1_0_0=some r):Con Tryz.prog 105 [] true [.sl false none 2 none (a0.map ae.row),.clo 97 [.iref 1 [[.val (.int .i64 k1_0_0)]] 0 0]] (.val (.int .i64 r)):=by
 refine aV (G:=(gi N)) Tryz.func105 rfl (by decide) (by kernel_rfl) (gc 16 (qV N) gn) [] mix (Nat.le_of_ble_eq_true rfl) ?_;simp only [Tryz.f105];unfold bB at h;refine Ws fun Z hZ=>?_;simp only [go_sem,seval];refine hZ _ (pp (Wk_seq (Ws fun Z hZ=>?_)));simp only [go_sem,seval];refine hZ _ (pp (al (dt fun hreal2=>?_)));have hl1:=hreal2.lenT 0 (by decide) (by simp only [go_sem,seval]; rfl);first|rw [List.length_map] at hl1|rw [dy] at hl1|rw [<-List.map_append,List.length_map] at hl1
 refine dg (fun (v2:Nat) (b:Unit)=>⟨tab 19 (updT (updT (updT (updT deadT 0 (.sl false none 2 none (a0.map ae.row))) 1 (.clo 97 [.iref 1 [[.val (.int .i64 k1_0_0)]] 0 0])) 7 (.val (.int .i64 ((a0.length:Nat):Int)))) 8 (.val (.int .i64 ((v2:Nat):Int)))),RZ⟩) () h ?_ ?_
 ·refine wr ?_ ?_<;>repeat' first|rfl|constructor
 rintro v2 ⟨⟩ hi3 h -;rcases (bq a0 v2 hi3).symm with ⟨hi3',_,hd6⟩|⟨x5,hi3',hx4,hd6⟩
 ·rw [hd6] at h;simp only [aY] at h;refine Ws fun Z hZ=>?_;simp only [go_sem,seval,hi3'];refine hZ _ (pp (Wk_seq ?_));try simp only [Int.ofNat_lt,hi3',if_true,if_false] at h
  refine bc rfl (aP (pp (Ws fun Z hZ=>?_)));simp only [go_sem,seval];refine hZ _ (pp (Wk_ret (pp ?_)));cases h;simp only [go_sem,seval];exact ⟨_,rfl,RokI.h,PureI.h⟩
 rw [hd6] at h;simp only [aY] at h;have hw5:=bu hi3' hl1;refine Ws fun Z hZ=>?_;simp only [go_sem,seval,hi3'];refine hZ _ (pp (Wk_seq ?_));try simp only [Int.ofNat_lt,hi3',if_true,if_false] at h
 refine bm rfl (ak (pp (Wk_seq (al (Ws fun Z hZ=>?_)))));simp only [go_sem,seval];refine hZ _ (pp (Wk_seq ?_));try rw [gx_nat hx4] at h
 obtain ⟨r1,hr7,h⟩:=Option.bind_eq_some_iff.1 h;refine ai fun Z hZ=>?_;simp only [go_sem,seval,hx4,hi3',hr7];refine hZ _ (pp (au rfl (fun hc8=>?_) (fun hc8=>?_)))
 ·rw [if_pos hc8] at h;refine Ws fun Z hZ=>?_;simp only [go_sem,seval,hc8];refine hZ _ (pp (Wk_ret (pp ?_)));cases h;simp only [go_sem,seval];exact ⟨_,rfl,RokI.h,PureI.h⟩
 rw [if_neg (ne_true_of_eq_false hc8)] at h;refine ak (pp (ai fun Z hZ=>?_));simp only [go_sem,seval,hw5,hc8];refine hZ _ (pp ?_);first|refine ⟨(),?_,h⟩|refine ⟨hi3',(),?_,h⟩
 refine wr ?_ ?_<;>repeat' first|rfl|constructor
def bW (N:Nat):FnS:={ own:=[],pure:=true,fn:=fun cs=>match cs with
 | [c0,.clo 97 [.iref 1 [[k1_0_0]] 0 0]]=>((decL 2 ae.dec) c0).bind fun qc0=>((decI .i64) k1_0_0).bind fun qk1_0_0=>(bB N qc0 qk1_0_0).map fun r=>.val (.int .i64 r)
 | _=>none }
attribute [go_sem] bW
theorem kO (N:Nat):FSOk Tryz.prog 105 (bW N):=by
 refine ⟨fun cs r h=>?_,fun h=>by cases h⟩;simp only [bW] at h;split at h
 ·simp only [Option.bind_eq_some_iff,Option.map_eq_some_iff] at h;obtain ⟨q0,h0,q1,h1,r',hr,rfl⟩:=h;exact ((lJ N q0 q1 r' hr).args (LeL.cons (ar ae.dec_le h0) (LeL.cons (Le.clo (LeL.cons (Le.iref1 (LeL.cons (ay h1) (LeL.nil))) (LeL.nil))) (LeL.nil))))
 ·cases h


noncomputable def fH (N d f:Nat):Option FnS:=glist [(7,105,bW N)] d f
attribute [go_sem] fH
theorem kT (N:Nat) (a0:(List ae)) (k1_0_0:Int) (r:Bool) (h:bo N a0 k1_0_0=some r):Con Tryz.prog 96 [] true [.sl false none 2 none (a0.map ae.row),.clo 97 [.iref 1 [[.val (.int .i64 k1_0_0)]] 0 0]] (.val (.bool r)):=by
 refine aV (G:=(fH N)) Tryz.func96 rfl (by decide) (by kernel_rfl) (gc 7 (kO N) gn) [] mix (Nat.le_of_ble_eq_true rfl) ?_;simp only [Tryz.f96];unfold bo at h;refine Ws fun Z hZ=>?_;simp only [go_sem,seval];refine hZ _ (pp (Wk_seq ?_));obtain ⟨r1,hr1,h⟩:=Option.bind_eq_some_iff.1 h;refine ai fun Z hZ=>?_;simp only [go_sem,seval,hr1];refine hZ _ (pp (Wk_ret (pp ?_)));cases h;simp only [go_sem,seval];exact ⟨_,rfl,RokI.h,PureI.h⟩
def bM (N:Nat):FnS:={ own:=[],pure:=true,fn:=fun cs=>match cs with
 | [c0,.clo 97 [.iref 1 [[k1_0_0]] 0 0]]=>((decL 2 ae.dec) c0).bind fun qc0=>((decI .i64) k1_0_0).bind fun qk1_0_0=>(bo N qc0 qk1_0_0).map fun r=>.val (.bool r)
 | _=>none }
attribute [go_sem] bM
theorem j8 (N:Nat):FSOk Tryz.prog 96 (bM N):=by
 refine ⟨fun cs r h=>?_,fun h=>by cases h⟩;simp only [bM] at h;split at h
 ·simp only [Option.bind_eq_some_iff,Option.map_eq_some_iff] at h;obtain ⟨q0,h0,q1,h1,r',hr,rfl⟩:=h;exact ((kT N q0 q1 r' hr).args (LeL.cons (ar ae.dec_le h0) (LeL.cons (Le.clo (LeL.cons (Le.iref1 (LeL.cons (ay h1) (LeL.nil))) (LeL.nil))) (LeL.nil))))
 ·cases h


noncomputable def pP (N d f:Nat):Option FnS:=glist [(10,96,bM N)] d f
attribute [go_sem] pP
theorem tP (N:Nat) (a0:af) (a1:Int) (r:Bool) (h:gv N a0 a1=some r):Con Tryz.prog 74 [] true [.iref 6 [[.sl false none 2 none (a0.stacks.map ag.row),.sl false none 2 none (a0.prepared.map ae.row),.sl false none 1 none (a0.known.map (rowI .i64)),.sl false none 1 none (a0.committed.map (rowI .i64)),.sl false none 1 none (a0.aborted.map (rowI .i64)),.sl false none 2 none (a0.deps.map ae.row)]] 0 0,.val (.int .i64 a1)] (.val (.bool r)):=by
 refine aV (G:=(pP N)) Tryz.func74 rfl (by decide) (by kernel_rfl) (gc 10 (j8 N) gn) [] mix (Nat.le_of_ble_eq_true rfl) ?_;simp only [Tryz.f74];unfold gv at h;refine Ws fun Z hZ=>?_;simp only [go_sem,seval];refine hZ _ (pp (Wk_seq ?_));obtain ⟨r1,hr1,h⟩:=Option.bind_eq_some_iff.1 h;refine ai fun Z hZ=>?_;simp only [go_sem,seval,hr1];refine hZ _ (pp (Wk_ret (pp ?_)));cases h;simp only [go_sem,seval];exact ⟨_,rfl,RokI.h,PureI.h⟩
def ma (N:Nat):FnS:=⟨[],true,fn2 (decPt 6 af.dec) (decI .i64) fun q0 q1=>(gv N q0 q1).map fun r=>.val (.bool r),false⟩
attribute [go_sem] ma
theorem rK (N:Nat):FSOk Tryz.prog 74 (ma N):=ok2 (fun q0 q1 r h=>by
 obtain ⟨r',hr,rfl⟩:=Option.map_eq_some_iff.1 h;exact tP N q0 q1 r' hr) (fun h=>kU af.dec_le h) (ay)


theorem vB (N:Nat) (a0:(List ae)) (a1:ae) (r:Int) (h:kg N a0 a1=some r):Con Tryz.prog 106 [] true [.sl false none 2 none (a0.map ae.row),.agg [.val (.int .i64 a1.e0),.val (.int .i64 a1.e1)]] (.val (.int .i64 r)):=by
 refine aV (G:=(glist [])) Tryz.func106 rfl (by decide) (by kernel_rfl) gn [] mix (Nat.le_of_ble_eq_true rfl) ?_;simp only [Tryz.f106];unfold kg at h;refine Ws fun Z hZ=>?_;simp only [go_sem,seval];refine hZ _ (pp (Wk_seq (Ws fun Z hZ=>?_)));simp only [go_sem,seval];refine hZ _ (pp (al (dt fun hreal2=>?_)));have hl1:=hreal2.lenT 0 (by decide) (by simp only [go_sem,seval]; rfl);first|rw [List.length_map] at hl1|rw [dy] at hl1|rw [<-List.map_append,List.length_map] at hl1
 refine dg (fun (v2:Nat) (b:Unit)=>⟨tab 19 (updT (updT (updT (updT deadT 0 (.sl false none 2 none (a0.map ae.row))) 3 (.pref 3 [] 0 0)) 7 (.val (.int .i64 ((a0.length:Nat):Int)))) 8 (.val (.int .i64 ((v2:Nat):Int)))),(upd RZ 3 (.sl true none 2 (some 1) [[.val (.int .i64 a1.e0),.val (.int .i64 a1.e1)]]))⟩) () h ?_ ?_
 ·refine wr ?_ ?_<;>repeat' first|rfl|constructor
 rintro v2 ⟨⟩ hi3 h -;rcases (bq a0 v2 hi3).symm with ⟨hi3',_,hd6⟩|⟨x5,hi3',hx4,hd6⟩
 ·rw [hd6] at h;simp only [fS] at h;refine Ws fun Z hZ=>?_;simp only [go_sem,seval,hi3'];refine hZ _ (pp (Wk_seq ?_));try simp only [Int.ofNat_lt,hi3',if_true,if_false] at h
  refine bc rfl (aP (pp (Ws fun Z hZ=>?_)));simp only [go_sem,seval];refine hZ _ (pp (Wk_ret (pp ?_)));cases h;simp only [go_sem,seval];exact ⟨_,rfl,RokI.h,PureI.h⟩
 rw [hd6] at h;simp only [fS] at h;have hw5:=bu hi3' hl1;refine Ws fun Z hZ=>?_;simp only [go_sem,seval,hi3'];refine hZ _ (pp (Wk_seq ?_));try simp only [Int.ofNat_lt,hi3',if_true,if_false] at h
 refine bm rfl (ak (pp (Wk_seq (al (Ws fun Z hZ=>?_)))));simp only [go_sem,seval];refine hZ _ (pp (Wk_seq ?_));try rw [gx_nat hx4] at h
 refine bU fun Z hZ=>?_;simp only [go_sem,seval,hx4,hi3'];refine hZ _ (by kernel_rfl) (pp (au rfl (fun hc7=>?_) (fun hc7=>?_)))
 ·rw [if_pos hc7] at h;refine Ws fun Z hZ=>?_;simp only [go_sem,seval,hc7];refine hZ _ (pp (Wk_ret (pp ?_)));cases h;simp only [go_sem,seval];exact ⟨_,rfl,RokI.h,PureI.h⟩
 rw [if_neg (ne_true_of_eq_false hc7)] at h;refine ak (pp (ai fun Z hZ=>?_));simp only [go_sem,seval,hw5,hc7];refine hZ _ (pp ?_);first|refine ⟨(),?_,h⟩|refine ⟨hi3',(),?_,h⟩
 refine wr ?_ ?_<;>repeat' first|rfl|constructor
def mJ (N:Nat):FnS:=⟨[],true,fn2 (decL 2 ae.dec) ae.decA fun q0 q1=>(kg N q0 q1).map fun r=>.val (.int .i64 r),false⟩
attribute [go_sem] mJ
theorem sv (N:Nat):FSOk Tryz.prog 106 (mJ N):=ok2 (fun q0 q1 r h=>by
 obtain ⟨r',hr,rfl⟩:=Option.map_eq_some_iff.1 h;exact vB N q0 q1 r' hr) (fun h=>ar ae.dec_le h) (ae.decA_le)


noncomputable def pn (N d f:Nat):Option FnS:=glist [(7,106,mJ N)] d f
attribute [go_sem] pn
theorem tA (N:Nat) (a0:(List ae)) (a1:ae) (r:Bool) (h:fU N a0 a1=some r):Con Tryz.prog 98 [] true [.sl false none 2 none (a0.map ae.row),.agg [.val (.int .i64 a1.e0),.val (.int .i64 a1.e1)]] (.val (.bool r)):=by
 refine aV (G:=(pn N)) Tryz.func98 rfl (by decide) (by kernel_rfl) (gc 7 (sv N) gn) [] mix (Nat.le_of_ble_eq_true rfl) ?_;simp only [Tryz.f98];unfold fU at h;refine Ws fun Z hZ=>?_;simp only [go_sem,seval];refine hZ _ (pp (Wk_seq ?_));obtain ⟨r1,hr1,h⟩:=Option.bind_eq_some_iff.1 h;refine ai fun Z hZ=>?_;simp only [go_sem,seval,hr1];refine hZ _ (pp (Wk_ret (pp ?_)));cases h;simp only [go_sem,seval];exact ⟨_,rfl,RokI.h,PureI.h⟩
def lz (N:Nat):FnS:=⟨[],true,fn2 (decL 2 ae.dec) ae.decA fun q0 q1=>(fU N q0 q1).map fun r=>.val (.bool r),false⟩
attribute [go_sem] lz
theorem rg (N:Nat):FSOk Tryz.prog 98 (lz N):=ok2 (fun q0 q1 r h=>by
 obtain ⟨r',hr,rfl⟩:=Option.map_eq_some_iff.1 h;exact tA N q0 q1 r' hr) (fun h=>ar ae.dec_le h) (ae.decA_le)


noncomputable def qs (N d f:Nat):Option FnS:=glist [(14,98,lz N)] d f
attribute [go_sem] qs
theorem vC (N:Nat) (a0:af) (a1:Int) (a2:Int) (r:Bool) (h:fb N a0 a1 a2=some r):Con Tryz.prog 75 [] true [.iref 6 [[.sl false none 2 none (a0.stacks.map ag.row),.sl false none 2 none (a0.prepared.map ae.row),.sl false none 1 none (a0.known.map (rowI .i64)),.sl false none 1 none (a0.committed.map (rowI .i64)),.sl false none 1 none (a0.aborted.map (rowI .i64)),.sl false none 2 none (a0.deps.map ae.row)]] 0 0,.val (.int .i64 a1),.val (.int .i64 a2)] (.val (.bool r)):=by
 refine aV (G:=(qs N)) Tryz.func75 rfl (by decide) (by kernel_rfl) (gc 14 (rg N) gn) [] mix (Nat.le_of_ble_eq_true rfl) ?_;simp only [Tryz.f75];unfold fb at h;refine Ws fun Z hZ=>?_;simp only [go_sem,seval];refine hZ _ (pp (Wk_seq ?_));obtain ⟨r1,hr1,h⟩:=Option.bind_eq_some_iff.1 h;refine ai fun Z hZ=>?_;simp only [go_sem,seval,hr1];refine hZ _ (pp (Wk_ret (pp ?_)));cases h;simp only [go_sem,seval];exact ⟨_,rfl,RokI.h,PureI.h⟩
def iM (N:Nat):FnS:=⟨[],true,fn3 (decPt 6 af.dec) (decI .i64) (decI .i64) fun q0 q1 q2=>(fb N q0 q1 q2).map fun r=>.val (.bool r),false⟩
attribute [go_sem] iM
theorem lw (N:Nat):FSOk Tryz.prog 75 (iM N):=ok3 (fun q0 q1 q2 r h=>by
 obtain ⟨r',hr,rfl⟩:=Option.map_eq_some_iff.1 h;exact vC N q0 q1 q2 r' hr) (fun h=>kU af.dec_le h) (ay) (ay)


noncomputable def pB (N d f:Nat):Option FnS:=glist [(20,27,aQ N),(25,75,iM N)] d f
attribute [go_sem] pB
theorem ut (N:Nat) (a0:af) (a1:Int) (r:Bool) (h:fh N a0 a1=some r):Con Tryz.prog 56 [] true [.iref 6 [[.sl false none 2 none (a0.stacks.map ag.row),.sl false none 2 none (a0.prepared.map ae.row),.sl false none 1 none (a0.known.map (rowI .i64)),.sl false none 1 none (a0.committed.map (rowI .i64)),.sl false none 1 none (a0.aborted.map (rowI .i64)),.sl false none 2 none (a0.deps.map ae.row)]] 0 0,.val (.int .i64 a1)] (.val (.bool r)):=by
 refine aV (G:=(pB N)) Tryz.func56 rfl (by decide) (by kernel_rfl) (gc 20 (aS N) (gc 25 (lw N) gn)) [] mix (Nat.le_of_ble_eq_true rfl) ?_;simp only [Tryz.f56];unfold fh at h;refine Ws fun Z hZ=>?_;simp only [go_sem,seval];refine hZ _ (pp (Ws fun Z hZ=>?_));simp only [go_sem,seval];refine hZ _ (pp (Wk_seq (Ws fun Z hZ=>?_)));simp only [go_sem,seval];refine hZ _ (pp (al (dt fun hreal2=>?_)));have hl1:=hreal2.lenT 11 (by decide) (by simp only [go_sem,seval]; rfl);first|rw [List.length_map] at hl1|rw [dy] at hl1|rw [<-List.map_append,List.length_map] at hl1
 refine dg (fun (v3:Nat) (b:Bool)=>⟨tab 29 (updT (updT (updT (updT (updT (updT deadT 0 (.iref 6 [[.sl false none 2 none (a0.stacks.map ag.row),.sl false none 2 none (a0.prepared.map ae.row),.sl false none 1 none (a0.known.map (rowI .i64)),.sl false none 1 none (a0.committed.map (rowI .i64)),.sl false none 1 none (a0.aborted.map (rowI .i64)),.sl false none 2 none (a0.deps.map ae.row)]] 0 0)) 1 (.val (.int .i64 a1))) 5 (.val (.bool b))) 11 (.sl false none 2 none (a0.stacks.map ag.row))) 12 (.val (.int .i64 ((a0.stacks.length:Nat):Int)))) 13 (.val (.int .i64 ((v3:Nat):Int)))),RZ⟩) false h ?_ ?_
 ·refine wr ?_ ?_<;>repeat' first|rfl|constructor
 rintro v3 c2 hi3 h -;rcases (bq a0.stacks v3 hi3).symm with ⟨hi3',_,hd6⟩|⟨x6,hi3',hx4,hd6⟩
 ·rw [hd6] at h;simp only [dL] at h;refine Ws fun Z hZ=>?_;simp only [go_sem,seval,hi3'];refine hZ _ (pp (Wk_seq ?_));try simp only [Int.ofNat_lt,hi3',if_true,if_false] at h
  refine bc rfl (aP (pp (Ws fun Z hZ=>?_)));simp only [go_sem,seval];refine hZ _ (pp (Wk_ret (pp ?_)));cases h;simp only [go_sem,seval];exact ⟨_,rfl,RokI.h,PureI.h⟩
 rw [hd6] at h;simp only [dL] at h;have hw5:=bu hi3' hl1;refine Ws fun Z hZ=>?_;simp only [go_sem,seval,hi3'];refine hZ _ (pp (Wk_seq ?_));try simp only [Int.ofNat_lt,hi3',if_true,if_false] at h
 refine bm rfl (ak (pp (Wk_seq (al (Wk_seq ?_)))));try rw [gx_nat hx4] at h
 refine ai fun Z hZ=>?_;simp only [go_sem,seval,hx4,hi3'];refine hZ _ (pp (Wk_seq ?_));obtain ⟨r1,hr7,h⟩:=Option.bind_eq_some_iff.1 h;refine ai fun Z hZ=>?_;simp only [go_sem,seval,hr7];refine hZ _ (pp (sw (au rfl) (fun hc8=>?_) (fun hc8=>?_)))
 ·rw [if_neg (ne_true_of_eq_false hc8)] at h;refine ak (pp (ai fun Z hZ=>?_));simp only [go_sem,seval,hw5,hc8];refine hZ _ (pp ?_);first|refine ⟨c2,?_,h⟩|refine ⟨hi3',c2,?_,h⟩
  refine wr ?_ ?_<;>repeat' first|rfl|constructor
 rw [if_pos hc8] at h;refine Wk_seq (Wk_seq ?_);obtain ⟨r2,hr9,h⟩:=Option.bind_eq_some_iff.1 h;refine ai fun Z hZ=>?_;simp only [go_sem,seval,hc8,hr9];refine hZ _ (pp (bQ rfl (fun hc10=>?_) (fun hc10=>?_)))
 ·rw [if_neg (ne_true_of_eq_false hc10)] at h;refine Ws fun Z hZ=>?_;simp only [go_sem,seval,hc10];refine hZ _ (pp (Wk_ret (pp ?_)));cases h;simp only [go_sem,seval];exact ⟨_,rfl,RokI.h,PureI.h⟩
 rw [if_pos hc10] at h;refine ak (pp (ai fun Z hZ=>?_));simp only [go_sem,seval,hc10];refine hZ _ (pp (ai fun Z hZ=>?_));simp only [go_sem,seval,hw5];refine hZ _ (pp ?_);first|refine ⟨true,?_,h⟩|refine ⟨hi3',true,?_,h⟩
 refine wr ?_ ?_<;>repeat' first|rfl|constructor
def jE (N:Nat):FnS:=⟨[],true,fn2 (decPt 6 af.dec) (decI .i64) fun q0 q1=>(fh N q0 q1).map fun r=>.val (.bool r),false⟩
attribute [go_sem] jE
theorem m6 (N:Nat):FSOk Tryz.prog 56 (jE N):=ok2 (fun q0 q1 r h=>by
 obtain ⟨r',hr,rfl⟩:=Option.map_eq_some_iff.1 h;exact ut N q0 q1 r' hr) (fun h=>kU af.dec_le h) (ay)


noncomputable def ov (N d f:Nat):Option FnS:=glist [(7,51,lk N)] d f
attribute [go_sem] ov
theorem rU (N:Nat) (a0:ag) (c0_0:Int) (r:Bool) (h:en N a0 c0_0=some r):Con Tryz.prog 59 [] true [.agg [.val (.int .i64 a0.actor),.sl false none 1 none (a0.txns.map (rowI .i64))],.iref 1 [[.val (.int .i64 c0_0)]] 0 0] (.val (.bool r)):=by
 refine aV (G:=(ov N)) Tryz.func59 rfl (by decide) (by kernel_rfl) (gc 7 (pk N) gn) [] mix (Nat.le_of_ble_eq_true rfl) ?_;simp only [Tryz.f59];unfold en at h;refine Ws fun Z hZ=>?_;simp only [go_sem,seval];refine hZ _ (pp (Wk_seq ?_));obtain ⟨r1,hr1,h⟩:=Option.bind_eq_some_iff.1 h;refine ai fun Z hZ=>?_;simp only [go_sem,seval,hr1];refine hZ _ (pp (Wk_ret (pp ?_)));cases h;simp only [go_sem,seval];exact ⟨_,rfl,RokI.h,PureI.h⟩
def iG (N:Nat):FnS:={ own:=[],pure:=true,fn:=fun cs=>match cs with
 | [c0,.iref 1 [[c1_0]] 0 0]=>(ag.decA c0).bind fun qc0=>((decI .i64) c1_0).bind fun qc1_0=>(en N qc0 qc1_0).map fun r=>.val (.bool r)
 | _=>none }
attribute [go_sem] iG
theorem qz (N:Nat):FSOk Tryz.prog 59 (iG N):=by
 refine ⟨fun cs r h=>?_,fun h=>by cases h⟩;simp only [iG] at h;split at h
 ·simp only [Option.bind_eq_some_iff,Option.map_eq_some_iff] at h;obtain ⟨q0,h0,q1,h1,r',hr,rfl⟩:=h;exact ((rU N q0 q1 r' hr).args (LeL.cons (ag.decA_le h0) (LeL.cons (Le.iref1 (LeL.cons (ay h1) (LeL.nil))) (LeL.nil))))
 ·cases h


noncomputable def fR (N d f:Nat):Option FnS:=glist [(16,59,iG N)] d f
attribute [go_sem] fR
theorem lm (N:Nat) (a0:(List ag)) (k1_0_0:Int) (r:Int) (h:br N a0 k1_0_0=some r):Con Tryz.prog 85 [] true [.sl false none 2 none (a0.map ag.row),.clo 59 [.iref 1 [[.val (.int .i64 k1_0_0)]] 0 0]] (.val (.int .i64 r)):=by
 refine aV (G:=(fR N)) Tryz.func85 rfl (by decide) (by kernel_rfl) (gc 16 (qz N) gn) [] mix (Nat.le_of_ble_eq_true rfl) ?_;simp only [Tryz.f85];unfold br at h;refine Ws fun Z hZ=>?_;simp only [go_sem,seval];refine hZ _ (pp (Wk_seq (Ws fun Z hZ=>?_)));simp only [go_sem,seval];refine hZ _ (pp (al (dt fun hreal2=>?_)));have hl1:=hreal2.lenT 0 (by decide) (by simp only [go_sem,seval]; rfl);first|rw [List.length_map] at hl1|rw [dy] at hl1|rw [<-List.map_append,List.length_map] at hl1
 refine dg (fun (v2:Nat) (b:Unit)=>⟨tab 19 (updT (updT (updT (updT deadT 0 (.sl false none 2 none (a0.map ag.row))) 1 (.clo 59 [.iref 1 [[.val (.int .i64 k1_0_0)]] 0 0])) 7 (.val (.int .i64 ((a0.length:Nat):Int)))) 8 (.val (.int .i64 ((v2:Nat):Int)))),RZ⟩) () h ?_ ?_
 ·refine wr ?_ ?_<;>repeat' first|rfl|constructor
 rintro v2 ⟨⟩ hi3 h -;rcases (bq a0 v2 hi3).symm with ⟨hi3',_,hd6⟩|⟨x5,hi3',hx4,hd6⟩
 ·rw [hd6] at h;simp only [aU] at h;refine Ws fun Z hZ=>?_;simp only [go_sem,seval,hi3'];refine hZ _ (pp (Wk_seq ?_));try simp only [Int.ofNat_lt,hi3',if_true,if_false] at h
  refine bc rfl (aP (pp (Ws fun Z hZ=>?_)));simp only [go_sem,seval];refine hZ _ (pp (Wk_ret (pp ?_)));cases h;simp only [go_sem,seval];exact ⟨_,rfl,RokI.h,PureI.h⟩
 rw [hd6] at h;simp only [aU] at h;have hw5:=bu hi3' hl1;refine Ws fun Z hZ=>?_;simp only [go_sem,seval,hi3'];refine hZ _ (pp (Wk_seq ?_));try simp only [Int.ofNat_lt,hi3',if_true,if_false] at h
 refine bm rfl (ak (pp (Wk_seq (al (Ws fun Z hZ=>?_)))));simp only [go_sem,seval];refine hZ _ (pp (Wk_seq ?_));try rw [gx_nat hx4] at h
 obtain ⟨r1,hr7,h⟩:=Option.bind_eq_some_iff.1 h;refine ai fun Z hZ=>?_;simp only [go_sem,seval,hx4,hi3',hr7];refine hZ _ (pp (au rfl (fun hc8=>?_) (fun hc8=>?_)))
 ·rw [if_pos hc8] at h;refine Ws fun Z hZ=>?_;simp only [go_sem,seval,hc8];refine hZ _ (pp (Wk_ret (pp ?_)));cases h;simp only [go_sem,seval];exact ⟨_,rfl,RokI.h,PureI.h⟩
 rw [if_neg (ne_true_of_eq_false hc8)] at h;refine ak (pp (ai fun Z hZ=>?_));simp only [go_sem,seval,hw5,hc8];refine hZ _ (pp ?_);first|refine ⟨(),?_,h⟩|refine ⟨hi3',(),?_,h⟩
 refine wr ?_ ?_<;>repeat' first|rfl|constructor
def bP (N:Nat):FnS:={ own:=[],pure:=true,fn:=fun cs=>match cs with
 | [c0,.clo 59 [.iref 1 [[k1_0_0]] 0 0]]=>((decL 2 ag.dec) c0).bind fun qc0=>((decI .i64) k1_0_0).bind fun qk1_0_0=>(br N qc0 qk1_0_0).map fun r=>.val (.int .i64 r)
 | _=>none }
attribute [go_sem] bP
theorem kh (N:Nat):FSOk Tryz.prog 85 (bP N):=by
 refine ⟨fun cs r h=>?_,fun h=>by cases h⟩;simp only [bP] at h;split at h
 ·simp only [Option.bind_eq_some_iff,Option.map_eq_some_iff] at h;obtain ⟨q0,h0,q1,h1,r',hr,rfl⟩:=h;exact ((lm N q0 q1 r' hr).args (LeL.cons (ar ag.dec_le h0) (LeL.cons (Le.clo (LeL.cons (Le.iref1 (LeL.cons (ay h1) (LeL.nil))) (LeL.nil))) (LeL.nil))))
 ·cases h


noncomputable def fp (N d f:Nat):Option FnS:=glist [(7,85,bP N)] d f
attribute [go_sem] fp
theorem kt (N:Nat) (a0:(List ag)) (k1_0_0:Int) (r:Bool) (h:bg N a0 k1_0_0=some r):Con Tryz.prog 58 [] true [.sl false none 2 none (a0.map ag.row),.clo 59 [.iref 1 [[.val (.int .i64 k1_0_0)]] 0 0]] (.val (.bool r)):=by
 refine aV (G:=(fp N)) Tryz.func58 rfl (by decide) (by kernel_rfl) (gc 7 (kh N) gn) [] mix (Nat.le_of_ble_eq_true rfl) ?_;simp only [Tryz.f58];unfold bg at h;refine Ws fun Z hZ=>?_;simp only [go_sem,seval];refine hZ _ (pp (Wk_seq ?_));obtain ⟨r1,hr1,h⟩:=Option.bind_eq_some_iff.1 h;refine ai fun Z hZ=>?_;simp only [go_sem,seval,hr1];refine hZ _ (pp (Wk_ret (pp ?_)));cases h;simp only [go_sem,seval];exact ⟨_,rfl,RokI.h,PureI.h⟩
def bE (N:Nat):FnS:={ own:=[],pure:=true,fn:=fun cs=>match cs with
 | [c0,.clo 59 [.iref 1 [[k1_0_0]] 0 0]]=>((decL 2 ag.dec) c0).bind fun qc0=>((decI .i64) k1_0_0).bind fun qk1_0_0=>(bg N qc0 qk1_0_0).map fun r=>.val (.bool r)
 | _=>none }
attribute [go_sem] bE
theorem jN (N:Nat):FSOk Tryz.prog 58 (bE N):=by
 refine ⟨fun cs r h=>?_,fun h=>by cases h⟩;simp only [bE] at h;split at h
 ·simp only [Option.bind_eq_some_iff,Option.map_eq_some_iff] at h;obtain ⟨q0,h0,q1,h1,r',hr,rfl⟩:=h;exact ((kt N q0 q1 r' hr).args (LeL.cons (ar ag.dec_le h0) (LeL.cons (Le.clo (LeL.cons (Le.iref1 (LeL.cons (ay h1) (LeL.nil))) (LeL.nil))) (LeL.nil))))
 ·cases h


noncomputable def pm (N d f:Nat):Option FnS:=glist [(10,58,bE N)] d f
attribute [go_sem] pm
theorem tE (N:Nat) (a0:af) (a1:Int) (r:Bool) (h:eh N a0 a1=some r):Con Tryz.prog 42 [] true [.iref 6 [[.sl false none 2 none (a0.stacks.map ag.row),.sl false none 2 none (a0.prepared.map ae.row),.sl false none 1 none (a0.known.map (rowI .i64)),.sl false none 1 none (a0.committed.map (rowI .i64)),.sl false none 1 none (a0.aborted.map (rowI .i64)),.sl false none 2 none (a0.deps.map ae.row)]] 0 0,.val (.int .i64 a1)] (.val (.bool r)):=by
 refine aV (G:=(pm N)) Tryz.func42 rfl (by decide) (by kernel_rfl) (gc 10 (jN N) gn) [] mix (Nat.le_of_ble_eq_true rfl) ?_;simp only [Tryz.f42];unfold eh at h;refine Ws fun Z hZ=>?_;simp only [go_sem,seval];refine hZ _ (pp (Wk_seq ?_));obtain ⟨r1,hr1,h⟩:=Option.bind_eq_some_iff.1 h;refine ai fun Z hZ=>?_;simp only [go_sem,seval,hr1];refine hZ _ (pp (Wk_ret (pp ?_)));cases h;simp only [go_sem,seval];exact ⟨_,rfl,RokI.h,PureI.h⟩
def jf (N:Nat):FnS:=⟨[],true,fn2 (decPt 6 af.dec) (decI .i64) fun q0 q1=>(eh N q0 q1).map fun r=>.val (.bool r),false⟩
attribute [go_sem] jf
theorem mQ (N:Nat):FSOk Tryz.prog 42 (jf N):=ok2 (fun q0 q1 r h=>by
 obtain ⟨r',hr,rfl⟩:=Option.map_eq_some_iff.1 h;exact tE N q0 q1 r' hr) (fun h=>kU af.dec_le h) (ay)


noncomputable def oZ (N d f:Nat):Option FnS:=glist [(9,73,jO N),(15,39,gD N),(20,37,lh N),(27,73,jO N),(33,74,ma N),(58,75,iM N),(64,73,jO N),(69,27,aQ N),(77,75,iM N),(89,56,jE N),(95,42,jf N)] d f
attribute [go_sem] oZ
theorem su (N:Nat) (a0:af) (a1:ah) (r:Bool) (h:dB N a0 a1=some r):Con Tryz.prog 52 [] true [.iref 6 [[.sl false none 2 none (a0.stacks.map ag.row),.sl false none 2 none (a0.prepared.map ae.row),.sl false none 1 none (a0.known.map (rowI .i64)),.sl false none 1 none (a0.committed.map (rowI .i64)),.sl false none 1 none (a0.aborted.map (rowI .i64)),.sl false none 2 none (a0.deps.map ae.row)]] 0 0,.agg (ah.row a1)] (.val (.bool r)):=by
 refine aV (G:=(oZ N)) Tryz.func52 rfl (by decide) (by kernel_rfl) (gc 9 (mp N) (gc 15 (kr N) (gc 20 (pe N) (gc 27 (mp N) (gc 33 (rK N) (gc 58 (lw N) (gc 64 (mp N) (gc 69 (aS N) (gc 77 (lw N) (gc 89 (m6 N) (gc 95 (mQ N) gn))))))))))) [] mix (Nat.le_of_ble_eq_true rfl) ?_;simp only [Tryz.f52];unfold dB at h;refine Ws fun Z hZ=>?_;simp only [go_sem,seval];refine hZ _ (pp (Wk_seq ?_));apply bS (fun (c7:Bool)=>⟨tab 102 (updT (updT (updT deadT 0 (.iref 6 [[.sl false none 2 none (a0.stacks.map ag.row),.sl false none 2 none (a0.prepared.map ae.row),.sl false none 1 none (a0.known.map (rowI .i64)),.sl false none 1 none (a0.committed.map (rowI .i64)),.sl false none 1 none (a0.aborted.map (rowI .i64)),.sl false none 2 none (a0.deps.map ae.row)]] 0 0)) 3 (.pref 3 [] 0 0)) 16 (.val (.bool c7))),(upd RZ 3 (.sl true none 3 (some 1) [ah.row a1]))⟩)
 ·intro hJ1;obtain ⟨r8,hr2,h⟩:=Option.bind_eq_some_iff.1 h;refine ai fun Z hZ=>?_;simp only [go_sem,seval,hr2];refine eY rfl (fun hc3=>?_) (fun hc3=>?_)
  ·rw [if_neg (ne_true_of_eq_false hc3)] at h;simp only [go_sem,seval,hc3];refine hZ _ (pp (hJ1 _ true ?_ h));refine wr ?_ ?_<;>repeat' first|rfl|constructor
  rw [if_pos hc3] at h;obtain ⟨r9,hr4,h⟩:=Option.bind_eq_some_iff.1 h;simp only [go_sem,seval,hc3,hr4];refine hZ _ (pp (hJ1 _ r9 ?_ h));refine wr ?_ ?_<;>repeat' first|rfl|constructor
 intro c7 h;unfold eB at h;refine au rfl (fun hc5=>?_) (fun hc5=>?_)
 ·rw [if_pos hc5] at h;refine Ws fun Z hZ=>?_;simp only [go_sem,seval,hc5];refine hZ _ (pp (Wk_ret (pp ?_)));cases h;simp only [go_sem,seval];exact ⟨_,rfl,RokI.h,PureI.h⟩
 rw [if_neg (ne_true_of_eq_false hc5)] at h;refine ak (pp ?_);unfold iV at h;refine Wk_seq ?_;obtain ⟨r10,hr6,h⟩:=Option.bind_eq_some_iff.1 h;refine ai fun Z hZ=>?_;simp only [go_sem,seval,hc5,hr6];refine hZ _ (pp (Wk_seq (Ws fun Z hZ=>?_)));simp only [go_sem,seval];refine hZ _ (pp (al (Ws fun Z hZ=>?_)));simp only [go_sem,seval];refine hZ _ (pp (am rfl (fun hc7=>?_) (fun hc7=>?_)))
 ·have hc7d:=decide_eq_true hc7;rw [if_pos hc7] at h;refine Wk_seq ?_;apply bS (fun (c17:Bool)=>⟨tab 102 (updT (updT (updT (updT deadT 0 (.iref 6 [[.sl false none 2 none (a0.stacks.map ag.row),.sl false none 2 none (a0.prepared.map ae.row),.sl false none 1 none (a0.known.map (rowI .i64)),.sl false none 1 none (a0.committed.map (rowI .i64)),.sl false none 1 none (a0.aborted.map (rowI .i64)),.sl false none 2 none (a0.deps.map ae.row)]] 0 0)) 3 (.pref 3 [] 0 0)) 5 (.sl false none 1 none (r10.map (rowI .i64)))) 34 (.val (.bool c17))),(upd RZ 3 (.sl true none 3 (some 1) [ah.row a1]))⟩)
  ·intro hJ8;obtain ⟨r18,hr9,h⟩:=Option.bind_eq_some_iff.1 h;refine ai fun Z hZ=>?_;simp only [go_sem,seval,hc7d,hr9];refine eY rfl (fun hc10=>?_) (fun hc10=>?_)
   ·rw [if_neg (ne_true_of_eq_false hc10)] at h;simp only [go_sem,seval,hc10];refine hZ _ (pp (hJ8 _ true ?_ h));refine wr ?_ ?_<;>repeat' first|rfl|constructor
   rw [if_pos hc10] at h;obtain ⟨r19,hr11,h⟩:=Option.bind_eq_some_iff.1 h;simp only [go_sem,seval,hc10,hr11];refine hZ _ (pp (hJ8 _ r19 ?_ h));refine wr ?_ ?_<;>repeat' first|rfl|constructor
  intro c17 h;unfold eE at h;refine au rfl (fun hc12=>?_) (fun hc12=>?_)
  ·rw [if_pos hc12] at h;refine Ws fun Z hZ=>?_;simp only [go_sem,seval,hc12];refine hZ _ (pp (Wk_ret (pp ?_)));cases h;simp only [go_sem,seval];exact ⟨_,rfl,RokI.h,PureI.h⟩
  rw [if_neg (ne_true_of_eq_false hc12)] at h;refine ak (pp ?_);unfold fK at h;refine Ws fun Z hZ=>?_;simp only [go_sem,seval,hc12];refine hZ _ (pp (Wk_seq (bU fun Z hZ=>?_)));simp only [go_sem,seval];refine bF rfl (fun hc13=>?_) (fun hc13=>?_)
  ·have hc13d:=decide_eq_true hc13;rw [if_pos hc13] at h;simp only [go_sem,seval,hc13d];refine hZ _ (by kernel_rfl) (pp (Wk_ret (pp ?_)));cases h;simp only [go_sem,seval];exact ⟨_,rfl,RokI.h,PureI.h⟩
  have hc13d:=decide_eq_false hc13;rw [if_neg hc13] at h;obtain ⟨x20,hb14,hx15,h⟩:=aI h;simp only [go_sem,seval,hc13d,hb14,hx15];refine bF rfl (fun hc16=>?_) (fun hc16=>?_)
  ·have hc16d:=decide_eq_true hc16;rw [if_pos hc16] at h;simp only [go_sem,seval,hc16d];refine hZ _ (by kernel_rfl) (pp (Wk_ret (pp ?_)));cases h;simp only [go_sem,seval];exact ⟨_,rfl,RokI.h,PureI.h⟩
  have hc16d:=decide_eq_false hc16;rw [if_neg hc16] at h;obtain ⟨r21,hr17,h⟩:=Option.bind_eq_some_iff.1 h;simp only [go_sem,seval,hb14,hx15,hc16d,hr17];repeat with_reducible refine dN (by kernel_rfl) ?_
  refine hZ _ (by kernel_rfl) (pp (Wk_ret (pp ?_)));cases h;simp only [go_sem,seval];exact ⟨_,rfl,RokI.h,PureI.h⟩
 have hc7d:=decide_eq_false hc7;rw [if_neg hc7] at h;refine Ws fun Z hZ=>?_;simp only [go_sem,seval,hc7d];refine hZ _ (pp (am rfl (fun hc18=>?_) (fun hc18=>?_)))
 ·have hc18d:=decide_eq_true hc18;rw [if_pos hc18] at h;refine Wk_seq ?_;obtain ⟨r22,hr19,h⟩:=Option.bind_eq_some_iff.1 h;refine ai fun Z hZ=>?_;simp only [go_sem,seval,hc18d,hr19];refine sw (bR rfl) (fun hc20=>?_) (fun hc20=>?_)
  ·rw [if_neg (ne_true_of_eq_false hc20)] at h;simp only [go_sem,seval,hc20];refine hZ _ (pp (Wk_ret (pp ?_)));cases h;simp only [go_sem,seval];exact ⟨_,rfl,RokI.h,PureI.h⟩
  rw [if_pos hc20] at h;obtain ⟨r23,hr21,h⟩:=Option.bind_eq_some_iff.1 h;simp only [go_sem,seval,hc20,hr21];refine bR rfl (fun hc22=>?_) (fun hc22=>?_)
  ·rw [if_pos hc22] at h;obtain ⟨r24,hr23,h⟩:=Option.bind_eq_some_iff.1 h;simp only [go_sem,seval,hc22,hr23];refine hZ _ (pp (Wk_ret (pp ?_)));cases h;simp only [go_sem,seval];exact ⟨_,rfl,RokI.h,PureI.h⟩
  rw [if_neg (ne_true_of_eq_false hc22)] at h;simp only [go_sem,seval,hc22];refine hZ _ (pp (Wk_ret (pp ?_)));cases h;simp only [go_sem,seval];exact ⟨_,rfl,RokI.h,PureI.h⟩
 have hc18d:=decide_eq_false hc18;rw [if_neg hc18] at h;refine Ws fun Z hZ=>?_;simp only [go_sem,seval,hc18d];refine hZ _ (pp (sw (am rfl) (fun hc24=>?_) (fun hc24=>?_)))
 ·have hc24d:=decide_eq_false hc24;rw [if_neg hc24] at h;refine Ws fun Z hZ=>?_;simp only [go_sem,seval,hc24d];refine hZ _ (pp (am rfl (fun hc29=>?_) (fun hc29=>?_)))
  ·have hc29d:=decide_eq_true hc29;rw [if_pos hc29] at h;refine Ws fun Z hZ=>?_;simp only [go_sem,seval,hc29d];refine hZ _ (pp (Wk_ret (pp ?_)));cases h;simp only [go_sem,seval];exact ⟨_,rfl,RokI.h,PureI.h⟩
  have hc29d:=decide_eq_false hc29;rw [if_neg hc29] at h;refine ak (pp (Ws fun Z hZ=>?_));simp only [go_sem,seval,hc29d];refine hZ _ (pp (Wk_ret (pp ?_)));cases h;simp only [go_sem,seval];exact ⟨_,rfl,RokI.h,PureI.h⟩
 have hc24d:=decide_eq_true hc24;rw [if_pos hc24] at h;refine Ws fun Z hZ=>?_;simp only [go_sem,seval,hc24d];refine sw (bF rfl) (fun hc25=>?_) (fun hc25=>?_)
 ·have hc25d:=decide_eq_false hc25;rw [if_neg hc25] at h;simp only [go_sem,seval,hc25d];refine hZ _ (pp (Wk_ret (pp ?_)));cases h;simp only [go_sem,seval];exact ⟨_,rfl,RokI.h,PureI.h⟩
 have hc25d:=decide_eq_true hc25;rw [if_pos hc25] at h;obtain ⟨r25,hr26,h⟩:=Option.bind_eq_some_iff.1 h;simp only [go_sem,seval,hc25d,hr26];refine bR rfl (fun hc27=>?_) (fun hc27=>?_)
 ·rw [if_pos hc27] at h;obtain ⟨r26,hr28,h⟩:=Option.bind_eq_some_iff.1 h;simp only [go_sem,seval,hc27,hr28];refine hZ _ (pp (Wk_ret (pp ?_)));cases h;simp only [go_sem,seval];exact ⟨_,rfl,RokI.h,PureI.h⟩
 rw [if_neg (ne_true_of_eq_false hc27)] at h;simp only [go_sem,seval,hc27];refine hZ _ (pp (Wk_ret (pp ?_)));cases h;simp only [go_sem,seval];exact ⟨_,rfl,RokI.h,PureI.h⟩
def kZ (N:Nat):FnS:=⟨[],true,fn2 (decPt 6 af.dec) ah.decA fun q0 q1=>(dB N q0 q1).map fun r=>.val (.bool r),false⟩
attribute [go_sem] kZ
theorem qT (N:Nat):FSOk Tryz.prog 52 (kZ N):=ok2 (fun q0 q1 r h=>by
 obtain ⟨r',hr,rfl⟩:=Option.map_eq_some_iff.1 h;exact su N q0 q1 r' hr) (fun h=>kU af.dec_le h) (ah.decA_le)


theorem ui (N:Nat) (a0:(List Int)) (r:(List Int)) (h:eT N a0=some r):Con Tryz.prog 24 [] true [.sl false (some false) 1 none (a0.map (rowI .i64))] (.sl true none 1 none (r.map (rowI .i64))):=by
 refine aV (G:=(glist [])) Tryz.func24 rfl (by decide) (by kernel_rfl) gn [] mix (Nat.le_of_ble_eq_true rfl) ?_;simp only [Tryz.f24];unfold eT at h;refine Ws fun Z hZ=>?_;simp only [go_sem,seval];refine hZ _ (pp (Wk_seq (Ws fun Z hZ=>?_)));simp only [go_sem,seval];refine hZ _ (pp (bc rfl ?_));first|rw [if_pos (rfl:true=true)] at h|rw [if_neg Bool.false_ne_true] at h|skip
 refine ak (pp (Wk_seq ?_));first|obtain ⟨ha1,h⟩:=rW h|(obtain ⟨ha1,h⟩:=bk h; rw [List.nil_append] at h)
 simp only [Nat.reduceAdd] at ha1;refine ai fun Z hZ=>?_;simp only [go_sem,seval,ha1];refine hZ _ (pp (Wk_ret (pp ?_)));cases h;simp only [go_sem,seval];exact ⟨_,rfl,RokI.h,PureI.h⟩
theorem tD (N:Nat)  (r:(List Int)) (h:eT N []=some r):Con Tryz.prog 24 [] true [.val (.slice none 0 0)] (.sl true none 1 none (r.map (rowI .i64))):=by
 refine aV (G:=(glist [])) Tryz.func24 rfl (by decide) (by kernel_rfl) gn [] mix (Nat.le_of_ble_eq_true rfl) ?_;simp only [Tryz.f24];unfold eT at h;refine Ws fun Z hZ=>?_;simp only [go_sem,seval];refine hZ _ (pp (Wk_seq (Ws fun Z hZ=>?_)));simp only [go_sem,seval];refine hZ _ (pp (bm rfl ?_));first|rw [if_pos (rfl:true=true)] at h|rw [if_neg Bool.false_ne_true] at h|skip
 refine Ws fun Z hZ=>?_;simp only [go_sem,seval];refine hZ _ (pp (Wk_ret (pp ?_)));obtain rfl:r=[]:=by simpa [apn] using h.symm
 simp only [go_sem,seval];exact ⟨_,rfl,RokI.h,PureI.h⟩
theorem qQ (N:Nat) (a0:(List Int)) (r:(List Int)) (h:eT N a0=some r):Con Tryz.prog 24 [] true [.sl false none 1 none (a0.map (rowI .i64))] (.sl true none 1 none (r.map (rowI .i64))):=
 Con_nl (fun e=>by obtain rfl:a0=[]:=List.map_eq_nil_iff.1 e; exact tD N r h) (ui N a0 r h)
def qq (N:Nat):FnS:=⟨[],true,fn1 (decL 1 (dec1 (decI .i64))) fun q0=>(eT N q0).map fun r=>.sl false none 1 none (r.map (rowI .i64)),false⟩
attribute [go_sem] qq
theorem B6 (N:Nat):FSOk Tryz.prog 24 (qq N):=ok1 (fun q0 r h=>by
 obtain ⟨r',hr,rfl⟩:=Option.map_eq_some_iff.1 h;exact (qQ N q0 r' hr).res (by (try simp only [go_sem]); exact RokI.h)) (fun h=>ar (aJ .i64) h)

def mK (N:Nat):FnS:=⟨[],true,fn1 (decL 1 (dec1 (decI .i64))) fun q0=>(eT N q0).map fun r=>.sl true none 1 none (r.map (rowI .i64)),false⟩
attribute [go_sem] mK
theorem sA (N:Nat):FSOk Tryz.prog 24 (mK N):=ok1 (fun q0 r h=>by
 obtain ⟨r',hr,rfl⟩:=Option.map_eq_some_iff.1 h;exact qQ N q0 r' hr) (fun h=>ar (aJ .i64) h)


theorem u4 (N:Nat) (a0:(List Int)) (r:(List Int)) (h:im N a0=some r):Con Tryz.prog 26 [true] true [.sl true none 1 none (a0.map (rowI .i64))] (.sl true none 1 none (r.map (rowI .i64))):=by
 refine qA (G:=(glist [])) (L:=noL) Tryz.func26 rfl (by decide) (by kernel_rfl) gn (fun _ _ _ h=>by cases h) [] mix (Nat.le_of_ble_eq_true rfl) ?_;rw [show entryF [true] [.sl true none 1 none (a0.map (rowI .i64))]=(updT deadT 0 (.pal 0 [] 0 a0.length none)) from by funext t; match t with|0=>simp [entryF,iW,viewD,updT]|t+1=>rfl];rw [show R0 [true] [.sl true none 1 none (a0.map (rowI .i64))]=upd RZ 0 (.sl true none 1 none (a0.map (rowI .i64))) from by funext t; match t with|0=>rfl|t+1=>rfl];simp only [Tryz.f26];unfold im at h;refine Ws fun Z hZ=>?_;simp only [go_sem,seval];refine hZ _ (pp (Wk_seq (Ws fun Z hZ=>?_)));simp only [go_sem,seval];refine hZ _ (pp (am rfl (fun hc1=>?_) (fun hc1=>?_)))
 ·have hc1d:=decide_eq_true hc1;rw [if_pos hc1] at h;refine Ws fun Z hZ=>?_;simp only [go_sem,seval,hc1d];refine hZ _ (pp (Wk_ret (pp ?_)));cases h;simp only [go_sem,seval,fJ];exact ⟨_,rfl,RokI.h,KeepI.h,PureI.h⟩
 have hc1d:=decide_eq_false hc1;rw [if_neg hc1] at h;refine ak (pp (Wk_seq (Ws fun Z hZ=>?_)));simp only [go_sem,seval,hc1d];refine hZ _ (pp (al (dt fun hreal3=>?_)));have hl2:=hreal3.lenX 0 (by simp only [go_sem,seval]; rfl);first|rw [List.length_map] at hl2|rw [dy] at hl2|rw [<-List.map_append,List.length_map] at hl2
 refine yx (fun (v3:Nat) (b:Unit)=>⟨tab 61 (updT (updT deadT 0 (.pal 0 [] 0 a0.length none)) 3 (.val (.int .i64 ((v3:Nat):Int)))),(upd RZ 0 (.sl true none 1 none (a0.map (rowI .i64))))⟩) () h ?_ ?_
 ·refine wr ?_ ?_<;>repeat' first|rfl|constructor|simp only [go_sem,seval,Bool.or_self,List.length_set,Int.natCast_zero,Int.cast_ofNat_Int,hc1d]
 rintro v3 ⟨⟩ _ h -;rcases (tu a0.length v3).symm with ⟨hi4',hd7⟩|⟨hi4',hd7⟩
 ·rw [hd7] at h;simp only [fB] at h;refine Wk_seq (Ws fun Z hZ=>?_);simp only [go_sem,seval,hi4'];refine hZ _ (pp ?_);try simp only [Int.ofNat_lt,hi4',if_true,if_false] at h
  refine bc rfl (aP (pp (Ws fun Z hZ=>?_)));simp only [go_sem,seval];refine hZ _ (pp (Wk_ret (pp ?_)));cases h;simp only [go_sem,seval,fJ];exact ⟨_,rfl,RokI.h,KeepI.h,PureI.h⟩
 rw [hd7] at h;simp only [fB] at h;have hw6:=bu hi4' hl2;refine Wk_seq (Ws fun Z hZ=>?_);simp only [go_sem,seval,hi4'];refine hZ _ (pp ?_);try simp only [Int.ofNat_lt,hi4',if_true,if_false] at h
 refine bm rfl (ak (pp (Wk_seq (al (Wk_seq ?_)))));obtain ⟨x1,hb8,hx9,h⟩:=aI h;try simp only [Int.toNat_natCast] at hx9
 try simp only [Int.ofNat_lt,Int.natCast_nonneg,true_and] at hb8
 obtain ⟨x2,hb10,hx11,h⟩:=aI h;refine bU fun Z hZ=>?_;simp only [go_sem,seval,hi4',hx9,hb10,hx11];refine hZ _ (by kernel_rfl) (pp (sw (am rfl) (fun hc12=>?_) (fun hc12=>?_)))
 ·have hc12d:=decide_eq_false hc12;rw [if_neg hc12] at h;refine ak (pp (ai fun Z hZ=>?_));simp only [go_sem,seval,hw6,hc12d];refine hZ _ (pp ?_);first|refine ⟨(),?_,h⟩|refine ⟨hi4',(),?_,h⟩
  refine wr ?_ ?_<;>repeat' first|rfl|constructor|simp only [go_sem,seval,Bool.or_self,List.length_set,Int.natCast_zero,Int.cast_ofNat_Int,hc1d,hi4',hw6,hb8,hx9,hb10,hx11,hc12d]
 have hc12d:=decide_eq_true hc12;rw [if_pos hc12] at h;refine Wk_seq ?_;obtain ⟨hs13,h⟩:=gR h;try simp only [Int.toNat_natCast] at hs13 h
 refine ai fun Z hZ=>?_;simp only [go_sem,seval,hc12d,hs13,Nat.zero_le];refine hZ _ (pp (Wk_seq (Ws fun Z hZ=>?_)));simp only [go_sem,seval];refine hZ _ (pp (al (fV (fun (b:List Int × Int × Int)=>⟨tab 61 (updT (updT (updT (updT deadT 0 (.pal 0 [] 0 b.1.length none)) 3 (.val (.int .i64 b.2.1))) 4 (.pal 0 [] v3 (a0.length - v3) none)) 5 (.val (.int .i64 b.2.2))),(upd RZ 0 (.sl true none 1 none (b.1.map (rowI .i64))))⟩) (a0,((v3:Nat):Int),1) h ?_ ?_)))
 ·refine wr ?_ ?_<;>repeat' first|rfl|constructor|simp only [go_sem,seval,Bool.or_self,List.length_set,Int.natCast_zero,Int.cast_ofNat_Int,hc1d,hi4',hw6,hb8,hx9,hb10,hx11,hc12d,hs13,Nat.sub_zero,Nat.zero_le]
 rintro n ⟨l12,v13,v14⟩ h -;cases n with
 | zero=>simp [eF] at h
 | succ n=>
 simp only [eF] at h;refine Wk_seq (Ws fun Z hZ=>?_);simp only [go_sem,seval];refine hZ _ (pp (sw (am rfl) (fun hc14=>?_) (fun hc14=>?_)))
 ·have hc14d:=decide_eq_false hc14;rw [if_neg hc14] at h;refine aP (pp ?_);unfold ir at h;refine Wk_seq ?_;obtain ⟨hs24,h⟩:=gR h;try simp only [Int.toNat_natCast] at hs24 h
  refine ai fun Z hZ=>?_;simp only [go_sem,seval,Nat.zero_le,hc14d,hs24,uz (row:=(rowI .i64)) (z:=0) (rz:=[.val (.int .i64 0)]) (k:=(v13).toNat) (l:=l12) (by have:=hs24; omega) rfl,altX,clearX,dh,RowOk.allD (fy .i64)];refine hZ _ (pp (Wk_seq ?_));obtain ⟨hs25,h⟩:=gR h;try simp only [Int.toNat_zero] at hs25 h
  refine ai fun Z hZ=>?_;simp only [go_sem,seval,Nat.sub_zero,hs24,deepV,hs25];refine hZ _ (pp (Wk_ret (pp ?_)));cases h;simp only [go_sem,seval,fJ];exact ⟨_,rfl,RokI.h,KeepI.h,PureI.h⟩
 have hc14d:=decide_eq_true hc14;rw [if_pos hc14] at h;refine ak (pp (Wk_seq (al (Wk_seq ?_))));obtain ⟨x16,hb15,hx16,h⟩:=aI h;obtain ⟨x17,hb17,hx18,h⟩:=aI h;refine bU fun Z hZ=>?_;simp only [go_sem,seval,hb15,mX hx16,win_lt hb15,hb17,mX hx18,win_lt hb17];refine hZ _ (by kernel_rfl) (pp (sw (oq rfl) (fun hc19=>?_) (fun hc19=>?_)))
 ·have hc19d:=decide_eq_true hc19;rw [if_pos hc19] at h;refine ak (pp (ai fun Z hZ=>?_));simp only [go_sem,seval,hc19d];refine hZ _ (pp (⟨_,Nat.lt_succ_self _,(l12,v13,IntKind.i64.wrap (v14+1)),?_,h⟩));refine wr ?_ ?_<;>repeat' first|rfl|constructor|simp only [go_sem,seval,Bool.or_self,List.length_set,Int.natCast_zero,Int.cast_ofNat_Int,hc1d,hi4',hw6,hb8,hx9,hb10,hx11,hc12d,hs13,Nat.sub_zero,Nat.zero_le,hc14d,hb15,hx16,mX hx16,win_lt hb15,hb17,hx18,mX hx18,win_lt hb17,hc19d]
 have hc19d:=decide_eq_false hc19;rw [if_neg hc19] at h;refine Wk_seq ?_;obtain ⟨x18,hb20,hx21,h⟩:=aI h;have hx23:=rO (y:=x16) hx21;refine ai fun Z hZ=>?_;simp only [go_sem,seval,hb15,win_lt hb15,hc19d,mX hx16,hb20,hx21,mV (row:=(rowI .i64)) (y:=x16) (rx:=[.val (.int .i64 x18)]) (ry:=[.val (.int .i64 x16)]) hx21 rfl rfl];refine hZ _ (pp (ai fun Z hZ=>?_));simp only [go_sem,seval];refine hZ _ (pp (ai fun Z hZ=>?_));simp only [go_sem,seval];refine hZ _ (pp (⟨_,Nat.lt_succ_self _,((l12.set ((v13).toNat) x16),IntKind.i64.wrap (v13+1),IntKind.i64.wrap (v14+1)),?_,h⟩));refine wr ?_ ?_<;>repeat' first|rfl|constructor|simp only [go_sem,seval,List.length_set]
def eq (N:Nat):FnS:={ own:=[true],pure:=true,fn:=fun cs=>match cs with
 | [c0]=>((decO 1 (dec1 (decI .i64))) c0).bind fun q0=>(im N q0).map fun r=>.sl true none 1 none (r.map (rowI .i64))
 | _=>none }
theorem rd (N:Nat):(eq N).own=[true]:=rfl
theorem qU (N:Nat):(eq N).pure=true:=rfl
theorem qX (N:Nat):(eq N).peek=false:=rfl
attribute [go_sem] eq rd qU qX
theorem rL (N:Nat):FSOk Tryz.prog 26 (eq N):=by
 refine ⟨fun cs r h=>?_,fun h=>by cases h⟩;simp only [eq] at h;split at h
 ·simp only [Option.bind_eq_some_iff,Option.map_eq_some_iff] at h;obtain ⟨q0,h0,r',hr,rfl⟩:=h;exact (u4 N q0 r' hr).argsO rfl (oD (qE (fy .i64) (aJ .i64) h0) (oB))
 ·cases h


theorem wM (N:Nat) (a0:Int) (r:Int) (h:lO N a0=some r):Con Tryz.prog 72 [] true [.val (.int .u64 a0)] (.val (.int .i64 r)):=by
 refine aV (G:=(glist [])) Tryz.func72 rfl (by decide) (by kernel_rfl) gn [] mix (Nat.le_of_ble_eq_true rfl) ?_;simp only [Tryz.f72];unfold lO at h;refine Ws fun Z hZ=>?_;simp only [go_sem,seval];refine hZ _ (pp ?_);apply oA (fun (v1:Int) (v2:Int)=>⟨tab 25 (updT (updT deadT 0 (.val (.int .u64 v1))) 2 (.val (.int .i64 v2))),RZ⟩)
 ·intro hJ1;refine Ws fun Z hZ=>?_;simp only [go_sem,seval];refine hZ _ (pp (am rfl (fun hc2=>?_) (fun hc2=>?_)))
  ·have hc2d:=decide_eq_true hc2;rw [if_pos hc2] at h;refine Ws fun Z hZ=>?_;simp only [go_sem,seval,hc2d];refine hZ _ (pp (ai fun Z hZ=>?_));simp only [go_sem,seval];refine hZ _ (pp (hJ1 _ (shrI .u64 a0 32) 32 ?_ h));refine wr ?_ ?_<;>repeat' first|rfl|constructor
  have hc2d:=decide_eq_false hc2;rw [if_neg hc2] at h;refine ak (pp (hJ1 _ a0 0 ?_ h));refine wr ?_ ?_<;>repeat' first|rfl|constructor
 intro v1 v2 h;unfold lS at h;apply oA (fun (v3:Int) (v4:Int)=>⟨tab 25 (updT (updT deadT 0 (.val (.int .u64 v3))) 2 (.val (.int .i64 v4))),RZ⟩)
 ·intro hJ3;refine Ws fun Z hZ=>?_;simp only [go_sem,seval];refine hZ _ (pp (am rfl (fun hc4=>?_) (fun hc4=>?_)))
  ·have hc4d:=decide_eq_true hc4;rw [if_pos hc4] at h;refine Ws fun Z hZ=>?_;simp only [go_sem,seval,hc4d];refine hZ _ (pp (ai fun Z hZ=>?_));simp only [go_sem,seval];refine hZ _ (pp (hJ3 _ (shrI .u64 v1 16) (IntKind.i64.wrap (v2+16)) ?_ h));refine wr ?_ ?_<;>repeat' first|rfl|constructor
  have hc4d:=decide_eq_false hc4;rw [if_neg hc4] at h;refine ak (pp (hJ3 _ v1 v2 ?_ h));refine wr ?_ ?_<;>repeat' first|rfl|constructor
 intro v3 v4 h;unfold lI at h;apply oA (fun (v5:Int) (v6:Int)=>⟨tab 25 (updT (updT deadT 0 (.val (.int .u64 v5))) 2 (.val (.int .i64 v6))),RZ⟩)
 ·intro hJ5;refine Ws fun Z hZ=>?_;simp only [go_sem,seval];refine hZ _ (pp (am rfl (fun hc6=>?_) (fun hc6=>?_)))
  ·have hc6d:=decide_eq_true hc6;rw [if_pos hc6] at h;refine Ws fun Z hZ=>?_;simp only [go_sem,seval,hc6d];refine hZ _ (pp (ai fun Z hZ=>?_));simp only [go_sem,seval];refine hZ _ (pp (hJ5 _ (shrI .u64 v3 8) (IntKind.i64.wrap (v4+8)) ?_ h));refine wr ?_ ?_<;>repeat' first|rfl|constructor
  have hc6d:=decide_eq_false hc6;rw [if_neg hc6] at h;refine ak (pp (hJ5 _ v3 v4 ?_ h));refine wr ?_ ?_<;>repeat' first|rfl|constructor
 intro v5 v6 h;unfold lQ at h;refine Wk_seq ?_;obtain ⟨b7,hb7,hx8,h⟩:=EG h;refine ai fun Z hZ=>?_;simp only [go_sem,seval,hb7,hx8];refine hZ _ (pp (Wk_ret (pp ?_)));cases h;simp only [go_sem,seval];exact ⟨_,rfl,RokI.h,PureI.h⟩
def ow (N:Nat):FnS:=⟨[],true,fn1 (decI .u64) fun q0=>(lO N q0).map fun r=>.val (.int .i64 r),false⟩
attribute [go_sem] ow
theorem tV (N:Nat):FSOk Tryz.prog 72 (ow N):=ok1 (fun q0 r h=>by
 obtain ⟨r',hr,rfl⟩:=Option.map_eq_some_iff.1 h;exact wM N q0 r' hr) (ay)


noncomputable def sJ (N d f:Nat):Option FnS:=glist [(7,72,ow N)] d f
attribute [go_sem] sJ
theorem zc (N:Nat) (a0:Int) (r:Int) (h:j9 N a0=some r):Con Tryz.prog 50 [] true [.val (.int .u64 a0)] (.val (.int .i64 r)):=by
 refine aV (G:=(sJ N)) Tryz.func50 rfl (by decide) (by kernel_rfl) (gc 7 (tV N) gn) [] mix (Nat.le_of_ble_eq_true rfl) ?_;simp only [Tryz.f50];unfold j9 at h;refine Ws fun Z hZ=>?_;simp only [go_sem,seval];refine hZ _ (pp (Wk_seq (bc rfl ?_)));first|rw [if_pos (rfl:true=true)] at h|rw [if_neg Bool.false_ne_true] at h|skip
 refine ak (pp (Wk_seq ?_));obtain ⟨r1,hr1,h⟩:=Option.bind_eq_some_iff.1 h;refine ai fun Z hZ=>?_;simp only [go_sem,seval,hr1];refine hZ _ (pp (Wk_ret (pp ?_)));cases h;simp only [go_sem,seval];exact ⟨_,rfl,RokI.h,PureI.h⟩
def mG (N:Nat):FnS:=⟨[],true,fn1 (decI .u64) fun q0=>(j9 N q0).map fun r=>.val (.int .i64 r),false⟩
attribute [go_sem] mG
theorem qp (N:Nat):FSOk Tryz.prog 50 (mG N):=ok1 (fun q0 r h=>by
 obtain ⟨r',hr,rfl⟩:=Option.map_eq_some_iff.1 h;exact zc N q0 r' hr) (ay)


theorem yZ (N:Nat) (a0:Int) (r:Bool) (h:ja N a0=some r):Con Tryz.prog 55 [] true [.val (.int .i64 a0)] (.val (.bool r)):=by
 refine aV (G:=(glist [])) Tryz.func55 rfl (by decide) (by kernel_rfl) gn [] mix (Nat.le_of_ble_eq_true rfl) ?_;simp only [Tryz.f55];unfold ja at h;refine Ws fun Z hZ=>?_;simp only [go_sem,seval];refine hZ _ (pp (Ws fun Z hZ=>?_));simp only [go_sem,seval];refine hZ _ (pp (Wk_ret (pp ?_)));cases h;simp only [go_sem,seval];exact ⟨_,rfl,RokI.h,PureI.h⟩
def jw (N:Nat):FnS:=⟨[],true,fn1 (decI .i64) fun q0=>(ja N q0).map fun r=>.val (.bool r),false⟩
attribute [go_sem] jw
theorem li (N:Nat):FSOk Tryz.prog 55 (jw N):=ok1 (fun q0 r h=>by
 obtain ⟨r',hr,rfl⟩:=Option.map_eq_some_iff.1 h;exact yZ N q0 r' hr) (ay)


noncomputable def tS (N d f:Nat):Option FnS:=glist [(6,55,jw N),(9,55,jw N)] d f
attribute [go_sem] tS
theorem zq (N:Nat) (a0:Int) (a1:Int) (r:Bool) (h:pW N a0 a1=some r):Con Tryz.prog 68 [] true [.val (.int .i64 a0),.val (.int .i64 a1)] (.val (.bool r)):=by
 refine aV (G:=(tS N)) Tryz.func68 rfl (by decide) (by kernel_rfl) (gc 6 (li N) (gc 9 (li N) gn)) [] mix (Nat.le_of_ble_eq_true rfl) ?_;simp only [Tryz.f68];unfold pW at h;refine Ws fun Z hZ=>?_;simp only [go_sem,seval];refine hZ _ (pp (Wk_seq ?_));obtain ⟨r1,hr1,h⟩:=Option.bind_eq_some_iff.1 h;refine ai fun Z hZ=>?_;simp only [go_sem,seval,hr1];refine sw (bR rfl) (fun hc2=>?_) (fun hc2=>?_)
 ·rw [if_neg (ne_true_of_eq_false hc2)] at h;simp only [go_sem,seval,hc2];refine hZ _ (pp (Wk_ret (pp ?_)));cases h;simp only [go_sem,seval];exact ⟨_,rfl,RokI.h,PureI.h⟩
 rw [if_pos hc2] at h;obtain ⟨r2,hr3,h⟩:=Option.bind_eq_some_iff.1 h;simp only [go_sem,seval,hc2,hr3];refine eY rfl (fun hc4=>?_) (fun hc4=>?_)
 ·rw [if_neg (ne_true_of_eq_false hc4)] at h;simp only [go_sem,seval,hc4];refine hZ _ (pp (Wk_ret (pp ?_)));cases h;simp only [go_sem,seval];exact ⟨_,rfl,RokI.h,PureI.h⟩
 rw [if_pos hc4] at h;simp only [go_sem,seval,hc4];refine hZ _ (pp (Wk_ret (pp ?_)));cases h;simp only [go_sem,seval];exact ⟨_,rfl,RokI.h,PureI.h⟩
def qd (N:Nat):FnS:=⟨[],true,fn2 (decI .i64) (decI .i64) fun q0 q1=>(pW N q0 q1).map fun r=>.val (.bool r),false⟩
attribute [go_sem] qd
theorem vK (N:Nat):FSOk Tryz.prog 68 (qd N):=ok2 (fun q0 q1 r h=>by
 obtain ⟨r',hr,rfl⟩:=Option.map_eq_some_iff.1 h;exact zq N q0 q1 r' hr) (ay) (ay)


noncomputable def jC (N d f:Nat):Option FnS:=glist [(29,68,qd N)] d f
attribute [go_sem] jC
theorem jc (N:Nat) (a0:(List Int)) (a1:Int) (a2:Int) (r:(List Int)) (h:a6 N a0 a1 a2=some r):(r).length=a0.length:=by
 unfold a6 at h; exact (i9 h).2
theorem oa (N:Nat) (a0:(List Int)) (a1:Int) (a2:Int) (r:(List Int)) (h:a6 N a0 a1 a2=some r):ConL Tryz.prog 62 1 [.sl true none 1 none (a0.map (rowI .i64)),.val (.int .i64 a1),.val (.int .i64 a2)] (.tup []) [.sl true none 1 none (r.map (rowI .i64))]:=by
 unfold a6 at h;obtain ⟨h,hlen⟩:=i9 h;refine fM (G:=(jC N)) (L:=noL) Tryz.func62 rfl (by decide) (by kernel_rfl) 1 (by kernel_rfl) (gc 29 (vK N) gn) (fun _ _ _ h=>by cases h) [] mix (Nat.le_of_ble_eq_true rfl) (Nat.le_of_ble_eq_true rfl) rfl (by simp [lentSh,hlen]) ?_;simp only [Tryz.f62];refine Ws fun Z hZ=>?_;simp only [go_sem,seval];refine hZ _ (pp (al (fV (fun (b:Int)=>⟨tab 49 (updT (updT (updT (updT deadT 0 (.pal 0 [] 0 a0.length none)) 1 (.val (.int .i64 a1))) 2 (.val (.int .i64 a2))) 6 (.val (.int .i64 b))),(upd RZ 0 (.sl true none 1 none (a0.map (rowI .i64))))⟩) (IntKind.i64.wrap (a1+1)) h ?_ ?_)))
 ·refine wr ?_ ?_<;>repeat' first|rfl|constructor
 rintro n v1 h -;cases n with
 | zero=>simp [bY] at h
 | succ n=>
 simp only [bY] at h;refine Wk_seq (Ws fun Z hZ=>?_);simp only [go_sem,seval];refine hZ _ (pp (sw (am rfl) (fun hc1=>?_) (fun hc1=>?_)))
 ·have hc1d:=decide_eq_false hc1;rw [if_neg hc1] at h;refine aP (pp ?_);obtain rfl:=Option.some.inj h;refine du (.inr rfl) (Weak.refl _) (by simp only [go_sem,seval,hc1d]; rfl) (by simp only [go_sem,seval]; rfl) (by (try simp only [go_sem,seval]); first|exact Le.refl _|exact LeI.h) ?_;exact dA (by simp only [go_sem,seval,hc1d]<;>rfl) (by simp only [go_sem,seval]<;>rfl) (el_nil)
 have hc1d:=decide_eq_true hc1;rw [if_pos hc1] at h;refine ak (pp (Wk_seq (al (Ws fun Z hZ=>?_))));simp only [go_sem,seval,hc1d];refine hZ _ (pp (al (fV (fun (b:Unit)=>⟨tab 49 (updT (updT (updT (updT (updT deadT 0 (.pal 0 [] 0 a0.length none)) 1 (.val (.int .i64 a1))) 2 (.val (.int .i64 a2))) 6 (.val (.int .i64 v1))) 7 (.val (.int .i64 v1))),(upd RZ 0 (.sl true none 1 none (a0.map (rowI .i64))))⟩) () h ?_ ?_)))
 ·refine wr ?_ ?_<;>repeat' first|rfl|constructor
 rintro n ⟨⟩ h -;cases n with
 | zero=>simp [ff] at h
 | succ n=>
 simp only [ff] at h;refine Wk_seq ?_;apply bS (fun (c9:Bool)=>⟨tab 49 (updT (updT (updT (updT (updT (updT deadT 0 (.pal 0 [] 0 a0.length none)) 1 (.val (.int .i64 a1))) 2 (.val (.int .i64 a2))) 6 (.val (.int .i64 v1))) 7 (.val (.int .i64 v1))) 30 (.val (.bool c9))),(upd RZ 0 (.sl true none 1 none (a0.map (rowI .i64))))⟩)
 ·intro hJ2;refine bU fun Z hZ=>?_;simp only [go_sem,seval];refine sw (bF rfl) (fun hc3=>?_) (fun hc3=>?_)
  ·have hc3d:=decide_eq_false hc3;rw [if_neg hc3] at h;simp only [go_sem,seval,hc3d];refine hZ _ (by kernel_rfl) (pp (hJ2 _ false ?_ h));refine wr ?_ ?_<;>repeat' first|rfl|constructor
  have hc3d:=decide_eq_true hc3;rw [if_pos hc3] at h;obtain ⟨x10,hb4,hx5,h⟩:=aI h;obtain ⟨x11,hb6,hx7,h⟩:=aI h;obtain ⟨r12,hr8,h⟩:=Option.bind_eq_some_iff.1 h;simp only [go_sem,seval,hc3d,hb4,hx5,hb6,hx7,hr8];repeat with_reducible refine dN (by kernel_rfl) ?_
  refine hZ _ (by kernel_rfl) (pp (hJ2 _ r12 ?_ h));refine wr ?_ ?_<;>repeat' first|rfl|constructor
 intro c9 h;unfold fg at h;refine au rfl (fun hc9=>?_) (fun hc9=>?_)
 ·rw [if_pos hc9] at h;refine ak (pp ?_);unfold fj at h;refine Wk_seq (al ?_);obtain ⟨x13,hb10,hx11,h⟩:=aI h;obtain ⟨x14,hb12,hx13,h⟩:=aI h;cases h
 rw [if_neg (ne_true_of_eq_false hc9)] at h;refine aP (pp (ai fun Z hZ=>?_));simp only [go_sem,seval,hc9];refine hZ _ (pp (⟨_,Nat.lt_succ_self _,(IntKind.i64.wrap (v1+1)),?_,h⟩));refine wr ?_ ?_<;>repeat' first|rfl|constructor
def dR (N:Nat):FnL:=⟨1,fun cs rest=>match cs,rest with
 | [v0],[c1,c2]=>(lst1 1 (dec1 (decI .i64)) v0).bind fun q0=>((decI .i64) c1).bind fun q1=>((decI .i64) c2).bind fun q2=>(a6 N q0 q1 q2).map fun r=>(.tup [],[.sl true none 1 none (r.map (rowI .i64))])
 | _,_=>none,false⟩
attribute [go_sem] dR
theorem my (N:Nat):FLOk Tryz.prog 62 (dR N):=by
 refine flOk (Nat.succ_ne_zero _) rfl ?_;intro cs rest r ls hlen h;simp only [dR] at h;split at h
 ·simp only [Option.bind_eq_some_iff,Option.map_eq_some_iff] at h;obtain ⟨q0,h0,q1,h1,q2,h2,r',hr,he⟩:=h;cases he;exact ConL.told rfl rfl (pR (pO (fy .i64) (aJ .i64) h0) (lv_nil)) ((LeL.cons (ay h1) (LeL.cons (ay h2) (LeL.nil)))) (oa N q0 q1 q2 r' hr)
 ·cases h


noncomputable def lv (N d f:Nat):Option FnL:=llist [(27,62,dR N)] d f
attribute [go_sem] lv
theorem kC (N:Nat) (a0:(List Int)) (a1:Int) (a2:Int) (a3:Int) (r:(List Int)) (h:bx N a0 a1 a2 a3=some r):(r).length=a0.length:=by
 unfold bx at h; exact (i9 h).2
theorem pV (N:Nat) (a0:(List Int)) (a1:Int) (a2:Int) (a3:Int) (r:(List Int)) (h:bx N a0 a1 a2 a3=some r):ConL Tryz.prog 49 1 [.sl true none 1 none (a0.map (rowI .i64)),.val (.int .i64 a1),.val (.int .i64 a2),.val (.int .i64 a3)] (.tup []) [.sl true none 1 none (r.map (rowI .i64))]:=by
 unfold bx at h;obtain ⟨h,hlen⟩:=i9 h;refine fM (G:=(glist [])) (L:=(lv N)) Tryz.func49 rfl (by decide) (by kernel_rfl) 1 (by kernel_rfl) gn (lc 27 (my N) ln) [] mix (Nat.le_of_ble_eq_true rfl) (Nat.le_of_ble_eq_true rfl) rfl (by simp [lentSh,hlen]) ?_;simp only [Tryz.f49];refine Ws fun Z hZ=>?_;simp only [go_sem,seval];refine hZ _ (pp (Ws fun Z hZ=>?_));simp only [go_sem,seval];refine hZ _ (pp (al (fV (fun (b:Unit)=>⟨tab 134 (updT (updT (updT (updT (updT (updT deadT 0 (.pal 0 [] 0 a0.length none)) 1 (.val (.int .i64 a1))) 2 (.val (.int .i64 a2))) 3 (.val (.int .i64 a3))) 8 (.val (.bool true))) 9 (.val (.bool true))),(upd RZ 0 (.sl true none 1 none (a0.map (rowI .i64))))⟩) () h ?_ ?_)))
 ·refine wr ?_ ?_<;>repeat' first|rfl|constructor
 rintro n ⟨⟩ h -;cases n with
 | zero=>simp [eP] at h
 | succ n=>
 simp only [eP] at h;refine al (Ws fun Z hZ=>?_);simp only [go_sem,seval];refine hZ _ (pp (Wk_seq (Ws fun Z hZ=>?_)));simp only [go_sem,seval];refine hZ _ (pp (sw (am rfl) (fun hc1=>?_) (fun hc1=>?_)))
 ·have hc1d:=decide_eq_false hc1;rw [if_neg hc1] at h;refine ak (pp (Wk_seq (Ws fun Z hZ=>?_)));simp only [go_sem,seval,hc1d];refine hZ _ (pp (am rfl (fun hc3=>?_) (fun hc3=>?_)))
  ·have hc3d:=decide_eq_true hc3;rw [if_pos hc3] at h;refine Wk_seq ?_;cases h
  have hc3d:=decide_eq_false hc3;rw [if_neg hc3] at h;refine ak (pp (Wk_seq (Ws fun Z hZ=>?_)));simp only [go_sem,seval,hc3d];refine hZ _ (pp (bc rfl ?_));first|rw [if_pos (rfl:true=true)] at h|rw [if_neg Bool.false_ne_true] at h|skip
  refine ak (pp (Wk_seq ?_));cases h
 have hc1d:=decide_eq_true hc1;rw [if_pos hc1] at h;refine Wk_seq ?_;obtain ⟨r1,hr2,h⟩:=Option.bind_eq_some_iff.1 h;refine ai fun Z hZ=>?_;simp only [go_sem,seval,hc1d,hr2,jc N a0 a1 a2 r1 hr2];refine hZ _ (pp (Wk_ret (pp ?_)));obtain rfl:=Option.some.inj h;refine du (.inl rfl) (Weak.refl _) (by simp only [go_sem,seval]; rfl) (by simp only [go_sem,seval]; rfl) (by (try simp only [go_sem,seval]); first|exact Le.refl _|exact LeI.h) ?_;exact dA (by simp only [go_sem,seval,jc N a0 a1 a2 r1 hr2]<;>rfl) (by simp only [go_sem,seval]<;>rfl) (el_nil)
def eS (N:Nat):FnL:=⟨1,fun cs rest=>match cs,rest with
 | [v0],[c1,c2,c3]=>(lst1 1 (dec1 (decI .i64)) v0).bind fun q0=>((decI .i64) c1).bind fun q1=>((decI .i64) c2).bind fun q2=>((decI .i64) c3).bind fun q3=>(bx N q0 q1 q2 q3).map fun r=>(.tup [],[.sl true none 1 none (r.map (rowI .i64))])
 | _,_=>none,false⟩
attribute [go_sem] eS
theorem oI (N:Nat):FLOk Tryz.prog 49 (eS N):=by
 refine flOk (Nat.succ_ne_zero _) rfl ?_;intro cs rest r ls hlen h;simp only [eS] at h;split at h
 ·simp only [Option.bind_eq_some_iff,Option.map_eq_some_iff] at h;obtain ⟨q0,h0,q1,h1,q2,h2,q3,h3,r',hr,he⟩:=h;cases he;exact ConL.told rfl rfl (pR (pO (fy .i64) (aJ .i64) h0) (lv_nil)) ((LeL.cons (ay h1) (LeL.cons (ay h2) (LeL.cons (ay h3) (LeL.nil))))) (pV N q0 q1 q2 q3 r' hr)
 ·cases h


noncomputable def oY (N d f:Nat):Option FnS:=glist [(9,50,mG N)] d f
attribute [go_sem] oY
noncomputable def oW (N d f:Nat):Option FnL:=llist [(10,49,eS N)] d f
attribute [go_sem] oW
theorem rM (N:Nat) (a0:(List Int)) (r:(List Int)) (h:dV N a0=some r):(r).length=a0.length:=by
 unfold dV at h; exact (i9 h).2
theorem oX (N:Nat) (a0:(List Int)) (r:(List Int)) (h:dV N a0=some r):ConL Tryz.prog 25 1 [.sl true none 1 none (a0.map (rowI .i64))] (.tup []) [.sl true none 1 none (r.map (rowI .i64))]:=by
 unfold dV at h;obtain ⟨h,hlen⟩:=i9 h;refine fM (G:=(oY N)) (L:=(oW N)) Tryz.func25 rfl (by decide) (by kernel_rfl) 1 (by kernel_rfl) (gc 9 (qp N) gn) (lc 10 (oI N) ln) [] mix (Nat.le_of_ble_eq_true rfl) (Nat.le_of_ble_eq_true rfl) rfl (by simp [lentSh,hlen]) ?_;simp only [Tryz.f25];refine Ws fun Z hZ=>?_;simp only [go_sem,seval];refine hZ _ (pp ?_);obtain ⟨r1,hr1,h⟩:=Option.bind_eq_some_iff.1 h;obtain ⟨r2,hr2,h⟩:=Option.bind_eq_some_iff.1 h;refine ai fun Z hZ=>?_;simp only [go_sem,seval,hr1,hr2,kC N a0 0 ((a0.length:Nat):Int) r1 r2 hr2];refine hZ _ (pp ?_);obtain rfl:=Option.some.inj h;refine du (.inr rfl) (Weak.refl _) (by simp only [go_sem,seval]; rfl) (by simp only [go_sem,seval]; rfl) (by (try simp only [go_sem,seval]); first|exact Le.refl _|exact LeI.h) ?_;exact dA (by simp only [go_sem,seval,kC N a0 0 ((a0.length:Nat):Int) r1 r2 hr2]<;>rfl) (by simp only [go_sem,seval]<;>rfl) (el_nil)
def kW (N:Nat):FnL:=⟨1,fun cs rest=>match cs,rest with
 | [v0],[]=>(lst1 1 (dec1 (decI .i64)) v0).bind fun q0 =>  (dV N q0).map fun r=>(.tup [],[.sl true none 1 none (r.map (rowI .i64))])
 | _,_=>none,false⟩
attribute [go_sem] kW
theorem zQ (N:Nat):FLOk Tryz.prog 25 (kW N):=by
 refine flOk (Nat.succ_ne_zero _) rfl ?_;intro cs rest r ls hlen h;simp only [kW] at h;split at h
 ·simp only [Option.bind_eq_some_iff,Option.map_eq_some_iff] at h;obtain ⟨q0,h0,r',hr,he⟩:=h;cases he;exact ConL.told rfl rfl (pR (pO (fy .i64) (aJ .i64) h0) (lv_nil)) ((LeL.nil)) (oX N q0 r' hr)
 ·cases h


def vF:Go.Shelf.Ren:=⟨fun|125=>50|128=>71|129=>72|189=>25|215=>55|216=>68|257=>49|294=>62|295=>63|296=>64|297=>65|298=>66|299=>67|300=>69|301=>70|328=>91|329=>92|330=>93|331=>94|332=>95|343=>104|n=>n,fun|0=>0|3=>3|4=>4|5=>5|9=>9|28=>24|46=>81|51=>100|53=>102|131=>41|182=>92|183=>93|218=>109|222=>113|228=>122|229=>123|n=>n,fun n=>n⟩
theorem vD:Go.Proofs.Lays.n189 Tryz.prog vF where
 mixed:=by kernel_rfl
 f125:=Tryz.func50.trans (congrArg some (by kernel_rfl))
 f128:=Tryz.func71.trans (congrArg some (by kernel_rfl))
 f129:=Tryz.func72.trans (congrArg some (by kernel_rfl))
 f189:=Tryz.func25.trans (congrArg some (by kernel_rfl))
 f215:=Tryz.func55.trans (congrArg some (by kernel_rfl))
 f216:=Tryz.func68.trans (congrArg some (by kernel_rfl))
 f257:=Tryz.func49.trans (congrArg some (by kernel_rfl))
 f294:=Tryz.func62.trans (congrArg some (by kernel_rfl))
 f295:=Tryz.func63.trans (congrArg some (by kernel_rfl))
 f296:=Tryz.func64.trans (congrArg some (by kernel_rfl))
 f297:=Tryz.func65.trans (congrArg some (by kernel_rfl))
 f298:=Tryz.func66.trans (congrArg some (by kernel_rfl))
 f299:=Tryz.func67.trans (congrArg some (by kernel_rfl))
 f300:=Tryz.func69.trans (congrArg some (by kernel_rfl))
 f301:=Tryz.func70.trans (congrArg some (by kernel_rfl))
 f328:=Tryz.func91.trans (congrArg some (by kernel_rfl))
 f329:=Tryz.func92.trans (congrArg some (by kernel_rfl))
 f330:=Tryz.func93.trans (congrArg some (by kernel_rfl))
 f331:=Tryz.func94.trans (congrArg some (by kernel_rfl))
 f332:=Tryz.func95.trans (congrArg some (by kernel_rfl))
 f343:=Tryz.func104.trans (congrArg some (by kernel_rfl))
 t0:=Tryz.underlying0
 a0:=Tryz.isAgg0
 z0:=Tryz.sizeOf0
 v0:=Tryz.zeroValue0
 t3:=Tryz.underlying3
 a3:=Tryz.isAgg3
 z3:=Tryz.sizeOf3
 v3:=Tryz.zeroValue3
 t4:=Tryz.underlying4
 a4:=Tryz.isAgg4
 z4:=Tryz.sizeOf4
 v4:=Tryz.zeroValue4
 t5:=Tryz.underlying5
 a5:=Tryz.isAgg5
 z5:=Tryz.sizeOf5
 v5:=Tryz.zeroValue5
 t9:=Tryz.underlying9
 a9:=Tryz.isAgg9
 z9:=Tryz.sizeOf9
 v9:=Tryz.zeroValue9
 t28:=Tryz.underlying24
 a28:=Tryz.isAgg24
 z28:=Tryz.sizeOf24
 v28:=Tryz.zeroValue24
 t46:=Tryz.underlying81
 a46:=Tryz.isAgg81
 z46:=Tryz.sizeOf81
 v46:=Tryz.zeroValue81
 t51:=Tryz.underlying100
 a51:=Tryz.isAgg100
 z51:=Tryz.sizeOf100
 v51:=Tryz.zeroValue100
 t53:=Tryz.underlying102
 a53:=Tryz.isAgg102
 z53:=Tryz.sizeOf102
 v53:=Tryz.zeroValue102
 t131:=Tryz.underlying41
 a131:=Tryz.isAgg41
 z131:=Tryz.sizeOf41
 v131:=Tryz.zeroValue41
 t182:=Tryz.underlying92
 a182:=Tryz.isAgg92
 z182:=Tryz.sizeOf92
 v182:=Tryz.zeroValue92
 t183:=Tryz.underlying93
 a183:=Tryz.isAgg93
 z183:=Tryz.sizeOf93
 v183:=Tryz.zeroValue93
 t218:=Tryz.underlying109
 a218:=Tryz.isAgg109
 z218:=Tryz.sizeOf109
 v218:=Tryz.zeroValue109
 t222:=Tryz.underlying113
 a222:=Tryz.isAgg113
 z222:=Tryz.sizeOf113
 v222:=Tryz.zeroValue113
 t228:=Tryz.underlying122
 a228:=Tryz.isAgg122
 z228:=Tryz.sizeOf122
 v228:=Tryz.zeroValue122
 t229:=Tryz.underlying123
 a229:=Tryz.isAgg123
 z229:=Tryz.sizeOf123
 v229:=Tryz.zeroValue123
theorem aD (N:Nat) (a0:(List Int)) (r:(List Int)) (h:slices_Sort_int N a0=some r):(r).length=a0.length:=by
 unfold slices_Sort_int at h;split at h
 ·exact rM N a0 r h
 ·exact zP h
theorem wL (N:Nat) (a0:(List Int)) (r:(List Int)) (h:slices_Sort_int N a0=some r):ConL Tryz.prog 25 1 [.sl true none 1 none (a0.map (rowI .i64))] (.tup []) [.sl true none 1 none (r.map (rowI .i64))]:=by
 unfold slices_Sort_int at h;split at h
 ·exact oX N a0 r h
 ·rename_i hne;exact DR vD rfl (enters_of Tryz.func25 (by kernel_rfl) rfl) (fun e=>hne (by rw [e]; rfl)) h
def gW (N:Nat):FnL:=⟨1,fun cs rest=>match cs,rest with
 | [v0],[]=>(lst1 1 (dec1 (decI .i64)) v0).bind fun q0 =>  (slices_Sort_int N q0).map fun r=>(.tup [],[.sl true none 1 none (r.map (rowI .i64))])
 | _,_=>none,false⟩
attribute [go_sem] gW
theorem mw (N:Nat):FLOk Tryz.prog 25 (gW N):=by
 refine flOk (Nat.succ_ne_zero _) rfl ?_;intro cs rest r ls hlen h;simp only [gW] at h;split at h
 ·simp only [Option.bind_eq_some_iff,Option.map_eq_some_iff] at h;obtain ⟨q0,h0,r',hr,he⟩:=h;cases he;exact ConL.told rfl rfl (pR (pO (fy .i64) (aJ .i64) h0) (lv_nil)) ((LeL.nil)) (wL N q0 r' hr)
 ·cases h


noncomputable def rq (N d f:Nat):Option FnS:=glist [(10,24,mK N),(14,26,eq N),(25,27,aQ N),(30,27,aQ N)] d f
attribute [go_sem] rq
noncomputable def rA (N d f:Nat):Option FnL:=llist [(12,25,gW N),(40,25,gW N)] d f
attribute [go_sem] rA
theorem rv (N:Nat) (a0:(List ae)) (a1:(List Int)) (r:(List Int)) (h:dw N a0 a1=some r):Con Tryz.prog 8 [] true [.sl false none 2 none (a0.map ae.row),.sl false none 1 none (a1.map (rowI .i64))] (.sl true none 1 none (r.map (rowI .i64))):=by
 refine kI (G:=(rq N)) (L:=(rA N)) Tryz.func8 rfl (by decide) (by kernel_rfl) (gc 10 (sA N) (gc 14 (rL N) (gc 25 (aS N) (gc 30 (aS N) gn)))) (lc 12 (mw N) (lc 40 (mw N) ln)) [] mix (Nat.le_of_ble_eq_true rfl) ?_;simp only [Tryz.f8];unfold dw at h;refine Ws fun Z hZ=>?_;simp only [go_sem,seval];refine hZ _ (pp (Wk_seq ?_));obtain ⟨r1,hr1,h⟩:=Option.bind_eq_some_iff.1 h;refine ai fun Z hZ=>?_;simp only [go_sem,seval,hr1];refine hZ _ (pp (Wk_seq ?_));obtain ⟨r2,hr2,h⟩:=Option.bind_eq_some_iff.1 h;refine ai fun Z hZ=>?_;simp only [go_sem,seval,hr2,aD N r1 r2 hr2];refine hZ _ (pp (Wk_seq ?_));obtain ⟨r3,hr3,h⟩:=Option.bind_eq_some_iff.1 h;refine ai fun Z hZ=>?_;simp only [go_sem,seval,List.take_of_length_le (Nat.le_of_eq (aD N r1 r2 hr2)),hr3];refine hZ _ (pp (Wk_seq (Ws fun Z hZ=>?_)));simp only [go_sem,seval];refine hZ _ (pp (al (fV (fun (b:List Int × Bool)=>⟨tab 42 (updT (updT (updT deadT 0 (.sl false none 2 none (a0.map ae.row))) 5 (.pal 14 [] 0 b.1.length none)) 6 (.val (.bool b.2))),(upd RZ 14 (.sl true none 1 none (b.1.map (rowI .i64))))⟩) (r3,true) h ?_ ?_)))
 ·refine wr ?_ ?_<;>repeat' first|rfl|constructor|simp only [go_sem,seval,Bool.or_self,List.length_set,Int.natCast_zero,Int.cast_ofNat_Int,hr1,hr2,aD N r1 r2 hr2,List.take_of_length_le (Nat.le_of_eq (aD N r1 r2 hr2)),hr3]
 rintro n ⟨l5,c6⟩ h -;cases n with
 | zero=>simp [eM] at h
 | succ n=>
 simp only [eM] at h;refine Wk_seq (Ws fun Z hZ=>?_);simp only [go_sem,seval];refine hZ _ (pp (sw (au rfl) (fun hc4=>?_) (fun hc4=>?_)))
 ·rw [if_neg (ne_true_of_eq_false hc4)] at h;refine aP (pp ?_);unfold lL at h;refine Wk_seq ?_;obtain ⟨r28,hr17,h⟩:=Option.bind_eq_some_iff.1 h;refine ai fun Z hZ=>?_;simp only [go_sem,seval,hc4,hr17,aD N l5 r28 hr17];refine hZ _ (pp (Ws fun Z hZ=>?_));simp only [go_sem,seval];refine hZ _ (pp (Wk_ret (pp ?_)));obtain rfl:=Option.some.inj h;simp only [go_sem,seval,List.take_of_length_le (Nat.le_of_eq (aD N l5 r28 hr17))];exact ⟨_,rfl,RokI.h,PureI.h⟩
 rw [if_pos hc4] at h;refine ak (pp (al (Ws fun Z hZ=>?_)));simp only [go_sem,seval,hc4];refine hZ _ (pp (Ws fun Z hZ=>?_));simp only [go_sem,seval];refine hZ _ (pp (al (dt fun hreal6=>?_)));have hl5:=hreal6.lenT 0 (by decide) (by simp only [go_sem,seval]; rfl);first|rw [List.length_map] at hl5|rw [dy] at hl5|rw [<-List.map_append,List.length_map] at hl5
 refine dg (fun (v11:Nat) (b:List Int × Bool)=>⟨tab 42 (updT (updT (updT (updT (updT (updT deadT 0 (.sl false none 2 none (a0.map ae.row))) 5 (.pal 14 [] 0 b.1.length none)) 6 (.val (.bool b.2))) 16 (.sl false none 2 none (a0.map ae.row))) 17 (.val (.int .i64 ((a0.length:Nat):Int)))) 18 (.val (.int .i64 ((v11:Nat):Int)))),(upd RZ 14 (.sl true none 1 none (b.1.map (rowI .i64))))⟩) (l5,false) h ?_ ?_
 ·refine wr ?_ ?_<;>repeat' first|rfl|constructor|simp only [go_sem,seval,Bool.or_self,List.length_set,Int.natCast_zero,Int.cast_ofNat_Int,hr1,hr2,aD N r1 r2 hr2,List.take_of_length_le (Nat.le_of_eq (aD N r1 r2 hr2)),hr3,hc4]
 rintro v11 ⟨l9,c10⟩ hi7 h -;rcases (bq a0 v11 hi7).symm with ⟨hi7',_,hd10⟩|⟨x14,hi7',hx8,hd10⟩
 ·rw [hd10] at h;simp only [eL] at h;refine Ws fun Z hZ=>?_;simp only [go_sem,seval,hi7'];refine hZ _ (pp (Wk_seq ?_));try simp only [Int.ofNat_lt,hi7',if_true,if_false] at h
  refine bc rfl (aP (pp (⟨_,Nat.lt_succ_self _,(l9,c10),?_,h⟩)));refine wr ?_ ?_<;>repeat' first|rfl|constructor|simp only [go_sem,seval,Bool.or_self,List.length_set,Int.natCast_zero,Int.cast_ofNat_Int,hr1,hr2,aD N r1 r2 hr2,List.take_of_length_le (Nat.le_of_eq (aD N r1 r2 hr2)),hr3,hc4,hi7']
 rw [hd10] at h;simp only [eL] at h;have hw9:=bu hi7' hl5;refine Ws fun Z hZ=>?_;simp only [go_sem,seval,hi7'];refine hZ _ (pp (Wk_seq ?_));try simp only [Int.ofNat_lt,hi7',if_true,if_false] at h
 refine bm rfl (ak (pp (Wk_seq (al (Wk_seq ?_)))));try rw [gx_nat hx8] at h
 refine ai fun Z hZ=>?_;simp only [go_sem,seval,hx8,hi7'];refine hZ _ (pp ?_);apply bS (fun (c25:Bool)=>⟨tab 42 (updT (updT (updT (updT (updT (updT (updT (updT deadT 0 (.sl false none 2 none (a0.map ae.row))) 5 (.pal 14 [] 0 l9.length none)) 6 (.val (.bool c10))) 8 (.pref 8 [] 0 0)) 16 (.sl false none 2 none (a0.map ae.row))) 17 (.val (.int .i64 ((a0.length:Nat):Int)))) 18 (.val (.int .i64 ((v11:Nat):Int)))) 32 (.val (.bool c25))),(upd (upd RZ 8 (.sl true none 2 (some 1) [[.val (.int .i64 x14.e0),.val (.int .i64 x14.e1)]])) 14 (.sl true none 1 none (l9.map (rowI .i64))))⟩)
 ·intro hJ11;obtain ⟨r26,hr12,h⟩:=Option.bind_eq_some_iff.1 h;refine ai fun Z hZ=>?_;simp only [go_sem,seval,hr12];refine bR rfl (fun hc13=>?_) (fun hc13=>?_)
  ·rw [if_pos hc13] at h;obtain ⟨r27,hr14,h⟩:=Option.bind_eq_some_iff.1 h;simp only [go_sem,seval,hc13,hr14];refine hZ _ (pp (hJ11 _ (!r27) ?_ h));refine wr ?_ ?_<;>repeat' first|rfl|constructor|simp only [go_sem,seval,Bool.or_self,List.length_set,Int.natCast_zero,Int.cast_ofNat_Int,hr1,hr2,aD N r1 r2 hr2,List.take_of_length_le (Nat.le_of_eq (aD N r1 r2 hr2)),hr3,hc4,hx8,hi7',hw9,hr12,hc13,hr14]
  rw [if_neg (ne_true_of_eq_false hc13)] at h;simp only [go_sem,seval,hc13];refine hZ _ (pp (hJ11 _ false ?_ h));refine wr ?_ ?_<;>repeat' first|rfl|constructor|simp only [go_sem,seval,Bool.or_self,List.length_set,Int.natCast_zero,Int.cast_ofNat_Int,hr1,hr2,aD N r1 r2 hr2,List.take_of_length_le (Nat.le_of_eq (aD N r1 r2 hr2)),hr3,hc4,hx8,hi7',hw9,hr12,hc13]
 intro c25 h;unfold iD at h;refine sw (au rfl) (fun hc15=>?_) (fun hc15=>?_)
 ·rw [if_neg (ne_true_of_eq_false hc15)] at h;refine ak (pp (ai fun Z hZ=>?_));simp only [go_sem,seval,hw9,hc15];refine hZ _ (pp ?_);first|refine ⟨(l9,c10),?_,h⟩|refine ⟨hi7',(l9,c10),?_,h⟩
  refine wr ?_ ?_<;>repeat' first|rfl|constructor|simp only [go_sem,seval,Bool.or_self,List.length_set,Int.natCast_zero,Int.cast_ofNat_Int,hr1,hr2,aD N r1 r2 hr2,List.take_of_length_le (Nat.le_of_eq (aD N r1 r2 hr2)),hr3,hc4,hx8,hi7',hw9,hc15]
 rw [if_pos hc15] at h;obtain ⟨ha16,h⟩:=bk h;simp only [List.length_cons,List.length_nil,Nat.zero_add,Nat.reduceAdd] at ha16;refine ai fun Z hZ=>?_;simp only [go_sem,seval,hc15,ha16];refine hZ _ (pp (ai fun Z hZ=>?_));simp only [go_sem,seval,hw9];refine hZ _ (pp ?_);first|refine ⟨((l9++[x14.e0]),true),?_,h⟩|refine ⟨hi7',((l9++[x14.e0]),true),?_,h⟩
 refine Weak.trans (qO 5 37 14 (by decide) (by decide) (by simp only [go_sem,seval]) (by simp only [go_sem,seval]; rfl) (by simp only [go_sem,seval]; rfl) (by first|(simp; done)|simp only [go_sem,seval,Bool.or_self,List.length_set,Int.natCast_zero,Int.cast_ofNat_Int,hr1,hr2,aD N r1 r2 hr2,List.take_of_length_le (Nat.le_of_eq (aD N r1 r2 hr2)),hr3,hc4,hx8,hi7',hw9,hc15,ha16])) ?_;refine wr ?_ ?_<;>repeat' first|rfl|constructor|simp only [go_sem,seval]
def ot (N:Nat):FnS:=⟨[],true,fn2 (decL 2 ae.dec) (decL 1 (dec1 (decI .i64))) fun q0 q1=>(dw N q0 q1).map fun r=>.sl false none 1 none (r.map (rowI .i64)),false⟩
attribute [go_sem] ot
theorem tW (N:Nat):FSOk Tryz.prog 8 (ot N):=ok2 (fun q0 q1 r h=>by
 obtain ⟨r',hr,rfl⟩:=Option.map_eq_some_iff.1 h;exact (rv N q0 q1 r' hr).res (by (try simp only [go_sem]); exact RokI.h)) (fun h=>ar ae.dec_le h) (fun h=>ar (aJ .i64) h)

def ll (N:Nat):FnS:=⟨[],true,fn2 (decL 2 ae.dec) (decL 1 (dec1 (decI .i64))) fun q0 q1=>(dw N q0 q1).map fun r=>.sl true none 1 none (r.map (rowI .i64)),false⟩
attribute [go_sem] ll
theorem po (N:Nat):FSOk Tryz.prog 8 (ll N):=ok2 (fun q0 q1 r h=>by
 obtain ⟨r',hr,rfl⟩:=Option.map_eq_some_iff.1 h;exact rv N q0 q1 r' hr) (fun h=>ar ae.dec_le h) (fun h=>ar (aJ .i64) h)


noncomputable def iq (N d f:Nat):Option FnS:=glist [(16,39,gD N)] d f
attribute [go_sem] iq
theorem mh (N:Nat) (a0:(List Int)) (k1_0_0:(List ag)) (k1_0_1:(List ae)) (k1_0_2:(List Int)) (k1_0_3:(List Int)) (k1_0_4:(List Int)) (k1_0_5:(List ae)) (r:Int) (h:bO N a0 k1_0_0 k1_0_1 k1_0_2 k1_0_3 k1_0_4 k1_0_5=some r):Con Tryz.prog 41 [] true [.sl false none 1 none (a0.map (rowI .i64)),.clo 1000000039 [.iref 6 [[.sl false none 2 none (k1_0_0.map ag.row),.sl false none 2 none (k1_0_1.map ae.row),.sl false none 1 none (k1_0_2.map (rowI .i64)),.sl false none 1 none (k1_0_3.map (rowI .i64)),.sl false none 1 none (k1_0_4.map (rowI .i64)),.sl false none 2 none (k1_0_5.map ae.row)]] 0 0]] (.val (.int .i64 r)):=by
 refine aV (G:=(iq N)) Tryz.func41 rfl (by decide) (by kernel_rfl) (gc 16 (kr N) gn) [] mix (Nat.le_of_ble_eq_true rfl) ?_;simp only [Tryz.f41];unfold bO at h;refine Ws fun Z hZ=>?_;simp only [go_sem,seval];refine hZ _ (pp (Wk_seq (Ws fun Z hZ=>?_)));simp only [go_sem,seval];refine hZ _ (pp (al (dt fun hreal2=>?_)));have hl1:=hreal2.lenT 0 (by decide) (by simp only [go_sem,seval]; rfl);first|rw [List.length_map] at hl1|rw [dy] at hl1|rw [<-List.map_append,List.length_map] at hl1
 refine dg (fun (v2:Nat) (b:Unit)=>⟨tab 19 (updT (updT (updT (updT deadT 0 (.sl false none 1 none (a0.map (rowI .i64)))) 1 (.clo 1000000039 [.iref 6 [[.sl false none 2 none (k1_0_0.map ag.row),.sl false none 2 none (k1_0_1.map ae.row),.sl false none 1 none (k1_0_2.map (rowI .i64)),.sl false none 1 none (k1_0_3.map (rowI .i64)),.sl false none 1 none (k1_0_4.map (rowI .i64)),.sl false none 2 none (k1_0_5.map ae.row)]] 0 0])) 7 (.val (.int .i64 ((a0.length:Nat):Int)))) 8 (.val (.int .i64 ((v2:Nat):Int)))),RZ⟩) () h ?_ ?_
 ·refine wr ?_ ?_<;>repeat' first|rfl|constructor
 rintro v2 ⟨⟩ hi3 h -;rcases (bq a0 v2 hi3).symm with ⟨hi3',_,hd6⟩|⟨x5,hi3',hx4,hd6⟩
 ·rw [hd6] at h;simp only [bD] at h;refine Ws fun Z hZ=>?_;simp only [go_sem,seval,hi3'];refine hZ _ (pp (Wk_seq ?_));try simp only [Int.ofNat_lt,hi3',if_true,if_false] at h
  refine bc rfl (aP (pp (Ws fun Z hZ=>?_)));simp only [go_sem,seval];refine hZ _ (pp (Wk_ret (pp ?_)));cases h;simp only [go_sem,seval];exact ⟨_,rfl,RokI.h,PureI.h⟩
 rw [hd6] at h;simp only [bD] at h;have hw5:=bu hi3' hl1;refine Ws fun Z hZ=>?_;simp only [go_sem,seval,hi3'];refine hZ _ (pp (Wk_seq ?_));try simp only [Int.ofNat_lt,hi3',if_true,if_false] at h
 refine bm rfl (ak (pp (Wk_seq (al (Ws fun Z hZ=>?_)))));simp only [go_sem,seval];refine hZ _ (pp (Wk_seq ?_));try rw [gx_nat hx4] at h
 obtain ⟨r1,hr7,h⟩:=Option.bind_eq_some_iff.1 h;refine ai fun Z hZ=>?_;simp only [go_sem,seval,hx4,hi3',hr7];refine hZ _ (pp (au rfl (fun hc8=>?_) (fun hc8=>?_)))
 ·rw [if_pos hc8] at h;refine Ws fun Z hZ=>?_;simp only [go_sem,seval,hc8];refine hZ _ (pp (Wk_ret (pp ?_)));cases h;simp only [go_sem,seval];exact ⟨_,rfl,RokI.h,PureI.h⟩
 rw [if_neg (ne_true_of_eq_false hc8)] at h;refine ak (pp (ai fun Z hZ=>?_));simp only [go_sem,seval,hw5,hc8];refine hZ _ (pp ?_);first|refine ⟨(),?_,h⟩|refine ⟨hi3',(),?_,h⟩
 refine wr ?_ ?_<;>repeat' first|rfl|constructor
def dn (N:Nat):FnS:={ own:=[],pure:=true,fn:=fun cs=>match cs with
 | [c0,.clo 1000000039 [.iref 6 [[k1_0_0,k1_0_1,k1_0_2,k1_0_3,k1_0_4,k1_0_5]] 0 0]]=>((decL 1 (dec1 (decI .i64))) c0).bind fun qc0=>((decL 2 ag.dec) k1_0_0).bind fun qk1_0_0=>((decL 2 ae.dec) k1_0_1).bind fun qk1_0_1=>((decL 1 (dec1 (decI .i64))) k1_0_2).bind fun qk1_0_2=>((decL 1 (dec1 (decI .i64))) k1_0_3).bind fun qk1_0_3=>((decL 1 (dec1 (decI .i64))) k1_0_4).bind fun qk1_0_4=>((decL 2 ae.dec) k1_0_5).bind fun qk1_0_5=>(bO N qc0 qk1_0_0 qk1_0_1 qk1_0_2 qk1_0_3 qk1_0_4 qk1_0_5).map fun r=>.val (.int .i64 r)
 | _=>none }
attribute [go_sem] dn
theorem lA (N:Nat):FSOk Tryz.prog 41 (dn N):=by
 refine ⟨fun cs r h=>?_,fun h=>by cases h⟩;simp only [dn] at h;split at h
 ·simp only [Option.bind_eq_some_iff,Option.map_eq_some_iff] at h;obtain ⟨q0,h0,q1,h1,q2,h2,q3,h3,q4,h4,q5,h5,q6,h6,r',hr,rfl⟩:=h;exact ((mh N q0 q1 q2 q3 q4 q5 q6 r' hr).args (LeL.cons (ar (aJ .i64) h0) (LeL.cons (Le.clo (LeL.cons (Le.iref1 (LeL.cons (ar ag.dec_le h1) (LeL.cons (ar ae.dec_le h2) (LeL.cons (ar (aJ .i64) h3) (LeL.cons (ar (aJ .i64) h4) (LeL.cons (ar (aJ .i64) h5) (LeL.cons (ar ae.dec_le h6) (LeL.nil)))))))) (LeL.nil))) (LeL.nil))))
 ·cases h


noncomputable def gK (N d f:Nat):Option FnS:=glist [(10,41,dn N),(28,39,gD N)] d f
attribute [go_sem] gK
theorem mg (N:Nat) (a0:(List Int)) (k1_0_0:(List ag)) (k1_0_1:(List ae)) (k1_0_2:(List Int)) (k1_0_3:(List Int)) (k1_0_4:(List Int)) (k1_0_5:(List ae)) (r:(List Int)) (h:aM N a0 k1_0_0 k1_0_1 k1_0_2 k1_0_3 k1_0_4 k1_0_5=some r):Con Tryz.prog 38 [true,false] true [.sl true none 1 none (a0.map (rowI .i64)),.clo 1000000039 [.iref 6 [[.sl false none 2 none (k1_0_0.map ag.row),.sl false none 2 none (k1_0_1.map ae.row),.sl false none 1 none (k1_0_2.map (rowI .i64)),.sl false none 1 none (k1_0_3.map (rowI .i64)),.sl false none 1 none (k1_0_4.map (rowI .i64)),.sl false none 2 none (k1_0_5.map ae.row)]] 0 0]] (.sl true none 1 none (r.map (rowI .i64))):=by
 refine qA (G:=(gK N)) (L:=noL) Tryz.func38 rfl (by decide) (by kernel_rfl) (gc 10 (lA N) (gc 28 (kr N) gn)) (fun _ _ _ h=>by cases h) [] mix (Nat.le_of_ble_eq_true rfl) ?_;rw [show entryF [true,false] [.sl true none 1 none (a0.map (rowI .i64)),.clo 1000000039 [.iref 6 [[.sl false none 2 none (k1_0_0.map ag.row),.sl false none 2 none (k1_0_1.map ae.row),.sl false none 1 none (k1_0_2.map (rowI .i64)),.sl false none 1 none (k1_0_3.map (rowI .i64)),.sl false none 1 none (k1_0_4.map (rowI .i64)),.sl false none 2 none (k1_0_5.map ae.row)]] 0 0]]=(updT (updT deadT 0 (.pal 0 [] 0 a0.length none)) 1 (.clo 1000000039 [.iref 6 [[.sl false none 2 none (k1_0_0.map ag.row),.sl false none 2 none (k1_0_1.map ae.row),.sl false none 1 none (k1_0_2.map (rowI .i64)),.sl false none 1 none (k1_0_3.map (rowI .i64)),.sl false none 1 none (k1_0_4.map (rowI .i64)),.sl false none 2 none (k1_0_5.map ae.row)]] 0 0])) from by funext t; match t with|0=>simp [entryF,iW,viewD,updT]|1=>rfl|t+2=>rfl];rw [show R0 [true,false] [.sl true none 1 none (a0.map (rowI .i64)),.clo 1000000039 [.iref 6 [[.sl false none 2 none (k1_0_0.map ag.row),.sl false none 2 none (k1_0_1.map ae.row),.sl false none 1 none (k1_0_2.map (rowI .i64)),.sl false none 1 none (k1_0_3.map (rowI .i64)),.sl false none 1 none (k1_0_4.map (rowI .i64)),.sl false none 2 none (k1_0_5.map ae.row)]] 0 0]]=upd RZ 0 (.sl true none 1 none (a0.map (rowI .i64))) from by funext t; match t with|0=>rfl|1=>rfl|t+2=>rfl];simp only [Tryz.f38];unfold aM at h;refine Ws fun Z hZ=>?_;simp only [go_sem,seval];refine hZ _ (pp (Wk_seq ?_));obtain ⟨r1,hr1,h⟩:=Option.bind_eq_some_iff.1 h;refine ai fun Z hZ=>?_;simp only [go_sem,seval,hr1];refine hZ _ (pp (Wk_seq (Ws fun Z hZ=>?_)));simp only [go_sem,seval];refine hZ _ (pp (am rfl (fun hc2=>?_) (fun hc2=>?_)))
 ·have hc2d:=decide_eq_true hc2;rw [if_pos hc2] at h;refine Ws fun Z hZ=>?_;simp only [go_sem,seval,hc2d];refine hZ _ (pp (Wk_ret (pp ?_)));cases h;simp only [go_sem,seval,fJ];exact ⟨_,rfl,RokI.h,KeepI.h,PureI.h⟩
 have hc2d:=decide_eq_false hc2;rw [if_neg hc2] at h;refine ak (pp (Wk_seq (Ws fun Z hZ=>?_)));simp only [go_sem,seval,hc2d];refine hZ _ (pp (al (fV (fun (b:List Int × Int × Int)=>⟨tab 42 (updT (updT (updT (updT deadT 0 (.pal 0 [] 0 b.1.length none)) 1 (.clo 1000000039 [.iref 6 [[.sl false none 2 none (k1_0_0.map ag.row),.sl false none 2 none (k1_0_1.map ae.row),.sl false none 1 none (k1_0_2.map (rowI .i64)),.sl false none 1 none (k1_0_3.map (rowI .i64)),.sl false none 1 none (k1_0_4.map (rowI .i64)),.sl false none 2 none (k1_0_5.map ae.row)]] 0 0])) 5 (.val (.int .i64 b.2.1))) 6 (.val (.int .i64 b.2.2))),(upd RZ 0 (.sl true none 1 none (b.1.map (rowI .i64))))⟩) (a0,r1,IntKind.i64.wrap (r1+1)) h ?_ ?_)))
 ·refine wr ?_ ?_<;>repeat' first|rfl|constructor|simp only [go_sem,seval,Bool.or_self,List.length_set,Int.natCast_zero,Int.cast_ofNat_Int,hr1,hc2d]
 rintro n ⟨l4,v5,v6⟩ h -;cases n with
 | zero=>simp [ba] at h
 | succ n=>
 simp only [ba] at h;refine Wk_seq (Ws fun Z hZ=>?_);simp only [go_sem,seval];refine hZ _ (pp (sw (am rfl) (fun hc3=>?_) (fun hc3=>?_)))
 ·have hc3d:=decide_eq_false hc3;rw [if_neg hc3] at h;refine aP (pp ?_);unfold et at h;refine Wk_seq ?_;obtain ⟨hs12,h⟩:=gR h;try simp only [Int.toNat_natCast] at hs12 h
  refine ai fun Z hZ=>?_;simp only [go_sem,seval,hc3d,hs12,Nat.zero_le,uz (row:=(rowI .i64)) (z:=0) (rz:=[.val (.int .i64 0)]) (k:=(v5).toNat) (l:=l4) (by have:=hs12; omega) rfl,altX,clearX,dh,RowOk.allD (fy .i64)];refine hZ _ (pp (Wk_seq ?_));obtain ⟨hs13,h⟩:=gR h;try simp only [Int.toNat_zero] at hs13 h
  refine ai fun Z hZ=>?_;simp only [go_sem,seval,hs12,Nat.sub_zero,deepV,hs13];refine hZ _ (pp (Wk_ret (pp ?_)));cases h;simp only [go_sem,seval,fJ];exact ⟨_,rfl,RokI.h,KeepI.h,PureI.h⟩
 have hc3d:=decide_eq_true hc3;rw [if_pos hc3] at h;refine ak (pp (Wk_seq (al (Wk_seq ?_))));obtain ⟨x13,hb4,hx5,h⟩:=aI h;refine ai fun Z hZ=>?_;simp only [go_sem,seval,hb4,hx5];refine hZ _ (pp (Wk_seq ?_));obtain ⟨r14,hr6,h⟩:=Option.bind_eq_some_iff.1 h;refine ai fun Z hZ=>?_;simp only [go_sem,seval,hr6];refine hZ _ (pp (sw (bQ rfl) (fun hc7=>?_) (fun hc7=>?_)))
 ·rw [if_pos hc7] at h;refine ak (pp (ai fun Z hZ=>?_));simp only [go_sem,seval,hc7];refine hZ _ (pp (⟨_,Nat.lt_succ_self _,(l4,v5,IntKind.i64.wrap (v6+1)),?_,h⟩));refine wr ?_ ?_<;>repeat' first|rfl|constructor|simp only [go_sem,seval,Bool.or_self,List.length_set,Int.natCast_zero,Int.cast_ofNat_Int,hr1,hc2d,hc3d,hb4,hx5,hr6,hc7]
 rw [if_neg (ne_true_of_eq_false hc7)] at h;refine Wk_seq ?_;obtain ⟨x15,hb8,hx9,h⟩:=aI h;have hx11:=rO (y:=x13) hx9;refine ai fun Z hZ=>?_;simp only [go_sem,seval,hc7,hb8,hx9,mV (row:=(rowI .i64)) (y:=x13) (rx:=[.val (.int .i64 x15)]) (ry:=[.val (.int .i64 x13)]) hx9 rfl rfl];refine hZ _ (pp (ai fun Z hZ=>?_));simp only [go_sem,seval];refine hZ _ (pp (ai fun Z hZ=>?_));simp only [go_sem,seval];refine hZ _ (pp (⟨_,Nat.lt_succ_self _,((l4.set ((v5).toNat) x13),IntKind.i64.wrap (v5+1),IntKind.i64.wrap (v6+1)),?_,h⟩));refine wr ?_ ?_<;>repeat' first|rfl|constructor|simp only [go_sem,seval,List.length_set]
def aF (N:Nat):FnS:={ own:=[true,false],pure:=true,fn:=fun cs=>match cs with
 | [c0,.clo 1000000039 [.iref 6 [[k1_0_0,k1_0_1,k1_0_2,k1_0_3,k1_0_4,k1_0_5]] 0 0]]=>((decO 1 (dec1 (decI .i64))) c0).bind fun q0=>((decL 2 ag.dec) k1_0_0).bind fun q1=>((decL 2 ae.dec) k1_0_1).bind fun q2=>((decL 1 (dec1 (decI .i64))) k1_0_2).bind fun q3=>((decL 1 (dec1 (decI .i64))) k1_0_3).bind fun q4=>((decL 1 (dec1 (decI .i64))) k1_0_4).bind fun q5=>((decL 2 ae.dec) k1_0_5).bind fun q6=>(aM N q0 q1 q2 q3 q4 q5 q6).map fun r=>.sl true none 1 none (r.map (rowI .i64))
 | _=>none }
theorem kJ (N:Nat):(aF N).own=[true,false]:=rfl
theorem kz (N:Nat):(aF N).pure=true:=rfl
theorem kq (N:Nat):(aF N).peek=false:=rfl
attribute [go_sem] aF kJ kz kq
theorem fL (N:Nat):FSOk Tryz.prog 38 (aF N):=by
 refine ⟨fun cs r h=>?_,fun h=>by cases h⟩;simp only [aF] at h;split at h
 ·simp only [Option.bind_eq_some_iff,Option.map_eq_some_iff] at h;obtain ⟨q0,h0,q1,h1,q2,h2,q3,h3,q4,h4,q5,h5,q6,h6,r',hr,rfl⟩:=h;exact (mg N q0 q1 q2 q3 q4 q5 q6 r' hr).argsO rfl (oD (qE (fy .i64) (aJ .i64) h0) (qH (Le.clo (LeL.cons (Le.iref1 (LeL.cons (ar ag.dec_le h1) (LeL.cons (ar ae.dec_le h2) (LeL.cons (ar (aJ .i64) h3) (LeL.cons (ar (aJ .i64) h4) (LeL.cons (ar (aJ .i64) h5) (LeL.cons (ar ae.dec_le h6) (LeL.nil)))))))) (LeL.nil))) (oB)))
 ·cases h


theorem tC (N:Nat) (a0:ag) (c0_0:Int) (c0_1:Int) (c0_2:Int) (r:Bool) (h:iO N a0 c0_0 c0_1 c0_2=some r):Con Tryz.prog 99 [] true [.agg [.val (.int .i64 a0.actor),.sl false none 1 none (a0.txns.map (rowI .i64))],.iref 3 [[.val (.int .i64 c0_0),.val (.int .i64 c0_1),.val (.int .i64 c0_2)]] 0 0] (.val (.bool r)):=by
 refine aV (G:=(glist [])) Tryz.func99 rfl (by decide) (by kernel_rfl) gn [] mix (Nat.le_of_ble_eq_true rfl) ?_;simp only [Tryz.f99];unfold iO at h;refine Ws fun Z hZ=>?_;simp only [go_sem,seval];refine hZ _ (pp (Ws fun Z hZ=>?_));simp only [go_sem,seval];refine hZ _ (pp (Wk_ret (pp ?_)));cases h;simp only [go_sem,seval];exact ⟨_,rfl,RokI.h,PureI.h⟩
def jh (N:Nat):FnS:={ own:=[],pure:=true,fn:=fun cs=>match cs with
 | [c0,.iref 3 [[c1_0,c1_1,c1_2]] 0 0]=>(ag.decA c0).bind fun qc0=>((decI .i64) c1_0).bind fun qc1_0=>((decI .i64) c1_1).bind fun qc1_1=>((decI .i64) c1_2).bind fun qc1_2=>(iO N qc0 qc1_0 qc1_1 qc1_2).map fun r=>.val (.bool r)
 | _=>none }
attribute [go_sem] jh
theorem rl (N:Nat):FSOk Tryz.prog 99 (jh N):=by
 refine ⟨fun cs r h=>?_,fun h=>by cases h⟩;simp only [jh] at h;split at h
 ·simp only [Option.bind_eq_some_iff,Option.map_eq_some_iff] at h;obtain ⟨q0,h0,q1,h1,q2,h2,q3,h3,r',hr,rfl⟩:=h;exact ((tC N q0 q1 q2 q3 r' hr).args (LeL.cons (ag.decA_le h0) (LeL.cons (Le.iref1 (LeL.cons (ay h1) (LeL.cons (ay h2) (LeL.cons (ay h3) (LeL.nil))))) (LeL.nil))))
 ·cases h


noncomputable def gj (N d f:Nat):Option FnS:=glist [(16,99,jh N)] d f
attribute [go_sem] gj
theorem lM (N:Nat) (a0:(List ag)) (k1_0_0:Int) (k1_0_1:Int) (k1_0_2:Int) (r:Int) (h:bA N a0 k1_0_0 k1_0_1 k1_0_2=some r):Con Tryz.prog 85 [] true [.sl false none 2 none (a0.map ag.row),.clo 99 [.iref 3 [[.val (.int .i64 k1_0_0),.val (.int .i64 k1_0_1),.val (.int .i64 k1_0_2)]] 0 0]] (.val (.int .i64 r)):=by
 refine aV (G:=(gj N)) Tryz.func85 rfl (by decide) (by kernel_rfl) (gc 16 (rl N) gn) [] mix (Nat.le_of_ble_eq_true rfl) ?_;simp only [Tryz.f85];unfold bA at h;refine Ws fun Z hZ=>?_;simp only [go_sem,seval];refine hZ _ (pp (Wk_seq (Ws fun Z hZ=>?_)));simp only [go_sem,seval];refine hZ _ (pp (al (dt fun hreal2=>?_)));have hl1:=hreal2.lenT 0 (by decide) (by simp only [go_sem,seval]; rfl);first|rw [List.length_map] at hl1|rw [dy] at hl1|rw [<-List.map_append,List.length_map] at hl1
 refine dg (fun (v2:Nat) (b:Unit)=>⟨tab 19 (updT (updT (updT (updT deadT 0 (.sl false none 2 none (a0.map ag.row))) 1 (.clo 99 [.iref 3 [[.val (.int .i64 k1_0_0),.val (.int .i64 k1_0_1),.val (.int .i64 k1_0_2)]] 0 0])) 7 (.val (.int .i64 ((a0.length:Nat):Int)))) 8 (.val (.int .i64 ((v2:Nat):Int)))),RZ⟩) () h ?_ ?_
 ·refine wr ?_ ?_<;>repeat' first|rfl|constructor
 rintro v2 ⟨⟩ hi3 h -;rcases (bq a0 v2 hi3).symm with ⟨hi3',_,hd6⟩|⟨x5,hi3',hx4,hd6⟩
 ·rw [hd6] at h;simp only [bn] at h;refine Ws fun Z hZ=>?_;simp only [go_sem,seval,hi3'];refine hZ _ (pp (Wk_seq ?_));try simp only [Int.ofNat_lt,hi3',if_true,if_false] at h
  refine bc rfl (aP (pp (Ws fun Z hZ=>?_)));simp only [go_sem,seval];refine hZ _ (pp (Wk_ret (pp ?_)));cases h;simp only [go_sem,seval];exact ⟨_,rfl,RokI.h,PureI.h⟩
 rw [hd6] at h;simp only [bn] at h;have hw5:=bu hi3' hl1;refine Ws fun Z hZ=>?_;simp only [go_sem,seval,hi3'];refine hZ _ (pp (Wk_seq ?_));try simp only [Int.ofNat_lt,hi3',if_true,if_false] at h
 refine bm rfl (ak (pp (Wk_seq (al (Ws fun Z hZ=>?_)))));simp only [go_sem,seval];refine hZ _ (pp (Wk_seq ?_));try rw [gx_nat hx4] at h
 obtain ⟨r1,hr7,h⟩:=Option.bind_eq_some_iff.1 h;refine ai fun Z hZ=>?_;simp only [go_sem,seval,hx4,hi3',hr7];refine hZ _ (pp (au rfl (fun hc8=>?_) (fun hc8=>?_)))
 ·rw [if_pos hc8] at h;refine Ws fun Z hZ=>?_;simp only [go_sem,seval,hc8];refine hZ _ (pp (Wk_ret (pp ?_)));cases h;simp only [go_sem,seval];exact ⟨_,rfl,RokI.h,PureI.h⟩
 rw [if_neg (ne_true_of_eq_false hc8)] at h;refine ak (pp (ai fun Z hZ=>?_));simp only [go_sem,seval,hw5,hc8];refine hZ _ (pp ?_);first|refine ⟨(),?_,h⟩|refine ⟨hi3',(),?_,h⟩
 refine wr ?_ ?_<;>repeat' first|rfl|constructor
def bT (N:Nat):FnS:={ own:=[],pure:=true,fn:=fun cs=>match cs with
 | [c0,.clo 99 [.iref 3 [[k1_0_0,k1_0_1,k1_0_2]] 0 0]]=>((decL 2 ag.dec) c0).bind fun qc0=>((decI .i64) k1_0_0).bind fun qk1_0_0=>((decI .i64) k1_0_1).bind fun qk1_0_1=>((decI .i64) k1_0_2).bind fun qk1_0_2=>(bA N qc0 qk1_0_0 qk1_0_1 qk1_0_2).map fun r=>.val (.int .i64 r)
 | _=>none }
attribute [go_sem] bT
theorem kN (N:Nat):FSOk Tryz.prog 85 (bT N):=by
 refine ⟨fun cs r h=>?_,fun h=>by cases h⟩;simp only [bT] at h;split at h
 ·simp only [Option.bind_eq_some_iff,Option.map_eq_some_iff] at h;obtain ⟨q0,h0,q1,h1,q2,h2,q3,h3,r',hr,rfl⟩:=h;exact ((lM N q0 q1 q2 q3 r' hr).args (LeL.cons (ar ag.dec_le h0) (LeL.cons (Le.clo (LeL.cons (Le.iref1 (LeL.cons (ay h1) (LeL.cons (ay h2) (LeL.cons (ay h3) (LeL.nil))))) (LeL.nil))) (LeL.nil))))
 ·cases h


noncomputable def p8 (N d f:Nat):Option FnS:=glist [(12,85,bT N),(43,27,aQ N)] d f
attribute [go_sem] p8
theorem uF (N:Nat) (a0:af) (a1:ah) (r:af) (h:iu N a0 a1=some r):ConL Tryz.prog 76 1 [.sl true none 6 (some 1) [af.rowD a0],.agg (ah.row a1)] (.tup []) [.sl true none 6 (some 1) [af.rowD r]]:=by
 refine fM (G:=(p8 N)) (L:=noL) Tryz.func76 rfl (by decide) (by kernel_rfl) 1 (by kernel_rfl) (gc 12 (kN N) (gc 43 (aS N) gn)) (fun _ _ _ h=>by cases h) [] mix (Nat.le_of_ble_eq_true rfl) (Nat.le_of_ble_eq_true rfl) rfl rfl ?_;simp only [Tryz.f76];unfold iu at h;refine Ws fun Z hZ=>?_;simp (config := { maxSteps := 4000000 }) only [go_sem,seval];refine hZ _ (pp (Wk_seq ?_));obtain ⟨r1,hr1,h⟩:=Option.bind_eq_some_iff.1 h;refine ai fun Z hZ=>?_;simp (config := { maxSteps := 4000000 }) only [go_sem,seval,hr1];refine hZ _ (pp ?_);apply oA (fun (l3:List ag) (v4:Int)=>⟨tab 77 (updT (updT (updT deadT 0 (.pref 0 [] 0 0)) 3 (.pref 3 [] 0 0)) 4 (.val (.int .i64 v4))),(upd (upd RZ 0 (.sl true none 6 (some 1) [[.sl true none 2 none (l3.map ag.rowD),.sl true none 2 none (a0.prepared.map ae.row),.sl true none 1 none (a0.known.map (rowI .i64)),.sl true none 1 none (a0.committed.map (rowI .i64)),.sl true none 1 none (a0.aborted.map (rowI .i64)),.sl true none 2 none (a0.deps.map ae.row)]])) 3 (.sl true none 3 (some 1) [ah.row a1]))⟩)
 ·intro hJ2;refine Ws fun Z hZ=>?_;simp (config := { maxSteps := 4000000 }) only [go_sem,seval];refine hZ _ (pp (sw (am rfl) (fun hc3=>?_) (fun hc3=>?_)))
  ·have hc3d:=decide_eq_false hc3;first|rw [if_neg hc3] at h|rw [if_neg (ne_true_of_eq_false hc3d)] at h|simp only [hc3d,Bool.not_true,Bool.not_false,Bool.false_eq_true,if_true,if_false] at h
   refine ak (pp (hJ2 _ a0.stacks r1 ?_ h));refine wr ?_ ?_<;>repeat' first|rfl|constructor|simp only [go_sem,seval,Bool.or_self,List.length_set,Int.natCast_zero,Int.cast_ofNat_Int,hr1,hc3d]
  have hc3d:=decide_eq_true hc3;first|rw [if_pos hc3] at h|rw [if_pos hc3d] at h|simp only [hc3d,Bool.not_true,Bool.not_false,Bool.false_eq_true,if_true,if_false] at h
  refine dS [0,1,2,3,4,5,6,10,11,12,13,14] [7,8,9] [] [15,16,17,18] [0] (by kernel_rfl) fun Z hZ Y hY=>?_;simp (config := { maxSteps := 4000000 }) only [go_sem,seval,hc3d];refine hY _ (by kernel_rfl) (aZ (by kernel_rfl) fun Y hY=>?_);simp (config := { maxSteps := 4000000 }) only [go_sem,seval];refine hY _ (by kernel_rfl) (aZ (by kernel_rfl) fun Y hY=>?_);simp (config := { maxSteps := 4000000 }) only [go_sem,seval];refine hY _ (by kernel_rfl) (aZ (by simp only [go_sem,seval,chkA,baseN,headB,srcB,Option.isNone,Bool.and_true]; try rfl) fun Y hY=>?_);obtain ⟨ha4,h⟩:=bk h;simp only [List.length_cons,List.length_nil,Nat.zero_add,Nat.reduceAdd] at ha4;simp (config := { maxSteps := 4000000 }) only [go_sem,seval,ha4];refine hY _ (by kernel_rfl) (j5 ?_);simp (config := { maxSteps := 4000000 }) only [go_sem,seval];refine hZ _ (pp (gp (fI 0 [(0,0),(a0.stacks.length,1)] 1 (by simp only [go_sem,seval,vI]) (by simp only [go_sem,seval,vJ]; try rfl)) (hJ2 _ (a0.stacks++[(ag.mk a1.Actor [])]) ((a0.stacks.length:Nat):Int) ?_ h)));refine wr ?_ ?_<;>repeat' first|rfl|constructor|simp only [go_sem,seval]
 intro l3 v4 h;unfold ig at h;refine Wk_seq ?_;obtain ⟨x5,hb5,hx6,h⟩:=aI h;refine ai fun Z hZ=>?_;simp (config := { maxSteps := 4000000 }) only [go_sem,seval,hb5,hx6];refine hZ _ (pp (Wk_seq (Wk_seq ?_)));obtain ⟨r6,hr7,h⟩:=Option.bind_eq_some_iff.1 h;refine ai fun Z hZ=>?_;simp (config := { maxSteps := 4000000 }) only [go_sem,seval,hx6,hr7];refine hZ _ (pp (au rfl (fun hc8=>?_) (fun hc8=>?_)))
 ·first|rw [if_pos hc8] at h|simp only [hc8,Bool.or_false,Bool.or_true,Bool.false_or,Bool.true_or,Bool.and_true,Bool.true_and,Bool.and_false,Bool.false_and,Bool.not_true,Bool.not_false,Bool.false_eq_true,if_true,if_false] at h
  refine Wk_ret (pp ?_);obtain rfl:=Option.some.inj h;refine du (.inl rfl) (Weak.refl _) (by simp only [go_sem,seval,hc8]; rfl) (by simp only [go_sem,seval]; rfl) (by (try simp only [go_sem,seval]); first|exact Le.refl _|exact LeI.h) ?_;exact dA (by simp only [go_sem,seval,hc8]<;>rfl) (by simp only [go_sem,seval]<;>rfl) (el_nil)
 first|rw [if_neg (ne_true_of_eq_false hc8)] at h|simp only [hc8,Bool.or_false,Bool.or_true,Bool.false_or,Bool.true_or,Bool.and_true,Bool.true_and,Bool.and_false,Bool.false_and,Bool.not_true,Bool.not_false,Bool.false_eq_true,if_true,if_false] at h
 refine ak (pp ?_);apply bS (fun (l9:List ae)=>⟨tab 77 (updT (updT (updT (updT deadT 0 (.pref 0 [] 0 0)) 3 (.pref 3 [] 0 0)) 4 (.val (.int .i64 v4))) 5 (.pal 0 [(0,0),((v4).toNat,1)] 0 x5.txns.length none)),(upd (upd RZ 0 (.sl true none 6 (some 1) [[.sl true none 2 none (l3.map ag.rowD),.sl true none 2 none (a0.prepared.map ae.row),.sl true none 1 none (a0.known.map (rowI .i64)),.sl true none 1 none (a0.committed.map (rowI .i64)),.sl true none 1 none (a0.aborted.map (rowI .i64)),.sl true none 2 none (l9.map ae.row)]])) 3 (.sl true none 3 (some 1) [ah.row a1]))⟩)
 ·intro hJ9;refine Ws fun Z hZ=>?_;simp (config := { maxSteps := 4000000 }) only [go_sem,seval,hc8];refine hZ _ (pp (Ws fun Z hZ=>?_));simp (config := { maxSteps := 4000000 }) only [go_sem,seval];refine hZ _ (pp (sw (am rfl) (fun hc10=>?_) (fun hc10=>?_)))
  ·have hc10d:=decide_eq_false hc10;first|rw [if_neg hc10] at h|rw [if_neg (ne_true_of_eq_false hc10d)] at h|simp only [hc10d,Bool.not_true,Bool.not_false,Bool.false_eq_true,if_true,if_false] at h
   refine ak (pp (hJ9 _ a0.deps ?_ h));refine wr ?_ ?_<;>repeat' first|rfl|constructor|simp only [go_sem,seval,Bool.or_self,List.length_set,Int.natCast_zero,Int.cast_ofNat_Int,hr1,hb5,hx6,hr7,hc8,hc10d]
  have hc10d:=decide_eq_true hc10;first|rw [if_pos hc10] at h|rw [if_pos hc10d] at h|simp only [hc10d,Bool.not_true,Bool.not_false,Bool.false_eq_true,if_true,if_false] at h
  refine dS [0,1,2,3,4,5,6,7,8] [9,10,11,12,13] [] [14,15,16,17] [0] (by kernel_rfl) fun Z hZ Y hY=>?_;simp (config := { maxSteps := 4000000 }) only [go_sem,seval,hc10d];refine hY _ (by kernel_rfl) (aZ (by kernel_rfl) fun Y hY=>?_);simp (config := { maxSteps := 4000000 }) only [go_sem,seval];refine hY _ (by kernel_rfl) (aZ (by kernel_rfl) fun Y hY=>?_);obtain ⟨x10,hb11,hx12,h⟩:=aI h;simp (config := { maxSteps := 4000000 }) only [go_sem,seval,hx6,hb11];refine hY _ (by kernel_rfl) (aZ (by kernel_rfl) fun Y hY=>?_);simp (config := { maxSteps := 4000000 }) only [go_sem,seval,hx6,hx12];refine hY _ (by kernel_rfl) (aZ (by kernel_rfl) fun Y hY=>?_);simp (config := { maxSteps := 4000000 }) only [go_sem,seval];refine hY _ (by kernel_rfl) (aZ (by kernel_rfl) fun Y hY=>?_);simp (config := { maxSteps := 4000000 }) only [go_sem,seval];refine hY _ (by kernel_rfl) (j5 ?_);obtain ⟨ha13,h⟩:=bk h;simp only [List.length_cons,List.length_nil,Nat.zero_add,Nat.reduceAdd] at ha13;simp (config := { maxSteps := 4000000 }) only [go_sem,seval,ha13];refine hZ _ (pp (hJ9 _ (a0.deps++[(ae.mk a1.Txn x10)]) ?_ h));refine wr ?_ ?_<;>repeat' first|rfl|constructor|simp only [go_sem,seval]
 intro l9 h;unfold ic at h;refine dS [0,1,2,3,4,5,6,7] [8,9] [] [10,11,12] [0] (by kernel_rfl) fun Z hZ Y hY=>?_;simp (config := { maxSteps := 4000000 }) only [go_sem,seval];refine hY _ (by kernel_rfl) (aZ (by kernel_rfl) fun Y hY=>?_);simp (config := { maxSteps := 4000000 }) only [go_sem,seval];refine hY _ (by kernel_rfl) (aZ (by simp only [go_sem,seval,chkA,baseN,headB,srcB,Option.isNone,Bool.and_true]; try rfl) fun Y hY=>?_);obtain ⟨ha14,h⟩:=bk h;simp only [List.length_cons,List.length_nil,Nat.zero_add,Nat.reduceAdd] at ha14;simp (config := { maxSteps := 4000000 }) only [go_sem,seval,hx6,ha14,jU (row:=ag.rowD) (rx:=[.val (.int .i64 x5.actor),.sl true none 1 none (x5.txns.map (rowI .i64))]) hx6 rfl rfl];refine hY _ (by kernel_rfl) (j5 ?_);obtain ⟨x11,hb15,hx16,h⟩:=aI h;obtain rfl:=AU hx6 hx16;simp (config := { maxSteps := 4000000 }) only [go_sem,seval,hb5,dj (row:=ag.rowD) _ hx6,ga (row:=ag.rowD) hx6 rfl];refine hZ _ (pp ?_);obtain rfl:=Option.some.inj h;refine du (.inr rfl) (Weak.trans (pM (n:=0) (c':=.sl true none 6 (some 1) [[.sl true none 2 none ((l3.set ((v4).toNat) (ag.mk x5.actor (x5.txns++[a1.Txn]))).map ag.rowD),.sl true none 2 none (a0.prepared.map ae.row),.sl true none 1 none (a0.known.map (rowI .i64)),.sl true none 1 none (a0.committed.map (rowI .i64)),.sl true none 1 none (a0.aborted.map (rowI .i64)),.sl true none 2 none (l9.map ae.row)]]) (by simp only [go_sem,seval]; rfl) (by first|(simp only [gt (row:=ag.rowD) (l:=l3) (i:=((v4).toNat)) (y:=(ag.mk x5.actor (x5.txns++[a1.Txn]))) (rc:=[.val (.int .i64 x5.actor),.sl true none 1 none ((x5.txns++[a1.Txn]).map (rowI .i64))]) rfl]; done)|(simp only [gt (row:=ag.rowD) (l:=l3) (i:=((v4).toNat)) (y:=(ag.mk x5.actor (x5.txns++[a1.Txn]))) (rc:=[.val (.int .i64 x5.actor),.sl true none 1 none ((x5.txns++[a1.Txn]).map (rowI .i64))]) rfl,List.map_append,List.map_cons,List.map_nil]<;>rfl)|(rw [<-gt (row:=ag.rowD) (l:=l3) (i:=((v4).toNat)) (y:=(ag.mk x5.actor (x5.txns++[a1.Txn]))) (rc:=[.val (.int .i64 x5.actor),.sl true none 1 none ((x5.txns++[a1.Txn]).map (rowI .i64))]) rfl]; simp only [List.map_append,List.map_cons,List.map_nil]<;>rfl))) (Weak.refl _)) (by simp only [go_sem,seval]; rfl) (by simp only [go_sem,seval]; rfl) (by (try simp only [go_sem,seval]); first|exact Le.refl _|exact LeI.h) ?_
 exact dA (by simp only [go_sem,seval,Bool.or_self]<;>rfl) (by simp only [go_sem,seval]<;>rfl) (el_nil)
def jX (N:Nat):FnL:=⟨1,fun cs rest=>match cs,rest with
 | [v0],[c1]=>(varE 6 af.decE v0).bind fun q0=>(ah.decA c1).bind fun q1=>(iu N q0 q1).map fun r=>(.tup [],[.sl true none 6 (some 1) [af.rowD r]])
 | _,_=>none,true⟩
attribute [go_sem] jX
theorem sp (N:Nat):FLOk Tryz.prog 76 (jX N):=by
 refine flOkP (Nat.succ_ne_zero _) ?_;intro cs rest r ls hlen h;simp only [jX] at h;split at h
 ·simp only [Option.bind_eq_some_iff,Option.map_eq_some_iff] at h;obtain ⟨q0,h0,q1,h1,r',hr,he⟩:=h;cases he;obtain rfl:=oR af.decE_eq h0;exact ⟨ConL.restLe rfl ((LeL.cons (ah.decA_le h1) (LeL.nil))) (uF N q0 q1 r' hr),rfl,PureIL.h⟩
 ·cases h


noncomputable def om (N d f:Nat):Option FnS:=glist [(6,27,aQ N)] d f
attribute [go_sem] om
theorem rY (N:Nat) (a0:Int) (c0_0:(List Int)) (r:Bool) (h:dc N a0 c0_0=some r):Con Tryz.prog 57 [] true [.val (.int .i64 a0),.iref 1 [[.sl false none 1 none (c0_0.map (rowI .i64))]] 0 0] (.val (.bool r)):=by
 refine aV (G:=(om N)) Tryz.func57 rfl (by decide) (by kernel_rfl) (gc 6 (aS N) gn) [] mix (Nat.le_of_ble_eq_true rfl) ?_;simp only [Tryz.f57];unfold dc at h;refine Ws fun Z hZ=>?_;simp only [go_sem,seval];refine hZ _ (pp (Wk_seq ?_));obtain ⟨r1,hr1,h⟩:=Option.bind_eq_some_iff.1 h;refine ai fun Z hZ=>?_;simp only [go_sem,seval,hr1];refine hZ _ (pp (Wk_ret (pp ?_)));cases h;simp only [go_sem,seval];exact ⟨_,rfl,RokI.h,PureI.h⟩
def fo (N:Nat):FnS:={ own:=[],pure:=true,fn:=fun cs=>match cs with
 | [c0,.iref 1 [[c1_0]] 0 0]=>((decI .i64) c0).bind fun qc0=>((decL 1 (dec1 (decI .i64))) c1_0).bind fun qc1_0=>(dc N qc0 qc1_0).map fun r=>.val (.bool r)
 | _=>none }
attribute [go_sem] fo
theorem ms (N:Nat):FSOk Tryz.prog 57 (fo N):=by
 refine ⟨fun cs r h=>?_,fun h=>by cases h⟩;simp only [fo] at h;split at h
 ·simp only [Option.bind_eq_some_iff,Option.map_eq_some_iff] at h;obtain ⟨q0,h0,q1,h1,r',hr,rfl⟩:=h;exact ((rY N q0 q1 r' hr).args (LeL.cons (ay h0) (LeL.cons (Le.iref1 (LeL.cons (ar (aJ .i64) h1) (LeL.nil))) (LeL.nil))))
 ·cases h


noncomputable def gl (N d f:Nat):Option FnS:=glist [(16,57,fo N)] d f
attribute [go_sem] gl
theorem lX (N:Nat) (a0:(List Int)) (k1_0_0:(List Int)) (r:Int) (h:bC N a0 k1_0_0=some r):Con Tryz.prog 41 [] true [.sl false none 1 none (a0.map (rowI .i64)),.clo 57 [.iref 1 [[.sl false none 1 none (k1_0_0.map (rowI .i64))]] 0 0]] (.val (.int .i64 r)):=by
 refine aV (G:=(gl N)) Tryz.func41 rfl (by decide) (by kernel_rfl) (gc 16 (ms N) gn) [] mix (Nat.le_of_ble_eq_true rfl) ?_;simp only [Tryz.f41];unfold bC at h;refine Ws fun Z hZ=>?_;simp only [go_sem,seval];refine hZ _ (pp (Wk_seq (Ws fun Z hZ=>?_)));simp only [go_sem,seval];refine hZ _ (pp (al (dt fun hreal2=>?_)));have hl1:=hreal2.lenT 0 (by decide) (by simp only [go_sem,seval]; rfl);first|rw [List.length_map] at hl1|rw [dy] at hl1|rw [<-List.map_append,List.length_map] at hl1
 refine dg (fun (v2:Nat) (b:Unit)=>⟨tab 19 (updT (updT (updT (updT deadT 0 (.sl false none 1 none (a0.map (rowI .i64)))) 1 (.clo 57 [.iref 1 [[.sl false none 1 none (k1_0_0.map (rowI .i64))]] 0 0])) 7 (.val (.int .i64 ((a0.length:Nat):Int)))) 8 (.val (.int .i64 ((v2:Nat):Int)))),RZ⟩) () h ?_ ?_
 ·refine wr ?_ ?_<;>repeat' first|rfl|constructor
 rintro v2 ⟨⟩ hi3 h -;rcases (bq a0 v2 hi3).symm with ⟨hi3',_,hd6⟩|⟨x5,hi3',hx4,hd6⟩
 ·rw [hd6] at h;simp only [bp] at h;refine Ws fun Z hZ=>?_;simp only [go_sem,seval,hi3'];refine hZ _ (pp (Wk_seq ?_));try simp only [Int.ofNat_lt,hi3',if_true,if_false] at h
  refine bc rfl (aP (pp (Ws fun Z hZ=>?_)));simp only [go_sem,seval];refine hZ _ (pp (Wk_ret (pp ?_)));cases h;simp only [go_sem,seval];exact ⟨_,rfl,RokI.h,PureI.h⟩
 rw [hd6] at h;simp only [bp] at h;have hw5:=bu hi3' hl1;refine Ws fun Z hZ=>?_;simp only [go_sem,seval,hi3'];refine hZ _ (pp (Wk_seq ?_));try simp only [Int.ofNat_lt,hi3',if_true,if_false] at h
 refine bm rfl (ak (pp (Wk_seq (al (Ws fun Z hZ=>?_)))));simp only [go_sem,seval];refine hZ _ (pp (Wk_seq ?_));try rw [gx_nat hx4] at h
 obtain ⟨r1,hr7,h⟩:=Option.bind_eq_some_iff.1 h;refine ai fun Z hZ=>?_;simp only [go_sem,seval,hx4,hi3',hr7];refine hZ _ (pp (au rfl (fun hc8=>?_) (fun hc8=>?_)))
 ·rw [if_pos hc8] at h;refine Ws fun Z hZ=>?_;simp only [go_sem,seval,hc8];refine hZ _ (pp (Wk_ret (pp ?_)));cases h;simp only [go_sem,seval];exact ⟨_,rfl,RokI.h,PureI.h⟩
 rw [if_neg (ne_true_of_eq_false hc8)] at h;refine ak (pp (ai fun Z hZ=>?_));simp only [go_sem,seval,hw5,hc8];refine hZ _ (pp ?_);first|refine ⟨(),?_,h⟩|refine ⟨hi3',(),?_,h⟩
 refine wr ?_ ?_<;>repeat' first|rfl|constructor
def bX (N:Nat):FnS:={ own:=[],pure:=true,fn:=fun cs=>match cs with
 | [c0,.clo 57 [.iref 1 [[k1_0_0]] 0 0]]=>((decL 1 (dec1 (decI .i64))) c0).bind fun qc0=>((decL 1 (dec1 (decI .i64))) k1_0_0).bind fun qk1_0_0=>(bC N qc0 qk1_0_0).map fun r=>.val (.int .i64 r)
 | _=>none }
attribute [go_sem] bX
theorem kK (N:Nat):FSOk Tryz.prog 41 (bX N):=by
 refine ⟨fun cs r h=>?_,fun h=>by cases h⟩;simp only [bX] at h;split at h
 ·simp only [Option.bind_eq_some_iff,Option.map_eq_some_iff] at h;obtain ⟨q0,h0,q1,h1,r',hr,rfl⟩:=h;exact ((lX N q0 q1 r' hr).args (LeL.cons (ar (aJ .i64) h0) (LeL.cons (Le.clo (LeL.cons (Le.iref1 (LeL.cons (ar (aJ .i64) h1) (LeL.nil))) (LeL.nil))) (LeL.nil))))
 ·cases h


noncomputable def fZ (N d f:Nat):Option FnS:=glist [(10,41,bX N),(28,57,fo N)] d f
attribute [go_sem] fZ
theorem ly (N:Nat) (a0:(List Int)) (k1_0_0:(List Int)) (r:(List Int)) (h:a8 N a0 k1_0_0=some r):Con Tryz.prog 38 [true,false] true [.sl true none 1 none (a0.map (rowI .i64)),.clo 57 [.iref 1 [[.sl false none 1 none (k1_0_0.map (rowI .i64))]] 0 0]] (.sl true none 1 none (r.map (rowI .i64))):=by
 refine qA (G:=(fZ N)) (L:=noL) Tryz.func38 rfl (by decide) (by kernel_rfl) (gc 10 (kK N) (gc 28 (ms N) gn)) (fun _ _ _ h=>by cases h) [] mix (Nat.le_of_ble_eq_true rfl) ?_;rw [show entryF [true,false] [.sl true none 1 none (a0.map (rowI .i64)),.clo 57 [.iref 1 [[.sl false none 1 none (k1_0_0.map (rowI .i64))]] 0 0]]=(updT (updT deadT 0 (.pal 0 [] 0 a0.length none)) 1 (.clo 57 [.iref 1 [[.sl false none 1 none (k1_0_0.map (rowI .i64))]] 0 0])) from by funext t; match t with|0=>simp [entryF,iW,viewD,updT]|1=>rfl|t+2=>rfl];rw [show R0 [true,false] [.sl true none 1 none (a0.map (rowI .i64)),.clo 57 [.iref 1 [[.sl false none 1 none (k1_0_0.map (rowI .i64))]] 0 0]]=upd RZ 0 (.sl true none 1 none (a0.map (rowI .i64))) from by funext t; match t with|0=>rfl|1=>rfl|t+2=>rfl];simp only [Tryz.f38];unfold a8 at h;refine Ws fun Z hZ=>?_;simp only [go_sem,seval];refine hZ _ (pp (Wk_seq ?_));obtain ⟨r1,hr1,h⟩:=Option.bind_eq_some_iff.1 h;refine ai fun Z hZ=>?_;simp only [go_sem,seval,hr1];refine hZ _ (pp (Wk_seq (Ws fun Z hZ=>?_)));simp only [go_sem,seval];refine hZ _ (pp (am rfl (fun hc2=>?_) (fun hc2=>?_)))
 ·have hc2d:=decide_eq_true hc2;rw [if_pos hc2] at h;refine Ws fun Z hZ=>?_;simp only [go_sem,seval,hc2d];refine hZ _ (pp (Wk_ret (pp ?_)));cases h;simp only [go_sem,seval,fJ];exact ⟨_,rfl,RokI.h,KeepI.h,PureI.h⟩
 have hc2d:=decide_eq_false hc2;rw [if_neg hc2] at h;refine ak (pp (Wk_seq (Ws fun Z hZ=>?_)));simp only [go_sem,seval,hc2d];refine hZ _ (pp (al (fV (fun (b:List Int × Int × Int)=>⟨tab 42 (updT (updT (updT (updT deadT 0 (.pal 0 [] 0 b.1.length none)) 1 (.clo 57 [.iref 1 [[.sl false none 1 none (k1_0_0.map (rowI .i64))]] 0 0])) 5 (.val (.int .i64 b.2.1))) 6 (.val (.int .i64 b.2.2))),(upd RZ 0 (.sl true none 1 none (b.1.map (rowI .i64))))⟩) (a0,r1,IntKind.i64.wrap (r1+1)) h ?_ ?_)))
 ·refine wr ?_ ?_<;>repeat' first|rfl|constructor|simp only [go_sem,seval,Bool.or_self,List.length_set,Int.natCast_zero,Int.cast_ofNat_Int,hr1,hc2d]
 rintro n ⟨l4,v5,v6⟩ h -;cases n with
 | zero=>simp [aW] at h
 | succ n=>
 simp only [aW] at h;refine Wk_seq (Ws fun Z hZ=>?_);simp only [go_sem,seval];refine hZ _ (pp (sw (am rfl) (fun hc3=>?_) (fun hc3=>?_)))
 ·have hc3d:=decide_eq_false hc3;rw [if_neg hc3] at h;refine aP (pp ?_);unfold dX at h;refine Wk_seq ?_;obtain ⟨hs12,h⟩:=gR h;try simp only [Int.toNat_natCast] at hs12 h
  refine ai fun Z hZ=>?_;simp only [go_sem,seval,hc3d,hs12,Nat.zero_le,uz (row:=(rowI .i64)) (z:=0) (rz:=[.val (.int .i64 0)]) (k:=(v5).toNat) (l:=l4) (by have:=hs12; omega) rfl,altX,clearX,dh,RowOk.allD (fy .i64)];refine hZ _ (pp (Wk_seq ?_));obtain ⟨hs13,h⟩:=gR h;try simp only [Int.toNat_zero] at hs13 h
  refine ai fun Z hZ=>?_;simp only [go_sem,seval,hs12,Nat.sub_zero,deepV,hs13];refine hZ _ (pp (Wk_ret (pp ?_)));cases h;simp only [go_sem,seval,fJ];exact ⟨_,rfl,RokI.h,KeepI.h,PureI.h⟩
 have hc3d:=decide_eq_true hc3;rw [if_pos hc3] at h;refine ak (pp (Wk_seq (al (Wk_seq ?_))));obtain ⟨x13,hb4,hx5,h⟩:=aI h;refine ai fun Z hZ=>?_;simp only [go_sem,seval,hb4,hx5];refine hZ _ (pp (Wk_seq ?_));obtain ⟨r14,hr6,h⟩:=Option.bind_eq_some_iff.1 h;refine ai fun Z hZ=>?_;simp only [go_sem,seval,hr6];refine hZ _ (pp (sw (bQ rfl) (fun hc7=>?_) (fun hc7=>?_)))
 ·rw [if_pos hc7] at h;refine ak (pp (ai fun Z hZ=>?_));simp only [go_sem,seval,hc7];refine hZ _ (pp (⟨_,Nat.lt_succ_self _,(l4,v5,IntKind.i64.wrap (v6+1)),?_,h⟩));refine wr ?_ ?_<;>repeat' first|rfl|constructor|simp only [go_sem,seval,Bool.or_self,List.length_set,Int.natCast_zero,Int.cast_ofNat_Int,hr1,hc2d,hc3d,hb4,hx5,hr6,hc7]
 rw [if_neg (ne_true_of_eq_false hc7)] at h;refine Wk_seq ?_;obtain ⟨x15,hb8,hx9,h⟩:=aI h;have hx11:=rO (y:=x13) hx9;refine ai fun Z hZ=>?_;simp only [go_sem,seval,hc7,hb8,hx9,mV (row:=(rowI .i64)) (y:=x13) (rx:=[.val (.int .i64 x15)]) (ry:=[.val (.int .i64 x13)]) hx9 rfl rfl];refine hZ _ (pp (ai fun Z hZ=>?_));simp only [go_sem,seval];refine hZ _ (pp (ai fun Z hZ=>?_));simp only [go_sem,seval];refine hZ _ (pp (⟨_,Nat.lt_succ_self _,((l4.set ((v5).toNat) x13),IntKind.i64.wrap (v5+1),IntKind.i64.wrap (v6+1)),?_,h⟩));refine wr ?_ ?_<;>repeat' first|rfl|constructor|simp only [go_sem,seval,List.length_set]
def aH (N:Nat):FnS:={ own:=[true,false],pure:=true,fn:=fun cs=>match cs with
 | [c0,.clo 57 [.iref 1 [[k1_0_0]] 0 0]]=>((decO 1 (dec1 (decI .i64))) c0).bind fun q0=>((decL 1 (dec1 (decI .i64))) k1_0_0).bind fun q1=>(a8 N q0 q1).map fun r=>.sl true none 1 none (r.map (rowI .i64))
 | _=>none }
theorem kd (N:Nat):(aH N).own=[true,false]:=rfl
theorem jR (N:Nat):(aH N).pure=true:=rfl
theorem jP (N:Nat):(aH N).peek=false:=rfl
attribute [go_sem] aH kd jR jP
theorem kf (N:Nat):FSOk Tryz.prog 38 (aH N):=by
 refine ⟨fun cs r h=>?_,fun h=>by cases h⟩;simp only [aH] at h;split at h
 ·simp only [Option.bind_eq_some_iff,Option.map_eq_some_iff] at h;obtain ⟨q0,h0,q1,h1,r',hr,rfl⟩:=h;exact (ly N q0 q1 r' hr).argsO rfl (oD (qE (fy .i64) (aJ .i64) h0) (qH (Le.clo (LeL.cons (Le.iref1 (LeL.cons (ar (aJ .i64) h1) (LeL.nil))) (LeL.nil))) (oB)))
 ·cases h


noncomputable def pf (N d f:Nat):Option FnS:=glist [(27,38,aH N)] d f
attribute [go_sem] pf
theorem tH (N:Nat) (a0:af) (a1:(List Int)) (r:af) (h:da N a0 a1=some r):ConL Tryz.prog 40 1 [.sl true none 6 (some 1) [af.rowD a0],.sl false none 1 none (a1.map (rowI .i64))] (.tup []) [.sl true none 6 (some 1) [af.rowD r]]:=by
 refine fM (G:=(pf N)) (L:=noL) Tryz.func40 rfl (by decide) (by kernel_rfl) 1 (by kernel_rfl) (gc 27 (kf N) gn) (fun _ _ _ h=>by cases h) [] mix (Nat.le_of_ble_eq_true rfl) (Nat.le_of_ble_eq_true rfl) rfl rfl ?_;simp only [Tryz.f40];unfold da at h;refine Ws fun Z hZ=>?_;simp (config := { maxSteps := 4000000 }) only [go_sem,seval];refine hZ _ (pp (Ws fun Z hZ=>?_));simp (config := { maxSteps := 4000000 }) only [go_sem,seval];refine hZ _ (pp (al (dt fun hreal2=>?_)));have hl1:=hreal2.cell 0 0 (by simp only [go_sem,seval]; rfl) rfl;first|rw [List.length_map] at hl1|rw [dy] at hl1|rw [<-List.map_append,List.length_map] at hl1
 refine yx (fun (v2:Nat) (b:List ag)=>⟨tab 31 (updT (updT (updT (updT deadT 0 (.pref 0 [] 0 0)) 3 (.pref 3 [] 0 0)) 9 (.val (.int .i64 ((a0.stacks.length:Nat):Int)))) 10 (.val (.int .i64 ((v2:Nat):Int)))),(upd (upd RZ 0 (.sl true none 6 (some 1) [[.sl true none 2 none (b.map ag.rowD),.sl true none 2 none (a0.prepared.map ae.row),.sl true none 1 none (a0.known.map (rowI .i64)),.sl true none 1 none (a0.committed.map (rowI .i64)),.sl true none 1 none (a0.aborted.map (rowI .i64)),.sl true none 2 none (a0.deps.map ae.row)]])) 3 (.sl true none 1 (some 1) [[.sl false none 1 none (a1.map (rowI .i64))]]))⟩) a0.stacks h ?_ ?_
 ·refine wr ?_ ?_<;>repeat' first|rfl|constructor|simp only [go_sem,seval,Bool.or_self,List.length_set,Int.natCast_zero,Int.cast_ofNat_Int]
 rintro v2 l1 _ h -;rcases (tu a0.stacks.length v2).symm with ⟨hi3',hd6⟩|⟨hi3',hd6⟩
 ·rw [hd6] at h;simp only [d6] at h;refine Ws fun Z hZ=>?_;simp (config := { maxSteps := 4000000 }) only [go_sem,seval,hi3'];refine hZ _ (pp (Wk_seq ?_));try simp only [Int.ofNat_lt,hi3',if_true,if_false] at h
  refine bc rfl (aP (pp ?_));obtain rfl:=Option.some.inj h;refine du (.inr rfl) (Weak.refl _) (by simp only [go_sem,seval]; rfl) (by simp only [go_sem,seval]; rfl) (by (try simp only [go_sem,seval]); first|exact Le.refl _|exact LeI.h) ?_;exact dA (by simp only [go_sem,seval]<;>rfl) (by simp only [go_sem,seval]<;>rfl) (el_nil)
 rw [hd6] at h;simp only [d6] at h;have hw5:=bu hi3' hl1;refine Ws fun Z hZ=>?_;simp (config := { maxSteps := 4000000 }) only [go_sem,seval,hi3'];refine hZ _ (pp (Wk_seq ?_));try simp only [Int.ofNat_lt,hi3',if_true,if_false] at h
 refine bm rfl (ak (pp (Wk_seq (al (Ws fun Z hZ=>?_)))));simp (config := { maxSteps := 4000000 }) only [go_sem,seval];refine hZ _ (pp ?_);obtain ⟨x1,hb7,hx8,h⟩:=aI h;try simp only [Int.toNat_natCast] at hx8
 try simp only [Int.ofNat_lt,Int.natCast_nonneg,true_and] at hb7
 refine dS [0,1,2,3,4,5,6,7,8,9,10,11,12,13] [14] [] [15,16,17] [0] (by kernel_rfl) fun Z hZ Y hY=>?_;simp (config := { maxSteps := 4000000 }) only [go_sem,seval,hb7,hx8];refine hY _ (by kernel_rfl) (aZ (by simp only [go_sem,seval,chkA,Option.isNone,Bool.and_true]; try rfl) fun Y hY=>?_);obtain ⟨r2,hr9,h⟩:=Option.bind_eq_some_iff.1 h;simp (config := { maxSteps := 4000000 }) only [go_sem,seval,hx8,jU (row:=ag.rowD) (rx:=[.val (.int .i64 x1.actor),.sl true none 1 none (x1.txns.map (rowI .i64))]) hx8 rfl rfl,hr9];refine hY _ (by kernel_rfl) (j5 ?_);simp (config := { maxSteps := 4000000 }) only [go_sem,seval,hb7,dj (row:=ag.rowD) _ hx8,ga (row:=ag.rowD) hx8 rfl];refine hZ _ (pp (ai fun Z hZ=>?_));simp (config := { maxSteps := 4000000 }) only [go_sem,seval,hw5];refine hZ _ (pp ?_);first|refine ⟨(l1.set v2 (ag.mk x1.actor r2)),?_,h⟩|refine ⟨hi3',(l1.set v2 (ag.mk x1.actor r2)),?_,h⟩
 refine Weak.trans (pM (n:=0) (c':=.sl true none 6 (some 1) [[.sl true none 2 none ((l1.set v2 (ag.mk x1.actor r2)).map ag.rowD),.sl true none 2 none (a0.prepared.map ae.row),.sl true none 1 none (a0.known.map (rowI .i64)),.sl true none 1 none (a0.committed.map (rowI .i64)),.sl true none 1 none (a0.aborted.map (rowI .i64)),.sl true none 2 none (a0.deps.map ae.row)]]) (by simp only [go_sem,seval]; rfl) (by first|(simp only [gt (row:=ag.rowD) (l:=l1) (i:=v2) (y:=(ag.mk x1.actor r2)) (rc:=[.val (.int .i64 x1.actor),.sl true none 1 none (r2.map (rowI .i64))]) rfl]; done)|(simp only [gt (row:=ag.rowD) (l:=l1) (i:=v2) (y:=(ag.mk x1.actor r2)) (rc:=[.val (.int .i64 x1.actor),.sl true none 1 none (r2.map (rowI .i64))]) rfl,List.map_append,List.map_cons,List.map_nil]<;>rfl)|(rw [<-gt (row:=ag.rowD) (l:=l1) (i:=v2) (y:=(ag.mk x1.actor r2)) (rc:=[.val (.int .i64 x1.actor),.sl true none 1 none (r2.map (rowI .i64))]) rfl]; simp only [List.map_append,List.map_cons,List.map_nil]<;>rfl))) ?_
 refine wr ?_ ?_<;>repeat' first|rfl|constructor|simp only [go_sem,seval,Bool.or_self,List.length_set,Int.natCast_zero,Int.cast_ofNat_Int,hi3',hw5,hb7,hx8,jU (row:=ag.rowD) (rx:=[.val (.int .i64 x1.actor),.sl true none 1 none (x1.txns.map (rowI .i64))]) hx8 rfl rfl,dj (row:=ag.rowD) _ hx8,ga (row:=ag.rowD) hx8 rfl,hr9]
def dZ (N:Nat):FnL:=⟨1,fun cs rest=>match cs,rest with
 | [v0],[c1]=>(varE 6 af.decE v0).bind fun q0=>((decL 1 (dec1 (decI .i64))) c1).bind fun q1=>(da N q0 q1).map fun r=>(.tup [],[.sl true none 6 (some 1) [af.rowD r]])
 | _,_=>none,true⟩
attribute [go_sem] dZ
theorem gF (N:Nat):FLOk Tryz.prog 40 (dZ N):=by
 refine flOkP (Nat.succ_ne_zero _) ?_;intro cs rest r ls hlen h;simp only [dZ] at h;split at h
 ·simp only [Option.bind_eq_some_iff,Option.map_eq_some_iff] at h;obtain ⟨q0,h0,q1,h1,r',hr,he⟩:=h;cases he;obtain rfl:=oR af.decE_eq h0;exact ⟨ConL.restLe rfl ((LeL.cons (ar (aJ .i64) h1) (LeL.nil))) (tH N q0 q1 r' hr),rfl,PureIL.h⟩
 ·cases h


noncomputable def pD (N d f:Nat):Option FnS:=glist [(11,27,aQ N),(74,8,ll N),(77,38,aF N)] d f
attribute [go_sem] pD
noncomputable def pC (N d f:Nat):Option FnL:=llist [(30,76,jX N),(64,40,dZ N),(89,40,dZ N)] d f
attribute [go_sem] pC
theorem tL (N:Nat) (a0:af) (a1:ah) (r:af) (h:dQ N a0 a1=some r):ConL Tryz.prog 53 1 [.sl true none 6 (some 1) [af.rowD a0],.agg (ah.row a1)] (.tup []) [.sl true none 6 (some 1) [af.rowD r]]:=by
 refine fM (G:=(pD N)) (L:=(pC N)) Tryz.func53 rfl (by decide) (by kernel_rfl) 1 (by kernel_rfl) (gc 11 (aS N) (gc 74 (po N) (gc 77 (fL N) gn))) (lc 30 (sp N) (lc 64 (gF N) (lc 89 (gF N) ln))) [] mix (Nat.le_of_ble_eq_true rfl) (Nat.le_of_ble_eq_true rfl) rfl rfl ?_;simp only [Tryz.f53];unfold dQ at h;refine Ws fun Z hZ=>?_;simp only [go_sem,seval];refine hZ _ (pp ?_);apply bS (fun (l3:List Int)=>⟨tab 90 (updT (updT deadT 0 (.pref 0 [] 0 0)) 3 (.pref 3 [] 0 0)),(upd (upd RZ 0 (.sl true none 6 (some 1) [[.sl true none 2 none (a0.stacks.map ag.rowD),.sl true none 2 none (a0.prepared.map ae.row),.sl true none 1 none (l3.map (rowI .i64)),.sl true none 1 none (a0.committed.map (rowI .i64)),.sl true none 1 none (a0.aborted.map (rowI .i64)),.sl true none 2 none (a0.deps.map ae.row)]])) 3 (.sl true none 3 (some 1) [ah.row a1]))⟩)
 ·intro hJ1;refine Wk_seq ?_;obtain ⟨r4,hr2,h⟩:=Option.bind_eq_some_iff.1 h;refine bU fun Z hZ=>?_;simp only [go_sem,seval,hr2];repeat with_reducible refine dN (by kernel_rfl) ?_
  refine hZ _ (by kernel_rfl) (pp (sw (bQ rfl) (fun hc3=>?_) (fun hc3=>?_)))
  ·rw [if_pos hc3] at h;refine ak (pp (hJ1 _ a0.known ?_ h));refine wr ?_ ?_<;>repeat' first|rfl|constructor|simp only [go_sem,seval,Bool.or_self,List.length_set,Int.natCast_zero,Int.cast_ofNat_Int,hr2,hc3]
  rw [if_neg (ne_true_of_eq_false hc3)] at h;refine dS [0,1,2,3,4,5,6] [7] [] [8,9,10,11] [] (by kernel_rfl) fun Z hZ Y hY=>?_;simp only [go_sem,seval,hc3];refine hY _ (by kernel_rfl) (aZ (by kernel_rfl) fun Y hY=>?_);simp only [go_sem,seval];refine hY _ (by kernel_rfl) (j5 ?_);obtain ⟨ha4,h⟩:=bk h;simp only [List.length_cons,List.length_nil,Nat.zero_add,Nat.reduceAdd] at ha4;simp only [go_sem,seval,ha4];refine hZ _ (pp (hJ1 _ (a0.known++[a1.Txn]) ?_ h));refine wr ?_ ?_<;>repeat' first|rfl|constructor|simp only [go_sem,seval]
 intro l3 h;unfold gB at h;refine Ws fun Z hZ=>?_;simp only [go_sem,seval];refine hZ _ (pp (al (Ws fun Z hZ=>?_)));simp only [go_sem,seval];refine hZ _ (pp (am rfl (fun hc5=>?_) (fun hc5=>?_)))
 ·have hc5d:=decide_eq_true hc5;rw [if_pos hc5] at h;obtain ⟨r5,hr6,h⟩:=Option.bind_eq_some_iff.1 h;refine ai fun Z hZ=>?_;simp only [go_sem,seval,hc5d,hr6];refine hZ _ (pp ?_);obtain rfl:=Option.some.inj h;refine du (.inr rfl) (Weak.refl _) (by simp only [go_sem,seval]; rfl) (by simp only [go_sem,seval]; rfl) (by (try simp only [go_sem,seval]); first|exact Le.refl _|exact LeI.h) ?_;exact dA (by simp only [go_sem,seval]<;>rfl) (by simp only [go_sem,seval]<;>rfl) (el_nil)
 have hc5d:=decide_eq_false hc5;rw [if_neg hc5] at h;refine Ws fun Z hZ=>?_;simp only [go_sem,seval,hc5d];refine hZ _ (pp (am rfl (fun hc7=>?_) (fun hc7=>?_)))
 ·have hc7d:=decide_eq_true hc7;rw [if_pos hc7] at h;refine dS [0,1,2,3,4,5,6,7,8] [9,10] [] [11,12,13,14] [0] (by kernel_rfl) fun Z hZ Y hY=>?_;simp only [go_sem,seval,hc7d];refine hY _ (by kernel_rfl) (aZ (by kernel_rfl) fun Y hY=>?_);simp only [go_sem,seval];refine hY _ (by kernel_rfl) (aZ (by kernel_rfl) fun Y hY=>?_);simp only [go_sem,seval];refine hY _ (by kernel_rfl) (j5 ?_);obtain ⟨ha8,h⟩:=bk h;simp only [List.length_cons,List.length_nil,Nat.zero_add,Nat.reduceAdd] at ha8;simp only [go_sem,seval,ha8];refine hZ _ (pp ?_);obtain rfl:=Option.some.inj h;refine du (.inr rfl) (Weak.refl _) (by simp only [go_sem,seval]; rfl) (by simp only [go_sem,seval]; rfl) (by (try simp only [go_sem,seval]); first|exact Le.refl _|exact LeI.h) ?_;exact dA (by simp only [go_sem,seval,Bool.or_self]<;>rfl) (by simp only [go_sem,seval]<;>rfl) (el_nil)
 have hc7d:=decide_eq_false hc7;rw [if_neg hc7] at h;refine Ws fun Z hZ=>?_;simp only [go_sem,seval,hc7d];refine hZ _ (pp (am rfl (fun hc9=>?_) (fun hc9=>?_)))
 ·have hc9d:=decide_eq_true hc9;rw [if_pos hc9] at h;refine Wk_seq (dS [0,1,2,3,4,5,6] [7] [] [8,9,10,11] [] (by kernel_rfl) fun Z hZ Y hY=>?_);simp only [go_sem,seval,hc9d];refine hY _ (by kernel_rfl) (aZ (by kernel_rfl) fun Y hY=>?_);simp only [go_sem,seval];refine hY _ (by kernel_rfl) (j5 ?_);obtain ⟨ha10,h⟩:=bk h;simp only [List.length_cons,List.length_nil,Nat.zero_add,Nat.reduceAdd] at ha10;simp only [go_sem,seval,ha10];refine hZ _ (pp ?_);obtain ⟨r6,hr11,h⟩:=Option.bind_eq_some_iff.1 h;refine ai fun Z hZ=>?_;simp only [go_sem,seval,hr11];refine hZ _ (pp ?_);obtain rfl:=Option.some.inj h;refine du (.inr rfl) (Weak.refl _) (by simp only [go_sem,seval]; rfl) (by simp only [go_sem,seval]; rfl) (by (try simp only [go_sem,seval]); first|exact Le.refl _|exact LeI.h) ?_;exact dA (by simp only [go_sem,seval,Bool.or_self]<;>rfl) (by simp only [go_sem,seval]<;>rfl) (el_nil)
 have hc9d:=decide_eq_false hc9;rw [if_neg hc9] at h;refine Ws fun Z hZ=>?_;simp only [go_sem,seval,hc9d];refine hZ _ (pp (sw (am rfl) (fun hc12=>?_) (fun hc12=>?_)))
 ·have hc12d:=decide_eq_false hc12;rw [if_neg hc12] at h;refine ak (pp ?_);obtain rfl:=Option.some.inj h;refine du (.inr rfl) (Weak.refl _) (by simp only [go_sem,seval,hc12d]; rfl) (by simp only [go_sem,seval]; rfl) (by (try simp only [go_sem,seval]); first|exact Le.refl _|exact LeI.h) ?_;exact dA (by simp only [go_sem,seval,hc12d]<;>rfl) (by simp only [go_sem,seval]<;>rfl) (el_nil)
 have hc12d:=decide_eq_true hc12;rw [if_pos hc12] at h;refine Wk_seq (dS [0,1,2,3,4,5,8,9] [6] [] [7,10,11] [] (by kernel_rfl) fun Z hZ Y hY=>?_);simp only [go_sem,seval,hc12d];refine hY _ (by kernel_rfl) (aZ (by kernel_rfl) fun Y hY=>?_);simp only [go_sem,seval];refine hY _ (by kernel_rfl) (j5 ?_);obtain ⟨r7,hr13,h⟩:=Option.bind_eq_some_iff.1 h;obtain ⟨r8,hr14,h⟩:=Option.bind_eq_some_iff.1 h;simp only [go_sem,seval,hr13,hr14];refine hZ _ (pp (Wk_seq ?_));obtain ⟨ha15,h⟩:=bk h;simp only [Nat.reduceAdd] at ha15;refine ai fun Z hZ=>?_;simp only [go_sem,seval,ha15];refine hZ _ (pp ?_);obtain ⟨r9,hr16,h⟩:=Option.bind_eq_some_iff.1 h;refine ai fun Z hZ=>?_;simp only [go_sem,seval,hr16];refine hZ _ (pp ?_);obtain rfl:=Option.some.inj h;refine du (.inr rfl) (Weak.refl _) (by simp only [go_sem,seval]; rfl) (by simp only [go_sem,seval]; rfl) (by (try simp only [go_sem,seval]); first|exact Le.refl _|exact LeI.h) ?_;exact dA (by simp only [go_sem,seval,Bool.or_self]<;>rfl) (by simp only [go_sem,seval]<;>rfl) (el_nil)
def jF (N:Nat):FnL:=⟨1,fun cs rest=>match cs,rest with
 | [v0],[c1]=>(varE 6 af.decE v0).bind fun q0=>(ah.decA c1).bind fun q1=>(dQ N q0 q1).map fun r=>(.tup [],[.sl true none 6 (some 1) [af.rowD r]])
 | _,_=>none,true⟩
attribute [go_sem] jF
theorem rI (N:Nat):FLOk Tryz.prog 53 (jF N):=by
 refine flOkP (Nat.succ_ne_zero _) ?_;intro cs rest r ls hlen h;simp only [jF] at h;split at h
 ·simp only [Option.bind_eq_some_iff,Option.map_eq_some_iff] at h;obtain ⟨q0,h0,q1,h1,r',hr,he⟩:=h;cases he;obtain rfl:=oR af.decE_eq h0;exact ⟨ConL.restLe rfl ((LeL.cons (ah.decA_le h1) (LeL.nil))) (tL N q0 q1 r' hr),rfl,PureIL.h⟩
 ·cases h


noncomputable def vr (N d f:Nat):Option FnS:=glist [(18,52,kZ N)] d f
attribute [go_sem] vr
noncomputable def vj (N d f:Nat):Option FnL:=llist [(24,53,jF N)] d f
attribute [go_sem] vj
theorem AB (N:Nat) (a0:(List ah)) (r:af × Int) (h:dD N a0=some r):ConP Tryz.prog 30 [.sl false none 3 none (a0.map ah.row)] (.tup [.pref 0 [] 0 0,.val (.int .i64 r.2)]) (.sl true none 6 (some 1) [af.rowD r.1]):=by
 refine Bx (G:=(vr N)) (L:=(vj N)) Tryz.func30 rfl (by decide) (by kernel_rfl) (gc 18 (qT N) gn) (lc 24 (rI N) ln) [] mix (Nat.le_of_ble_eq_true rfl) ?_;simp only [Tryz.f30];unfold dD at h;refine Ws fun Z hZ=>?_;simp (config := { maxSteps := 4000000 }) only [go_sem,seval];refine hZ _ (pp (Ws fun Z hZ=>?_));simp (config := { maxSteps := 4000000 }) only [go_sem,seval];refine hZ _ (pp (gp (fI 8 [(0,0)] 2 (by simp only [go_sem,seval]) (by simp only [go_sem,seval]; try rfl)) (gp (fI 8 [(0,1)] 2 (by simp only [go_sem,seval]) (by simp only [go_sem,seval]; try rfl)) (gp (fI 8 [(0,2)] 1 (by simp only [go_sem,seval]) (by simp only [go_sem,seval]; try rfl)) (gp (fI 8 [(0,3)] 1 (by simp only [go_sem,seval]) (by simp only [go_sem,seval]; try rfl)) (gp (fI 8 [(0,4)] 1 (by simp only [go_sem,seval]) (by simp only [go_sem,seval]; try rfl)) (gp (fI 8 [(0,5)] 2 (by simp only [go_sem,seval]) (by simp only [go_sem,seval]; try rfl)) (Wk_seq (Ws fun Z hZ=>?_)))))))));simp (config := { maxSteps := 4000000 }) only [go_sem,seval];refine hZ _ (pp (al (dt fun hreal2=>?_)));have hl1:=hreal2.lenT 0 (by decide) (by simp only [go_sem,seval]; rfl);first|rw [List.length_map] at hl1|rw [dy] at hl1|rw [<-List.map_append,List.length_map] at hl1
 refine dg (fun (v8:Nat) (b:List ag × List ae × List Int × List Int × List Int × List ae)=>⟨tab 27 (updT (updT (updT (updT deadT 4 (.pref 8 [] 0 0)) 9 (.sl false none 3 none (a0.map ah.row))) 10 (.val (.int .i64 ((a0.length:Nat):Int)))) 11 (.val (.int .i64 ((v8:Nat):Int)))),(upd RZ 8 (.sl true none 6 (some 1) [[.sl true none 2 none (b.1.map ag.rowD),.sl true none 2 none (b.2.1.map ae.row),.sl true none 1 none (b.2.2.1.map (rowI .i64)),.sl true none 1 none (b.2.2.2.1.map (rowI .i64)),.sl true none 1 none (b.2.2.2.2.1.map (rowI .i64)),.sl true none 2 none (b.2.2.2.2.2.map ae.row)]]))⟩) ([],[],[],[],[],[]) h ?_ ?_
 ·refine wr ?_ ?_<;>repeat' first|rfl|constructor|simp only [go_sem,seval,Bool.or_self,List.length_set,Int.natCast_zero,Int.cast_ofNat_Int]
 rintro v8 ⟨l2,l3,l4,l5,l6,l7⟩ hi3 h -;rcases (bq a0 v8 hi3).symm with ⟨hi3',_,hd6⟩|⟨x11,hi3',hx4,hd6⟩
 ·rw [hd6] at h;simp only [d9] at h;refine Ws fun Z hZ=>?_;simp (config := { maxSteps := 4000000 }) only [go_sem,seval,hi3'];refine hZ _ (pp (Wk_seq ?_));try simp only [Int.ofNat_lt,hi3',if_true,if_false] at h
  refine bc rfl (aP (pp (Ws fun Z hZ=>?_)));simp (config := { maxSteps := 4000000 }) only [go_sem,seval];refine hZ _ (pp (Wk_ret (pp ?_)));obtain rfl:=Option.some.inj h;exact wI (.inl rfl) (Weak.refl _) 8 (by simp only [go_sem,seval]<;>rfl) (by simp only [go_sem,seval]<;>rfl) (by simp only [go_sem,seval]<;>rfl)
 rw [hd6] at h;simp only [d9] at h;have hw5:=bu hi3' hl1;refine Ws fun Z hZ=>?_;simp (config := { maxSteps := 4000000 }) only [go_sem,seval,hi3'];refine hZ _ (pp (Wk_seq ?_));try simp only [Int.ofNat_lt,hi3',if_true,if_false] at h
 refine bm rfl (ak (pp (Wk_seq (al (Wk_seq ?_)))));try rw [gx_nat hx4] at h
 refine ai fun Z hZ=>?_;simp (config := { maxSteps := 4000000 }) only [go_sem,seval,hx4,hi3'];refine hZ _ (pp (Wk_seq (Wk_seq ?_)));obtain ⟨r1,hr7,h⟩:=Option.bind_eq_some_iff.1 h;refine ai fun Z hZ=>?_;simp (config := { maxSteps := 4000000 }) only [go_sem,seval,hr7];refine hZ _ (pp (bQ rfl (fun hc8=>?_) (fun hc8=>?_)))
 ·first|rw [if_neg (ne_true_of_eq_false hc8)] at h|simp only [hc8,Bool.or_false,Bool.or_true,Bool.false_or,Bool.true_or,Bool.and_true,Bool.true_and,Bool.and_false,Bool.false_and,Bool.not_true,Bool.not_false,Bool.false_eq_true,if_true,if_false] at h
  refine Ws fun Z hZ=>?_;simp (config := { maxSteps := 4000000 }) only [go_sem,seval,hc8];refine hZ _ (pp (Wk_ret (pp ?_)));obtain rfl:=Option.some.inj h;exact wI (.inl rfl) (Weak.refl _) 8 (by simp only [go_sem,seval]<;>rfl) (by simp only [go_sem,seval]<;>rfl) (by simp only [go_sem,seval]<;>rfl)
 first|rw [if_pos hc8] at h|simp only [hc8,Bool.or_false,Bool.or_true,Bool.false_or,Bool.true_or,Bool.and_true,Bool.true_and,Bool.and_false,Bool.false_and,Bool.not_true,Bool.not_false,Bool.false_eq_true,if_true,if_false] at h
 refine ak (pp ?_);obtain ⟨r2,hr9,h⟩:=Option.bind_eq_some_iff.1 h;refine ai fun Z hZ=>?_;simp (config := { maxSteps := 4000000 }) only [go_sem,seval,hc8,hr9];refine hZ _ (pp (ai fun Z hZ=>?_));simp (config := { maxSteps := 4000000 }) only [go_sem,seval,hw5];refine hZ _ (pp ?_);first|refine ⟨(r2.stacks,r2.prepared,r2.known,r2.committed,r2.aborted,r2.deps),?_,h⟩|refine ⟨hi3',(r2.stacks,r2.prepared,r2.known,r2.committed,r2.aborted,r2.deps),?_,h⟩
 refine wr ?_ ?_<;>repeat' first|rfl|constructor|simp only [go_sem,seval,Bool.or_self,List.length_set,Int.natCast_zero,Int.cast_ofNat_Int,hx4,hi3',hw5,hr7,hc8,hr9]
def fX (N:Nat):FnL:=⟨0,fun cs rest=>match cs,rest with
 | [],[c0] =>  ((decL 3 ah.dec) c0).bind fun q0=>(dD N q0).map fun r=>(.tup [.pref 0 [] 0 0,.val (.int .i64 r.2)],[.sl true none 6 (some 1) [af.rowD r.1]])
 | _,_=>none,false⟩
attribute [go_sem] fX
theorem i4 (N:Nat):FLOk Tryz.prog 30 (fX N):=by
 refine flOkN rfl ?_;intro rest r c h;simp only [fX] at h;split at h
 ·simp only [Option.bind_eq_some_iff,Option.map_eq_some_iff] at h;obtain ⟨q0,h0,r',hr,he⟩:=h;cases he;exact ConP.le ((LeL.cons (ar ah.dec_le h0) (LeL.nil))) (AB N q0 r' hr)
 ·cases h


noncomputable def rB (N d f:Nat):Option FnS:=glist [(8,55,jw N),(10,55,jw N)] d f
attribute [go_sem] rB
theorem wP (N:Nat) (a0:Int) (a1:Int) (r:Int) (h:iL N a0 a1=some r):Con Tryz.prog 34 [] true [.val (.int .i64 a0),.val (.int .i64 a1)] (.val (.int .i64 r)):=by
 refine aV (G:=(rB N)) Tryz.func34 rfl (by decide) (by kernel_rfl) (gc 8 (li N) (gc 10 (li N) gn)) [] mix (Nat.le_of_ble_eq_true rfl) ?_;simp only [Tryz.f34];unfold iL at h;refine Ws fun Z hZ=>?_;simp only [go_sem,seval];refine hZ _ (pp (Wk_seq ?_));obtain ⟨r1,hr1,h⟩:=Option.bind_eq_some_iff.1 h;refine ai fun Z hZ=>?_;simp only [go_sem,seval,hr1];refine hZ _ (pp (Wk_seq ?_));obtain ⟨r2,hr2,h⟩:=Option.bind_eq_some_iff.1 h;refine ai fun Z hZ=>?_;simp only [go_sem,seval,hr2];refine hZ _ (pp (Wk_seq (Ws fun Z hZ=>?_)));simp only [go_sem,seval];refine hZ _ (pp (au rfl (fun hc3=>?_) (fun hc3=>?_)))
 ·rw [if_pos hc3] at h;refine Wk_seq (Ws fun Z hZ=>?_);simp only [go_sem,seval,hc3];refine hZ _ (pp (au rfl (fun hc4=>?_) (fun hc4=>?_)))
  ·rw [if_pos hc4] at h;refine Ws fun Z hZ=>?_;simp only [go_sem,seval,hc4];refine hZ _ (pp (Wk_ret (pp ?_)));cases h;simp only [go_sem,seval];exact ⟨_,rfl,RokI.h,PureI.h⟩
  rw [if_neg (ne_true_of_eq_false hc4)] at h;refine ak (pp (Ws fun Z hZ=>?_));simp only [go_sem,seval,hc4];refine hZ _ (pp (Wk_ret (pp ?_)));cases h;simp only [go_sem,seval];exact ⟨_,rfl,RokI.h,PureI.h⟩
 rw [if_neg (ne_true_of_eq_false hc3)] at h;refine ak (pp (Wk_seq (Ws fun Z hZ=>?_)));simp only [go_sem,seval,hc3];refine hZ _ (pp (au rfl (fun hc5=>?_) (fun hc5=>?_)))
 ·rw [if_pos hc5] at h;refine Ws fun Z hZ=>?_;simp only [go_sem,seval,hc5];refine hZ _ (pp (Wk_ret (pp ?_)));cases h;simp only [go_sem,seval];exact ⟨_,rfl,RokI.h,PureI.h⟩
 rw [if_neg (ne_true_of_eq_false hc5)] at h;refine ak (pp (Wk_seq (Ws fun Z hZ=>?_)));simp only [go_sem,seval,hc5];refine hZ _ (pp (am rfl (fun hc6=>?_) (fun hc6=>?_)))
 ·have hc6d:=decide_eq_true hc6;rw [if_pos hc6] at h;refine Ws fun Z hZ=>?_;simp only [go_sem,seval,hc6d];refine hZ _ (pp (Wk_ret (pp ?_)));cases h;simp only [go_sem,seval];exact ⟨_,rfl,RokI.h,PureI.h⟩
 have hc6d:=decide_eq_false hc6;rw [if_neg hc6] at h;refine ak (pp (Wk_seq (Ws fun Z hZ=>?_)));simp only [go_sem,seval,hc6d];refine hZ _ (pp (am rfl (fun hc7=>?_) (fun hc7=>?_)))
 ·have hc7d:=decide_eq_true hc7;rw [if_pos hc7] at h;refine Ws fun Z hZ=>?_;simp only [go_sem,seval,hc7d];refine hZ _ (pp (Wk_ret (pp ?_)));cases h;simp only [go_sem,seval];exact ⟨_,rfl,RokI.h,PureI.h⟩
 have hc7d:=decide_eq_false hc7;rw [if_neg hc7] at h;refine ak (pp (Ws fun Z hZ=>?_));simp only [go_sem,seval,hc7d];refine hZ _ (pp (Wk_ret (pp ?_)));cases h;simp only [go_sem,seval];exact ⟨_,rfl,RokI.h,PureI.h⟩
def lR (N:Nat):FnS:=⟨[],true,fn2 (decI .i64) (decI .i64) fun q0 q1=>(iL N q0 q1).map fun r=>.val (.int .i64 r),false⟩
attribute [go_sem] lR
theorem pJ (N:Nat):FSOk Tryz.prog 34 (lR N):=ok2 (fun q0 q1 r h=>by
 obtain ⟨r',hr,rfl⟩:=Option.map_eq_some_iff.1 h;exact wP N q0 q1 r' hr) (ay) (ay)


theorem BF (N:Nat) (a0:(List Int)) (r:Int) (h:qg N a0=some r):Con Tryz.prog 33 [] true [.sl false none 1 none (a0.map (rowI .i64))] (.val (.int .i64 r)):=by
 refine aV (G:=(glist [])) Tryz.func33 rfl (by decide) (by kernel_rfl) gn [] mix (Nat.le_of_ble_eq_true rfl) ?_;simp only [Tryz.f33];unfold qg at h;refine Ws fun Z hZ=>?_;simp only [go_sem,seval];refine hZ _ (pp (Ws fun Z hZ=>?_));simp only [go_sem,seval];refine hZ _ (pp (Wk_seq (Ws fun Z hZ=>?_)));simp only [go_sem,seval];refine hZ _ (pp (al (dt fun hreal2=>?_)));have hl1:=hreal2.lenT 0 (by decide) (by simp only [go_sem,seval]; rfl);first|rw [List.length_map] at hl1|rw [dy] at hl1|rw [<-List.map_append,List.length_map] at hl1
 refine dg (fun (v2:Nat) (b:Unit)=>⟨tab 18 (updT (updT (updT (updT deadT 3 (.val (.int .i64 0))) 6 (.sl false none 1 none (a0.map (rowI .i64)))) 7 (.val (.int .i64 ((a0.length:Nat):Int)))) 8 (.val (.int .i64 ((v2:Nat):Int)))),RZ⟩) () h ?_ ?_
 ·refine wr ?_ ?_<;>repeat' first|rfl|constructor
 rintro v2 ⟨⟩ hi3 h -;rcases (bq a0 v2 hi3).symm with ⟨hi3',_,hd6⟩|⟨x5,hi3',hx4,hd6⟩
 ·rw [hd6] at h;simp only [mP] at h;refine Ws fun Z hZ=>?_;simp only [go_sem,seval,hi3'];refine hZ _ (pp (Wk_seq ?_));try simp only [Int.ofNat_lt,hi3',if_true,if_false] at h
  refine bc rfl (aP (pp (Ws fun Z hZ=>?_)));simp only [go_sem,seval];refine hZ _ (pp (Wk_ret (pp ?_)));cases h;simp only [go_sem,seval];exact ⟨_,rfl,RokI.h,PureI.h⟩
 rw [hd6] at h;simp only [mP] at h;have hw5:=bu hi3' hl1;refine Ws fun Z hZ=>?_;simp only [go_sem,seval,hi3'];refine hZ _ (pp (Wk_seq ?_));try simp only [Int.ofNat_lt,hi3',if_true,if_false] at h
 refine bm rfl (ak (pp (Wk_seq (al (Wk_seq ?_)))));try rw [gx_nat hx4] at h
 refine ai fun Z hZ=>?_;simp only [go_sem,seval,hx4,hi3'];refine hZ _ (pp (Ws fun Z hZ=>?_));simp only [go_sem,seval];refine hZ _ (pp (oq rfl (fun hc7=>?_) (fun hc7=>?_)))
 ·have hc7d:=decide_eq_false hc7;rw [if_neg hc7] at h;refine Ws fun Z hZ=>?_;simp only [go_sem,seval,hc7d];refine hZ _ (pp (Wk_ret (pp ?_)));cases h;simp only [go_sem,seval];exact ⟨_,rfl,RokI.h,PureI.h⟩
 have hc7d:=decide_eq_true hc7;rw [if_pos hc7] at h;refine ak (pp (ai fun Z hZ=>?_));simp only [go_sem,seval,hw5,hc7d];refine hZ _ (pp ?_);first|refine ⟨(),?_,h⟩|refine ⟨hi3',(),?_,h⟩
 refine wr ?_ ?_<;>repeat' first|rfl|constructor
def rf (N:Nat):FnS:=⟨[],true,fn1 (decL 1 (dec1 (decI .i64))) fun q0=>(qg N q0).map fun r=>.val (.int .i64 r),false⟩
attribute [go_sem] rf
theorem yh (N:Nat):FSOk Tryz.prog 33 (rf N):=ok1 (fun q0 r h=>by
 obtain ⟨r',hr,rfl⟩:=Option.map_eq_some_iff.1 h;exact BF N q0 r' hr) (fun h=>ar (aJ .i64) h)


noncomputable def od (N d f:Nat):Option FnS:=glist [(9,34,lR N),(14,34,lR N),(16,33,rf N)] d f
attribute [go_sem] od
theorem oo (N:Nat) (a0:ae) (a1:ae) (r:Int) (h:dK N a0 a1=some r):Con Tryz.prog 32 [] true [.agg [.val (.int .i64 a0.e0),.val (.int .i64 a0.e1)],.agg [.val (.int .i64 a1.e0),.val (.int .i64 a1.e1)]] (.val (.int .i64 r)):=by
 refine aV (G:=(od N)) Tryz.func32 rfl (by decide) (by kernel_rfl) (gc 9 (pJ N) (gc 14 (pJ N) (gc 16 (yh N) gn))) [] mix (Nat.le_of_ble_eq_true rfl) ?_;simp only [Tryz.f32];unfold dK at h;refine Ws fun Z hZ=>?_;simp only [go_sem,seval];refine hZ _ (pp (Wk_seq ?_));obtain ⟨r1,hr1,h⟩:=Option.bind_eq_some_iff.1 h;obtain ⟨r2,hr2,h⟩:=Option.bind_eq_some_iff.1 h;obtain ⟨r3,hr3,h⟩:=Option.bind_eq_some_iff.1 h;refine bU fun Z hZ=>?_;simp only [go_sem,seval,hr1,hr2,hr3];repeat with_reducible refine dN (by kernel_rfl) ?_
 refine hZ _ (by kernel_rfl) (pp (Wk_ret (pp ?_)));cases h;simp only [go_sem,seval];exact ⟨_,rfl,RokI.h,PureI.h⟩
def kA (N:Nat):FnS:=⟨[],true,fn2 ae.decA ae.decA fun q0 q1=>(dK N q0 q1).map fun r=>.val (.int .i64 r),false⟩
attribute [go_sem] kA
theorem qJ (N:Nat):FSOk Tryz.prog 32 (kA N):=ok2 (fun q0 q1 r h=>by
 obtain ⟨r',hr,rfl⟩:=Option.map_eq_some_iff.1 h;exact oo N q0 q1 r' hr) (ae.decA_le) (ae.decA_le)


noncomputable def d7 (N d f:Nat):Option FnS:=glist [(32,32,kA N)] d f
attribute [go_sem] d7
theorem dU (N:Nat) (a0:(List ae)) (a1:Int) (a2:Int) (r:(List ae)) (h:aw N a0 a1 a2=some r):(r).length=a0.length:=by
 unfold aw at h; exact (i9 h).2
theorem iH (N:Nat) (a0:(List ae)) (a1:Int) (a2:Int) (r:(List ae)) (h:aw N a0 a1 a2=some r):ConL Tryz.prog 77 1 [.sl true none 2 none (a0.map ae.row),.val (.int .i64 a1),.val (.int .i64 a2),.clo 32 []] (.tup []) [.sl true none 2 none (r.map ae.row)]:=by
 unfold aw at h;obtain ⟨h,hlen⟩:=i9 h;refine fM (G:=(d7 N)) (L:=noL) Tryz.func77 rfl (by decide) (by kernel_rfl) 1 (by kernel_rfl) (gc 32 (qJ N) gn) (fun _ _ _ h=>by cases h) [] mix (Nat.le_of_ble_eq_true rfl) (Nat.le_of_ble_eq_true rfl) rfl (by simp [lentSh,hlen]) ?_;simp only [Tryz.f77];refine Ws fun Z hZ=>?_;simp only [go_sem,seval];refine hZ _ (pp (al (fV (fun (b:Int)=>⟨tab 53 (updT (updT (updT (updT (updT deadT 0 (.pal 0 [] 0 a0.length none)) 1 (.val (.int .i64 a1))) 2 (.val (.int .i64 a2))) 3 (.clo 32 [])) 8 (.val (.int .i64 b))),(upd RZ 0 (.sl true none 2 none (a0.map ae.row)))⟩) (IntKind.i64.wrap (a1+1)) h ?_ ?_)))
 ·refine wr ?_ ?_<;>repeat' first|rfl|constructor
 rintro n v1 h -;cases n with
 | zero=>simp [aK] at h
 | succ n=>
 simp only [aK] at h;refine Wk_seq (Ws fun Z hZ=>?_);simp only [go_sem,seval];refine hZ _ (pp (sw (am rfl) (fun hc1=>?_) (fun hc1=>?_)))
 ·have hc1d:=decide_eq_false hc1;rw [if_neg hc1] at h;refine aP (pp ?_);obtain rfl:=Option.some.inj h;refine du (.inr rfl) (Weak.refl _) (by simp only [go_sem,seval,hc1d]; rfl) (by simp only [go_sem,seval]; rfl) (by (try simp only [go_sem,seval]); first|exact Le.refl _|exact LeI.h) ?_;exact dA (by simp only [go_sem,seval,hc1d]<;>rfl) (by simp only [go_sem,seval]<;>rfl) (el_nil)
 have hc1d:=decide_eq_true hc1;rw [if_pos hc1] at h;refine ak (pp (Wk_seq (al (Ws fun Z hZ=>?_))));simp only [go_sem,seval,hc1d];refine hZ _ (pp (al (fV (fun (b:Unit)=>⟨tab 53 (updT (updT (updT (updT (updT (updT deadT 0 (.pal 0 [] 0 a0.length none)) 1 (.val (.int .i64 a1))) 2 (.val (.int .i64 a2))) 3 (.clo 32 [])) 8 (.val (.int .i64 v1))) 9 (.val (.int .i64 v1))),(upd RZ 0 (.sl true none 2 none (a0.map ae.row)))⟩) () h ?_ ?_)))
 ·refine wr ?_ ?_<;>repeat' first|rfl|constructor
 rintro n ⟨⟩ h -;cases n with
 | zero=>simp [bK] at h
 | succ n=>
 simp only [bK] at h;refine Wk_seq ?_;apply bS (fun (c9:Bool)=>⟨tab 53 (updT (updT (updT (updT (updT (updT (updT deadT 0 (.pal 0 [] 0 a0.length none)) 1 (.val (.int .i64 a1))) 2 (.val (.int .i64 a2))) 3 (.clo 32 [])) 8 (.val (.int .i64 v1))) 9 (.val (.int .i64 v1))) 34 (.val (.bool c9))),(upd RZ 0 (.sl true none 2 none (a0.map ae.row)))⟩)
 ·intro hJ2;refine bU fun Z hZ=>?_;simp only [go_sem,seval];refine sw (bF rfl) (fun hc3=>?_) (fun hc3=>?_)
  ·have hc3d:=decide_eq_false hc3;rw [if_neg hc3] at h;simp only [go_sem,seval,hc3d];refine hZ _ (by kernel_rfl) (pp (hJ2 _ false ?_ h));refine wr ?_ ?_<;>repeat' first|rfl|constructor
  have hc3d:=decide_eq_true hc3;rw [if_pos hc3] at h;obtain ⟨x10,hb4,hx5,h⟩:=aI h;obtain ⟨x11,hb6,hx7,h⟩:=aI h;obtain ⟨r12,hr8,h⟩:=Option.bind_eq_some_iff.1 h;simp only [go_sem,seval,hc3d,hb4,hx5,hb6,hx7,hr8];repeat with_reducible refine dN (by kernel_rfl) ?_
  refine hZ _ (by kernel_rfl) (pp (hJ2 _ (decide (r12 < 0)) ?_ h));refine wr ?_ ?_<;>repeat' first|rfl|constructor
 intro c9 h;unfold bJ at h;refine au rfl (fun hc9=>?_) (fun hc9=>?_)
 ·rw [if_pos hc9] at h;refine ak (pp ?_);unfold bI at h;refine Wk_seq (al ?_);obtain ⟨x13,hb10,hx11,h⟩:=aI h;obtain ⟨x14,hb12,hx13,h⟩:=aI h;cases h
 rw [if_neg (ne_true_of_eq_false hc9)] at h;refine aP (pp (ai fun Z hZ=>?_));simp only [go_sem,seval,hc9];refine hZ _ (pp (⟨_,Nat.lt_succ_self _,(IntKind.i64.wrap (v1+1)),?_,h⟩));refine wr ?_ ?_<;>repeat' first|rfl|constructor
def a7 (N:Nat):FnL:=⟨1,fun cs rest=>match cs,rest with
 | [v0],[c1,c2,.clo 32 []]=>(lst1 2 ae.dec v0).bind fun q0=>((decI .i64) c1).bind fun q1=>((decI .i64) c2).bind fun q2=>(aw N q0 q1 q2).map fun r=>(.tup [],[.sl true none 2 none (r.map ae.row)])
 | _,_=>none,false⟩
attribute [go_sem] a7
theorem gJ (N:Nat):FLOk Tryz.prog 77 (a7 N):=by
 refine flOk (Nat.succ_ne_zero _) rfl ?_;intro cs rest r ls hlen h;simp only [a7] at h;split at h
 ·simp only [Option.bind_eq_some_iff,Option.map_eq_some_iff] at h;obtain ⟨q0,h0,q1,h1,q2,h2,r',hr,he⟩:=h;cases he;exact ConL.told rfl rfl (pR (pO ae.row_ok ae.dec_le h0) (lv_nil)) ((LeL.cons (ay h1) (LeL.cons (ay h2) (LeL.cons (Le.clo (LeL.nil)) (LeL.nil))))) (iH N q0 q1 q2 r' hr)
 ·cases h


noncomputable def eI (N d f:Nat):Option FnL:=llist [(30,77,a7 N)] d f
attribute [go_sem] eI
theorem ey (N:Nat) (a0:(List ae)) (a1:Int) (a2:Int) (a3:Int) (r:(List ae)) (h:az N a0 a1 a2 a3=some r):(r).length=a0.length:=by
 unfold az at h; exact (i9 h).2
theorem jK (N:Nat) (a0:(List ae)) (a1:Int) (a2:Int) (a3:Int) (r:(List ae)) (h:az N a0 a1 a2 a3=some r):ConL Tryz.prog 54 1 [.sl true none 2 none (a0.map ae.row),.val (.int .i64 a1),.val (.int .i64 a2),.val (.int .i64 a3),.clo 32 []] (.tup []) [.sl true none 2 none (r.map ae.row)]:=by
 unfold az at h;obtain ⟨h,hlen⟩:=i9 h;refine fM (G:=(glist [])) (L:=(eI N)) Tryz.func54 rfl (by decide) (by kernel_rfl) 1 (by kernel_rfl) gn (lc 30 (gJ N) ln) [] mix (Nat.le_of_ble_eq_true rfl) (Nat.le_of_ble_eq_true rfl) rfl (by simp [lentSh,hlen]) ?_;simp only [Tryz.f54];refine Ws fun Z hZ=>?_;simp only [go_sem,seval];refine hZ _ (pp (Ws fun Z hZ=>?_));simp only [go_sem,seval];refine hZ _ (pp (al (fV (fun (b:Unit)=>⟨tab 148 (updT (updT (updT (updT (updT (updT (updT deadT 0 (.pal 0 [] 0 a0.length none)) 1 (.val (.int .i64 a1))) 2 (.val (.int .i64 a2))) 3 (.val (.int .i64 a3))) 4 (.clo 32 [])) 10 (.val (.bool true))) 11 (.val (.bool true))),(upd RZ 0 (.sl true none 2 none (a0.map ae.row)))⟩) () h ?_ ?_)))
 ·refine wr ?_ ?_<;>repeat' first|rfl|constructor
 rintro n ⟨⟩ h -;cases n with
 | zero=>simp [bj] at h
 | succ n=>
 simp only [bj] at h;refine al (Ws fun Z hZ=>?_);simp only [go_sem,seval];refine hZ _ (pp (Wk_seq (Ws fun Z hZ=>?_)));simp only [go_sem,seval];refine hZ _ (pp (sw (am rfl) (fun hc1=>?_) (fun hc1=>?_)))
 ·have hc1d:=decide_eq_false hc1;rw [if_neg hc1] at h;refine ak (pp (Wk_seq (Ws fun Z hZ=>?_)));simp only [go_sem,seval,hc1d];refine hZ _ (pp (am rfl (fun hc3=>?_) (fun hc3=>?_)))
  ·have hc3d:=decide_eq_true hc3;rw [if_pos hc3] at h;refine Wk_seq ?_;cases h
  have hc3d:=decide_eq_false hc3;rw [if_neg hc3] at h;refine ak (pp (Wk_seq (Ws fun Z hZ=>?_)));simp only [go_sem,seval,hc3d];refine hZ _ (pp (bc rfl ?_));first|rw [if_pos (rfl:true=true)] at h|rw [if_neg Bool.false_ne_true] at h|skip
  refine ak (pp (Wk_seq ?_));cases h
 have hc1d:=decide_eq_true hc1;rw [if_pos hc1] at h;refine Wk_seq ?_;obtain ⟨r1,hr2,h⟩:=Option.bind_eq_some_iff.1 h;refine ai fun Z hZ=>?_;simp only [go_sem,seval,hc1d,hr2,dU N a0 a1 a2 r1 hr2];refine hZ _ (pp (Wk_ret (pp ?_)));obtain rfl:=Option.some.inj h;refine du (.inl rfl) (Weak.refl _) (by simp only [go_sem,seval]; rfl) (by simp only [go_sem,seval]; rfl) (by (try simp only [go_sem,seval]); first|exact Le.refl _|exact LeI.h) ?_;exact dA (by simp only [go_sem,seval,dU N a0 a1 a2 r1 hr2]<;>rfl) (by simp only [go_sem,seval]<;>rfl) (el_nil)
def bi (N:Nat):FnL:=⟨1,fun cs rest=>match cs,rest with
 | [v0],[c1,c2,c3,.clo 32 []]=>(lst1 2 ae.dec v0).bind fun q0=>((decI .i64) c1).bind fun q1=>((decI .i64) c2).bind fun q2=>((decI .i64) c3).bind fun q3=>(az N q0 q1 q2 q3).map fun r=>(.tup [],[.sl true none 2 none (r.map ae.row)])
 | _,_=>none,false⟩
attribute [go_sem] bi
theorem i7 (N:Nat):FLOk Tryz.prog 54 (bi N):=by
 refine flOk (Nat.succ_ne_zero _) rfl ?_;intro cs rest r ls hlen h;simp only [bi] at h;split at h
 ·simp only [Option.bind_eq_some_iff,Option.map_eq_some_iff] at h;obtain ⟨q0,h0,q1,h1,q2,h2,q3,h3,r',hr,he⟩:=h;cases he;exact ConL.told rfl rfl (pR (pO ae.row_ok ae.dec_le h0) (lv_nil)) ((LeL.cons (ay h1) (LeL.cons (ay h2) (LeL.cons (ay h3) (LeL.cons (Le.clo (LeL.nil)) (LeL.nil)))))) (jK N q0 q1 q2 q3 r' hr)
 ·cases h


noncomputable def fe (N d f:Nat):Option FnS:=glist [(11,50,mG N)] d f
attribute [go_sem] fe
noncomputable def fa (N d f:Nat):Option FnL:=llist [(13,54,bi N)] d f
attribute [go_sem] fa
theorem jQ (N:Nat) (a0:(List ae)) (r:(List ae)) (h:aB N a0=some r):(r).length=a0.length:=by
 unfold aB at h; exact (i9 h).2
theorem fd (N:Nat) (a0:(List ae)) (r:(List ae)) (h:aB N a0=some r):ConL Tryz.prog 31 1 [.sl true none 2 none (a0.map ae.row),.clo 32 []] (.tup []) [.sl true none 2 none (r.map ae.row)]:=by
 unfold aB at h;obtain ⟨h,hlen⟩:=i9 h;refine fM (G:=(fe N)) (L:=(fa N)) Tryz.func31 rfl (by decide) (by kernel_rfl) 1 (by kernel_rfl) (gc 11 (qp N) gn) (lc 13 (i7 N) ln) [] mix (Nat.le_of_ble_eq_true rfl) (Nat.le_of_ble_eq_true rfl) rfl (by simp [lentSh,hlen]) ?_;simp only [Tryz.f31];refine Ws fun Z hZ=>?_;simp only [go_sem,seval];refine hZ _ (pp ?_);obtain ⟨r1,hr1,h⟩:=Option.bind_eq_some_iff.1 h;obtain ⟨r2,hr2,h⟩:=Option.bind_eq_some_iff.1 h;refine ai fun Z hZ=>?_;simp only [go_sem,seval,hr1,hr2,ey N a0 0 ((a0.length:Nat):Int) r1 r2 hr2];refine hZ _ (pp ?_);obtain rfl:=Option.some.inj h;refine du (.inr rfl) (Weak.refl _) (by simp only [go_sem,seval]; rfl) (by simp only [go_sem,seval]; rfl) (by (try simp only [go_sem,seval]); first|exact Le.refl _|exact LeI.h) ?_;exact dA (by simp only [go_sem,seval,ey N a0 0 ((a0.length:Nat):Int) r1 r2 hr2]<;>rfl) (by simp only [go_sem,seval]<;>rfl) (el_nil)
def dF (N:Nat):FnL:=⟨1,fun cs rest=>match cs,rest with
 | [v0],[.clo 32 []]=>(lst1 2 ae.dec v0).bind fun q0 =>  (aB N q0).map fun r=>(.tup [],[.sl true none 2 none (r.map ae.row)])
 | _,_=>none,false⟩
attribute [go_sem] dF
theorem qK (N:Nat):FLOk Tryz.prog 31 (dF N):=by
 refine flOk (Nat.succ_ne_zero _) rfl ?_;intro cs rest r ls hlen h;simp only [dF] at h;split at h
 ·simp only [Option.bind_eq_some_iff,Option.map_eq_some_iff] at h;obtain ⟨q0,h0,r',hr,he⟩:=h;cases he;exact ConL.told rfl rfl (pR (pO ae.row_ok ae.dec_le h0) (lv_nil)) ((LeL.cons (Le.clo (LeL.nil)) (LeL.nil))) (fd N q0 r' hr)
 ·cases h


def lu:Go.Shelf.Ren:=⟨fun|6=>31|14=>54|15=>50|20=>77|21=>78|22=>79|23=>80|24=>81|25=>82|26=>83|27=>84|28=>71|29=>72|46=>100|47=>92|48=>93|49=>101|50=>102|57=>107|n=>n,fun|0=>0|3=>3|4=>4|5=>5|9=>9|22=>23|24=>36|25=>60|39=>81|45=>92|46=>93|50=>41|53=>100|55=>102|66=>109|70=>113|76=>122|77=>123|n=>n,fun n=>n⟩
theorem lq:Go.Proofs.SlLaysF0.n6 Tryz.prog lu where
 mixed:=by kernel_rfl
 f6:=⟨Tryz.f31.name, by decide, Tryz.func31.trans (congrArg some (by kernel_rfl))⟩
 f14:=⟨Tryz.f54.name, by decide, Tryz.func54.trans (congrArg some (by kernel_rfl))⟩
 f15:=Tryz.func50.trans (congrArg some (by kernel_rfl))
 f20:=⟨Tryz.f77.name, by decide, Tryz.func77.trans (congrArg some (by kernel_rfl))⟩
 f21:=⟨Tryz.f78.name, by decide, Tryz.func78.trans (congrArg some (by kernel_rfl))⟩
 f22:=⟨Tryz.f79.name, by decide, Tryz.func79.trans (congrArg some (by kernel_rfl))⟩
 f23:=⟨Tryz.f80.name, by decide, Tryz.func80.trans (congrArg some (by kernel_rfl))⟩
 f24:=⟨Tryz.f81.name, by decide, Tryz.func81.trans (congrArg some (by kernel_rfl))⟩
 f25:=⟨Tryz.f82.name, by decide, Tryz.func82.trans (congrArg some (by kernel_rfl))⟩
 f26:=⟨Tryz.f83.name, by decide, Tryz.func83.trans (congrArg some (by kernel_rfl))⟩
 f27:=⟨Tryz.f84.name, by decide, Tryz.func84.trans (congrArg some (by kernel_rfl))⟩
 f28:=Tryz.func71.trans (congrArg some (by kernel_rfl))
 f29:=Tryz.func72.trans (congrArg some (by kernel_rfl))
 f46:=⟨Tryz.f100.name, by decide, Tryz.func100.trans (congrArg some (by kernel_rfl))⟩
 f47:=Tryz.func92.trans (congrArg some (by kernel_rfl))
 f48:=Tryz.func93.trans (congrArg some (by kernel_rfl))
 f49:=⟨Tryz.f101.name, by decide, Tryz.func101.trans (congrArg some (by kernel_rfl))⟩
 f50:=⟨Tryz.f102.name, by decide, Tryz.func102.trans (congrArg some (by kernel_rfl))⟩
 f57:=⟨Tryz.f107.name, by decide, Tryz.func107.trans (congrArg some (by kernel_rfl))⟩
 t0:=Tryz.underlying0
 a0:=Tryz.isAgg0
 z0:=Tryz.sizeOf0
 v0:=Tryz.zeroValue0
 t3:=Tryz.underlying3
 a3:=Tryz.isAgg3
 z3:=Tryz.sizeOf3
 v3:=Tryz.zeroValue3
 t4:=Tryz.underlying4
 a4:=Tryz.isAgg4
 z4:=Tryz.sizeOf4
 v4:=Tryz.zeroValue4
 t5:=Tryz.underlying5
 a5:=Tryz.isAgg5
 z5:=Tryz.sizeOf5
 v5:=Tryz.zeroValue5
 t9:=Tryz.underlying9
 a9:=Tryz.isAgg9
 z9:=Tryz.sizeOf9
 v9:=Tryz.zeroValue9
 t22:=Tryz.underlying23
 a22:=Tryz.isAgg23
 z22:=Tryz.sizeOf23
 v22:=Tryz.zeroValue23
 t25:=Tryz.underlying60
 a25:=Tryz.isAgg60
 z25:=Tryz.sizeOf60
 v25:=Tryz.zeroValue60
 t39:=Tryz.underlying81
 a39:=Tryz.isAgg81
 z39:=Tryz.sizeOf81
 v39:=Tryz.zeroValue81
 t45:=Tryz.underlying92
 a45:=Tryz.isAgg92
 z45:=Tryz.sizeOf92
 v45:=Tryz.zeroValue92
 t46:=Tryz.underlying93
 a46:=Tryz.isAgg93
 z46:=Tryz.sizeOf93
 v46:=Tryz.zeroValue93
 t50:=Tryz.underlying41
 a50:=Tryz.isAgg41
 z50:=Tryz.sizeOf41
 v50:=Tryz.zeroValue41
 t53:=Tryz.underlying100
 a53:=Tryz.isAgg100
 z53:=Tryz.sizeOf100
 v53:=Tryz.zeroValue100
 t55:=Tryz.underlying102
 a55:=Tryz.isAgg102
 z55:=Tryz.sizeOf102
 v55:=Tryz.zeroValue102
 t66:=Tryz.underlying109
 a66:=Tryz.isAgg109
 z66:=Tryz.sizeOf109
 v66:=Tryz.zeroValue109
 t70:=Tryz.underlying113
 a70:=Tryz.isAgg113
 z70:=Tryz.sizeOf113
 v70:=Tryz.zeroValue113
 t76:=Tryz.underlying122
 a76:=Tryz.isAgg122
 z76:=Tryz.sizeOf122
 v76:=Tryz.zeroValue122
 t77:=Tryz.underlying123
 a77:=Tryz.isAgg123
 z77:=Tryz.sizeOf123
 v77:=Tryz.zeroValue123
def fQ (x:ae):List Value:=[.int .i64 x.e0,.int .i64 x.e1]
theorem dW (N:Nat) (a0:(List ae)) (r:(List ae)) (h:aG N a0=some r):(r).length=a0.length:=by
 unfold aG at h;split at h
 ·exact jQ N a0 r h
 ·exact DO h
theorem lP (N:Nat) (a0:(List ae)) (r:(List ae)) (h:aG N a0=some r):ConL Tryz.prog 31 1 [.sl true none 2 none (a0.map ae.row),.clo 32 []] (.tup []) [.sl true none 2 none (r.map ae.row)]:=by
 unfold aG at h;split at h
 ·exact fd N a0 r h
 ·rename_i hne;obtain ⟨h1,h2,h3,rfl⟩:=ze h;refine Ei lq 2 (by decide) Tryz.isAgg36 Tryz.sizeOf36 fQ (fun _=>rfl) (fun x v hv=>by simp only [fQ,List.mem_cons,List.not_mem_nil,or_false] at hv; rcases hv with rfl|rfl<;>rfl) ae.row (fun _=>rfl) rfl (enters_of Tryz.func31 (by kernel_rfl) rfl) (enters_of Tryz.func32 (by kernel_rfl) rfl) h2 (fun x y=>⟨true,?_⟩) (fun e=>hne (by rw [e]; rfl)) h3
  obtain ⟨z,hz⟩:=h1 x y;have hw:=oo N x y  z hz;show Con Tryz.prog 32 [] true _ (.val (.int .i64 ((dK N x y ).getD 0)));rw [hz];exact hw
noncomputable def bV (N:Nat):FnL:=⟨1,fun cs rest=>match cs,rest with
 | [v0],[.clo 32 []]=>(lst1 2 ae.dec v0).bind fun q0 =>  (aG N q0).map fun r=>(.tup [],[.sl true none 2 none (r.map ae.row)])
 | _,_=>none,false⟩
attribute [go_sem] bV
theorem kM (N:Nat):FLOk Tryz.prog 31 (bV N):=by
 refine flOk (Nat.succ_ne_zero _) rfl ?_;intro cs rest r ls hlen h;simp only [bV] at h;split at h
 ·simp only [Option.bind_eq_some_iff,Option.map_eq_some_iff] at h;obtain ⟨q0,h0,r',hr,he⟩:=h;cases he;exact ConL.told rfl rfl (pR (pO ae.row_ok ae.dec_le h0) (lv_nil)) ((LeL.cons (Le.clo (LeL.nil)) (LeL.nil))) (lP N q0 r' hr)
 ·cases h


noncomputable def pj (N d f:Nat):Option FnS:=glist [(21,35,dY N)] d f
attribute [go_sem] pj
noncomputable def pg (N d f:Nat):Option FnL:=llist [(7,30,fX N),(16,31,bV N)] d f
attribute [go_sem] pg
theorem ph (N:Nat) (a0:(List ah)) (r:(List ae)) (h:db N a0=some r):Con Tryz.prog 11 [] true [.sl false none 3 none (a0.map ah.row)] (.sl true none 2 none (r.map ae.row)):=by
 refine kI (G:=(pj N)) (L:=(pg N)) Tryz.func11 rfl (by decide) (by kernel_rfl) (gc 21 (rh N) gn) (lc 7 (i4 N) (lc 16 (kM N) ln)) [] mix (Nat.le_of_ble_eq_true rfl) ?_;simp only [Tryz.f11];unfold db at h;refine Ws fun Z hZ=>?_;simp only [go_sem,seval];refine hZ _ (pp (Wk_seq ?_));obtain ⟨r1,hr1,h⟩:=Option.bind_eq_some_iff.1 h;refine ai fun Z hZ=>?_;simp only [go_sem,seval,hr1];refine hZ _ (pp (Wk_seq (Ws fun Z hZ=>?_)));simp only [go_sem,seval];refine hZ _ (pp (am rfl (fun hc2=>?_) (fun hc2=>?_)))
 ·have hc2d:=decide_eq_true hc2;rw [if_pos hc2] at h;refine Ws fun Z hZ=>?_;simp only [go_sem,seval,hc2d];refine hZ _ (pp (Wk_ret (pp ?_)));obtain rfl:=Option.some.inj h;simp only [go_sem,seval];exact ⟨_,rfl,RokI.h,PureI.h⟩
 have hc2d:=decide_eq_false hc2;rw [if_neg hc2] at h;refine ak (pp (Wk_seq ?_));obtain ⟨r2,hr3,h⟩:=Option.bind_eq_some_iff.1 h;refine ai fun Z hZ=>?_;simp only [go_sem,seval,hc2d,hr3,dW N r1.1.deps r2 hr3];refine hZ _ (pp (Wk_seq ?_));obtain ⟨r3,hr4,h⟩:=Option.bind_eq_some_iff.1 h;refine ai fun Z hZ=>?_;simp only [go_sem,seval,dW N r1.1.deps r2 hr3,List.take_of_length_le (Nat.le_of_eq (dW N r1.1.deps r2 hr3)),hr4];refine hZ _ (pp (Wk_ret (pp ?_)));obtain rfl:=Option.some.inj h;simp only [go_sem,seval];exact ⟨_,rfl,RokI.h,PureI.h⟩
noncomputable def jg (N:Nat):FnS:=⟨[],true,fn1 (decL 3 ah.dec) fun q0=>(db N q0).map fun r=>.sl false none 2 none (r.map ae.row),false⟩
attribute [go_sem] jg
theorem mM (N:Nat):FSOk Tryz.prog 11 (jg N):=ok1 (fun q0 r h=>by
 obtain ⟨r',hr,rfl⟩:=Option.map_eq_some_iff.1 h;exact (ph N q0 r' hr).res (by (try simp only [go_sem]); exact RokI.h)) (fun h=>ar ah.dec_le h)

noncomputable def ol (N:Nat):FnS:=⟨[],true,fn1 (decL 3 ah.dec) fun q0=>(db N q0).map fun r=>.sl true none 2 none (r.map ae.row),false⟩
attribute [go_sem] ol
theorem Ai (N:Nat):FSOk Tryz.prog 11 (ol N):=ok1 (fun q0 r h=>by
 obtain ⟨r',hr,rfl⟩:=Option.map_eq_some_iff.1 h;exact ph N q0 r' hr) (fun h=>ar ah.dec_le h)


noncomputable def o6 (N d f:Nat):Option FnS:=glist [(11,27,aQ N),(18,27,aQ N),(22,56,jE N),(29,27,aQ N)] d f
attribute [go_sem] o6
theorem tB (N:Nat) (a0:af) (a1:Int) (r:Int) (h:ee N a0 a1=some r):Con Tryz.prog 36 [] true [.iref 6 [[.sl false none 2 none (a0.stacks.map ag.row),.sl false none 2 none (a0.prepared.map ae.row),.sl false none 1 none (a0.known.map (rowI .i64)),.sl false none 1 none (a0.committed.map (rowI .i64)),.sl false none 1 none (a0.aborted.map (rowI .i64)),.sl false none 2 none (a0.deps.map ae.row)]] 0 0,.val (.int .i64 a1)] (.val (.int .i64 r)):=by
 refine aV (G:=(o6 N)) Tryz.func36 rfl (by decide) (by kernel_rfl) (gc 11 (aS N) (gc 18 (aS N) (gc 22 (m6 N) (gc 29 (aS N) gn)))) [] mix (Nat.le_of_ble_eq_true rfl) ?_;simp only [Tryz.f36];unfold ee at h;refine Ws fun Z hZ=>?_;simp only [go_sem,seval];refine hZ _ (pp (Wk_seq (al (Wk_seq ?_))));obtain ⟨r1,hr1,h⟩:=Option.bind_eq_some_iff.1 h;refine ai fun Z hZ=>?_;simp only [go_sem,seval,hr1];refine hZ _ (pp (au rfl (fun hc2=>?_) (fun hc2=>?_)))
 ·rw [if_pos hc2] at h;refine Ws fun Z hZ=>?_;simp only [go_sem,seval,hc2];refine hZ _ (pp (Wk_ret (pp ?_)));cases h;simp only [go_sem,seval];exact ⟨_,rfl,RokI.h,PureI.h⟩
 rw [if_neg (ne_true_of_eq_false hc2)] at h;refine Wk_seq ?_;obtain ⟨r2,hr3,h⟩:=Option.bind_eq_some_iff.1 h;refine ai fun Z hZ=>?_;simp only [go_sem,seval,hc2,hr3];refine hZ _ (pp (au rfl (fun hc4=>?_) (fun hc4=>?_)))
 ·rw [if_pos hc4] at h;refine Ws fun Z hZ=>?_;simp only [go_sem,seval,hc4];refine hZ _ (pp (Wk_ret (pp ?_)));cases h;simp only [go_sem,seval];exact ⟨_,rfl,RokI.h,PureI.h⟩
 rw [if_neg (ne_true_of_eq_false hc4)] at h;refine Wk_seq ?_;obtain ⟨r3,hr5,h⟩:=Option.bind_eq_some_iff.1 h;refine ai fun Z hZ=>?_;simp only [go_sem,seval,hc4,hr5];refine hZ _ (pp (au rfl (fun hc6=>?_) (fun hc6=>?_)))
 ·rw [if_pos hc6] at h;refine Ws fun Z hZ=>?_;simp only [go_sem,seval,hc6];refine hZ _ (pp (Wk_ret (pp ?_)));cases h;simp only [go_sem,seval];exact ⟨_,rfl,RokI.h,PureI.h⟩
 rw [if_neg (ne_true_of_eq_false hc6)] at h;refine Wk_seq ?_;obtain ⟨r4,hr7,h⟩:=Option.bind_eq_some_iff.1 h;refine ai fun Z hZ=>?_;simp only [go_sem,seval,hc6,hr7];refine hZ _ (pp (au rfl (fun hc8=>?_) (fun hc8=>?_)))
 ·rw [if_pos hc8] at h;refine Ws fun Z hZ=>?_;simp only [go_sem,seval,hc8];refine hZ _ (pp (Wk_ret (pp ?_)));cases h;simp only [go_sem,seval];exact ⟨_,rfl,RokI.h,PureI.h⟩
 rw [if_neg (ne_true_of_eq_false hc8)] at h;refine ak (pp (Ws fun Z hZ=>?_));simp only [go_sem,seval,hc8];refine hZ _ (pp (Wk_ret (pp ?_)));cases h;simp only [go_sem,seval];exact ⟨_,rfl,RokI.h,PureI.h⟩
def fY (N:Nat):FnS:=⟨[],true,fn2 (decPt 6 af.dec) (decI .i64) fun q0 q1=>(ee N q0 q1).map fun r=>.val (.int .i64 r),false⟩
attribute [go_sem] fY
theorem j6 (N:Nat):FSOk Tryz.prog 36 (fY N):=ok2 (fun q0 q1 r h=>by
 obtain ⟨r',hr,rfl⟩:=Option.map_eq_some_iff.1 h;exact tB N q0 q1 r' hr) (fun h=>kU af.dec_le h) (ay)


noncomputable def sr (N d f:Nat):Option FnS:=glist [(16,36,fY N)] d f
attribute [go_sem] sr
noncomputable def rT (N d f:Nat):Option FnL:=llist [(9,30,fX N)] d f
attribute [go_sem] rT
theorem yF (N:Nat) (a0:(List ah)) (a1:Int) (r:Int) (h:d8 N a0 a1=some r):Con Tryz.prog 12 [] true [.sl false none 3 none (a0.map ah.row),.val (.int .i64 a1)] (.val (.int .i64 r)):=by
 refine kI (G:=(sr N)) (L:=(rT N)) Tryz.func12 rfl (by decide) (by kernel_rfl) (gc 16 (j6 N) gn) (lc 9 (i4 N) ln) [] mix (Nat.le_of_ble_eq_true rfl) ?_;simp only [Tryz.f12];unfold d8 at h;refine Ws fun Z hZ=>?_;simp only [go_sem,seval];refine hZ _ (pp (Wk_seq ?_));obtain ⟨r1,hr1,h⟩:=Option.bind_eq_some_iff.1 h;refine ai fun Z hZ=>?_;simp only [go_sem,seval,hr1];refine hZ _ (pp (Wk_seq (Ws fun Z hZ=>?_)));simp only [go_sem,seval];refine hZ _ (pp (am rfl (fun hc2=>?_) (fun hc2=>?_)))
 ·have hc2d:=decide_eq_true hc2;rw [if_pos hc2] at h;refine Ws fun Z hZ=>?_;simp only [go_sem,seval,hc2d];refine hZ _ (pp (Wk_ret (pp ?_)));obtain rfl:=Option.some.inj h;simp only [go_sem,seval];exact ⟨_,rfl,RokI.h,PureI.h⟩
 have hc2d:=decide_eq_false hc2;rw [if_neg hc2] at h;refine ak (pp (Wk_seq ?_));obtain ⟨r2,hr3,h⟩:=Option.bind_eq_some_iff.1 h;refine ai fun Z hZ=>?_;simp only [go_sem,seval,hc2d,hr3];refine hZ _ (pp (Wk_ret (pp ?_)));obtain rfl:=Option.some.inj h;simp only [go_sem,seval];exact ⟨_,rfl,RokI.h,PureI.h⟩
def i0 (N:Nat):FnS:=⟨[],true,fn2 (decL 3 ah.dec) (decI .i64) fun q0 q1=>(d8 N q0 q1).map fun r=>.val (.int .i64 r),false⟩
attribute [go_sem] i0
theorem kw (N:Nat):FSOk Tryz.prog 12 (i0 N):=ok2 (fun q0 q1 r h=>by
 obtain ⟨r',hr,rfl⟩:=Option.map_eq_some_iff.1 h;exact yF N q0 q1 r' hr) (fun h=>ar ah.dec_le h) (ay)


noncomputable def sN (N d f:Nat):Option FnS:=glist [(16,37,lh N)] d f
attribute [go_sem] sN
noncomputable def sS (N d f:Nat):Option FnL:=llist [(9,30,fX N)] d f
attribute [go_sem] sS
theorem yI (N:Nat) (a0:(List ah)) (a1:Int) (r:(List Int)) (h:eV N a0 a1=some r):Con Tryz.prog 13 [] false [.sl false none 3 none (a0.map ah.row),.val (.int .i64 a1)] (.sl false none 1 none (r.map (rowI .i64))):=by
 refine kI (G:=(sN N)) (L:=(sS N)) Tryz.func13 rfl (by decide) (by kernel_rfl) (gc 16 (pe N) gn) (lc 9 (i4 N) ln) [] mix (Nat.le_of_ble_eq_true rfl) ?_;simp only [Tryz.f13];unfold eV at h;refine Ws fun Z hZ=>?_;simp only [go_sem,seval];refine hZ _ (pp (Wk_seq ?_));obtain ⟨r1,hr1,h⟩:=Option.bind_eq_some_iff.1 h;refine ai fun Z hZ=>?_;simp only [go_sem,seval,hr1];refine hZ _ (pp (Wk_seq (Ws fun Z hZ=>?_)));simp only [go_sem,seval];refine hZ _ (pp (am rfl (fun hc2=>?_) (fun hc2=>?_)))
 ·have hc2d:=decide_eq_true hc2;rw [if_pos hc2] at h;refine Ws fun Z hZ=>?_;simp only [go_sem,seval,hc2d];refine hZ _ (pp (Wk_ret (pp ?_)));obtain rfl:=Option.some.inj h;simp only [go_sem,seval];exact ⟨_,rfl,RokI.h⟩
 have hc2d:=decide_eq_false hc2;rw [if_neg hc2] at h;refine ak (pp (Wk_seq ?_));obtain ⟨r2,hr3,h⟩:=Option.bind_eq_some_iff.1 h;refine ai fun Z hZ=>?_;simp only [go_sem,seval,hc2d,hr3];refine hZ _ (pp (Wk_ret (pp ?_)));obtain rfl:=Option.some.inj h;simp only [go_sem,seval];exact ⟨_,rfl,RokI.h⟩
def mF (N:Nat):FnS:=⟨[],false,fn2 (decL 3 ah.dec) (decI .i64) fun q0 q1=>(eV N q0 q1).map fun r=>.sl false none 1 none (r.map (rowI .i64)),false⟩
attribute [go_sem] mF
theorem qr (N:Nat):FSOk Tryz.prog 13 (mF N):=ok2 (fun q0 q1 r h=>by
 obtain ⟨r',hr,rfl⟩:=Option.map_eq_some_iff.1 h;exact yI N q0 q1 r' hr) (fun h=>ar ah.dec_le h) (ay)


noncomputable def gL (N d f:Nat):Option FnS:=glist [(16,42,jf N)] d f
attribute [go_sem] gL
theorem mf (N:Nat) (a0:(List Int)) (k1_0_0:(List ag)) (k1_0_1:(List ae)) (k1_0_2:(List Int)) (k1_0_3:(List Int)) (k1_0_4:(List Int)) (k1_0_5:(List ae)) (r:Int) (h:bL N a0 k1_0_0 k1_0_1 k1_0_2 k1_0_3 k1_0_4 k1_0_5=some r):Con Tryz.prog 41 [] true [.sl false none 1 none (a0.map (rowI .i64)),.clo 1000000042 [.iref 6 [[.sl false none 2 none (k1_0_0.map ag.row),.sl false none 2 none (k1_0_1.map ae.row),.sl false none 1 none (k1_0_2.map (rowI .i64)),.sl false none 1 none (k1_0_3.map (rowI .i64)),.sl false none 1 none (k1_0_4.map (rowI .i64)),.sl false none 2 none (k1_0_5.map ae.row)]] 0 0]] (.val (.int .i64 r)):=by
 refine aV (G:=(gL N)) Tryz.func41 rfl (by decide) (by kernel_rfl) (gc 16 (mQ N) gn) [] mix (Nat.le_of_ble_eq_true rfl) ?_;simp only [Tryz.f41];unfold bL at h;refine Ws fun Z hZ=>?_;simp only [go_sem,seval];refine hZ _ (pp (Wk_seq (Ws fun Z hZ=>?_)));simp only [go_sem,seval];refine hZ _ (pp (al (dt fun hreal2=>?_)));have hl1:=hreal2.lenT 0 (by decide) (by simp only [go_sem,seval]; rfl);first|rw [List.length_map] at hl1|rw [dy] at hl1|rw [<-List.map_append,List.length_map] at hl1
 refine dg (fun (v2:Nat) (b:Unit)=>⟨tab 19 (updT (updT (updT (updT deadT 0 (.sl false none 1 none (a0.map (rowI .i64)))) 1 (.clo 1000000042 [.iref 6 [[.sl false none 2 none (k1_0_0.map ag.row),.sl false none 2 none (k1_0_1.map ae.row),.sl false none 1 none (k1_0_2.map (rowI .i64)),.sl false none 1 none (k1_0_3.map (rowI .i64)),.sl false none 1 none (k1_0_4.map (rowI .i64)),.sl false none 2 none (k1_0_5.map ae.row)]] 0 0])) 7 (.val (.int .i64 ((a0.length:Nat):Int)))) 8 (.val (.int .i64 ((v2:Nat):Int)))),RZ⟩) () h ?_ ?_
 ·refine wr ?_ ?_<;>repeat' first|rfl|constructor
 rintro v2 ⟨⟩ hi3 h -;rcases (bq a0 v2 hi3).symm with ⟨hi3',_,hd6⟩|⟨x5,hi3',hx4,hd6⟩
 ·rw [hd6] at h;simp only [bw] at h;refine Ws fun Z hZ=>?_;simp only [go_sem,seval,hi3'];refine hZ _ (pp (Wk_seq ?_));try simp only [Int.ofNat_lt,hi3',if_true,if_false] at h
  refine bc rfl (aP (pp (Ws fun Z hZ=>?_)));simp only [go_sem,seval];refine hZ _ (pp (Wk_ret (pp ?_)));cases h;simp only [go_sem,seval];exact ⟨_,rfl,RokI.h,PureI.h⟩
 rw [hd6] at h;simp only [bw] at h;have hw5:=bu hi3' hl1;refine Ws fun Z hZ=>?_;simp only [go_sem,seval,hi3'];refine hZ _ (pp (Wk_seq ?_));try simp only [Int.ofNat_lt,hi3',if_true,if_false] at h
 refine bm rfl (ak (pp (Wk_seq (al (Ws fun Z hZ=>?_)))));simp only [go_sem,seval];refine hZ _ (pp (Wk_seq ?_));try rw [gx_nat hx4] at h
 obtain ⟨r1,hr7,h⟩:=Option.bind_eq_some_iff.1 h;refine ai fun Z hZ=>?_;simp only [go_sem,seval,hx4,hi3',hr7];refine hZ _ (pp (au rfl (fun hc8=>?_) (fun hc8=>?_)))
 ·rw [if_pos hc8] at h;refine Ws fun Z hZ=>?_;simp only [go_sem,seval,hc8];refine hZ _ (pp (Wk_ret (pp ?_)));cases h;simp only [go_sem,seval];exact ⟨_,rfl,RokI.h,PureI.h⟩
 rw [if_neg (ne_true_of_eq_false hc8)] at h;refine ak (pp (ai fun Z hZ=>?_));simp only [go_sem,seval,hw5,hc8];refine hZ _ (pp ?_);first|refine ⟨(),?_,h⟩|refine ⟨hi3',(),?_,h⟩
 refine wr ?_ ?_<;>repeat' first|rfl|constructor
def b8 (N:Nat):FnS:={ own:=[],pure:=true,fn:=fun cs=>match cs with
 | [c0,.clo 1000000042 [.iref 6 [[k1_0_0,k1_0_1,k1_0_2,k1_0_3,k1_0_4,k1_0_5]] 0 0]]=>((decL 1 (dec1 (decI .i64))) c0).bind fun qc0=>((decL 2 ag.dec) k1_0_0).bind fun qk1_0_0=>((decL 2 ae.dec) k1_0_1).bind fun qk1_0_1=>((decL 1 (dec1 (decI .i64))) k1_0_2).bind fun qk1_0_2=>((decL 1 (dec1 (decI .i64))) k1_0_3).bind fun qk1_0_3=>((decL 1 (dec1 (decI .i64))) k1_0_4).bind fun qk1_0_4=>((decL 2 ae.dec) k1_0_5).bind fun qk1_0_5=>(bL N qc0 qk1_0_0 qk1_0_1 qk1_0_2 qk1_0_3 qk1_0_4 qk1_0_5).map fun r=>.val (.int .i64 r)
 | _=>none }
attribute [go_sem] b8
theorem lr (N:Nat):FSOk Tryz.prog 41 (b8 N):=by
 refine ⟨fun cs r h=>?_,fun h=>by cases h⟩;simp only [b8] at h;split at h
 ·simp only [Option.bind_eq_some_iff,Option.map_eq_some_iff] at h;obtain ⟨q0,h0,q1,h1,q2,h2,q3,h3,q4,h4,q5,h5,q6,h6,r',hr,rfl⟩:=h;exact ((mf N q0 q1 q2 q3 q4 q5 q6 r' hr).args (LeL.cons (ar (aJ .i64) h0) (LeL.cons (Le.clo (LeL.cons (Le.iref1 (LeL.cons (ar ag.dec_le h1) (LeL.cons (ar ae.dec_le h2) (LeL.cons (ar (aJ .i64) h3) (LeL.cons (ar (aJ .i64) h4) (LeL.cons (ar (aJ .i64) h5) (LeL.cons (ar ae.dec_le h6) (LeL.nil)))))))) (LeL.nil))) (LeL.nil))))
 ·cases h


noncomputable def lj:Env:={ T:=tiOf Tryz.prog,G:=fun d f=>none }
theorem ib:lj.T=tiOf Tryz.prog:=rfl
theorem iE (d:Nat):lj.F d=none:=rfl
theorem tv:GOk Tryz.prog { T:=tiOf Tryz.prog,G:=lj.G }:=by
 refine ⟨?_,fun _ _ _ h=>by cases h⟩;intro d f fs hfs;cases hfs
theorem vd:FunOk Tryz.prog 43 Tryz.f43 Tryz.f43.body.get! := ⟨Tryz.func43,rfl,by decide,by kernel_rfl⟩
set_option maxHeartbeats 4000000 in
theorem vc {α:Type} (row:α->List C) (ok:RowOk row) (l:List α) (i j:Nat) (r:List α) (hr:r=l.take i++l.drop j) (hij:i<=j) (hj:j<=l.length) :
  Con Tryz.prog 43 [true,false,false] false [.sl true none 1 none (l.map row),.val (.int .i64 i),.val (.int .i64 j)] (.sl true none 1 none (r.map row)):=by
 refine FW (E:=lj) (rR Tryz.prog _) tv mix vd (Nat.le_of_ble_eq_true rfl) ?_;intro _;rw [qZ (by simp)];rw [show entryF [true,false,false] [C.sl true none 1 none (l.map row),C.val (.int .i64 i),C.val (.int .i64 j)]=(updT (updT (updT deadT 0 (.pal 0 [] 0 l.length none)) 1 (.val (.int .i64 i))) 2 (.val (.int .i64 j))) from by funext t; match t with|0=>simp [entryF,iW,viewD,updT]|1=>rfl|2=>rfl|t+3=>rfl];rw [show R0 [true,false,false] [C.sl true none 1 none (l.map row),C.val (.int .i64 i),C.val (.int .i64 j)]=upd RZ 0 (C.sl true none 1 none (l.map row)) from by funext t; match t with|0=>rfl|1=>rfl|2=>rfl|t+3=>rfl];apply Gg;simp only [Tryz.f43,Option.get!];have hi1:(i:Int)<=(j:Int):=by omega
 have hj1:(j:Int)<=(l.length:Int):=by omega
 have hj0:i<=l.length:=by omega
 simp only [go_sem,seval,ib,iE,hi1,hj1,hij,hj,hj0,Nat.le_refl,RowOk.frzRows ok,RowOk.all ok,RowOk.allPlain ok,RowOk.allD ok,dh,sd,altX,roomS,roomC,mB,clearX,pd,pq,Option.map_some,Nat.zero_le,Nat.sub_zero,deepV,List.isEmpty_nil,decide_not,List.length_replicate];refine Dk rfl (fun hc=>?_) (fun hc=>?_)
 ·have e:i=j:=by omega
  subst e;simp only [go_sem,seval,ib,iE,hi1,hj1,hij,hj,hj0,Nat.le_refl,RowOk.frzRows ok,RowOk.all ok,RowOk.allPlain ok,RowOk.allD ok,dh,sd,altX,roomS,roomC,mB,clearX,pd,pq,Option.map_some,Nat.zero_le,Nat.sub_zero,deepV,List.isEmpty_nil,decide_not,List.length_replicate,fJ,tq];refine CA ok ?_;rw [hr];simp [List.take_of_length_le]
 ·have hc1:decide ((i:Int)=(j:Int))=false:=decide_eq_false hc;have hlt:i < j:=by omega
  have hlt2:i < l.length:=by omega
  have hm3:(l.drop j).take (l.length - j)=l.drop j:=List.take_of_length_le (by simp);have hd:(l.drop j).length=l.length - j:=by simp
  have hle:i+(l.length - j)<=l.length:=by omega
  have hnle:¬ l.length<=i+(l.length - j):=by omega
  obtain ⟨A,hA⟩:∃ A,dq (List.map row l) i (List.map row (List.drop j l))=A:=⟨_,rfl⟩;have hAp:jS A:=by rw [<-hA]; exact yb (yd ok _) (yd ok _)
  have hAl:A.length=l.length:=by rw [<-hA]; simp [dq]; omega
  obtain ⟨B,hB⟩:∃ B,dq A (i+(l.length - j)) (List.replicate (l.length - (i+(l.length - j))) [C.val (Value.int .i64 0)])=B:=⟨_,rfl⟩;have hBp:jS B:=by rw [<-hB]; exact yb hAp (Bo _ [Value.int .i64 0] (by simp [Value.oneCell']))
  have hBe:B.take (i+(l.length - j))=r.map row:=by
   have:=ES (L:=l.map row) (List.replicate (l.length - (i+(l.length - j))) [C.val (Value.int .i64 0)]) hij (by simpa using hj);rw [List.length_map,<-List.map_drop,hA,hB] at this;rw [this,hr]; simp
  simp only [go_sem,seval,ib,iE,hi1,hj1,hij,hj,hj0,Nat.le_refl,RowOk.frzRows ok,RowOk.all ok,RowOk.allPlain ok,RowOk.allD ok,dh,sd,altX,roomS,roomC,mB,clearX,pd,pq,Option.map_some,Nat.zero_le,Nat.sub_zero,deepV,List.isEmpty_nil,decide_not,List.length_replicate,hc1,hlt,hlt2,hm3,hd,hle,hnle,hA,hAl,hAp.1,hAp.2];repeat' ((with_reducible refine dN ?_ ?_); kernel_rfl)
  simp only [go_sem,seval,ib,iE,hi1,hj1,hij,hj,hj0,Nat.le_refl,RowOk.frzRows ok,RowOk.all ok,RowOk.allPlain ok,RowOk.allD ok,dh,sd,altX,roomS,roomC,mB,clearX,pd,pq,Option.map_some,Nat.zero_le,Nat.sub_zero,deepV,List.isEmpty_nil,decide_not,List.length_replicate,hc1,hlt,hlt2,hm3,hd,hle,hnle,hA,hAl,hAp.1,hAp.2,hB,hBp.1,hBp.2,fJ,tq];repeat' ((with_reducible refine dN ?_ ?_); kernel_rfl)
  try simp only [go_sem,seval,ib,iE,hi1,hj1,hij,hj,hj0,Nat.le_refl,RowOk.frzRows ok,RowOk.all ok,RowOk.allPlain ok,RowOk.allD ok,dh,sd,altX,roomS,roomC,mB,clearX,pd,pq,Option.map_some,Nat.zero_le,Nat.sub_zero,deepV,List.isEmpty_nil,decide_not,List.length_replicate,fJ,tq,hBp.1,hBp.2]
  refine CA ok ?_;rw [<-hBe]
theorem vx (N:Nat) (a0:List Int) (a1:Int) (a2:Int) (r:List Int) (h:ke N a0 a1 a2=some r) :
  Con Tryz.prog 43 [true,false,false] false [.sl true none 1 none (a0.map (rowI .i64)),.val (.int .i64 a1),.val (.int .i64 a2)] (.sl true none 1 none (r.map (rowI .i64))):=by
 unfold ke at h;obtain ⟨n,m,rfl,rfl,h1,h2,h3⟩:=DY h;exact vc (rowI .i64) (fy .i64) a0 n m r (Option.some.inj h3).symm h1 h2
def eD (N:Nat):FnS:={ own:=[true,false,false],pure:=false,fn:=fun cs=>match cs with
 | [c0,c1,c2]=>(decO 1 (dec1 (decI .i64)) c0).bind fun q0=>(decI .i64 c1).bind fun q1=>(decI .i64 c2).bind fun q2=>(ke N q0 q1 q2).map fun r=>.sl true none 1 none (r.map (rowI .i64))
 | _=>none }
theorem rF (N:Nat):(eD N).own=[true,false,false]:=rfl
theorem ra (N:Nat):(eD N).pure=false:=rfl
theorem ro (N:Nat):(eD N).peek=false:=rfl
attribute [go_sem] eD rF ra ro
theorem si (N:Nat):FSOk Tryz.prog 43 (eD N):=by
 refine ⟨fun cs r h=>?_,fun h=>by cases h⟩;simp only [eD] at h;split at h
 ·simp only [Option.bind_eq_some_iff,Option.map_eq_some_iff] at h;obtain ⟨q0,h0,q1,h1,q2,h2,r',hr,rfl⟩:=h;exact (vx N q0 q1 q2 r' hr).argsO rfl (oD (qE (fy .i64) (aJ .i64) h0) (qH (ay h1) (qH (ay h2) oB)))
 ·cases h


noncomputable def rE (N d f:Nat):Option FnS:=glist [(31,36,fY N),(43,8,ll N),(46,38,aF N),(61,27,aQ N),(66,36,fY N),(82,41,b8 N),(103,43,eD N)] d f
attribute [go_sem] rE
noncomputable def ru (N d f:Nat):Option FnL:=llist [(15,30,fX N),(49,40,dZ N),(75,25,gW N),(98,40,dZ N)] d f
attribute [go_sem] ru
theorem rp (N:Nat) (a0:(List ah)) (r:(List Int) × (List Int)) (h:dz N a0=some r):Con Tryz.prog 14 [] true [.sl false none 3 none (a0.map ah.row)] (.tup [.sl true none 1 none (r.1.map (rowI .i64)),.sl true none 1 none (r.2.map (rowI .i64))]):=by
 refine kI (G:=(rE N)) (L:=(ru N)) Tryz.func14 rfl (by decide) (by kernel_rfl) (gc 31 (j6 N) (gc 43 (po N) (gc 46 (fL N) (gc 61 (aS N) (gc 66 (j6 N) (gc 82 (lr N) (gc 103 (si N) gn))))))) (lc 15 (i4 N) (lc 49 (gF N) (lc 75 (mw N) (lc 98 (gF N) ln)))) [] mix (Nat.le_of_ble_eq_true rfl) ?_;simp only [Tryz.f14];unfold dz at h;refine Ws fun Z hZ=>?_;simp (config := { maxSteps := 4000000 }) only [go_sem,seval];refine hZ _ (pp (Wk_seq ?_));obtain ⟨r1,hr1,h⟩:=Option.bind_eq_some_iff.1 h;refine ai fun Z hZ=>?_;simp (config := { maxSteps := 4000000 }) only [go_sem,seval,hr1];refine hZ _ (pp (Wk_seq (Ws fun Z hZ=>?_)));simp (config := { maxSteps := 4000000 }) only [go_sem,seval];refine hZ _ (pp (am rfl (fun hc2=>?_) (fun hc2=>?_)))
 ·have hc2d:=decide_eq_true hc2;first|rw [if_pos hc2] at h|rw [if_pos hc2d] at h|simp only [hc2d,Bool.not_true,Bool.not_false,Bool.false_eq_true,if_true,if_false] at h
  refine Ws fun Z hZ=>?_;simp (config := { maxSteps := 4000000 }) only [go_sem,seval,hc2d];refine hZ _ (pp (Wk_ret (pp ?_)));obtain rfl:=Option.some.inj h;simp (config := { maxSteps := 4000000 }) only [go_sem,seval];exact ⟨_,rfl,(by repeat' (first|exact ROk.refl _|exact ROk.nil _|((refine ROk.of _ ?_ ?_); (focus ((repeat' (first|exact Le.refl _|exact LeL.nil|exact Le.nils|exact LeLL.refl _|refine LeLL.mapAppend ?_ ?_|refine LeLL.cons ?_ ?_|refine Le.sl ?_|refine Le.tup ?_|refine Le.agg ?_|refine LeL.cons ?_ ?_)); done)); (focus ((repeat' (first|exact NoOwn.val _|exact NoOwn.sl _ _ _ _|refine NoOwn.tup ?_|refine NoOwn.agg ?_|exact pU|refine oM ?_ ?_)); done)))|((refine ROk.own ?_ ?_); (focus ((repeat' (first|exact Le.refl _|exact LeL.nil|exact Le.nils|exact LeLL.refl _|refine LeLL.mapAppend ?_ ?_|refine LeLL.cons ?_ ?_|refine Le.sl ?_|refine Le.tup ?_|refine Le.agg ?_|refine LeL.cons ?_ ?_)); done)); (focus ((first|exact RowOk.noOwn (fy .i64) _|exact RowOk.noOwn ae.row_ok _|exact RowOk.noOwn ah.row_ok _|exact RowOk.noOwn ag.row_ok _); done)))|refine ROk.agg rfl ?_|refine ROk.tup rfl ?_|exact qv|refine pw ?_ ?_)),(by (repeat' (first|exact PureC.val _|refine PureC.tup ?_|refine PureC.agg ?_|exact eC|refine aR ?_ ?_|refine PureC.sl ?_|exact bG (sY .i64) _|exact bG ae.row_pure _|exact bG ah.row_pure _ |  exact mO|refine kP ?_ ?_|refine mq ?_ ?_)))⟩
 have hc2d:=decide_eq_false hc2;first|rw [if_neg hc2] at h|rw [if_neg (ne_true_of_eq_false hc2d)] at h|simp only [hc2d,Bool.not_true,Bool.not_false,Bool.false_eq_true,if_true,if_false] at h
 refine ak (pp (Ws fun Z hZ=>?_));simp (config := { maxSteps := 4000000 }) only [go_sem,seval,hc2d];refine hZ _ (pp (Wk_seq (Ws fun Z hZ=>?_)));simp (config := { maxSteps := 4000000 }) only [go_sem,seval];refine hZ _ (pp (al (dt fun hreal4=>?_)));have hl3:=hreal4.cell 15 2 (by simp only [go_sem,seval]; rfl) rfl;first|rw [List.length_map] at hl3|rw [dy] at hl3|rw [<-List.map_append,List.length_map] at hl3
 refine dg (fun (v5:Nat) (b:List Int)=>⟨tab 106 (updT (updT (updT (updT (updT (updT deadT 2 (.val (.slice none 0 0))) 4 (.pref 15 [] 0 0)) 6 (.pal 36 [] 0 b.length none)) 23 (.pal 15 [(0,2)] 0 r1.1.known.length none)) 24 (.val (.int .i64 ((r1.1.known.length:Nat):Int)))) 25 (.val (.int .i64 ((v5:Nat):Int)))),(upd (upd RZ 15 (.sl true none 6 (some 1) [[.sl true none 2 none (r1.1.stacks.map ag.rowD),.sl true none 2 none (r1.1.prepared.map ae.row),.sl true none 1 none (r1.1.known.map (rowI .i64)),.sl true none 1 none (r1.1.committed.map (rowI .i64)),.sl true none 1 none (r1.1.aborted.map (rowI .i64)),.sl true none 2 none (r1.1.deps.map ae.row)]])) 36 (.sl true none 1 none (b.map (rowI .i64))))⟩) [] h ?_ ?_
 ·refine Weak.trans (ko 6 36 1 (by simp only [go_sem,seval]) (by simp only [go_sem,seval])) ?_;refine wr ?_ ?_<;>repeat' first|rfl|constructor|simp only [go_sem,seval,Bool.or_self,List.length_set,Int.natCast_zero,Int.cast_ofNat_Int,hr1,hc2d]
 rintro v5 l4 hi5 h -;rcases (bq r1.1.known v5 hi5) with ⟨x8,hi5',hx6,hd8⟩|⟨hi5',_,hd8⟩
 ·rw [hd8] at h;simp only [ed] at h;have hw7:=bu hi5' hl3;refine Ws fun Z hZ=>?_;simp (config := { maxSteps := 4000000 }) only [go_sem,seval,hi5'];refine hZ _ (pp (Wk_seq ?_));try simp only [Int.ofNat_lt,hi5',if_true,if_false] at h
  refine bm rfl (ak (pp (Wk_seq (al (Wk_seq ?_)))));try rw [gx_nat hx6] at h
  refine ai fun Z hZ=>?_;simp (config := { maxSteps := 4000000 }) only [go_sem,seval,hx6,hi5'];refine hZ _ (pp (Wk_seq ?_));obtain ⟨r12,hr9,h⟩:=Option.bind_eq_some_iff.1 h;refine ai fun Z hZ=>?_;simp (config := { maxSteps := 4000000 }) only [go_sem,seval,hr9];refine hZ _ (pp (sw (am rfl) (fun hc10=>?_) (fun hc10=>?_)))
  ·have hc10d:=decide_eq_false hc10;first|rw [if_neg hc10] at h|rw [if_neg (ne_true_of_eq_false hc10d)] at h|simp only [hc10d,Bool.not_true,Bool.not_false,Bool.false_eq_true,if_true,if_false] at h
   refine ak (pp (ai fun Z hZ=>?_));simp (config := { maxSteps := 4000000 }) only [go_sem,seval,hw7,hc10d];refine hZ _ (pp ?_);first|refine ⟨l4,?_,h⟩|refine ⟨hi5',l4,?_,h⟩
   refine wr ?_ ?_<;>repeat' first|rfl|constructor|simp only [go_sem,seval,Bool.or_self,List.length_set,Int.natCast_zero,Int.cast_ofNat_Int,hr1,hc2d,hx6,hi5',hw7,hr9,hc10d]
  have hc10d:=decide_eq_true hc10;first|rw [if_pos hc10] at h|rw [if_pos hc10d] at h|simp only [hc10d,Bool.not_true,Bool.not_false,Bool.false_eq_true,if_true,if_false] at h
  obtain ⟨ha11,h⟩:=bk h;simp only [List.length_cons,List.length_nil,Nat.zero_add,Nat.reduceAdd] at ha11;refine ai fun Z hZ=>?_;simp (config := { maxSteps := 4000000 }) only [go_sem,seval,hc10d,ha11];refine hZ _ (pp (ai fun Z hZ=>?_));simp (config := { maxSteps := 4000000 }) only [go_sem,seval,hw7];refine hZ _ (pp ?_);first|refine ⟨(l4++[x8]),?_,h⟩|refine ⟨hi5',(l4++[x8]),?_,h⟩
  refine wr ?_ ?_<;>repeat' first|rfl|constructor|simp only [go_sem,seval]
 rw [hd8] at h;simp only [ed] at h;refine Ws fun Z hZ=>?_;simp (config := { maxSteps := 4000000 }) only [go_sem,seval,hi5'];refine hZ _ (pp (Wk_seq ?_));try simp only [Int.ofNat_lt,hi5',if_true,if_false] at h
 refine bc rfl (aP (pp ?_));unfold lW at h;refine Wk_seq ?_;obtain ⟨r13,hr12,h⟩:=Option.bind_eq_some_iff.1 h;obtain ⟨r14,hr13,h⟩:=Option.bind_eq_some_iff.1 h;refine ai fun Z hZ=>?_;simp (config := { maxSteps := 4000000 }) only [go_sem,seval,hr12,hr13];refine hZ _ (pp (Wk_seq ?_));obtain ⟨r15,hr14,h⟩:=Option.bind_eq_some_iff.1 h;refine ai fun Z hZ=>?_;simp (config := { maxSteps := 4000000 }) only [go_sem,seval,hr14];refine hZ _ (pp (Ws fun Z hZ=>?_));simp (config := { maxSteps := 4000000 }) only [go_sem,seval];refine hZ _ (pp (Wk_seq (Ws fun Z hZ=>?_)));simp (config := { maxSteps := 4000000 }) only [go_sem,seval];refine hZ _ (pp (al (dt fun hreal16=>?_)));have hl15:=hreal16.cell 15 2 (by simp only [go_sem,seval]; rfl) rfl;first|rw [List.length_map] at hl15|rw [dy] at hl15|rw [<-List.map_append,List.length_map] at hl15
 refine dg (fun (v20:Nat) (b:List Int)=>⟨tab 106 (updT (updT (updT (updT (updT (updT (updT deadT 2 (.val (.slice none 0 0))) 3 (.pal 46 [] 0 r14.length none)) 4 (.pref 15 [] 0 0)) 9 (.pal 72 [] 0 b.length none)) 53 (.pal 15 [(0,2)] 0 r15.known.length none)) 54 (.val (.int .i64 ((r15.known.length:Nat):Int)))) 55 (.val (.int .i64 ((v20:Nat):Int)))),(upd (upd (upd RZ 15 (.sl true none 6 (some 1) [[.sl true none 2 none (r15.stacks.map ag.rowD),.sl true none 2 none (r15.prepared.map ae.row),.sl true none 1 none (r15.known.map (rowI .i64)),.sl true none 1 none (r15.committed.map (rowI .i64)),.sl true none 1 none (r15.aborted.map (rowI .i64)),.sl true none 2 none (r15.deps.map ae.row)]])) 46 (.sl true none 1 none (r14.map (rowI .i64)))) 72 (.sl true none 1 none (b.map (rowI .i64))))⟩) [] h ?_ ?_
 ·refine Weak.trans (ko 9 72 1 (by simp only [go_sem,seval]) (by simp only [go_sem,seval])) ?_;refine wr ?_ ?_<;>repeat' first|rfl|constructor|simp only [go_sem,seval,Bool.or_self,List.length_set,Int.natCast_zero,Int.cast_ofNat_Int,hr1,hc2d,hi5',hr12,hr13,hr14]
 rintro v20 l19 hi17 h -;rcases (bq r15.known v20 hi17) with ⟨x23,hi17',hx18,hd20⟩|⟨hi17',_,hd20⟩
 ·rw [hd20] at h;simp only [dI] at h;have hw19:=bu hi17' hl15;refine Ws fun Z hZ=>?_;simp (config := { maxSteps := 4000000 }) only [go_sem,seval,hi17'];refine hZ _ (pp (Wk_seq ?_));try simp only [Int.ofNat_lt,hi5',hi17',if_true,if_false] at h
  refine bm rfl (ak (pp (Wk_seq (al (Wk_seq ?_)))));try rw [gx_nat hx18] at h
  refine ai fun Z hZ=>?_;simp (config := { maxSteps := 4000000 }) only [go_sem,seval,hx18,hi17'];refine hZ _ (pp ?_);apply bS (fun (c31:Bool)=>⟨tab 106 (updT (updT (updT (updT (updT (updT (updT (updT (updT deadT 2 (.val (.slice none 0 0))) 3 (.pal 46 [] 0 r14.length none)) 4 (.pref 15 [] 0 0)) 9 (.pal 72 [] 0 l19.length none)) 11 (.val (.int .i64 x23))) 53 (.pal 15 [(0,2)] 0 r15.known.length none)) 54 (.val (.int .i64 ((r15.known.length:Nat):Int)))) 55 (.val (.int .i64 ((v20:Nat):Int)))) 68 (.val (.bool c31))),(upd (upd (upd RZ 15 (.sl true none 6 (some 1) [[.sl true none 2 none (r15.stacks.map ag.rowD),.sl true none 2 none (r15.prepared.map ae.row),.sl true none 1 none (r15.known.map (rowI .i64)),.sl true none 1 none (r15.committed.map (rowI .i64)),.sl true none 1 none (r15.aborted.map (rowI .i64)),.sl true none 2 none (r15.deps.map ae.row)]])) 46 (.sl true none 1 none (r14.map (rowI .i64)))) 72 (.sl true none 1 none (l19.map (rowI .i64))))⟩)
  ·intro hJ21;obtain ⟨r32,hr22,h⟩:=Option.bind_eq_some_iff.1 h;refine ai fun Z hZ=>?_;simp (config := { maxSteps := 4000000 }) only [go_sem,seval,hr22];refine eY rfl (fun hc23=>?_) (fun hc23=>?_)
   ·first|rw [if_neg (ne_true_of_eq_false hc23)] at h|simp only [hc23,Bool.or_false,Bool.or_true,Bool.false_or,Bool.true_or,Bool.and_true,Bool.true_and,Bool.and_false,Bool.false_and,Bool.not_true,Bool.not_false,Bool.false_eq_true,if_true,if_false] at h
    obtain ⟨r33,hr24,h⟩:=Option.bind_eq_some_iff.1 h;simp (config := { maxSteps := 4000000 }) only [go_sem,seval,hc23,hr24];refine hZ _ (pp (hJ21 _ (decide (r33=2)) ?_ h));refine wr ?_ ?_<;>repeat' first|rfl|constructor|simp only [go_sem,seval,Bool.or_self,List.length_set,Int.natCast_zero,Int.cast_ofNat_Int,hr1,hc2d,hi5',hr12,hr13,hr14,hx18,hi17',hw19,hr22,hc23,hr24]
   first|rw [if_pos hc23] at h|simp only [hc23,Bool.or_false,Bool.or_true,Bool.false_or,Bool.true_or,Bool.and_true,Bool.true_and,Bool.and_false,Bool.false_and,Bool.not_true,Bool.not_false,Bool.false_eq_true,if_true,if_false] at h
   simp (config := { maxSteps := 4000000 }) only [go_sem,seval,hc23];refine hZ _ (pp (hJ21 _ false ?_ h));refine wr ?_ ?_<;>repeat' first|rfl|constructor|simp only [go_sem,seval,Bool.or_self,List.length_set,Int.natCast_zero,Int.cast_ofNat_Int,hr1,hc2d,hi5',hr12,hr13,hr14,hx18,hi17',hw19,hr22,hc23]
  intro c31 h;unfold lG at h;refine sw (au rfl) (fun hc25=>?_) (fun hc25=>?_)
  ·first|rw [if_neg (ne_true_of_eq_false hc25)] at h|simp only [hc25,Bool.or_false,Bool.or_true,Bool.false_or,Bool.true_or,Bool.and_true,Bool.true_and,Bool.and_false,Bool.false_and,Bool.not_true,Bool.not_false,Bool.false_eq_true,if_true,if_false] at h
   refine ak (pp (ai fun Z hZ=>?_));simp (config := { maxSteps := 4000000 }) only [go_sem,seval,hw19,hc25];refine hZ _ (pp ?_);first|refine ⟨l19,?_,h⟩|refine ⟨hi17',l19,?_,h⟩
   refine wr ?_ ?_<;>repeat' first|rfl|constructor|simp only [go_sem,seval,Bool.or_self,List.length_set,Int.natCast_zero,Int.cast_ofNat_Int,hr1,hc2d,hi5',hr12,hr13,hr14,hx18,hi17',hw19,hc25]
  first|rw [if_pos hc25] at h|simp only [hc25,Bool.or_false,Bool.or_true,Bool.false_or,Bool.true_or,Bool.and_true,Bool.true_and,Bool.and_false,Bool.false_and,Bool.not_true,Bool.not_false,Bool.false_eq_true,if_true,if_false] at h
  obtain ⟨ha26,h⟩:=bk h;simp only [List.length_cons,List.length_nil,Nat.zero_add,Nat.reduceAdd] at ha26;refine ai fun Z hZ=>?_;simp (config := { maxSteps := 4000000 }) only [go_sem,seval,hc25,ha26];refine hZ _ (pp (ai fun Z hZ=>?_));simp (config := { maxSteps := 4000000 }) only [go_sem,seval,hw19];refine hZ _ (pp ?_);first|refine ⟨(l19++[x23]),?_,h⟩|refine ⟨hi17',(l19++[x23]),?_,h⟩
  refine wr ?_ ?_<;>repeat' first|rfl|constructor|simp only [go_sem,seval]
 rw [hd20] at h;simp only [dI] at h;refine Ws fun Z hZ=>?_;simp (config := { maxSteps := 4000000 }) only [go_sem,seval,hi17'];refine hZ _ (pp (Wk_seq ?_));try simp only [Int.ofNat_lt,hi5',hi17',if_true,if_false] at h
 refine bc rfl (aP (pp ?_));unfold iB at h;refine Wk_seq ?_;obtain ⟨r34,hr27,h⟩:=Option.bind_eq_some_iff.1 h;refine ai fun Z hZ=>?_;simp (config := { maxSteps := 4000000 }) only [go_sem,seval,hr27,aD N l19 r34 hr27];refine hZ _ (pp (Wk_seq (al (fV (fun (b:List ag × List ae × List Int × List Int × List Int × List ae × List Int × List Int)=>⟨tab 106 (updT (updT (updT (updT deadT 2 (.pal 91 [] 0 b.2.2.2.2.2.2.1.length none)) 3 (.pal 46 [] 0 r14.length none)) 4 (.pref 15 [] 0 0)) 9 (.pal 103 [] 0 b.2.2.2.2.2.2.2.length none)),(upd (upd (upd (upd RZ 15 (.sl true none 6 (some 1) [[.sl true none 2 none (b.1.map ag.rowD),.sl true none 2 none (b.2.1.map ae.row),.sl true none 1 none (b.2.2.1.map (rowI .i64)),.sl true none 1 none (b.2.2.2.1.map (rowI .i64)),.sl true none 1 none (b.2.2.2.2.1.map (rowI .i64)),.sl true none 2 none (b.2.2.2.2.2.1.map ae.row)]])) 46 (.sl true none 1 none (r14.map (rowI .i64)))) 91 (.sl true none 1 none (b.2.2.2.2.2.2.1.map (rowI .i64)))) 103 (.sl true none 1 none (b.2.2.2.2.2.2.2.map (rowI .i64))))⟩) (r15.stacks,r15.prepared,r15.known,r15.committed,r15.aborted,r15.deps,[],r34) h ?_ ?_))))
 ·refine Weak.trans (ko 2 91 1 (by simp only [go_sem,seval]) (by simp only [go_sem,seval])) (Weak.trans (qO 9 72 103 (by decide) (by decide) (by simp only [go_sem,seval]) (by simp only [go_sem,seval]; rfl) (by simp only [go_sem,seval]; rfl) (by first|(simp; done)|simp only [go_sem,seval,aD N l19 r34 hr27])) ?_);refine wr ?_ ?_<;>repeat' first|rfl|constructor|simp only [go_sem,seval,aD N l19 r34 hr27]
 rintro n ⟨l35,l36,l37,l38,l39,l40,l41,l42⟩ h -;cases n with
 | zero=>simp [iy] at h
 | succ n=>
 simp only [iy] at h;refine Wk_seq (Ws fun Z hZ=>?_);simp (config := { maxSteps := 4000000 }) only [go_sem,seval];refine hZ _ (pp (sw (am rfl) (fun hc28=>?_) (fun hc28=>?_)))
 ·have hc28d:=decide_eq_false hc28;first|rw [if_neg hc28] at h|rw [if_neg (ne_true_of_eq_false hc28d)] at h|simp only [hc28d,Bool.not_true,Bool.not_false,Bool.false_eq_true,if_true,if_false] at h
  refine aP (pp (Ws fun Z hZ=>?_));simp (config := { maxSteps := 4000000 }) only [go_sem,seval,hc28d];refine hZ _ (pp (Wk_ret (pp ?_)));obtain rfl:=Option.some.inj h;simp (config := { maxSteps := 4000000 }) only [go_sem,seval];exact ⟨_,rfl,(by repeat' (first|exact ROk.refl _|exact ROk.nil _|((refine ROk.of _ ?_ ?_); (focus ((repeat' (first|exact Le.refl _|exact LeL.nil|exact Le.nils|exact LeLL.refl _|refine LeLL.mapAppend ?_ ?_|refine LeLL.cons ?_ ?_|refine Le.sl ?_|refine Le.tup ?_|refine Le.agg ?_|refine LeL.cons ?_ ?_)); done)); (focus ((repeat' (first|exact NoOwn.val _|exact NoOwn.sl _ _ _ _|refine NoOwn.tup ?_|refine NoOwn.agg ?_|exact pU|refine oM ?_ ?_)); done)))|((refine ROk.own ?_ ?_); (focus ((repeat' (first|exact Le.refl _|exact LeL.nil|exact Le.nils|exact LeLL.refl _|refine LeLL.mapAppend ?_ ?_|refine LeLL.cons ?_ ?_|refine Le.sl ?_|refine Le.tup ?_|refine Le.agg ?_|refine LeL.cons ?_ ?_)); done)); (focus ((first|exact RowOk.noOwn (fy .i64) _|exact RowOk.noOwn ae.row_ok _|exact RowOk.noOwn ah.row_ok _|exact RowOk.noOwn ag.row_ok _); done)))|refine ROk.agg rfl ?_|refine ROk.tup rfl ?_|exact qv|refine pw ?_ ?_)),(by (repeat' (first|exact PureC.val _|refine PureC.tup ?_|refine PureC.agg ?_|exact eC|refine aR ?_ ?_|refine PureC.sl ?_|exact bG (sY .i64) _|exact bG ae.row_pure _|exact bG ah.row_pure _ |  exact mO|refine kP ?_ ?_|refine mq ?_ ?_)))⟩
 have hc28d:=decide_eq_true hc28;first|rw [if_pos hc28] at h|rw [if_pos hc28d] at h|simp only [hc28d,Bool.not_true,Bool.not_false,Bool.false_eq_true,if_true,if_false] at h
 refine ak (pp (al (Wk_seq ?_)));obtain ⟨r35,hr29,h⟩:=Option.bind_eq_some_iff.1 h;refine ai fun Z hZ=>?_;simp (config := { maxSteps := 4000000 }) only [go_sem,seval,hc28d,hr29];refine hZ _ (pp (Wk_seq (Ws fun Z hZ=>?_)));simp (config := { maxSteps := 4000000 }) only [go_sem,seval];refine hZ _ (pp (am rfl (fun hc30=>?_) (fun hc30=>?_)))
 ·have hc30d:=decide_eq_true hc30;first|rw [if_pos hc30] at h|rw [if_pos hc30d] at h|simp only [hc30d,Bool.not_true,Bool.not_false,Bool.false_eq_true,if_true,if_false] at h
  refine aP (pp (Ws fun Z hZ=>?_));simp (config := { maxSteps := 4000000 }) only [go_sem,seval,hc30d];refine hZ _ (pp (Wk_ret (pp ?_)));obtain rfl:=Option.some.inj h;simp (config := { maxSteps := 4000000 }) only [go_sem,seval];exact ⟨_,rfl,(by repeat' (first|exact ROk.refl _|exact ROk.nil _|((refine ROk.of _ ?_ ?_); (focus ((repeat' (first|exact Le.refl _|exact LeL.nil|exact Le.nils|exact LeLL.refl _|refine LeLL.mapAppend ?_ ?_|refine LeLL.cons ?_ ?_|refine Le.sl ?_|refine Le.tup ?_|refine Le.agg ?_|refine LeL.cons ?_ ?_)); done)); (focus ((repeat' (first|exact NoOwn.val _|exact NoOwn.sl _ _ _ _|refine NoOwn.tup ?_|refine NoOwn.agg ?_|exact pU|refine oM ?_ ?_)); done)))|((refine ROk.own ?_ ?_); (focus ((repeat' (first|exact Le.refl _|exact LeL.nil|exact Le.nils|exact LeLL.refl _|refine LeLL.mapAppend ?_ ?_|refine LeLL.cons ?_ ?_|refine Le.sl ?_|refine Le.tup ?_|refine Le.agg ?_|refine LeL.cons ?_ ?_)); done)); (focus ((first|exact RowOk.noOwn (fy .i64) _|exact RowOk.noOwn ae.row_ok _|exact RowOk.noOwn ah.row_ok _|exact RowOk.noOwn ag.row_ok _); done)))|refine ROk.agg rfl ?_|refine ROk.tup rfl ?_|exact qv|refine pw ?_ ?_)),(by (repeat' (first|exact PureC.val _|refine PureC.tup ?_|refine PureC.agg ?_|exact eC|refine aR ?_ ?_|refine PureC.sl ?_|exact bG (sY .i64) _|exact bG ae.row_pure _|exact bG ah.row_pure _ |  exact mO|refine kP ?_ ?_|refine mq ?_ ?_)))⟩
 have hc30d:=decide_eq_false hc30;first|rw [if_neg hc30] at h|rw [if_neg (ne_true_of_eq_false hc30d)] at h|simp only [hc30d,Bool.not_true,Bool.not_false,Bool.false_eq_true,if_true,if_false] at h
 refine ak (pp (Wk_seq ?_));obtain ⟨x36,hb31,hx32,h⟩:=aI h;obtain ⟨ha33,h⟩:=bk h;simp only [List.length_cons,List.length_nil,Nat.zero_add,Nat.reduceAdd] at ha33;refine ai fun Z hZ=>?_;simp (config := { maxSteps := 4000000 }) only [go_sem,seval,hc30d,hb31,hx32,ha33];refine hZ _ (pp (Wk_seq ?_));obtain ⟨hs34,h⟩:=gR h;try simp only [Int.toNat_natCast,Int.reduceToNat,Int.toNat_zero,Nat.sub_zero,List.drop_zero] at hs34 h
 obtain ⟨r37,hr35,h⟩:=Option.bind_eq_some_iff.1 h;refine ai fun Z hZ=>?_;simp (config := { maxSteps := 4000000 }) only [go_sem,seval,hb31,hs34,hr35];refine hZ _ (pp ?_);obtain ⟨r38,hr36,h⟩:=Option.bind_eq_some_iff.1 h;refine ai fun Z hZ=>?_;simp (config := { maxSteps := 4000000 }) only [go_sem,seval,hr36];refine hZ _ (pp (⟨_,Nat.lt_succ_self _,(r37.stacks,r37.prepared,r37.known,r37.committed,r37.aborted,r37.deps,(l41++[x36]),r38),?_,h⟩));refine wr ?_ ?_<;>repeat' first|rfl|constructor|simp only [go_sem,seval,Bool.or_self]
def lY (N:Nat):FnS:=⟨[],true,fn1 (decL 3 ah.dec) fun q0=>(dz N q0).map fun r=>.tup [.sl false none 1 none (r.1.map (rowI .i64)),.sl false none 1 none (r.2.map (rowI .i64))],false⟩
attribute [go_sem] lY
theorem pN (N:Nat):FSOk Tryz.prog 14 (lY N):=ok1 (fun q0 r h=>by
 obtain ⟨r',hr,rfl⟩:=Option.map_eq_some_iff.1 h;exact (rp N q0 r' hr).res (by first|((try simp only [go_sem]); exact RokI.h)|(repeat' (first|exact ROk.refl _|exact ROk.nil _|((refine ROk.of _ ?_ ?_); (focus ((repeat' (first|exact Le.refl _|exact LeL.nil|exact Le.nils|exact LeLL.refl _|refine LeLL.mapAppend ?_ ?_|refine LeLL.cons ?_ ?_|refine Le.sl ?_|refine Le.tup ?_|refine Le.agg ?_|refine LeL.cons ?_ ?_)); done)); (focus ((repeat' (first|exact NoOwn.val _|exact NoOwn.sl _ _ _ _|refine NoOwn.tup ?_|refine NoOwn.agg ?_|exact pU|refine oM ?_ ?_)); done)))|((refine ROk.own ?_ ?_); (focus ((repeat' (first|exact Le.refl _|exact LeL.nil|exact Le.nils|exact LeLL.refl _|refine LeLL.mapAppend ?_ ?_|refine LeLL.cons ?_ ?_|refine Le.sl ?_|refine Le.tup ?_|refine Le.agg ?_|refine LeL.cons ?_ ?_)); done)); (focus ((first|exact RowOk.noOwn (fy .i64) _|exact RowOk.noOwn ae.row_ok _|exact RowOk.noOwn ah.row_ok _|exact RowOk.noOwn ag.row_ok _); done)))|refine ROk.agg rfl ?_|refine ROk.tup rfl ?_|exact qv|refine pw ?_ ?_)))) (fun h=>ar ah.dec_le h)

def qm (N:Nat):FnS:=⟨[],true,fn1 (decL 3 ah.dec) fun q0=>(dz N q0).map fun r=>.tup [.sl true none 1 none (r.1.map (rowI .i64)),.sl true none 1 none (r.2.map (rowI .i64))],false⟩
attribute [go_sem] qm
theorem Cd (N:Nat):FSOk Tryz.prog 14 (qm N):=ok1 (fun q0 r h=>by
 obtain ⟨r',hr,rfl⟩:=Option.map_eq_some_iff.1 h;exact rp N q0 r' hr) (fun h=>ar ah.dec_le h)


noncomputable def sP (N d f:Nat):Option FnL:=llist [(8,30,fX N)] d f
attribute [go_sem] sP
theorem y9 (N:Nat) (a0:(List ah)) (r:Int × Bool) (h:eb N a0=some r):Con Tryz.prog 15 [] true [.sl false none 3 none (a0.map ah.row)] (.tup [.val (.int .i64 r.1),.val (.bool r.2)]):=by
 refine kI (G:=(glist [])) (L:=(sP N)) Tryz.func15 rfl (by decide) (by kernel_rfl) gn (lc 8 (i4 N) ln) [] mix (Nat.le_of_ble_eq_true rfl) ?_;simp only [Tryz.f15];unfold eb at h;refine Ws fun Z hZ=>?_;simp only [go_sem,seval];refine hZ _ (pp (Wk_seq (Wk_seq ?_)));obtain ⟨r1,hr1,h⟩:=Option.bind_eq_some_iff.1 h;refine ai fun Z hZ=>?_;simp only [go_sem,seval,hr1];refine hZ _ (pp (Ws fun Z hZ=>?_));simp only [go_sem,seval];refine hZ _ (pp (am rfl (fun hc2=>?_) (fun hc2=>?_)))
 ·have hc2d:=decide_eq_true hc2;rw [if_pos hc2] at h;refine Ws fun Z hZ=>?_;simp only [go_sem,seval,hc2d];refine hZ _ (pp (Wk_ret (pp ?_)));obtain rfl:=Option.some.inj h;simp only [go_sem,seval];exact ⟨_,rfl,RokI.h,PureI.h⟩
 have hc2d:=decide_eq_false hc2;rw [if_neg hc2] at h;refine ak (pp (Ws fun Z hZ=>?_));simp only [go_sem,seval,hc2d];refine hZ _ (pp (Wk_ret (pp ?_)));obtain rfl:=Option.some.inj h;simp only [go_sem,seval];exact ⟨_,rfl,RokI.h,PureI.h⟩
def ld (N:Nat):FnS:=⟨[],true,fn1 (decL 3 ah.dec) fun q0=>(eb N q0).map fun r=>.tup [.val (.int .i64 r.1),.val (.bool r.2)],false⟩
attribute [go_sem] ld
theorem m3 (N:Nat):FSOk Tryz.prog 15 (ld N):=ok1 (fun q0 r h=>by
 obtain ⟨r',hr,rfl⟩:=Option.map_eq_some_iff.1 h;exact y9 N q0 r' hr) (fun h=>ar ah.dec_le h)


noncomputable def sL (N d f:Nat):Option FnL:=llist [(7,30,fX N)] d f
attribute [go_sem] sL
theorem s7 (N:Nat) (a0:(List ah)) (r:(List Int)) (h:eW N a0=some r):Con Tryz.prog 16 [] true [.sl false none 3 none (a0.map ah.row)] (.sl true none 1 none (r.map (rowI .i64))):=by
 refine kI (G:=(glist [])) (L:=(sL N)) Tryz.func16 rfl (by decide) (by kernel_rfl) gn (lc 7 (i4 N) ln) [] mix (Nat.le_of_ble_eq_true rfl) ?_;simp only [Tryz.f16];unfold eW at h;refine Ws fun Z hZ=>?_;simp only [go_sem,seval];refine hZ _ (pp (Wk_seq ?_));obtain ⟨r1,hr1,h⟩:=Option.bind_eq_some_iff.1 h;refine ai fun Z hZ=>?_;simp only [go_sem,seval,hr1];refine hZ _ (pp (Wk_seq (Ws fun Z hZ=>?_)));simp only [go_sem,seval];refine hZ _ (pp (am rfl (fun hc2=>?_) (fun hc2=>?_)))
 ·have hc2d:=decide_eq_true hc2;rw [if_pos hc2] at h;refine Ws fun Z hZ=>?_;simp only [go_sem,seval,hc2d];refine hZ _ (pp (Wk_ret (pp ?_)));obtain rfl:=Option.some.inj h;simp only [go_sem,seval];exact ⟨_,rfl,RokI.h,PureI.h⟩
 have hc2d:=decide_eq_false hc2;rw [if_neg hc2] at h;refine ak (pp (Ws fun Z hZ=>?_));simp only [go_sem,seval,hc2d];refine hZ _ (pp (Wk_ret (pp ?_)));obtain rfl:=Option.some.inj h;simp only [go_sem,seval];exact ⟨_,rfl,RokI.h,PureI.h⟩
def mD (N:Nat):FnS:=⟨[],true,fn1 (decL 3 ah.dec) fun q0=>(eW N q0).map fun r=>.sl false none 1 none (r.map (rowI .i64)),false⟩
attribute [go_sem] mD
theorem qo (N:Nat):FSOk Tryz.prog 16 (mD N):=ok1 (fun q0 r h=>by
 obtain ⟨r',hr,rfl⟩:=Option.map_eq_some_iff.1 h;exact (s7 N q0 r' hr).res (by (try simp only [go_sem]); exact RokI.h)) (fun h=>ar ah.dec_le h)

def rr (N:Nat):FnS:=⟨[],true,fn1 (decL 3 ah.dec) fun q0=>(eW N q0).map fun r=>.sl true none 1 none (r.map (rowI .i64)),false⟩
attribute [go_sem] rr
theorem De (N:Nat):FSOk Tryz.prog 16 (rr N):=ok1 (fun q0 r h=>by
 obtain ⟨r',hr,rfl⟩:=Option.map_eq_some_iff.1 h;exact s7 N q0 r' hr) (fun h=>ar ah.dec_le h)

end Go.Proofs.YtekgpnhfhkhpaaaGreat
