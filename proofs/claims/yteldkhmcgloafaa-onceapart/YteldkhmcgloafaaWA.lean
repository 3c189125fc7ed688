/- Walks: each function computes its model. No condition. -/
import Derived.Test.YteldkhmcgloafaaV
/- Each Go function computes its model: proofs laid by a program of ours. -/
set_option maxHeartbeats 40000000
set_option synthInstance.maxHeartbeats 2000000
set_option synthInstance.maxSize 4000
set_option linter.unusedSimpArgs false
set_option linter.unusedVariables false
set_option maxRecDepth 100000
namespace Go.Proofs.Yteldkhmcgloafaa
open Go Go.Proofs Go.Abs
theorem vK (N:Nat) (a0:ByteArray) (r:Bool) (h:gb N a0=some r):Con Try.prog 26 [] true [.val (.string a0)] (.val (.bool r)):=by
 refine aJ (G:=(glist [])) Try.func26 rfl (by decide) (by kernel_rfl) gn [] mix (Nat.le_of_ble_eq_true rfl) ?_;simp only [Try.f26];unfold gb at h;refine Ws fun Z hZ=>?_;simp only [go_sem,seval];refine hZ _ (pp (Ws fun Z hZ=>?_));simp only [go_sem,seval];refine ah rfl (fun hc1=>?_) (fun hc1=>?_)
 ·have hc1d:=decide_eq_true hc1;rw [if_pos hc1] at h;simp only [go_sem,seval,hc1d];refine hZ _ (pp (Wk_ret (pp ?_)));cases h;simp only [go_sem,seval];exact ⟨_,rfl,RokI.h,PureI.h⟩
 have hc1d:=decide_eq_false hc1;rw [if_neg hc1] at h;simp only [go_sem,seval,hc1d];refine hZ _ (pp (Wk_ret (pp ?_)));cases h;simp only [go_sem,seval];exact ⟨_,rfl,RokI.h,PureI.h⟩
def gO (N:Nat):FnS:=⟨[],true,fn1 decS fun q0=>(gb N q0).map fun r=>.val (.bool r),false⟩
attribute [go_sem] gO
theorem ja (N:Nat):FSOk Try.prog 26 (gO N):=ok1 (fun q0 r h=>by
 obtain ⟨r',hr,rfl⟩:=Option.map_eq_some_iff.1 h;exact vK N q0 r' hr) (ba)


theorem rl (N:Nat) (a0:(List Int)) (a1:Int) (r:Int) (h:gC N a0 a1=some r):Con Try.prog 76 [] true [.sl false none 1 none (a0.map (rowI .i64)),.val (.int .i64 a1)] (.val (.int .i64 r)):=by
 refine aJ (G:=(glist [])) Try.func76 rfl (by decide) (by kernel_rfl) gn [] mix (Nat.le_of_ble_eq_true rfl) ?_;simp only [Try.f76];unfold gC at h;refine Ws fun Z hZ=>?_;simp only [go_sem,seval];refine hZ _ (pp (Wk_seq (Ws fun Z hZ=>?_)));simp only [go_sem,seval];refine hZ _ (pp (ak (eM fun hreal2=>?_)));have hl1:=hreal2.lenT 0 (by decide) (by simp only [go_sem,seval]; rfl);first|rw [List.length_map] at hl1|rw [dB] at hl1|rw [<-List.map_append,List.length_map] at hl1
 refine eC (fun (v2:Nat) (b:Unit)=>⟨tab 19 (updT (updT (updT (updT deadT 0 (.sl false none 1 none (a0.map (rowI .i64)))) 1 (.val (.int .i64 a1))) 7 (.val (.int .i64 ((a0.length:Nat):Int)))) 8 (.val (.int .i64 ((v2:Nat):Int)))),RZ⟩) () h ?_ ?_
 ·refine wr ?_ ?_<;>repeat' first|rfl|constructor
 rintro v2 ⟨⟩ hi3 h -;rcases (dG a0 v2 hi3).symm with ⟨hi3',_,hd6⟩|⟨x5,hi3',hx4,hd6⟩
 ·rw [hd6] at h;simp only [eu] at h;refine Ws fun Z hZ=>?_;simp only [go_sem,seval,hi3'];refine hZ _ (pp (Wk_seq ?_));try simp only [Int.ofNat_lt,hi3',if_true,if_false] at h
  refine bL rfl (b9 (pp (Ws fun Z hZ=>?_)));simp only [go_sem,seval];refine hZ _ (pp (Wk_ret (pp ?_)));cases h;simp only [go_sem,seval];exact ⟨_,rfl,RokI.h,PureI.h⟩
 rw [hd6] at h;simp only [eu] at h;have hw5:=dw hi3' hl1;refine Ws fun Z hZ=>?_;simp only [go_sem,seval,hi3'];refine hZ _ (pp (Wk_seq ?_));try simp only [Int.ofNat_lt,hi3',if_true,if_false] at h
 refine bZ rfl (ai (pp (Wk_seq (ak (Ws fun Z hZ=>?_)))));simp only [go_sem,seval];refine hZ _ (pp (Wk_seq ?_));try rw [gx_nat hx4] at h
 refine aa fun Z hZ=>?_;simp only [go_sem,seval,hx4,hi3'];refine hZ _ (pp (bq rfl (fun hc7=>?_) (fun hc7=>?_)))
 ·have hc7d:=decide_eq_true hc7;rw [if_pos hc7] at h;refine Ws fun Z hZ=>?_;simp only [go_sem,seval,hc7d];refine hZ _ (pp (Wk_ret (pp ?_)));cases h;simp only [go_sem,seval];exact ⟨_,rfl,RokI.h,PureI.h⟩
 have hc7d:=decide_eq_false hc7;rw [if_neg hc7] at h;refine ai (pp (aa fun Z hZ=>?_));simp only [go_sem,seval,hw5,hc7d];refine hZ _ (pp ?_);first|refine ⟨(),?_,h⟩|refine ⟨hi3',(),?_,h⟩
 refine wr ?_ ?_<;>repeat' first|rfl|constructor
def jx (N:Nat):FnS:=⟨[],true,fn2 (decL 1 (dec1 (decI .i64))) (decI .i64) fun q0 q1=>(gC N q0 q1).map fun r=>.val (.int .i64 r),false⟩
attribute [go_sem] jx
theorem pf (N:Nat):FSOk Try.prog 76 (jx N):=ok2 (fun q0 q1 r h=>by
 obtain ⟨r',hr,rfl⟩:=Option.map_eq_some_iff.1 h;exact rl N q0 q1 r' hr) (fun h=>au (bQ .i64) h) (aj)


noncomputable def kH (N d f:Nat):Option FnS:=glist [(7,76,jx N)] d f
attribute [go_sem] kH
theorem py (N:Nat) (a0:(List Int)) (a1:Int) (r:Bool) (h:et N a0 a1=some r):Con Try.prog 71 [] true [.sl false none 1 none (a0.map (rowI .i64)),.val (.int .i64 a1)] (.val (.bool r)):=by
 refine aJ (G:=(kH N)) Try.func71 rfl (by decide) (by kernel_rfl) (gc 7 (pf N) gn) [] mix (Nat.le_of_ble_eq_true rfl) ?_;simp only [Try.f71];unfold et at h;refine Ws fun Z hZ=>?_;simp only [go_sem,seval];refine hZ _ (pp (Wk_seq ?_));obtain ⟨r1,hr1,h⟩:=Option.bind_eq_some_iff.1 h;refine aa fun Z hZ=>?_;simp only [go_sem,seval,hr1];refine hZ _ (pp (Wk_ret (pp ?_)));cases h;simp only [go_sem,seval];exact ⟨_,rfl,RokI.h,PureI.h⟩
def iD (N:Nat):FnS:=⟨[],true,fn2 (decL 1 (dec1 (decI .i64))) (decI .i64) fun q0 q1=>(et N q0 q1).map fun r=>.val (.bool r),false⟩
attribute [go_sem] iD
theorem mZ (N:Nat):FSOk Try.prog 71 (iD N):=ok2 (fun q0 q1 r h=>by
 obtain ⟨r',hr,rfl⟩:=Option.map_eq_some_iff.1 h;exact py N q0 q1 r' hr) (fun h=>au (bQ .i64) h) (aj)


theorem tn (N:Nat) (a0:Int) (r:Bool) (h:fB N a0=some r):Con Try.prog 27 [] true [.val (.int .i64 a0)] (.val (.bool r)):=by
 refine aJ (G:=(glist [])) Try.func27 rfl (by decide) (by kernel_rfl) gn [] mix (Nat.le_of_ble_eq_true rfl) ?_;simp only [Try.f27];unfold fB at h;refine Ws fun Z hZ=>?_;simp only [go_sem,seval];refine hZ _ (pp (Ws fun Z hZ=>?_));simp only [go_sem,seval];refine ah rfl (fun hc1=>?_) (fun hc1=>?_)
 ·have hc1d:=decide_eq_true hc1;rw [if_pos hc1] at h;simp only [go_sem,seval,hc1d];refine hZ _ (pp (Wk_ret (pp ?_)));cases h;simp only [go_sem,seval];exact ⟨_,rfl,RokI.h,PureI.h⟩
 have hc1d:=decide_eq_false hc1;rw [if_neg hc1] at h;simp only [go_sem,seval,hc1d];refine hZ _ (pp (Wk_ret (pp ?_)));cases h;simp only [go_sem,seval];exact ⟨_,rfl,RokI.h,PureI.h⟩
def iu (N:Nat):FnS:=⟨[],true,fn1 (decI .i64) fun q0=>(fB N q0).map fun r=>.val (.bool r),false⟩
attribute [go_sem] iu
theorem jJ (N:Nat):FSOk Try.prog 27 (iu N):=ok1 (fun q0 r h=>by
 obtain ⟨r',hr,rfl⟩:=Option.map_eq_some_iff.1 h;exact tn N q0 r' hr) (aj)


theorem rM (N:Nat) (a0:Value) (r:Bool) (h:fJ N a0=some r):Con Try.prog 51 [] true [.agg (Value.row a0)] (.val (.bool r)):=by
 refine aJ (G:=(glist [])) Try.func51 rfl (by decide) (by kernel_rfl) gn [] mix (Nat.le_of_ble_eq_true rfl) ?_;simp only [Try.f51];unfold fJ at h;refine Ws fun Z hZ=>?_;simp only [go_sem,seval];refine hZ _ (pp (Wk_seq ?_));apply dI (fun (c3:Bool)=>⟨tab 86 (updT (updT deadT 1 (.pref 1 [] 0 0)) 12 (.val (.bool c3))),(upd RZ 1 (.sl true none 5 (some 1) [Value.row a0]))⟩)
 ·intro hJ1;refine aa fun Z hZ=>?_;simp only [go_sem,seval];refine ah rfl (fun hc2=>?_) (fun hc2=>?_)
  ·have hc2d:=decide_eq_true hc2;rw [if_pos hc2] at h;simp only [go_sem,seval,hc2d];refine hZ _ (pp (hJ1 _ true ?_ h));refine wr ?_ ?_<;>repeat' first|rfl|constructor|simp only [go_sem,seval,Bool.or_self,List.length_set,Int.natCast_zero,Int.cast_ofNat_Int,hc2d]
  have hc2d:=decide_eq_false hc2;rw [if_neg hc2] at h;simp only [go_sem,seval,hc2d];refine hZ _ (pp (hJ1 _ (decide (5 < a0.Kind)) ?_ h));refine wr ?_ ?_<;>repeat' first|rfl|constructor|simp only [go_sem,seval,Bool.or_self,List.length_set,Int.natCast_zero,Int.cast_ofNat_Int,hc2d]
 intro c3 h;unfold iz at h;refine aM rfl (fun hc3=>?_) (fun hc3=>?_)
 ·rw [if_pos hc3] at h;refine Ws fun Z hZ=>?_;simp only [go_sem,seval,hc3];refine hZ _ (pp (Wk_ret (pp ?_)));cases h;simp only [go_sem,seval];exact ⟨_,rfl,RokI.h,PureI.h⟩
 rw [if_neg (ne_true_of_eq_false hc3)] at h;refine ai (pp ?_);unfold iw at h;refine Wk_seq (ak ?_);apply dI (fun (c12:Bool)=>⟨tab 86 (updT (updT deadT 1 (.pref 1 [] 0 0)) 13 (.val (.bool c12))),(upd RZ 1 (.sl true none 5 (some 1) [Value.row a0]))⟩)
 ·intro hJ4;refine aa fun Z hZ=>?_;simp only [go_sem,seval,hc3];refine sw (jl rfl) (fun hc5=>?_) (fun hc5=>?_)
  ·have hc5d:=decide_eq_true hc5;rw [if_pos hc5] at h;simp only [go_sem,seval,hc5d];refine hZ _ (pp (hJ4 _ false ?_ h));refine wr ?_ ?_<;>repeat' first|rfl|constructor|simp only [go_sem,seval,Bool.or_self,List.length_set,Int.natCast_zero,Int.cast_ofNat_Int,hc3,hc5d]
  have hc5d:=decide_eq_false hc5;rw [if_neg hc5] at h;simp only [go_sem,seval,hc5d];refine sw (jl rfl) (fun hc6=>?_) (fun hc6=>?_)
  ·have hc6d:=decide_eq_true hc6;rw [if_pos hc6] at h;simp only [go_sem,seval,hc6d];refine hZ _ (pp (hJ4 _ false ?_ h));refine wr ?_ ?_<;>repeat' first|rfl|constructor|simp only [go_sem,seval,Bool.or_self,List.length_set,Int.natCast_zero,Int.cast_ofNat_Int,hc3,hc5d,hc6d]
  have hc6d:=decide_eq_false hc6;rw [if_neg hc6] at h;simp only [go_sem,seval,hc6d];refine jl rfl (fun hc7=>?_) (fun hc7=>?_)
  ·have hc7d:=decide_eq_false hc7;rw [if_neg hc7] at h;simp only [go_sem,seval,hc7d];refine hZ _ (pp (hJ4 _ true ?_ h));refine wr ?_ ?_<;>repeat' first|rfl|constructor|simp only [go_sem,seval,Bool.or_self,List.length_set,Int.natCast_zero,Int.cast_ofNat_Int,hc3,hc5d,hc6d,hc7d]
  have hc7d:=decide_eq_true hc7;rw [if_pos hc7] at h;simp only [go_sem,seval,hc7d];refine hZ _ (pp (hJ4 _ (!decide (a0.N=1)) ?_ h));refine wr ?_ ?_<;>repeat' first|rfl|constructor|simp only [go_sem,seval,Bool.or_self,List.length_set,Int.natCast_zero,Int.cast_ofNat_Int,hc3,hc5d,hc6d,hc7d]
 intro c12 h;unfold eP at h;refine aM rfl (fun hc8=>?_) (fun hc8=>?_)
 ·rw [if_pos hc8] at h;refine Ws fun Z hZ=>?_;simp only [go_sem,seval,hc8];refine hZ _ (pp (Wk_ret (pp ?_)));cases h;simp only [go_sem,seval];exact ⟨_,rfl,RokI.h,PureI.h⟩
 rw [if_neg (ne_true_of_eq_false hc8)] at h;apply dI (fun (c17:Bool)=>⟨tab 86 (updT (updT deadT 1 (.pref 1 [] 0 0)) 32 (.val (.bool c17))),(upd RZ 1 (.sl true none 5 (some 1) [Value.row a0]))⟩)
 ·intro hJ9;apply dI (fun (c18:Bool)=>⟨tab 86 (updT (updT deadT 1 (.pref 1 [] 0 0)) 32 (.val (.bool c18))),(upd RZ 1 (.sl true none 5 (some 1) [Value.row a0]))⟩)
  ·intro hJ10;refine aa fun Z hZ=>?_;simp only [go_sem,seval,hc8];refine da rfl (fun hc11=>?_) (fun hc11=>?_)
   ·rw [if_neg (ne_true_of_eq_false hc11)] at h;simp only [go_sem,seval,hc11];refine hZ _ (pp (hJ10 _ (!decide (a0.Kind=3)) ?_ h));refine wr ?_ ?_<;>repeat' first|rfl|constructor|simp only [go_sem,seval,Bool.or_self,List.length_set,Int.natCast_zero,Int.cast_ofNat_Int,hc3,hc8,hc11]
   rw [if_pos hc11] at h;simp only [go_sem,seval,hc11];refine hZ _ (pp (hJ10 _ false ?_ h));refine wr ?_ ?_<;>repeat' first|rfl|constructor|simp only [go_sem,seval,Bool.or_self,List.length_set,Int.natCast_zero,Int.cast_ofNat_Int,hc3,hc8,hc11]
  intro c18 h;unfold iy at h;refine aM rfl (fun hc12=>?_) (fun hc12=>?_)
  ·rw [if_pos hc12] at h;refine ai (pp (hJ9 _ true ?_ h));refine wr ?_ ?_<;>repeat' first|rfl|constructor|simp only [go_sem,seval,hc12]
  rw [if_neg (ne_true_of_eq_false hc12)] at h;apply dI (fun (c19:Bool)=>⟨tab 86 (updT (updT deadT 1 (.pref 1 [] 0 0)) 32 (.val (.bool c19))),(upd RZ 1 (.sl true none 5 (some 1) [Value.row a0]))⟩)
  ·intro hJ13;refine aa fun Z hZ=>?_;simp only [go_sem,seval,hc12];refine ah rfl (fun hc14=>?_) (fun hc14=>?_)
   ·have hc14d:=decide_eq_true hc14;rw [if_pos hc14] at h;simp only [go_sem,seval,hc14d];refine hZ _ (pp (hJ13 _ (!decide (a0.Kind=4)) ?_ h));refine wr ?_ ?_<;>repeat' first|rfl|constructor|simp only [go_sem,seval,Bool.or_self,List.length_set,Int.natCast_zero,Int.cast_ofNat_Int,hc3,hc8,hc12,hc14d]
   have hc14d:=decide_eq_false hc14;rw [if_neg hc14] at h;simp only [go_sem,seval,hc14d];refine hZ _ (pp (hJ13 _ false ?_ h));refine wr ?_ ?_<;>repeat' first|rfl|constructor|simp only [go_sem,seval,Bool.or_self,List.length_set,Int.natCast_zero,Int.cast_ofNat_Int,hc3,hc8,hc12,hc14d]
  intro c19 h;unfold ij at h;refine aM rfl (fun hc15=>?_) (fun hc15=>?_)
  ·rw [if_pos hc15] at h;refine ai (pp (hJ9 _ true ?_ h));refine wr ?_ ?_<;>repeat' first|rfl|constructor|simp only [go_sem,seval,hc15]
  rw [if_neg (ne_true_of_eq_false hc15)] at h;refine aa fun Z hZ=>?_;simp only [go_sem,seval,hc15];refine ah rfl (fun hc16=>?_) (fun hc16=>?_)
  ·have hc16d:=decide_eq_true hc16;rw [if_pos hc16] at h;simp only [go_sem,seval,hc16d];refine hZ _ (pp (hJ9 _ (!decide (a0.Kind=5)) ?_ h));refine wr ?_ ?_<;>repeat' first|rfl|constructor|simp only [go_sem,seval,Bool.or_self,List.length_set,Int.natCast_zero,Int.cast_ofNat_Int,hc3,hc8,hc12,hc15,hc16d]
  have hc16d:=decide_eq_false hc16;rw [if_neg hc16] at h;simp only [go_sem,seval,hc16d];refine hZ _ (pp (hJ9 _ false ?_ h));refine wr ?_ ?_<;>repeat' first|rfl|constructor|simp only [go_sem,seval,Bool.or_self,List.length_set,Int.natCast_zero,Int.cast_ofNat_Int,hc3,hc8,hc12,hc15,hc16d]
 intro c17 h;unfold iB at h;refine aM rfl (fun hc17=>?_) (fun hc17=>?_)
 ·rw [if_pos hc17] at h;refine Ws fun Z hZ=>?_;simp only [go_sem,seval,hc17];refine hZ _ (pp (Wk_ret (pp ?_)));cases h;simp only [go_sem,seval];exact ⟨_,rfl,RokI.h,PureI.h⟩
 rw [if_neg (ne_true_of_eq_false hc17)] at h;refine ai (pp ?_);unfold eN at h;refine Wk_seq ?_;apply dI (fun (c22:Bool)=>⟨tab 86 (updT (updT deadT 1 (.pref 1 [] 0 0)) 74 (.val (.bool c22))),(upd RZ 1 (.sl true none 5 (some 1) [Value.row a0]))⟩)
 ·intro hJ18;refine aa fun Z hZ=>?_;simp only [go_sem,seval,hc17];refine ah rfl (fun hc19=>?_) (fun hc19=>?_)
  ·have hc19d:=decide_eq_true hc19;rw [if_pos hc19] at h;simp only [go_sem,seval,hc19d];refine hZ _ (pp (hJ18 _ true ?_ h));refine wr ?_ ?_<;>repeat' first|rfl|constructor|simp only [go_sem,seval,Bool.or_self,List.length_set,Int.natCast_zero,Int.cast_ofNat_Int,hc3,hc8,hc17,hc19d]
  have hc19d:=decide_eq_false hc19;rw [if_neg hc19] at h;simp only [go_sem,seval,hc19d];refine ah rfl (fun hc20=>?_) (fun hc20=>?_)
  ·have hc20d:=decide_eq_true hc20;rw [if_pos hc20] at h;simp only [go_sem,seval,hc20d];refine hZ _ (pp (hJ18 _ true ?_ h));refine wr ?_ ?_<;>repeat' first|rfl|constructor|simp only [go_sem,seval,Bool.or_self,List.length_set,Int.natCast_zero,Int.cast_ofNat_Int,hc3,hc8,hc17,hc19d,hc20d]
  have hc20d:=decide_eq_false hc20;rw [if_neg hc20] at h;simp only [go_sem,seval,hc20d];refine hZ _ (pp (hJ18 _ (decide (16 < ((a0.L.length:Nat):Int))) ?_ h));refine wr ?_ ?_<;>repeat' first|rfl|constructor|simp only [go_sem,seval,Bool.or_self,List.length_set,Int.natCast_zero,Int.cast_ofNat_Int,hc3,hc8,hc17,hc19d,hc20d]
 intro c22 h;unfold fC at h;refine aM rfl (fun hc21=>?_) (fun hc21=>?_)
 ·rw [if_pos hc21] at h;refine Ws fun Z hZ=>?_;simp only [go_sem,seval,hc21];refine hZ _ (pp (Wk_ret (pp ?_)));cases h;simp only [go_sem,seval];exact ⟨_,rfl,RokI.h,PureI.h⟩
 rw [if_neg (ne_true_of_eq_false hc21)] at h;refine ai (pp ?_);unfold fE at h;refine Wk_seq (Ws fun Z hZ=>?_);simp only [go_sem,seval,hc21];refine hZ _ (pp (ak (eM fun hreal23=>?_)));have hl22:=hreal23.lenT 76 (by decide) (by simp only [go_sem,seval]; rfl);first|rw [List.length_map] at hl22|rw [dB] at hl22|rw [<-List.map_append,List.length_map] at hl22
 refine eC (fun (v17:Nat) (b:Unit)=>⟨tab 86 (updT (updT (updT deadT 76 (.sl false none 1 none (a0.L.map rowS))) 77 (.val (.int .i64 ((a0.L.length:Nat):Int)))) 78 (.val (.int .i64 ((v17:Nat):Int)))),RZ⟩) () h ?_ ?_
 ·refine wr ?_ ?_<;>repeat' first|rfl|constructor|simp only [go_sem,seval,Bool.or_self,List.length_set,Int.natCast_zero,Int.cast_ofNat_Int,hc3,hc8,hc17,hc21]
 rintro v17 ⟨⟩ hi24 h -;rcases (dG a0.L v17 hi24).symm with ⟨hi24',_,hd27⟩|⟨x20,hi24',hx25,hd27⟩
 ·rw [hd27] at h;simp only [eJ] at h;refine Ws fun Z hZ=>?_;simp only [go_sem,seval,hi24'];refine hZ _ (pp (Wk_seq ?_));try simp only [Int.ofNat_lt,hi24',if_true,if_false] at h
  refine bL rfl (b9 (pp (Ws fun Z hZ=>?_)));simp only [go_sem,seval];refine hZ _ (pp (Wk_ret (pp ?_)));cases h;simp only [go_sem,seval];exact ⟨_,rfl,RokI.h,PureI.h⟩
 rw [hd27] at h;simp only [eJ] at h;have hw26:=dw hi24' hl22;refine Ws fun Z hZ=>?_;simp only [go_sem,seval,hi24'];refine hZ _ (pp (Wk_seq ?_));try simp only [Int.ofNat_lt,hi24',if_true,if_false] at h
 refine bZ rfl (ai (pp (Wk_seq (ak (Wk_seq ?_)))));try rw [gx_nat hx25] at h
 refine aa fun Z hZ=>?_;simp only [go_sem,seval,hx25,hi24'];refine hZ _ (pp (Ws fun Z hZ=>?_));simp only [go_sem,seval];refine hZ _ (pp (bq rfl (fun hc28=>?_) (fun hc28=>?_)))
 ·have hc28d:=decide_eq_true hc28;rw [if_pos hc28] at h;refine Ws fun Z hZ=>?_;simp only [go_sem,seval,hc28d];refine hZ _ (pp (Wk_ret (pp ?_)));cases h;simp only [go_sem,seval];exact ⟨_,rfl,RokI.h,PureI.h⟩
 have hc28d:=decide_eq_false hc28;rw [if_neg hc28] at h;refine ai (pp (aa fun Z hZ=>?_));simp only [go_sem,seval,hw26,hc28d];refine hZ _ (pp ?_);first|refine ⟨(),?_,h⟩|refine ⟨hi24',(),?_,h⟩
 refine wr ?_ ?_<;>repeat' first|rfl|constructor|simp only [go_sem,seval,Bool.or_self,List.length_set,Int.natCast_zero,Int.cast_ofNat_Int,hc3,hc8,hc17,hc21,hx25,hi24',hw26,hc28d]
def jF (N:Nat):FnS:=⟨[],true,fn1 Value.decA fun q0=>(fJ N q0).map fun r=>.val (.bool r),false⟩
attribute [go_sem] jF
theorem pr (N:Nat):FSOk Try.prog 51 (jF N):=ok1 (fun q0 r h=>by
 obtain ⟨r',hr,rfl⟩:=Option.map_eq_some_iff.1 h;exact rM N q0 r' hr) (Value.decA_le)


noncomputable def mj (N d f:Nat):Option FnS:=glist [(5,26,gO N),(9,27,iu N),(30,51,jF N)] d f
attribute [go_sem] mj
theorem qE (N:Nat) (a0:Reply) (r:Bool) (h:eF N a0=some r):Con Try.prog 24 [] true [.agg (Reply.row a0)] (.val (.bool r)):=by
 refine aJ (G:=(mj N)) Try.func24 rfl (by decide) (by kernel_rfl) (gc 5 (ja N) (gc 9 (jJ N) (gc 30 (pr N) gn))) [] mix (Nat.le_of_ble_eq_true rfl) ?_;simp only [Try.f24];unfold eF at h;refine Ws fun Z hZ=>?_;simp only [go_sem,seval];refine hZ _ (pp (Wk_seq ?_));obtain ⟨r1,hr1,h⟩:=Option.bind_eq_some_iff.1 h;refine aa fun Z hZ=>?_;simp only [go_sem,seval,hr1];refine sw (db rfl) (fun hc2=>?_) (fun hc2=>?_)
 ·rw [if_neg (ne_true_of_eq_false hc2)] at h;simp only [go_sem,seval,hc2];refine hZ _ (pp (Wk_ret (pp ?_)));cases h;simp only [go_sem,seval];exact ⟨_,rfl,RokI.h,PureI.h⟩
 rw [if_pos hc2] at h;obtain ⟨r2,hr3,h⟩:=Option.bind_eq_some_iff.1 h;simp only [go_sem,seval,hc2,hr3];refine sw (db rfl) (fun hc4=>?_) (fun hc4=>?_)
 ·rw [if_neg (ne_true_of_eq_false hc4)] at h;simp only [go_sem,seval,hc4];refine hZ _ (pp (Wk_ret (pp ?_)));cases h;simp only [go_sem,seval];exact ⟨_,rfl,RokI.h,PureI.h⟩
 rw [if_pos hc4] at h;simp only [go_sem,seval,hc4];refine sw (ah rfl) (fun hc5=>?_) (fun hc5=>?_)
 ·have hc5d:=decide_eq_false hc5;rw [if_neg hc5] at h;simp only [go_sem,seval,hc5d];refine hZ _ (pp (Wk_ret (pp ?_)));cases h;simp only [go_sem,seval];exact ⟨_,rfl,RokI.h,PureI.h⟩
 have hc5d:=decide_eq_true hc5;rw [if_pos hc5] at h;simp only [go_sem,seval,hc5d];refine sw (ah rfl) (fun hc6=>?_) (fun hc6=>?_)
 ·have hc6d:=decide_eq_false hc6;rw [if_neg hc6] at h;simp only [go_sem,seval,hc6d];refine hZ _ (pp (Wk_ret (pp ?_)));cases h;simp only [go_sem,seval];exact ⟨_,rfl,RokI.h,PureI.h⟩
 have hc6d:=decide_eq_true hc6;rw [if_pos hc6] at h;simp only [go_sem,seval,hc6d];refine sw (ah rfl) (fun hc7=>?_) (fun hc7=>?_)
 ·have hc7d:=decide_eq_false hc7;rw [if_neg hc7] at h;simp only [go_sem,seval,hc7d];refine hZ _ (pp (Wk_ret (pp ?_)));cases h;simp only [go_sem,seval];exact ⟨_,rfl,RokI.h,PureI.h⟩
 have hc7d:=decide_eq_true hc7;rw [if_pos hc7] at h;obtain ⟨r3,hr8,h⟩:=Option.bind_eq_some_iff.1 h;simp only [go_sem,seval,hc7d,hr8];refine sw (db rfl) (fun hc9=>?_) (fun hc9=>?_)
 ·rw [if_neg (ne_true_of_eq_false hc9)] at h;simp only [go_sem,seval,hc9];refine hZ _ (pp (Wk_ret (pp ?_)));cases h;simp only [go_sem,seval];exact ⟨_,rfl,RokI.h,PureI.h⟩
 rw [if_pos hc9] at h;simp only [go_sem,seval,hc9];refine ah rfl (fun hc10=>?_) (fun hc10=>?_)
 ·have hc10d:=decide_eq_true hc10;rw [if_pos hc10] at h;simp only [go_sem,seval,hc10d];refine hZ _ (pp (Wk_ret (pp ?_)));cases h;simp only [go_sem,seval];exact ⟨_,rfl,RokI.h,PureI.h⟩
 have hc10d:=decide_eq_false hc10;rw [if_neg hc10] at h;simp only [go_sem,seval,hc10d];refine hZ _ (pp (Wk_ret (pp ?_)));cases h;simp only [go_sem,seval];exact ⟨_,rfl,RokI.h,PureI.h⟩
def gI (N:Nat):FnS:=⟨[],true,fn1 Reply.decA fun q0=>(eF N q0).map fun r=>.val (.bool r),false⟩
attribute [go_sem] gI
theorem kf (N:Nat):FSOk Try.prog 24 (gI N):=ok1 (fun q0 r h=>by
 obtain ⟨r',hr,rfl⟩:=Option.map_eq_some_iff.1 h;exact qE N q0 r' hr) (Reply.decA_le)


noncomputable def lD (N d f:Nat):Option FnS:=glist [(10,26,gO N),(68,71,iD N),(73,24,gI N)] d f
attribute [go_sem] lD
theorem qD (N:Nat) (a0:Client) (r:Bool) (h:fb N a0=some r):Con Try.prog 49 [] true [.agg (Client.row a0)] (.val (.bool r)):=by
 refine aJ (G:=(lD N)) Try.func49 rfl (by decide) (by kernel_rfl) (gc 10 (ja N) (gc 68 (mZ N) (gc 73 (kf N) gn))) [] mix (Nat.le_of_ble_eq_true rfl) ?_;simp only [Try.f49];unfold fb at h;refine Ws fun Z hZ=>?_;simp only [go_sem,seval];refine hZ _ (pp (Wk_seq ?_));apply dI (fun (c5:Bool)=>⟨tab 95 (updT (updT deadT 1 (.pref 1 [] 0 0)) 31 (.val (.bool c5))),(upd RZ 1 (.sl true none 4 (some 1) [Client.row a0]))⟩)
 ·intro hJ1;obtain ⟨r6,hr2,h⟩:=Option.bind_eq_some_iff.1 h;refine aa fun Z hZ=>?_;simp only [go_sem,seval,hr2];refine da rfl (fun hc3=>?_) (fun hc3=>?_)
  ·rw [if_neg (ne_true_of_eq_false hc3)] at h;simp only [go_sem,seval,hc3];refine hZ _ (pp (hJ1 _ true ?_ h));refine wr ?_ ?_<;>repeat' first|rfl|constructor
  rw [if_pos hc3] at h;simp only [go_sem,seval,hc3];refine ah rfl (fun hc4=>?_) (fun hc4=>?_)
  ·have hc4d:=decide_eq_true hc4;rw [if_pos hc4] at h;simp only [go_sem,seval,hc4d];refine hZ _ (pp (hJ1 _ true ?_ h));refine wr ?_ ?_<;>repeat' first|rfl|constructor
  have hc4d:=decide_eq_false hc4;rw [if_neg hc4] at h;simp only [go_sem,seval,hc4d];refine ah rfl (fun hc5=>?_) (fun hc5=>?_)
  ·have hc5d:=decide_eq_true hc5;rw [if_pos hc5] at h;simp only [go_sem,seval,hc5d];refine hZ _ (pp (hJ1 _ true ?_ h));refine wr ?_ ?_<;>repeat' first|rfl|constructor
  have hc5d:=decide_eq_false hc5;rw [if_neg hc5] at h;simp only [go_sem,seval,hc5d];refine hZ _ (pp (hJ1 _ (decide (16 < (IntKind.i64.wrap (((a0.Open.length:Nat):Int)+((a0.Done.length:Nat):Int))))) ?_ h));refine wr ?_ ?_<;>repeat' first|rfl|constructor
 intro c5 h;unfold eb at h;refine aM rfl (fun hc6=>?_) (fun hc6=>?_)
 ·rw [if_pos hc6] at h;refine Ws fun Z hZ=>?_;simp only [go_sem,seval,hc6];refine hZ _ (pp (Wk_ret (pp ?_)));cases h;simp only [go_sem,seval];exact ⟨_,rfl,RokI.h,PureI.h⟩
 rw [if_neg (ne_true_of_eq_false hc6)] at h;refine ai (pp ?_);unfold ed at h;refine Ws fun Z hZ=>?_;simp only [go_sem,seval,hc6];refine hZ _ (pp (Wk_seq (Ws fun Z hZ=>?_)));simp only [go_sem,seval];refine hZ _ (pp (ak (eM fun hreal8=>?_)));have hl7:=hreal8.lenT 35 (by decide) (by simp only [go_sem,seval]; rfl);first|rw [List.length_map] at hl7|rw [dB] at hl7|rw [<-List.map_append,List.length_map] at hl7
 refine eC (fun (v7:Nat) (b:Int)=>⟨tab 95 (updT (updT (updT (updT (updT deadT 1 (.pref 1 [] 0 0)) 3 (.val (.int .i64 b))) 35 (.sl false none 1 none (a0.Open.map (rowI .i64)))) 36 (.val (.int .i64 ((a0.Open.length:Nat):Int)))) 37 (.val (.int .i64 ((v7:Nat):Int)))),(upd RZ 1 (.sl true none 4 (some 1) [Client.row a0]))⟩) a0.Low h ?_ ?_
 ·refine wr ?_ ?_<;>repeat' first|rfl|constructor
 rintro v7 v6 hi9 h -;rcases (dG a0.Open v7 hi9) with ⟨x10,hi9',hx10,hd12⟩|⟨hi9',_,hd12⟩
 ·rw [hd12] at h;simp only [dD] at h;have hw11:=dw hi9' hl7;refine Ws fun Z hZ=>?_;simp only [go_sem,seval,hi9'];refine hZ _ (pp (Wk_seq ?_));try simp only [Int.ofNat_lt,hi9',if_true,if_false] at h
  refine bZ rfl (ai (pp (Wk_seq (ak (Wk_seq ?_)))));try rw [gx_nat hx10] at h
  refine aa fun Z hZ=>?_;simp only [go_sem,seval,hx10,hi9'];refine hZ _ (pp (Wk_seq ?_));apply dI (fun (c20:Bool)=>⟨tab 95 (updT (updT (updT (updT (updT (updT deadT 1 (.pref 1 [] 0 0)) 5 (.val (.int .i64 x10))) 35 (.sl false none 1 none (a0.Open.map (rowI .i64)))) 36 (.val (.int .i64 ((a0.Open.length:Nat):Int)))) 37 (.val (.int .i64 ((v7:Nat):Int)))) 47 (.val (.bool c20))),(upd RZ 1 (.sl true none 4 (some 1) [Client.row a0]))⟩)
  ·intro hJ13;refine aa fun Z hZ=>?_;simp only [go_sem,seval];refine ah rfl (fun hc14=>?_) (fun hc14=>?_)
   ·have hc14d:=decide_eq_true hc14;rw [if_pos hc14] at h;simp only [go_sem,seval,hc14d];refine hZ _ (pp (hJ13 _ true ?_ h));refine wr ?_ ?_<;>repeat' first|rfl|constructor
   have hc14d:=decide_eq_false hc14;rw [if_neg hc14] at h;simp only [go_sem,seval,hc14d];refine hZ _ (pp (hJ13 _ (decide (1099511627776 < x10)) ?_ h));refine wr ?_ ?_<;>repeat' first|rfl|constructor
  intro c20 h;unfold gf at h;refine aM rfl (fun hc15=>?_) (fun hc15=>?_)
  ·rw [if_pos hc15] at h;refine Ws fun Z hZ=>?_;simp only [go_sem,seval,hc15];refine hZ _ (pp (Wk_ret (pp ?_)));cases h;simp only [go_sem,seval];exact ⟨_,rfl,RokI.h,PureI.h⟩
  rw [if_neg (ne_true_of_eq_false hc15)] at h;refine ai (pp ?_);unfold fW at h;refine aa fun Z hZ=>?_;simp only [go_sem,seval,hc15];refine hZ _ (pp (aa fun Z hZ=>?_));simp only [go_sem,seval,hw11];refine hZ _ (pp ?_);first|refine ⟨x10,?_,h⟩|refine ⟨hi9',x10,?_,h⟩
  refine wr ?_ ?_<;>repeat' first|rfl|constructor
 rw [hd12] at h;simp only [dD] at h;refine Ws fun Z hZ=>?_;simp only [go_sem,seval,hi9'];refine hZ _ (pp (Wk_seq ?_));try simp only [Int.ofNat_lt,hi9',if_true,if_false] at h
 refine bL rfl (b9 (pp ?_));unfold jf at h;refine Ws fun Z hZ=>?_;simp only [go_sem,seval];refine hZ _ (pp (Wk_seq (Ws fun Z hZ=>?_)));simp only [go_sem,seval];refine hZ _ (pp (ak (eM fun hreal17=>?_)));have hl16:=hreal17.lenT 53 (by decide) (by simp only [go_sem,seval]; rfl);first|rw [List.length_map] at hl16|rw [dB] at hl16|rw [<-List.map_append,List.length_map] at hl16
 refine eC (fun (v18:Nat) (b:Int)=>⟨tab 95 (updT (updT (updT (updT (updT deadT 1 (.pref 1 [] 0 0)) 3 (.val (.int .i64 b))) 53 (.sl false none 10 none (a0.Done.map Answer.row))) 54 (.val (.int .i64 ((a0.Done.length:Nat):Int)))) 55 (.val (.int .i64 ((v18:Nat):Int)))),(upd RZ 1 (.sl true none 4 (some 1) [Client.row a0]))⟩) a0.Low h ?_ ?_
 ·refine wr ?_ ?_<;>repeat' first|rfl|constructor
 rintro v18 v17 hi18 h -;rcases (dG a0.Done v18 hi18).symm with ⟨hi18',_,hd21⟩|⟨x21,hi18',hx19,hd21⟩
 ·rw [hd21] at h;simp only [bA] at h;refine Ws fun Z hZ=>?_;simp only [go_sem,seval,hi18'];refine hZ _ (pp (Wk_seq ?_));try simp only [Int.ofNat_lt,hi9',hi18',if_true,if_false] at h
  refine bL rfl (b9 (pp (Ws fun Z hZ=>?_)));simp only [go_sem,seval];refine hZ _ (pp (Wk_ret (pp ?_)));cases h;simp only [go_sem,seval];exact ⟨_,rfl,RokI.h,PureI.h⟩
 rw [hd21] at h;simp only [bA] at h;have hw20:=dw hi18' hl16;refine Ws fun Z hZ=>?_;simp only [go_sem,seval,hi18'];refine hZ _ (pp (Wk_seq ?_));try simp only [Int.ofNat_lt,hi9',hi18',if_true,if_false] at h
 refine bZ rfl (ai (pp (Wk_seq (ak (Wk_seq ?_)))));try rw [gx_nat hx19] at h
 refine aa fun Z hZ=>?_;simp only [go_sem,seval,hx19,hi18'];refine hZ _ (pp (Wk_seq ?_));apply dI (fun (c27:Bool)=>⟨tab 95 (updT (updT (updT (updT (updT (updT deadT 1 (.pref 1 [] 0 0)) 7 (.pref 7 [] 0 0)) 53 (.sl false none 10 none (a0.Done.map Answer.row))) 54 (.val (.int .i64 ((a0.Done.length:Nat):Int)))) 55 (.val (.int .i64 ((v18:Nat):Int)))) 91 (.val (.bool c27))),(upd (upd RZ 1 (.sl true none 4 (some 1) [Client.row a0])) 7 (.sl true none 10 (some 1) [Answer.row x21]))⟩)
 ·intro hJ22;refine aa fun Z hZ=>?_;simp only [go_sem,seval];refine ah rfl (fun hc23=>?_) (fun hc23=>?_)
  ·have hc23d:=decide_eq_true hc23;rw [if_pos hc23] at h;simp only [go_sem,seval,hc23d];refine hZ _ (pp (hJ22 _ true ?_ h));refine wr ?_ ?_<;>repeat' first|rfl|constructor
  have hc23d:=decide_eq_false hc23;rw [if_neg hc23] at h;obtain ⟨r28,hr24,h⟩:=Option.bind_eq_some_iff.1 h;simp only [go_sem,seval,hc23d,hr24];refine db rfl (fun hc25=>?_) (fun hc25=>?_)
  ·rw [if_pos hc25] at h;simp only [go_sem,seval,hc25];refine hZ _ (pp (hJ22 _ true ?_ h));refine wr ?_ ?_<;>repeat' first|rfl|constructor
  rw [if_neg (ne_true_of_eq_false hc25)] at h;obtain ⟨r29,hr26,h⟩:=Option.bind_eq_some_iff.1 h;simp only [go_sem,seval,hc25,hr26];refine da rfl (fun hc27=>?_) (fun hc27=>?_)
  ·rw [if_neg (ne_true_of_eq_false hc27)] at h;simp only [go_sem,seval,hc27];refine hZ _ (pp (hJ22 _ true ?_ h));refine wr ?_ ?_<;>repeat' first|rfl|constructor
  rw [if_pos hc27] at h;simp only [go_sem,seval,hc27];refine da rfl (fun hc28=>?_) (fun hc28=>?_)
  ·rw [if_neg (ne_true_of_eq_false hc28)] at h;simp only [go_sem,seval,hc28];refine hZ _ (pp (hJ22 _ true ?_ h));refine wr ?_ ?_<;>repeat' first|rfl|constructor
  rw [if_pos hc28] at h;simp only [go_sem,seval,hc28];refine hZ _ (pp (hJ22 _ (!decide (x21.Reply_.Seq=x21.Seq)) ?_ h));refine wr ?_ ?_<;>repeat' first|rfl|constructor
 intro c27 h;unfold dK at h;refine aM rfl (fun hc29=>?_) (fun hc29=>?_)
 ·rw [if_pos hc29] at h;refine Ws fun Z hZ=>?_;simp only [go_sem,seval,hc29];refine hZ _ (pp (Wk_ret (pp ?_)));cases h;simp only [go_sem,seval];exact ⟨_,rfl,RokI.h,PureI.h⟩
 rw [if_neg (ne_true_of_eq_false hc29)] at h;refine ai (pp ?_);unfold dF at h;refine aa fun Z hZ=>?_;simp only [go_sem,seval,hc29];refine hZ _ (pp (aa fun Z hZ=>?_));simp only [go_sem,seval,hw20];refine hZ _ (pp ?_);first|refine ⟨x21.Seq,?_,h⟩|refine ⟨hi18',x21.Seq,?_,h⟩
 refine wr ?_ ?_<;>repeat' first|rfl|constructor
def jg (N:Nat):FnS:=⟨[],true,fn1 Client.decA fun q0=>(fb N q0).map fun r=>.val (.bool r),false⟩
attribute [go_sem] jg
theorem oC (N:Nat):FSOk Try.prog 49 (jg N):=ok1 (fun q0 r h=>by
 obtain ⟨r',hr,rfl⟩:=Option.map_eq_some_iff.1 h;exact qD N q0 r' hr) (Client.decA_le)


noncomputable def qu (N d f:Nat):Option FnS:=glist [(16,49,jg N)] d f
attribute [go_sem] qu
theorem uN (N:Nat) (a0:(List Client)) (r:Bool) (h:ey N a0=some r):Con Try.prog 22 [] true [.sl false none 4 none (a0.map Client.row)] (.val (.bool r)):=by
 refine aJ (G:=(qu N)) Try.func22 rfl (by decide) (by kernel_rfl) (gc 16 (oC N) gn) [] mix (Nat.le_of_ble_eq_true rfl) ?_;simp only [Try.f22];unfold ey at h;refine Ws fun Z hZ=>?_;simp only [go_sem,seval];refine hZ _ (pp (Wk_seq (Ws fun Z hZ=>?_)));simp only [go_sem,seval];refine hZ _ (pp (bq rfl (fun hc1=>?_) (fun hc1=>?_)))
 ·have hc1d:=decide_eq_true hc1;rw [if_pos hc1] at h;refine Ws fun Z hZ=>?_;simp only [go_sem,seval,hc1d];refine hZ _ (pp (Wk_ret (pp ?_)));cases h;simp only [go_sem,seval];exact ⟨_,rfl,RokI.h,PureI.h⟩
 have hc1d:=decide_eq_false hc1;rw [if_neg hc1] at h;refine ai (pp (Wk_seq (Ws fun Z hZ=>?_)));simp only [go_sem,seval,hc1d];refine hZ _ (pp (ak (eM fun hreal3=>?_)));have hl2:=hreal3.lenT 0 (by decide) (by simp only [go_sem,seval]; rfl);first|rw [List.length_map] at hl2|rw [dB] at hl2|rw [<-List.map_append,List.length_map] at hl2
 refine eC (fun (v3:Nat) (b:Unit)=>⟨tab 34 (updT (updT (updT (updT deadT 0 (.sl false none 4 none (a0.map Client.row))) 8 (.sl false none 4 none (a0.map Client.row))) 9 (.val (.int .i64 ((a0.length:Nat):Int)))) 10 (.val (.int .i64 ((v3:Nat):Int)))),RZ⟩) () h ?_ ?_
 ·refine wr ?_ ?_<;>repeat' first|rfl|constructor
 rintro v3 ⟨⟩ hi4 h -;rcases (dG a0 v3 hi4).symm with ⟨hi4',_,hd7⟩|⟨x6,hi4',hx5,hd7⟩
 ·rw [hd7] at h;simp only [eI] at h;refine Ws fun Z hZ=>?_;simp only [go_sem,seval,hi4'];refine hZ _ (pp (Wk_seq ?_));try simp only [Int.ofNat_lt,hi4',if_true,if_false] at h
  refine bL rfl (b9 (pp (Ws fun Z hZ=>?_)));simp only [go_sem,seval];refine hZ _ (pp (Wk_ret (pp ?_)));cases h;simp only [go_sem,seval];exact ⟨_,rfl,RokI.h,PureI.h⟩
 rw [hd7] at h;simp only [eI] at h;have hw6:=dw hi4' hl2;refine Ws fun Z hZ=>?_;simp only [go_sem,seval,hi4'];refine hZ _ (pp (Wk_seq ?_));try simp only [Int.ofNat_lt,hi4',if_true,if_false] at h
 refine bZ rfl (ai (pp (Wk_seq (ak (Wk_seq ?_)))));try rw [gx_nat hx5] at h
 refine aa fun Z hZ=>?_;simp only [go_sem,seval,hx5,hi4'];refine hZ _ (pp ?_);apply dI (fun (c3:Bool)=>⟨tab 34 (updT (updT (updT (updT (updT deadT 0 (.sl false none 4 none (a0.map Client.row))) 8 (.sl false none 4 none (a0.map Client.row))) 9 (.val (.int .i64 ((a0.length:Nat):Int)))) 10 (.val (.int .i64 ((v3:Nat):Int)))) 32 (.val (.bool c3))),RZ⟩)
 ·intro hJ8;obtain ⟨r4,hr9,h⟩:=Option.bind_eq_some_iff.1 h;refine fA fun Z hZ=>?_;simp only [go_sem,seval,hr9];repeat with_reducible refine eL (by kernel_rfl) ?_
  refine da rfl (fun hc10=>?_) (fun hc10=>?_)
  ·rw [if_neg (ne_true_of_eq_false hc10)] at h;simp only [go_sem,seval,hc10];refine hZ _ (by kernel_rfl) (pp (hJ8 _ true ?_ h));refine wr ?_ ?_<;>repeat' first|rfl|constructor
  rw [if_pos hc10] at h;simp only [go_sem,seval,hc10];refine ah rfl (fun hc11=>?_) (fun hc11=>?_)
  ·have hc11d:=decide_eq_true hc11;rw [if_pos hc11] at h;obtain ⟨x5,hb12,hx13,h⟩:=dC h;simp only [go_sem,seval,hc11d,hb12,hx13];refine hZ _ (by kernel_rfl) (pp (hJ8 _ (!(sLt x5.Name x6.Name)) ?_ h));refine wr ?_ ?_<;>repeat' first|rfl|constructor
  have hc11d:=decide_eq_false hc11;rw [if_neg hc11] at h;simp only [go_sem,seval,hc11d];refine hZ _ (by kernel_rfl) (pp (hJ8 _ false ?_ h));refine wr ?_ ?_<;>repeat' first|rfl|constructor
 intro c3 h;unfold iW at h;refine aM rfl (fun hc14=>?_) (fun hc14=>?_)
 ·rw [if_pos hc14] at h;refine Ws fun Z hZ=>?_;simp only [go_sem,seval,hc14];refine hZ _ (pp (Wk_ret (pp ?_)));cases h;simp only [go_sem,seval];exact ⟨_,rfl,RokI.h,PureI.h⟩
 rw [if_neg (ne_true_of_eq_false hc14)] at h;refine ai (pp (aa fun Z hZ=>?_));simp only [go_sem,seval,hw6,hc14];refine hZ _ (pp ?_);first|refine ⟨(),?_,h⟩|refine ⟨hi4',(),?_,h⟩
 refine wr ?_ ?_<;>repeat' first|rfl|constructor
def fm (N:Nat):FnS:=⟨[],true,fn1 (decL 4 Client.dec) fun q0=>(ey N q0).map fun r=>.val (.bool r),false⟩
attribute [go_sem] fm
theorem fU (N:Nat):FSOk Try.prog 22 (fm N):=ok1 (fun q0 r h=>by
 obtain ⟨r',hr,rfl⟩:=Option.map_eq_some_iff.1 h;exact uN N q0 r' hr) (fun h=>au Client.dec_le h)


theorem pE (N:Nat) (a0:(List Int)) (r:(List Int)) (h:bS N a0=some r):Con Try.prog 56 [] true [.sl false (some false) 1 none (a0.map (rowI .i64))] (.sl true none 1 none (r.map (rowI .i64))):=by
 refine aJ (G:=(glist [])) Try.func56 rfl (by decide) (by kernel_rfl) gn [] mix (Nat.le_of_ble_eq_true rfl) ?_;simp only [Try.f56];unfold bS at h;refine Ws fun Z hZ=>?_;simp only [go_sem,seval];refine hZ _ (pp (Wk_seq (Ws fun Z hZ=>?_)));simp only [go_sem,seval];refine hZ _ (pp (bL rfl ?_));first|rw [if_pos (rfl:true=true)] at h|rw [if_neg Bool.false_ne_true] at h|skip
 refine ai (pp (Wk_seq ?_));first|obtain ⟨ha1,h⟩:=pU h|(obtain ⟨ha1,h⟩:=pV h; rw [List.nil_append] at h)
 simp only [Nat.reduceAdd] at ha1;refine aa fun Z hZ=>?_;simp only [go_sem,seval,ha1];refine hZ _ (pp (Wk_ret (pp ?_)));cases h;simp only [go_sem,seval];exact ⟨_,rfl,RokI.h,PureI.h⟩
theorem oW (N:Nat)  (r:(List Int)) (h:bS N []=some r):Con Try.prog 56 [] true [.val (.slice none 0 0)] (.sl true none 1 none (r.map (rowI .i64))):=by
 refine aJ (G:=(glist [])) Try.func56 rfl (by decide) (by kernel_rfl) gn [] mix (Nat.le_of_ble_eq_true rfl) ?_;simp only [Try.f56];unfold bS at h;refine Ws fun Z hZ=>?_;simp only [go_sem,seval];refine hZ _ (pp (Wk_seq (Ws fun Z hZ=>?_)));simp only [go_sem,seval];refine hZ _ (pp (bZ rfl ?_));first|rw [if_pos (rfl:true=true)] at h|rw [if_neg Bool.false_ne_true] at h|skip
 refine Ws fun Z hZ=>?_;simp only [go_sem,seval];refine hZ _ (pp (Wk_ret (pp ?_)));obtain rfl:r=[]:=by simpa [apn] using h.symm
 simp only [go_sem,seval];exact ⟨_,rfl,RokI.h,PureI.h⟩
theorem my (N:Nat) (a0:(List Int)) (r:(List Int)) (h:bS N a0=some r):Con Try.prog 56 [] true [.sl false none 1 none (a0.map (rowI .i64))] (.sl true none 1 none (r.map (rowI .i64))):=
 Con_nl (fun e=>by obtain rfl:a0=[]:=List.map_eq_nil_iff.1 e; exact oW N r h) (pE N a0 r h)
def lE (N:Nat):FnS:=⟨[],true,fn1 (decL 1 (dec1 (decI .i64))) fun q0=>(bS N q0).map fun r=>.sl false none 1 none (r.map (rowI .i64)),false⟩
attribute [go_sem] lE
theorem wI (N:Nat):FSOk Try.prog 56 (lE N):=ok1 (fun q0 r h=>by
 obtain ⟨r',hr,rfl⟩:=Option.map_eq_some_iff.1 h;exact (my N q0 r' hr).res (by (try simp only [go_sem]); exact RokI.h)) (fun h=>au (bQ .i64) h)

def fY (N:Nat):FnS:=⟨[],true,fn1 (decL 1 (dec1 (decI .i64))) fun q0=>(bS N q0).map fun r=>.sl true none 1 none (r.map (rowI .i64)),false⟩
attribute [go_sem] fY
theorem j9 (N:Nat):FSOk Try.prog 56 (fY N):=ok1 (fun q0 r h=>by
 obtain ⟨r',hr,rfl⟩:=Option.map_eq_some_iff.1 h;exact my N q0 r' hr) (fun h=>au (bQ .i64) h)


theorem ow (N:Nat) (a0:(List ByteArray)) (r:(List ByteArray)) (h:bV N a0=some r):Con Try.prog 67 [] true [.sl false (some false) 1 none (a0.map rowS)] (.sl true none 1 none (r.map rowS)):=by
 refine aJ (G:=(glist [])) Try.func67 rfl (by decide) (by kernel_rfl) gn [] mix (Nat.le_of_ble_eq_true rfl) ?_;simp only [Try.f67];unfold bV at h;refine Ws fun Z hZ=>?_;simp only [go_sem,seval];refine hZ _ (pp (Wk_seq (Ws fun Z hZ=>?_)));simp only [go_sem,seval];refine hZ _ (pp (bL rfl ?_));first|rw [if_pos (rfl:true=true)] at h|rw [if_neg Bool.false_ne_true] at h|skip
 refine ai (pp (Wk_seq ?_));first|obtain ⟨ha1,h⟩:=pU h|(obtain ⟨ha1,h⟩:=pV h; rw [List.nil_append] at h)
 simp only [Nat.reduceAdd] at ha1;refine aa fun Z hZ=>?_;simp only [go_sem,seval,ha1];refine hZ _ (pp (Wk_ret (pp ?_)));cases h;simp only [go_sem,seval];exact ⟨_,rfl,RokI.h,PureI.h⟩
theorem m3 (N:Nat)  (r:(List ByteArray)) (h:bV N []=some r):Con Try.prog 67 [] true [.val (.slice none 0 0)] (.sl true none 1 none (r.map rowS)):=by
 refine aJ (G:=(glist [])) Try.func67 rfl (by decide) (by kernel_rfl) gn [] mix (Nat.le_of_ble_eq_true rfl) ?_;simp only [Try.f67];unfold bV at h;refine Ws fun Z hZ=>?_;simp only [go_sem,seval];refine hZ _ (pp (Wk_seq (Ws fun Z hZ=>?_)));simp only [go_sem,seval];refine hZ _ (pp (bZ rfl ?_));first|rw [if_pos (rfl:true=true)] at h|rw [if_neg Bool.false_ne_true] at h|skip
 refine Ws fun Z hZ=>?_;simp only [go_sem,seval];refine hZ _ (pp (Wk_ret (pp ?_)));obtain rfl:r=[]:=by simpa [apn] using h.symm
 simp only [go_sem,seval];exact ⟨_,rfl,RokI.h,PureI.h⟩
theorem kD (N:Nat) (a0:(List ByteArray)) (r:(List ByteArray)) (h:bV N a0=some r):Con Try.prog 67 [] true [.sl false none 1 none (a0.map rowS)] (.sl true none 1 none (r.map rowS)):=
 Con_nl (fun e=>by obtain rfl:a0=[]:=List.map_eq_nil_iff.1 e; exact m3 N r h) (ow N a0 r h)
def ki (N:Nat):FnS:=⟨[],true,fn1 (decL 1 (dec1 decS)) fun q0=>(bV N q0).map fun r=>.sl false none 1 none (r.map rowS),false⟩
attribute [go_sem] ki
theorem uU (N:Nat):FSOk Try.prog 67 (ki N):=ok1 (fun q0 r h=>by
 obtain ⟨r',hr,rfl⟩:=Option.map_eq_some_iff.1 h;exact (kD N q0 r' hr).res (by (try simp only [go_sem]); exact RokI.h)) (fun h=>au iG h)

def gN (N:Nat):FnS:=⟨[],true,fn1 (decL 1 (dec1 decS)) fun q0=>(bV N q0).map fun r=>.sl true none 1 none (r.map rowS),false⟩
attribute [go_sem] gN
theorem mB (N:Nat):FSOk Try.prog 67 (gN N):=ok1 (fun q0 r h=>by
 obtain ⟨r',hr,rfl⟩:=Option.map_eq_some_iff.1 h;exact kD N q0 r' hr) (fun h=>au iG h)


noncomputable def mf (N d f:Nat):Option FnS:=glist [(7,56,fY N),(11,67,gN N)] d f
attribute [go_sem] mf
theorem ml (N:Nat) (a0:Reply) (r:Reply) (h:dE N a0=some r):Con Try.prog 40 [] true [.agg (Reply.row a0)] (.agg [.val (.string r.Client_),.val (.int .i64 r.Seq),.sl false none 1 none (r.Path.map (rowI .i64)),.val (.int .i64 r.Err),.val (.int .i64 r.Value_.Kind),.val (.int .i64 r.Value_.N),.val (.string r.Value_.S),.sl true none 1 none (r.Value_.I.map (rowI .i64)),.sl true none 1 none (r.Value_.L.map rowS)]):=by
 refine aJ (G:=(mf N)) Try.func40 rfl (by decide) (by kernel_rfl) (gc 7 (j9 N) (gc 11 (mB N) gn)) [] mix (Nat.le_of_ble_eq_true rfl) ?_;simp only [Try.f40];unfold dE at h;refine Ws fun Z hZ=>?_;simp only [go_sem,seval];refine hZ _ (pp (Ws fun Z hZ=>?_));simp only [go_sem,seval];refine hZ _ (pp (Wk_seq ?_));obtain ⟨r1,hr1,h⟩:=Option.bind_eq_some_iff.1 h;obtain ⟨r2,hr2,h⟩:=Option.bind_eq_some_iff.1 h;refine fA fun Z hZ=>?_;simp only [go_sem,seval,hr1,hr2];repeat with_reducible refine eL (by kernel_rfl) ?_
 refine hZ _ (by kernel_rfl) (pp (Ws fun Z hZ=>?_));simp only [go_sem,seval];refine hZ _ (pp (Wk_ret (pp ?_)));cases h;simp only [go_sem,seval];exact ⟨_,rfl,RokI.h,PureI.h⟩
def gJ (N:Nat):FnS:=⟨[],true,fn1 Reply.decA fun q0=>(dE N q0).map fun r=>.agg (Reply.row r),false⟩
attribute [go_sem] gJ
theorem kh (N:Nat):FSOk Try.prog 40 (gJ N):=ok1 (fun q0 r h=>by
 obtain ⟨r',hr,rfl⟩:=Option.map_eq_some_iff.1 h;exact (ml N q0 r' hr).res (by (try simp only [go_sem]); exact RokI.h)) (Reply.decA_le)

def jh (N:Nat):FnS:=⟨[],true,fn1 Reply.decA fun q0=>(dE N q0).map fun r=>.agg [.val (.string r.Client_),.val (.int .i64 r.Seq),.sl false none 1 none (r.Path.map (rowI .i64)),.val (.int .i64 r.Err),.val (.int .i64 r.Value_.Kind),.val (.int .i64 r.Value_.N),.val (.string r.Value_.S),.sl true none 1 none (r.Value_.I.map (rowI .i64)),.sl true none 1 none (r.Value_.L.map rowS)],false⟩
attribute [go_sem] jh
theorem oF (N:Nat):FSOk Try.prog 40 (jh N):=ok1 (fun q0 r h=>by
 obtain ⟨r',hr,rfl⟩:=Option.map_eq_some_iff.1 h;exact ml N q0 r' hr) (Reply.decA_le)


noncomputable def pK (N d f:Nat):Option FnS:=glist [(15,22,fm N),(58,40,jh N)] d f
attribute [go_sem] pK
theorem pR (N:Nat) (a0:(List Client)) (a1:ByteArray) (a2:Int) (r:Int × Reply) (h:fF N a0 a1 a2=some r):Con Try.prog 44 [] false [.sl false none 4 none (a0.map Client.row),.val (.string a1),.val (.int .i64 a2)] (.tup [.val (.int .i64 r.1),.agg [.val (.string r.2.Client_),.val (.int .i64 r.2.Seq),.sl false none 1 none (r.2.Path.map (rowI .i64)),.val (.int .i64 r.2.Err),.val (.int .i64 r.2.Value_.Kind),.val (.int .i64 r.2.Value_.N),.val (.string r.2.Value_.S),.sl true none 1 none (r.2.Value_.I.map (rowI .i64)),.sl true none 1 none (r.2.Value_.L.map rowS)]]):=by
 refine aJ (G:=(pK N)) Try.func44 rfl (by decide) (by kernel_rfl) (gc 15 (fU N) (gc 58 (oF N) gn)) [] mix (Nat.le_of_ble_eq_true rfl) ?_;simp only [Try.f44];unfold fF at h;refine Ws fun Z hZ=>?_;simp only [go_sem,seval];refine hZ _ (pp (AW (Wk_seq (Wk_seq ?_))));obtain ⟨r1,hr1,h⟩:=Option.bind_eq_some_iff.1 h;refine aa fun Z hZ=>?_;simp only [go_sem,seval,hr1];refine hZ _ (pp (dY rfl (fun hc2=>?_) (fun hc2=>?_)))
 ·rw [if_neg (ne_true_of_eq_false hc2)] at h;refine Ws fun Z hZ=>?_;simp only [go_sem,seval,hc2];refine hZ _ (pp (Wk_ret (pp ?_)));cases h;simp only [go_sem,seval];exact ⟨_,rfl,RokI.h⟩
 rw [if_pos hc2] at h;refine ai (pp (Wk_seq (Ax (pp (Wk_seq (Ws fun Z hZ=>?_))))));simp only [go_sem,seval,hc2];refine hZ _ (pp (ak (eM fun hreal4=>?_)));have hl3:=hreal4.lenT 0 (by decide) (by simp only [go_sem,seval]; rfl);first|rw [List.length_map] at hl3|rw [dB] at hl3|rw [<-List.map_append,List.length_map] at hl3
 refine eC (fun (v4:Nat) (b:Unit)=>⟨tab 62 (updT (updT (updT (updT (updT (updT deadT 1 (.val (.string a1))) 2 (.val (.int .i64 a2))) 7 (.pref 7 [] 0 0)) 18 (.sl false none 4 none (a0.map Client.row))) 19 (.val (.int .i64 ((a0.length:Nat):Int)))) 20 (.val (.int .i64 ((v4:Nat):Int)))),(upd RZ 7 (.sl true none 9 (some 1) [[.val (.string (⟨#[]⟩)),.val (.int .i64 0),.val (.slice none 0 0),.val (.int .i64 0),.val (.int .i64 0),.val (.int .i64 0),.val (.string (⟨#[]⟩)),.val (.slice none 0 0),.val (.slice none 0 0)]]))⟩) () h ?_ ?_
 ·refine wr ?_ ?_<;>repeat' first|rfl|constructor
 rintro v4 ⟨⟩ hi5 h -;rcases (dG a0 v4 hi5).symm with ⟨hi5',_,hd8⟩|⟨x7,hi5',hx6,hd8⟩
 ·rw [hd8] at h;simp only [fL] at h;refine Ws fun Z hZ=>?_;simp only [go_sem,seval,hi5'];refine hZ _ (pp (Wk_seq ?_));try simp only [Int.ofNat_lt,hi5',if_true,if_false] at h
  refine bL rfl (b9 (pp (Ws fun Z hZ=>?_)));simp only [go_sem,seval];refine hZ _ (pp (Wk_ret (pp ?_)));cases h;simp only [go_sem,seval];exact ⟨_,rfl,RokI.h⟩
 rw [hd8] at h;simp only [fL] at h;have hw7:=dw hi5' hl3;refine Ws fun Z hZ=>?_;simp only [go_sem,seval,hi5'];refine hZ _ (pp (Wk_seq ?_));try simp only [Int.ofNat_lt,hi5',if_true,if_false] at h
 refine bZ rfl (ai (pp (Wk_seq (ak (Wk_seq ?_)))));try rw [gx_nat hx6] at h
 refine aa fun Z hZ=>?_;simp only [go_sem,seval,hx6,hi5'];refine hZ _ (pp (Wk_seq (Ws fun Z hZ=>?_)));simp only [go_sem,seval];refine hZ _ (pp (dY rfl (fun hc9=>?_) (fun hc9=>?_)))
 ·rw [if_neg (ne_true_of_eq_false hc9)] at h;refine b9 (pp (aa fun Z hZ=>?_));simp only [go_sem,seval,hw7,hc9];refine hZ _ (pp ?_);first|refine ⟨(),?_,h⟩|refine ⟨hi5',(),?_,h⟩
  refine wr ?_ ?_<;>repeat' first|rfl|constructor
 rw [if_pos hc9] at h;refine ai (pp (Wk_seq (Ws fun Z hZ=>?_)));simp only [go_sem,seval,hc9];refine hZ _ (pp (bq rfl (fun hc10=>?_) (fun hc10=>?_)))
 ·have hc10d:=decide_eq_true hc10;rw [if_pos hc10] at h;refine Ws fun Z hZ=>?_;simp only [go_sem,seval,hc10d];refine hZ _ (pp (Wk_ret (pp ?_)));cases h;simp only [go_sem,seval];exact ⟨_,rfl,RokI.h⟩
 have hc10d:=decide_eq_false hc10;rw [if_neg hc10] at h;refine ai (pp (Wk_seq (Ws fun Z hZ=>?_)));simp only [go_sem,seval,hc10d];refine hZ _ (pp (ak (eM fun hreal12=>?_)));have hl11:=hreal12.lenT 34 (by decide) (by simp only [go_sem,seval]; rfl);first|rw [List.length_map] at hl11|rw [dB] at hl11|rw [<-List.map_append,List.length_map] at hl11
 refine eC (fun (v13:Nat) (b:Unit)=>⟨tab 62 (updT (updT (updT (updT (updT (updT deadT 2 (.val (.int .i64 a2))) 7 (.pref 7 [] 0 0)) 9 (.pref 9 [] 0 0)) 34 (.sl false none 1 none (x7.Open.map (rowI .i64)))) 35 (.val (.int .i64 ((x7.Open.length:Nat):Int)))) 36 (.val (.int .i64 ((v13:Nat):Int)))),(upd (upd RZ 7 (.sl true none 9 (some 1) [[.val (.string (⟨#[]⟩)),.val (.int .i64 0),.val (.slice none 0 0),.val (.int .i64 0),.val (.int .i64 0),.val (.int .i64 0),.val (.string (⟨#[]⟩)),.val (.slice none 0 0),.val (.slice none 0 0)]])) 9 (.sl true none 4 (some 1) [Client.row x7]))⟩) () h ?_ ?_
 ·refine wr ?_ ?_<;>repeat' first|rfl|constructor
 rintro v13 ⟨⟩ hi13 h -;rcases (dG x7.Open v13 hi13) with ⟨x16,hi13',hx14,hd16⟩|⟨hi13',_,hd16⟩
 ·rw [hd16] at h;simp only [eV] at h;have hw15:=dw hi13' hl11;refine Ws fun Z hZ=>?_;simp only [go_sem,seval,hi13'];refine hZ _ (pp (Wk_seq ?_));try simp only [Int.ofNat_lt,hi5',hi13',if_true,if_false] at h
  refine bZ rfl (ai (pp (Wk_seq (ak (Wk_seq ?_)))));try rw [gx_nat hx14] at h
  refine aa fun Z hZ=>?_;simp only [go_sem,seval,hx14,hi13'];refine hZ _ (pp (Ws fun Z hZ=>?_));simp only [go_sem,seval];refine hZ _ (pp (bq rfl (fun hc17=>?_) (fun hc17=>?_)))
  ·have hc17d:=decide_eq_true hc17;rw [if_pos hc17] at h;refine Ws fun Z hZ=>?_;simp only [go_sem,seval,hc17d];refine hZ _ (pp (Wk_ret (pp ?_)));cases h;simp only [go_sem,seval];exact ⟨_,rfl,RokI.h⟩
  have hc17d:=decide_eq_false hc17;rw [if_neg hc17] at h;refine ai (pp (aa fun Z hZ=>?_));simp only [go_sem,seval,hw15,hc17d];refine hZ _ (pp ?_);first|refine ⟨(),?_,h⟩|refine ⟨hi13',(),?_,h⟩
  refine wr ?_ ?_<;>repeat' first|rfl|constructor
 rw [hd16] at h;simp only [eV] at h;refine Ws fun Z hZ=>?_;simp only [go_sem,seval,hi13'];refine hZ _ (pp (Wk_seq ?_));try simp only [Int.ofNat_lt,hi5',hi13',if_true,if_false] at h
 refine bL rfl (b9 (pp ?_));unfold kU at h;refine Wk_seq (Ws fun Z hZ=>?_);simp only [go_sem,seval];refine hZ _ (pp (ak (eM fun hreal19=>?_)));have hl18:=hreal19.lenT 46 (by decide) (by simp only [go_sem,seval]; rfl);first|rw [List.length_map] at hl18|rw [dB] at hl18|rw [<-List.map_append,List.length_map] at hl18
 refine eC (fun (v20:Nat) (b:Unit)=>⟨tab 62 (updT (updT (updT (updT (updT deadT 2 (.val (.int .i64 a2))) 7 (.pref 7 [] 0 0)) 46 (.sl false none 10 none (x7.Done.map Answer.row))) 47 (.val (.int .i64 ((x7.Done.length:Nat):Int)))) 48 (.val (.int .i64 ((v20:Nat):Int)))),(upd RZ 7 (.sl true none 9 (some 1) [[.val (.string (⟨#[]⟩)),.val (.int .i64 0),.val (.slice none 0 0),.val (.int .i64 0),.val (.int .i64 0),.val (.int .i64 0),.val (.string (⟨#[]⟩)),.val (.slice none 0 0),.val (.slice none 0 0)]]))⟩) () h ?_ ?_
 ·refine wr ?_ ?_<;>repeat' first|rfl|constructor
 rintro v20 ⟨⟩ hi20 h -;rcases (dG x7.Done v20 hi20).symm with ⟨hi20',_,hd23⟩|⟨x23,hi20',hx21,hd23⟩
 ·rw [hd23] at h;simp only [fN] at h;refine Ws fun Z hZ=>?_;simp only [go_sem,seval,hi20'];refine hZ _ (pp (Wk_seq ?_));try simp only [Int.ofNat_lt,hi5',hi13',hi20',if_true,if_false] at h
  refine bL rfl (b9 (pp ?_));unfold lk at h;refine b9 (pp (Ws fun Z hZ=>?_));simp only [go_sem,seval];refine hZ _ (pp (Wk_ret (pp ?_)));cases h;simp only [go_sem,seval];exact ⟨_,rfl,RokI.h⟩
 rw [hd23] at h;simp only [fN] at h;have hw22:=dw hi20' hl18;refine Ws fun Z hZ=>?_;simp only [go_sem,seval,hi20'];refine hZ _ (pp (Wk_seq ?_));try simp only [Int.ofNat_lt,hi5',hi13',hi20',if_true,if_false] at h
 refine bZ rfl (ai (pp (Wk_seq (ak (Wk_seq ?_)))));try rw [gx_nat hx21] at h
 refine aa fun Z hZ=>?_;simp only [go_sem,seval,hx21,hi20'];refine hZ _ (pp (Ws fun Z hZ=>?_));simp only [go_sem,seval];refine hZ _ (pp (bq rfl (fun hc24=>?_) (fun hc24=>?_)))
 ·have hc24d:=decide_eq_true hc24;rw [if_pos hc24] at h;refine Wk_seq ?_;obtain ⟨r15,hr25,h⟩:=Option.bind_eq_some_iff.1 h;refine aa fun Z hZ=>?_;simp only [go_sem,seval,hc24d,hr25];refine hZ _ (pp (Wk_ret (pp ?_)));cases h;simp only [go_sem,seval];exact ⟨_,rfl,RokI.h⟩
 have hc24d:=decide_eq_false hc24;rw [if_neg hc24] at h;refine ai (pp (aa fun Z hZ=>?_));simp only [go_sem,seval,hw22,hc24d];refine hZ _ (pp ?_);first|refine ⟨(),?_,h⟩|refine ⟨hi20',(),?_,h⟩
 refine wr ?_ ?_<;>repeat' first|rfl|constructor
def jD (N:Nat):FnS:=⟨[],false,fn3 (decL 4 Client.dec) decS (decI .i64) fun q0 q1 q2=>(fF N q0 q1 q2).map fun r=>.tup [.val (.int .i64 r.1),.agg (Reply.row r.2)],false⟩
attribute [go_sem] jD
theorem mn (N:Nat):FSOk Try.prog 44 (jD N):=ok3 (fun q0 q1 q2 r h=>by
 obtain ⟨r',hr,rfl⟩:=Option.map_eq_some_iff.1 h;exact (pR N q0 q1 q2 r' hr).res (by (try simp only [go_sem]); exact RokI.h)) (fun h=>au Client.dec_le h) (ba) (aj)

def om (N:Nat):FnS:=⟨[],false,fn3 (decL 4 Client.dec) decS (decI .i64) fun q0 q1 q2=>(fF N q0 q1 q2).map fun r=>.tup [.val (.int .i64 r.1),.agg [.val (.string r.2.Client_),.val (.int .i64 r.2.Seq),.sl false none 1 none (r.2.Path.map (rowI .i64)),.val (.int .i64 r.2.Err),.val (.int .i64 r.2.Value_.Kind),.val (.int .i64 r.2.Value_.N),.val (.string r.2.Value_.S),.sl true none 1 none (r.2.Value_.I.map (rowI .i64)),.sl true none 1 none (r.2.Value_.L.map rowS)]],false⟩
attribute [go_sem] om
theorem zc (N:Nat):FSOk Try.prog 44 (om N):=ok3 (fun q0 q1 q2 r h=>by
 obtain ⟨r',hr,rfl⟩:=Option.map_eq_some_iff.1 h;exact pR N q0 q1 q2 r' hr) (fun h=>au Client.dec_le h) (ba) (aj)


noncomputable def pN (N d f:Nat):Option FnS:=glist [(13,44,jD N)] d f
attribute [go_sem] pN
theorem tE (N:Nat) (a0:(List Client)) (a1:ByteArray) (a2:Int) (r:Int) (h:bR N a0 a1 a2=some r):Con Try.prog 20 [] true [.sl false none 4 none (a0.map Client.row),.val (.string a1),.val (.int .i64 a2)] (.val (.int .i64 r)):=by
 refine aJ (G:=(pN N)) Try.func20 rfl (by decide) (by kernel_rfl) (gc 13 (mn N) gn) [] mix (Nat.le_of_ble_eq_true rfl) ?_;simp only [Try.f20];unfold bR at h;refine Ws fun Z hZ=>?_;simp only [go_sem,seval];refine hZ _ (pp (Wk_seq ?_));obtain ⟨r1,hr1,h⟩:=Option.bind_eq_some_iff.1 h;refine aa fun Z hZ=>?_;simp only [go_sem,seval,hr1];refine hZ _ (pp (Ws fun Z hZ=>?_));simp only [go_sem,seval];refine hZ _ (pp (Wk_ret (pp ?_)));cases h;simp only [go_sem,seval];exact ⟨_,rfl,RokI.h,PureI.h⟩
def de (N:Nat):FnS:=⟨[],true,fn3 (decL 4 Client.dec) decS (decI .i64) fun q0 q1 q2=>(bR N q0 q1 q2).map fun r=>.val (.int .i64 r),false⟩
attribute [go_sem] de
theorem dc (N:Nat):FSOk Try.prog 20 (de N):=ok3 (fun q0 q1 q2 r h=>by
 obtain ⟨r',hr,rfl⟩:=Option.map_eq_some_iff.1 h;exact tE N q0 q1 q2 r' hr) (fun h=>au Client.dec_le h) (ba) (aj)


theorem tG (N:Nat) (a0:Client) (a1:ByteArray) (r:Int) (h:gG N a0 a1=some r):Con Try.prog 54 [] true [.agg (Client.row a0),.val (.string a1)] (.val (.int .i64 r)):=by
 refine aJ (G:=(glist [])) Try.func54 rfl (by decide) (by kernel_rfl) gn [] mix (Nat.le_of_ble_eq_true rfl) ?_;simp only [Try.f54];unfold gG at h;refine Ws fun Z hZ=>?_;simp only [go_sem,seval];refine hZ _ (pp (Wk_seq (ak (Ws fun Z hZ=>?_))));simp only [go_sem,seval];refine hZ _ (pp (aM rfl (fun hc1=>?_) (fun hc1=>?_)))
 ·first|rw [if_pos hc1] at h|simp only [hc1,Bool.or_false,Bool.or_true,Bool.false_or,Bool.true_or,Bool.and_true,Bool.true_and,Bool.and_false,Bool.false_and,Bool.not_true,Bool.not_false,Bool.false_eq_true,if_true,if_false] at h
  refine Ws fun Z hZ=>?_;simp only [go_sem,seval,hc1];refine hZ _ (pp (Wk_ret (pp ?_)));cases h;simp only [go_sem,seval];exact ⟨_,rfl,RokI.h,PureI.h⟩
 first|rw [if_neg (ne_true_of_eq_false hc1)] at h|simp only [hc1,Bool.or_false,Bool.or_true,Bool.false_or,Bool.true_or,Bool.and_true,Bool.true_and,Bool.and_false,Bool.false_and,Bool.not_true,Bool.not_false,Bool.false_eq_true,if_true,if_false] at h
 refine Ws fun Z hZ=>?_;simp only [go_sem,seval,hc1];refine hZ _ (pp (dY rfl (fun hc2=>?_) (fun hc2=>?_)))
 ·first|rw [if_neg (ne_true_of_eq_false hc2)] at h|simp only [hc2,hc1,Bool.or_false,Bool.false_eq_true,if_false] at h
  refine Ws fun Z hZ=>?_;simp only [go_sem,seval,hc2];refine hZ _ (pp (Wk_ret (pp ?_)));cases h;simp only [go_sem,seval];exact ⟨_,rfl,RokI.h,PureI.h⟩
 first|rw [if_pos hc2] at h|simp only [hc2,hc1,Bool.or_true,if_true] at h
 refine ai (pp (Ws fun Z hZ=>?_));simp only [go_sem,seval,hc2];refine hZ _ (pp (Wk_ret (pp ?_)));cases h;simp only [go_sem,seval];exact ⟨_,rfl,RokI.h,PureI.h⟩
def jC (N:Nat):FnS:=⟨[],true,fn2 Client.decA decS fun q0 q1=>(gG N q0 q1).map fun r=>.val (.int .i64 r),false⟩
attribute [go_sem] jC
theorem mq (N:Nat):FSOk Try.prog 54 (jC N):=ok2 (fun q0 q1 r h=>by
 obtain ⟨r',hr,rfl⟩:=Option.map_eq_some_iff.1 h;exact tG N q0 q1 r' hr) (Client.decA_le) (ba)


noncomputable def ei (N d f:Nat):Option FnS:=glist [(30,54,jC N),(46,54,jC N)] d f
attribute [go_sem] ei
theorem gW (N:Nat) (a0:(List Client)) (a1:ByteArray) (r:Int × Bool) (h:aV N a0 a1=some r):Con Try.prog 53 [] true [.sl false none 4 none (a0.map Client.row),.val (.string a1),.clo 54 []] (.tup [.val (.int .i64 r.1),.val (.bool r.2)]):=by
 refine aJ (G:=(ei N)) Try.func53 rfl (by decide) (by kernel_rfl) (gc 30 (mq N) (gc 46 (mq N) gn)) [] mix (Nat.le_of_ble_eq_true rfl) ?_;simp only [Try.f53];unfold aV at h;refine Ws fun Z hZ=>?_;simp only [go_sem,seval];refine hZ _ (pp (Ws fun Z hZ=>?_));simp only [go_sem,seval];refine hZ _ (pp (Ws fun Z hZ=>?_));simp only [go_sem,seval];refine hZ _ (pp (Wk_seq (ak (pk (fun (b:Int × Int)=>⟨tab 49 (updT (updT (updT (updT (updT (updT deadT 0 (.sl false none 4 none (a0.map Client.row))) 1 (.val (.string a1))) 2 (.clo 54 [])) 8 (.val (.int .i64 ((a0.length:Nat):Int)))) 9 (.val (.int .i64 b.1))) 10 (.val (.int .i64 b.2))),RZ⟩) (0,((a0.length:Nat):Int)) h ?_ ?_))))
 ·refine wr ?_ ?_<;>repeat' first|rfl|constructor
 rintro n ⟨v2,v3⟩ h -;cases n with
 | zero=>simp [aB] at h
 | succ n=>
 simp only [aB] at h;refine Wk_seq (Ws fun Z hZ=>?_);simp only [go_sem,seval];refine hZ _ (pp (sw (bq rfl) (fun hc1=>?_) (fun hc1=>?_)))
 ·have hc1d:=decide_eq_false hc1;rw [if_neg hc1] at h;refine b9 (pp ?_);unfold br at h;refine Ws fun Z hZ=>?_;simp only [go_sem,seval,hc1d];refine ah rfl (fun hc6=>?_) (fun hc6=>?_)
  ·have hc6d:=decide_eq_true hc6;rw [if_pos hc6] at h;obtain ⟨x11,hb7,hx8,h⟩:=dC h;obtain ⟨r12,hr9,h⟩:=Option.bind_eq_some_iff.1 h;simp only [go_sem,seval,hb7,hx8,hr9];refine hZ _ (pp (Wk_ret (pp ?_)));cases h;simp only [go_sem,seval];exact ⟨_,rfl,RokI.h,PureI.h⟩
  have hc6d:=decide_eq_false hc6;rw [if_neg hc6] at h;simp only [go_sem,seval,hc6d];refine hZ _ (pp (Wk_ret (pp ?_)));cases h;simp only [go_sem,seval];exact ⟨_,rfl,RokI.h,PureI.h⟩
 have hc1d:=decide_eq_true hc1;rw [if_pos hc1] at h;refine ai (pp (ak (Ws fun Z hZ=>?_)));simp only [go_sem,seval,hc1d];refine hZ _ (pp (Wk_seq ?_));obtain ⟨x9,hb2,hx3,h⟩:=dC h;obtain ⟨r10,hr4,h⟩:=Option.bind_eq_some_iff.1 h;refine aa fun Z hZ=>?_;simp only [go_sem,seval,hb2,hx3,hr4];refine hZ _ (pp (bq rfl (fun hc5=>?_) (fun hc5=>?_)))
 ·have hc5d:=decide_eq_true hc5;rw [if_pos hc5] at h;refine aa fun Z hZ=>?_;simp only [go_sem,seval,hc5d];refine hZ _ (pp (⟨_,Nat.lt_succ_self _,(IntKind.i64.wrap ((IntKind.i64.wrap (shrI .u64 (IntKind.u64.wrap (IntKind.i64.wrap (v2+v3))) 1))+1),v3),?_,h⟩));refine wr ?_ ?_<;>repeat' first|rfl|constructor
 have hc5d:=decide_eq_false hc5;rw [if_neg hc5] at h;refine aa fun Z hZ=>?_;simp only [go_sem,seval,hc5d];refine hZ _ (pp (⟨_,Nat.lt_succ_self _,(v2,IntKind.i64.wrap (shrI .u64 (IntKind.u64.wrap (IntKind.i64.wrap (v2+v3))) 1)),?_,h⟩));refine wr ?_ ?_<;>repeat' first|rfl|constructor
def bt (N:Nat):FnS:={ own:=[],pure:=true,fn:=fun cs=>match cs with
 | [c0,c1,.clo 54 []]=>((decL 4 Client.dec) c0).bind fun qc0=>(decS c1).bind fun qc1=>(aV N qc0 qc1).map fun r=>.tup [.val (.int .i64 r.1),.val (.bool r.2)]
 | _=>none }
attribute [go_sem] bt
theorem gA (N:Nat):FSOk Try.prog 53 (bt N):=by
 refine ⟨fun cs r h=>?_,fun h=>by cases h⟩;simp only [bt] at h;split at h
 ·simp only [Option.bind_eq_some_iff,Option.map_eq_some_iff] at h;obtain ⟨q0,h0,q1,h1,r',hr,rfl⟩:=h;exact ((gW N q0 q1 r' hr).args (LeL.cons (au Client.dec_le h0) (LeL.cons (ba h1) (LeL.cons (Le.clo (LeL.nil)) (LeL.nil)))))
 ·cases h


noncomputable def qN (N d f:Nat):Option FnS:=glist [(8,53,bt N)] d f
attribute [go_sem] qN
theorem vV (N:Nat) (a0:(List Client)) (a1:ByteArray) (r:Int × Bool) (h:ia N a0 a1=some r):Con Try.prog 28 [] true [.sl false none 4 none (a0.map Client.row),.val (.string a1)] (.tup [.val (.int .i64 r.1),.val (.bool r.2)]):=by
 refine aJ (G:=(qN N)) Try.func28 rfl (by decide) (by kernel_rfl) (gc 8 (gA N) gn) [] mix (Nat.le_of_ble_eq_true rfl) ?_;simp only [Try.f28];unfold ia at h;refine Ws fun Z hZ=>?_;simp only [go_sem,seval];refine hZ _ (pp (Wk_seq ?_));obtain ⟨r1,hr1,h⟩:=Option.bind_eq_some_iff.1 h;refine aa fun Z hZ=>?_;simp only [go_sem,seval,hr1];refine hZ _ (pp (Wk_ret (pp ?_)));cases h;simp only [go_sem,seval];exact ⟨_,rfl,RokI.h,PureI.h⟩
def jk (N:Nat):FnS:=⟨[],true,fn2 (decL 4 Client.dec) decS fun q0 q1=>(ia N q0 q1).map fun r=>.tup [.val (.int .i64 r.1),.val (.bool r.2)],false⟩
attribute [go_sem] jk
theorem kC (N:Nat):FSOk Try.prog 28 (jk N):=ok2 (fun q0 q1 r h=>by
 obtain ⟨r',hr,rfl⟩:=Option.map_eq_some_iff.1 h;exact vV N q0 q1 r' hr) (fun h=>au Client.dec_le h) (ba)


theorem og (N:Nat) (a0:(List Client)) (r:(List Client)) (h:bX N a0=some r):Con Try.prog 55 [] false [.sl false (some false) 4 none (a0.map Client.row)] (.sl true none 4 none (r.map Client.row)):=by
 refine aJ (G:=(glist [])) Try.func55 rfl (by decide) (by kernel_rfl) gn [] mix (Nat.le_of_ble_eq_true rfl) ?_;simp only [Try.f55];unfold bX at h;refine Ws fun Z hZ=>?_;simp only [go_sem,seval];refine hZ _ (pp (Wk_seq (Ws fun Z hZ=>?_)));simp only [go_sem,seval];refine hZ _ (pp (bL rfl ?_));first|rw [if_pos (rfl:true=true)] at h|rw [if_neg Bool.false_ne_true] at h|skip
 refine ai (pp (Wk_seq ?_));first|obtain ⟨ha1,h⟩:=pU h|(obtain ⟨ha1,h⟩:=pV h; rw [List.nil_append] at h)
 simp only [Nat.reduceAdd] at ha1;refine aa fun Z hZ=>?_;simp only [go_sem,seval,ha1];refine hZ _ (pp (Wk_ret (pp ?_)));cases h;simp only [go_sem,seval];exact ⟨_,rfl,RokI.h⟩
theorem mV (N:Nat)  (r:(List Client)) (h:bX N []=some r):Con Try.prog 55 [] false [.val (.slice none 0 0)] (.sl true none 4 none (r.map Client.row)):=by
 refine aJ (G:=(glist [])) Try.func55 rfl (by decide) (by kernel_rfl) gn [] mix (Nat.le_of_ble_eq_true rfl) ?_;simp only [Try.f55];unfold bX at h;refine Ws fun Z hZ=>?_;simp only [go_sem,seval];refine hZ _ (pp (Wk_seq (Ws fun Z hZ=>?_)));simp only [go_sem,seval];refine hZ _ (pp (bZ rfl ?_));first|rw [if_pos (rfl:true=true)] at h|rw [if_neg Bool.false_ne_true] at h|skip
 refine Ws fun Z hZ=>?_;simp only [go_sem,seval];refine hZ _ (pp (Wk_ret (pp ?_)));obtain rfl:r=[]:=by simpa [apn] using h.symm
 simp only [go_sem,seval];exact ⟨_,rfl,RokI.h⟩
theorem kL (N:Nat) (a0:(List Client)) (r:(List Client)) (h:bX N a0=some r):Con Try.prog 55 [] false [.sl false none 4 none (a0.map Client.row)] (.sl true none 4 none (r.map Client.row)):=
 Con_nl (fun e=>by obtain rfl:a0=[]:=List.map_eq_nil_iff.1 e; exact mV N r h) (og N a0 r h)
def km (N:Nat):FnS:=⟨[],false,fn1 (decL 4 Client.dec) fun q0=>(bX N q0).map fun r=>.sl false none 4 none (r.map Client.row),false⟩
attribute [go_sem] km
theorem uT (N:Nat):FSOk Try.prog 55 (km N):=ok1 (fun q0 r h=>by
 obtain ⟨r',hr,rfl⟩:=Option.map_eq_some_iff.1 h;exact (kL N q0 r' hr).res (by (try simp only [go_sem]); exact RokI.h)) (fun h=>au Client.dec_le h)

def gL (N:Nat):FnS:=⟨[],false,fn1 (decL 4 Client.dec) fun q0=>(bX N q0).map fun r=>.sl true none 4 none (r.map Client.row),false⟩
attribute [go_sem] gL
theorem mE (N:Nat):FSOk Try.prog 55 (gL N):=ok1 (fun q0 r h=>by
 obtain ⟨r',hr,rfl⟩:=Option.map_eq_some_iff.1 h;exact kL N q0 r' hr) (fun h=>au Client.dec_le h)


theorem oe (N:Nat) (a0:(List Answer)) (r:(List Answer)) (h:bU N a0=some r):Con Try.prog 57 [] false [.sl false (some false) 10 none (a0.map Answer.row)] (.sl true none 10 none (r.map Answer.row)):=by
 refine aJ (G:=(glist [])) Try.func57 rfl (by decide) (by kernel_rfl) gn [] mix (Nat.le_of_ble_eq_true rfl) ?_;simp only [Try.f57];unfold bU at h;refine Ws fun Z hZ=>?_;simp only [go_sem,seval];refine hZ _ (pp (Wk_seq (Ws fun Z hZ=>?_)));simp only [go_sem,seval];refine hZ _ (pp (bL rfl ?_));first|rw [if_pos (rfl:true=true)] at h|rw [if_neg Bool.false_ne_true] at h|skip
 refine ai (pp (Wk_seq ?_));first|obtain ⟨ha1,h⟩:=pU h|(obtain ⟨ha1,h⟩:=pV h; rw [List.nil_append] at h)
 simp only [Nat.reduceAdd] at ha1;refine aa fun Z hZ=>?_;simp only [go_sem,seval,ha1];refine hZ _ (pp (Wk_ret (pp ?_)));cases h;simp only [go_sem,seval];exact ⟨_,rfl,RokI.h⟩
theorem mQ (N:Nat)  (r:(List Answer)) (h:bU N []=some r):Con Try.prog 57 [] false [.val (.slice none 0 0)] (.sl true none 10 none (r.map Answer.row)):=by
 refine aJ (G:=(glist [])) Try.func57 rfl (by decide) (by kernel_rfl) gn [] mix (Nat.le_of_ble_eq_true rfl) ?_;simp only [Try.f57];unfold bU at h;refine Ws fun Z hZ=>?_;simp only [go_sem,seval];refine hZ _ (pp (Wk_seq (Ws fun Z hZ=>?_)));simp only [go_sem,seval];refine hZ _ (pp (bZ rfl ?_));first|rw [if_pos (rfl:true=true)] at h|rw [if_neg Bool.false_ne_true] at h|skip
 refine Ws fun Z hZ=>?_;simp only [go_sem,seval];refine hZ _ (pp (Wk_ret (pp ?_)));obtain rfl:r=[]:=by simpa [apn] using h.symm
 simp only [go_sem,seval];exact ⟨_,rfl,RokI.h⟩
theorem kO (N:Nat) (a0:(List Answer)) (r:(List Answer)) (h:bU N a0=some r):Con Try.prog 57 [] false [.sl false none 10 none (a0.map Answer.row)] (.sl true none 10 none (r.map Answer.row)):=
 Con_nl (fun e=>by obtain rfl:a0=[]:=List.map_eq_nil_iff.1 e; exact mQ N r h) (oe N a0 r h)
def kg (N:Nat):FnS:=⟨[],false,fn1 (decL 10 Answer.dec) fun q0=>(bU N q0).map fun r=>.sl false none 10 none (r.map Answer.row),false⟩
attribute [go_sem] kg
theorem uS (N:Nat):FSOk Try.prog 57 (kg N):=ok1 (fun q0 r h=>by
 obtain ⟨r',hr,rfl⟩:=Option.map_eq_some_iff.1 h;exact (kO N q0 r' hr).res (by (try simp only [go_sem]); exact RokI.h)) (fun h=>au Answer.dec_le h)

def gM (N:Nat):FnS:=⟨[],false,fn1 (decL 10 Answer.dec) fun q0=>(bU N q0).map fun r=>.sl true none 10 none (r.map Answer.row),false⟩
attribute [go_sem] gM
theorem mH (N:Nat):FSOk Try.prog 57 (gM N):=ok1 (fun q0 r h=>by
 obtain ⟨r',hr,rfl⟩:=Option.map_eq_some_iff.1 h;exact kO N q0 r' hr) (fun h=>au Answer.dec_le h)


noncomputable def qt (N d f:Nat):Option FnS:=glist [(7,55,gL N),(22,56,fY N),(28,57,gM N),(57,40,gJ N)] d f
attribute [go_sem] qt
theorem mG (N:Nat) (a0:(List Client)) (r:(List Client)) (h:eS N a0=some r):Con Try.prog 29 [] false [.sl false none 4 none (a0.map Client.row)] (.sl true none 4 none (r.map Client.rowD)):=by
 refine aJ (G:=(qt N)) Try.func29 rfl (by decide) (by kernel_rfl) (gc 7 (mE N) (gc 22 (j9 N) (gc 28 (mH N) (gc 57 (kh N) gn)))) [] mix (Nat.le_of_ble_eq_true rfl) ?_;simp only [Try.f29];unfold eS at h;refine Ws fun Z hZ=>?_;simp only [go_sem,seval];refine hZ _ (pp (Wk_seq ?_));obtain ⟨r1,hr1,h⟩:=Option.bind_eq_some_iff.1 h;refine aa fun Z hZ=>?_;simp only [go_sem,seval,hr1];refine hZ _ (pp (Wk_seq (Ws fun Z hZ=>?_)));simp only [go_sem,seval];refine hZ _ (pp (ak (eM fun hreal3=>?_)));have hl2:=hreal3.lenX 7 (by simp only [go_sem,seval]; rfl);first|rw [List.length_map] at hl2|rw [dB] at hl2|rw [<-List.map_append,List.length_map] at hl2
 refine u5 (fun (v4:Nat) (b:List Client)=>⟨tab 63 (updT (updT (updT deadT 3 (.pal 7 [] 0 b.length none)) 9 (.val (.int .i64 ((r1.length:Nat):Int)))) 10 (.val (.int .i64 ((v4:Nat):Int)))),(upd RZ 7 (.sl true none 4 none (mxR Client.rowD Client.row v4 b)))⟩) r1 h ?_ ?_
 ·refine wr ?_ ?_<;>repeat' first|rfl|constructor|simp only [go_sem,seval,Bool.or_self,List.length_set,Int.natCast_zero,Int.cast_ofNat_Int,hr1]
 rintro v4 l3 _ h -;rcases (rX r1.length v4).symm with ⟨hi4',hd7⟩|⟨hi4',hd7⟩
 ·rw [hd7] at h;simp only [fq] at h;obtain ⟨hg25,h⟩:=zn h;refine Ws fun Z hZ=>?_;simp only [go_sem,seval,hi4',B2 hg25];refine hZ _ (pp (Wk_seq ?_));try simp only [Int.ofNat_lt,hi4',if_true,if_false] at h
  refine bL rfl (b9 (pp (Ws fun Z hZ=>?_)));simp only [go_sem,seval];refine hZ _ (pp (Wk_ret (pp ?_)));cases h;simp only [go_sem,seval];exact ⟨_,rfl,RokI.h⟩
 rw [hd7] at h;simp only [fq] at h;have hw6:=dw hi4' hl2;refine Ws fun Z hZ=>?_;simp only [go_sem,seval,hi4'];refine hZ _ (pp (Wk_seq ?_));try simp only [Int.ofNat_lt,hi4',if_true,if_false] at h
 refine bZ rfl (ai (pp (Wk_seq (ak (Ws fun Z hZ=>?_)))));simp only [go_sem,seval];refine hZ _ (pp (Wk_seq ?_));obtain ⟨x2,hb8,hx9,h⟩:=dC h;try simp only [Int.toNat_natCast] at hx9
 try simp only [Int.ofNat_lt,Int.natCast_nonneg,true_and] at hb8
 obtain ⟨r3,hr10,h⟩:=Option.bind_eq_some_iff.1 h;obtain ⟨r4,hr11,h⟩:=Option.bind_eq_some_iff.1 h;refine fA fun Z hZ=>?_;simp only [go_sem,seval,hb8,rE (f:=Client.rowD) (g:=Client.row) hx9,hr10,hr11,mix_of (f:=Client.rowD) (g:=Client.row) (rx:=[.val (.string x2.Name),.val (.int .i64 x2.Low),.sl false none 1 none (x2.Open.map (rowI .i64)),.sl false none 10 none (x2.Done.map Answer.row)]) hx9 rfl rfl,lK (f:=Client.rowD) (g:=Client.row) _ hx9,rv (f:=Client.rowD) (g:=Client.row) hx9 rfl];repeat with_reducible refine eL (by kernel_rfl) ?_
 refine hZ _ (by kernel_rfl) (pp (Ws fun Z hZ=>?_));simp only [go_sem,seval,hb8,lK (f:=Client.rowD) (g:=Client.row) _ hx9];refine hZ _ (pp (ak (eM fun hreal13=>?_)));have hl12:=hreal13.lenAt 7 [(v4,3)] (by simp only [go_sem,seval,lK (f:=Client.rowD) (g:=Client.row) _ hx9]; rfl);first|rw [List.length_map] at hl12|rw [dB] at hl12|rw [<-List.map_append,List.length_map] at hl12
 refine u5 (fun (v13:Nat) (b:List Answer)=>⟨tab 63 (updT (updT (updT (updT (updT (updT deadT 3 (.pal 7 [] 0 l3.length none)) 4 (.val (.int .i64 ((v4:Nat):Int)))) 9 (.val (.int .i64 ((r1.length:Nat):Int)))) 10 (.val (.int .i64 ((v4:Nat):Int)))) 38 (.val (.int .i64 ((r4.length:Nat):Int)))) 39 (.val (.int .i64 ((v13:Nat):Int)))),(upd RZ 7 (.sl true none 4 none ((mxR Client.rowD Client.row v4 l3).set v4 [.val (.string x2.Name),.val (.int .i64 x2.Low),.sl true none 1 none (r3.map (rowI .i64)),.sl true none 10 none (b.map Answer.row)])))⟩) r4 h ?_ ?_
 ·refine wr ?_ ?_<;>repeat' first|rfl|constructor|simp only [go_sem,seval,Bool.or_self,List.length_set,Int.natCast_zero,Int.cast_ofNat_Int,hr1,hi4',hw6,hb8,hx9,rE (f:=Client.rowD) (g:=Client.row) hx9,dB,hr10,hr11,mix_of (f:=Client.rowD) (g:=Client.row) (rx:=[.val (.string x2.Name),.val (.int .i64 x2.Low),.sl false none 1 none (x2.Open.map (rowI .i64)),.sl false none 10 none (x2.Done.map Answer.row)]) hx9 rfl rfl,lK (f:=Client.rowD) (g:=Client.row) _ hx9,rv (f:=Client.rowD) (g:=Client.row) hx9 rfl]
 rintro v13 l12 _ h -;rcases (rX r4.length v13).symm with ⟨hi14',hd17⟩|⟨hi14',hd17⟩
 ·rw [hd17] at h;simp only [fj] at h;refine Ws fun Z hZ=>?_;simp only [go_sem,seval,hi14'];refine hZ _ (pp (Wk_seq ?_));try simp only [Int.ofNat_lt,hi4',hi14',if_true,if_false] at h
  refine bL rfl (b9 (pp (aa fun Z hZ=>?_)));simp only [go_sem,seval,hw6];refine hZ _ (pp ?_);first|refine ⟨(l3.set v4 (Client.mk x2.Name x2.Low r3 l12)),?_,h⟩|refine ⟨hi4',(l3.set v4 (Client.mk x2.Name x2.Low r3 l12)),?_,h⟩
  refine Weak.trans (yu (n:=7) (Client.mk x2.Name x2.Low r3 l12) hx9 (by simp only [go_sem,seval]; rfl) rfl rfl) ?_;refine wr ?_ ?_<;>repeat' first|rfl|constructor|simp only [go_sem,seval,List.length_set]
 rw [hd17] at h;simp only [fj] at h;have hw16:=dw hi14' hl12;refine Ws fun Z hZ=>?_;simp only [go_sem,seval,hi14'];refine hZ _ (pp (Wk_seq ?_));try simp only [Int.ofNat_lt,hi4',hi14',if_true,if_false] at h
 refine bZ rfl (ai (pp (Wk_seq (ak (Ws fun Z hZ=>?_)))));simp only [go_sem,seval];refine hZ _ (pp ?_);obtain ⟨x5,hb18,hx19,h⟩:=dC h;try simp only [Int.toNat_natCast] at hx19
 try simp only [Int.ofNat_lt,Int.natCast_nonneg,true_and] at hb18
 obtain rfl:=uW hx9 hx19;obtain ⟨x6,hb20,hx21,h⟩:=dC h;try simp only [Int.toNat_natCast] at hx21
 try simp only [Int.ofNat_lt,Int.natCast_nonneg,true_and] at hb20
 obtain ⟨r7,hr22,h⟩:=Option.bind_eq_some_iff.1 h;have hx24:=tz (y:=(Answer.mk x6.Seq r7)) hx21;refine fA fun Z hZ=>?_;simp only [go_sem,seval,hb8,lK (f:=Client.rowD) (g:=Client.row) _ hx9,rv (f:=Client.rowD) (g:=Client.row) hx9 rfl,hb20,hx21,hr22,l9 (row:=Answer.row) (y:=(Answer.mk x6.Seq r7)) (rx:=[.val (.int .i64 x6.Seq),.val (.string x6.Reply_.Client_),.val (.int .i64 x6.Reply_.Seq),.sl false none 1 none (x6.Reply_.Path.map (rowI .i64)),.val (.int .i64 x6.Reply_.Err),.val (.int .i64 x6.Reply_.Value_.Kind),.val (.int .i64 x6.Reply_.Value_.N),.val (.string x6.Reply_.Value_.S),.sl false none 1 none (x6.Reply_.Value_.I.map (rowI .i64)),.sl false none 1 none (x6.Reply_.Value_.L.map rowS)]) (ry:=[.val (.int .i64 x6.Seq),.val (.string r7.Client_),.val (.int .i64 r7.Seq),.sl false none 1 none (r7.Path.map (rowI .i64)),.val (.int .i64 r7.Err),.val (.int .i64 r7.Value_.Kind),.val (.int .i64 r7.Value_.N),.val (.string r7.Value_.S),.sl false none 1 none (r7.Value_.I.map (rowI .i64)),.sl false none 1 none (r7.Value_.L.map rowS)]) hx21 rfl rfl];repeat with_reducible refine eL (by kernel_rfl) ?_
 refine hZ _ (by kernel_rfl) (pp (aa fun Z hZ=>?_));simp only [go_sem,seval,hw16];refine hZ _ (pp ?_);first|refine ⟨(l12.set v13 (Answer.mk x6.Seq r7)),?_,h⟩|refine ⟨hi14',(l12.set v13 (Answer.mk x6.Seq r7)),?_,h⟩
 refine wr ?_ ?_<;>repeat' first|rfl|constructor|simp only [go_sem,seval,Bool.or_self,List.length_set,Int.natCast_zero,Int.cast_ofNat_Int,hr1,hi4',hw6,hb8,hx9,rE (f:=Client.rowD) (g:=Client.row) hx9,dB,hr10,hr11,mix_of (f:=Client.rowD) (g:=Client.row) (rx:=[.val (.string x2.Name),.val (.int .i64 x2.Low),.sl false none 1 none (x2.Open.map (rowI .i64)),.sl false none 10 none (x2.Done.map Answer.row)]) hx9 rfl rfl,lK (f:=Client.rowD) (g:=Client.row) _ hx9,rv (f:=Client.rowD) (g:=Client.row) hx9 rfl,hi14',hw16,hb18,hb20,hx21,hr22,l9 (row:=Answer.row) (y:=(Answer.mk x6.Seq r7)) (rx:=[.val (.int .i64 x6.Seq),.val (.string x6.Reply_.Client_),.val (.int .i64 x6.Reply_.Seq),.sl false none 1 none (x6.Reply_.Path.map (rowI .i64)),.val (.int .i64 x6.Reply_.Err),.val (.int .i64 x6.Reply_.Value_.Kind),.val (.int .i64 x6.Reply_.Value_.N),.val (.string x6.Reply_.Value_.S),.sl false none 1 none (x6.Reply_.Value_.I.map (rowI .i64)),.sl false none 1 none (x6.Reply_.Value_.L.map rowS)]) (ry:=[.val (.int .i64 x6.Seq),.val (.string r7.Client_),.val (.int .i64 r7.Seq),.sl false none 1 none (r7.Path.map (rowI .i64)),.val (.int .i64 r7.Err),.val (.int .i64 r7.Value_.Kind),.val (.int .i64 r7.Value_.N),.val (.string r7.Value_.S),.sl false none 1 none (r7.Value_.I.map (rowI .i64)),.sl false none 1 none (r7.Value_.L.map rowS)]) hx21 rfl rfl,hx24]
def pA (N:Nat):FnS:=⟨[],false,fn1 (decL 4 Client.dec) fun q0=>(eS N q0).map fun r=>.sl false none 4 none (r.map Client.row),false⟩
attribute [go_sem] pA
theorem zZ (N:Nat):FSOk Try.prog 29 (pA N):=ok1 (fun q0 r h=>by
 obtain ⟨r',hr,rfl⟩:=Option.map_eq_some_iff.1 h;exact (mG N q0 r' hr).res (by (try simp only [go_sem]); exact RokI.h)) (fun h=>au Client.dec_le h)

def oL (N:Nat):FnS:=⟨[],false,fn1 (decL 4 Client.dec) fun q0=>(eS N q0).map fun r=>.sl true none 4 none (r.map Client.row),false⟩
attribute [go_sem] oL
theorem zK (N:Nat):FSOk Try.prog 29 (oL N):=ok1 (fun q0 r h=>by
 obtain ⟨r',hr,rfl⟩:=Option.map_eq_some_iff.1 h;exact (mG N q0 r' hr).res (by (try simp only [go_sem]); exact RokI.h)) (fun h=>au Client.dec_le h)

def ic (N:Nat):FnS:=⟨[],false,fn1 (decL 4 Client.dec) fun q0=>(eS N q0).map fun r=>.sl true none 4 none (r.map Client.rowD),false⟩
attribute [go_sem] ic
theorem jL (N:Nat):FSOk Try.prog 29 (ic N):=ok1 (fun q0 r h=>by
 obtain ⟨r',hr,rfl⟩:=Option.map_eq_some_iff.1 h;exact mG N q0 r' hr) (fun h=>au Client.dec_le h)


def bx:FnS:={ own:=[true,true],pure:=false,fn:=fun _=>none,peek:=true }
theorem aD:bx.own=[true,true]:=rfl
theorem ay:bx.peek=true:=rfl
theorem lq:PeekOk Try.prog 58:=
 tI (fn:=Try.f58) (tS:=22) (tR:=4) (e:=56) (size:=4) Try.func58 rfl rfl (by kernel_rfl) (by kernel_rfl) (by kernel_rfl) (by kernel_rfl)
theorem j5:FSOk Try.prog 58 bx:=⟨(fun cs r h=>by simp [bx] at h),fun _=>lq⟩
noncomputable def dg:Env:={ T:=tiOf Try.prog,G:=fun d f=>if d=67/\f=58 then some bx else none }
theorem bf:dg.T=tiOf Try.prog:=rfl
theorem bk (d:Nat):dg.F d=none:=rfl
theorem bg (d f:Nat):dg.L d f=none:=rfl
theorem bm:dg.G 67 58=some bx:=rfl
theorem mM:GOk Try.prog { T:=tiOf Try.prog,G:=dg.G }:=by
 refine ⟨?_,fun _ _ _ h=>by cases h⟩;intro d f fs hfs;simp only [dg] at hfs;split at hfs
 ·rename_i hc; obtain ⟨rfl,rfl⟩:=hc; obtain rfl:=Option.some.inj hfs; exact j5
 cases hfs
theorem oA:FunOk Try.prog 30 Try.f30 Try.f30.body.get! := ⟨Try.func30,rfl,by decide,by kernel_rfl⟩
set_option maxHeartbeats 4000000 in
theorem kd {α:Type} (row:α->List C) (ok:RowOk row) (l:List α) (i:Nat) (x:α) (k:Nat) (r:List α) (hr:r=l.take i++[x]++l.drop i) (hi:i<=l.length) (hsz:(l.length+1) * 72<=140737488355328) (hk1:l.length<=k) (hk2:k<=maxLen) :
  Con Try.prog 30 [true,false,true] false [.sl true none 4 (some k) (l.map row),.val (.int .i64 i),.sl true none 4 none ([x].map row)] (.sl true none 4 none (r.map row)):=by
 refine tA (E:=dg) (pB Try.prog _) mM mix oA (Nat.le_of_ble_eq_true rfl) ?_;intro _;rw [mo (by simp)];rw [show entryF [true,false,true] [C.sl true none 4 (some k) (l.map row),C.val (.int .i64 i),C.sl true none 4 none ([x].map row)]=(updT (updT (updT deadT 0 (.pal 0 [] 0 l.length none)) 1 (.val (.int .i64 i))) 2 (.pal 2 [] 0 1 none)) from by funext t; match t with|0=>simp [entryF,iL,viewD,updT]|1=>rfl|2=>rfl|t+3=>rfl];rw [show R0 [true,false,true] [C.sl true none 4 (some k) (l.map row),C.val (.int .i64 i),C.sl true none 4 none ([x].map row)]=upd (upd RZ 0 (C.sl true none 4 (some k) (l.map row))) 2 (C.sl true none 4 none ([x].map row)) from by funext t; match t with|0=>rfl|1=>rfl|2=>rfl|t+3=>rfl];apply tw;simp only [Try.f30,Option.get!];have hi1:(i:Int)<=(l.length:Int):=by omega
 have hi2:i<=l.length:=hi;have h10:(((1:Nat):Int)=0)=False:=by simp
 have hp:(row x).all Abs.plainCell=true:=ok.plain x;have hf:(row x).map C.frz=(row x):=ok.frz x;have hpD:(row x).all plainD=true:=by have:=(RowOk.allD ok [x]); simpa using this
 have hw1:IntKind.i64.wrap ((l.length:Int)+((1:Nat):Int))=((l.length+1:Nat):Int):=by rw [dN (by omega) (by omega)]; rfl
 have hlt0:(l.take i).length=i:=by simp; omega
 have hes:(4 != 0)=true:=rfl;have hm1:min 1 (l.length+1 - i)=1:=by omega
 have hm2:min (l.length - i) (l.length+1 - (i+1))=l.length - i:=by omega
 have hm3:(l.drop i).take (l.length - i)=l.drop i:=List.take_of_length_le (by simp);have hm4:i+1<=l.length+1:=by omega
 have hw2:IntKind.i64.wrap (((l.length+1:Nat):Int) - (i:Int))=((l.length+1 - i:Nat):Int):=by rw [dN (by omega) (by omega)]; omega
 have hw1b:IntKind.i64.wrap ((l.length:Int)+1)=((l.length+1:Nat):Int):=hw1;have hw3:IntKind.i64.wrap ((i:Int)+((1:Nat):Int))=((i+1:Nat):Int):=by rw [dN (by omega) (by omega)]; rfl
 have hw3b:IntKind.i64.wrap ((i:Int)+1)=((i+1:Nat):Int):=hw3;simp only [go_sem,seval,bf,bk,bg,bm,hi1,hi2,h10,Nat.le_refl,hp,hf,hpD,RowOk.frzRows ok,RowOk.all ok,RowOk.allPlain ok,RowOk.allD ok,ar,RX_cap,bO,altX,roomS,roomC,cutC,copyX,aY,al,extOf,Ext.all,peekX,aK,Option.map_some,hw1,hw2,hw3,hw1b,hw3b,Nat.min_self,Nat.zero_le,Nat.sub_zero,deepV,bne_self_eq_false,List.isEmpty_nil,decide_not,List.length_replicate,hlt0,hm1,hm2,hm3,hm4,aD,ay,Nat.not_succ_le_self];refine sg rfl ?_;simp only [go_sem,seval,bf,bk,bg,bm,hi1,hi2,h10,Nat.le_refl,hp,hf,hpD,RowOk.frzRows ok,RowOk.all ok,RowOk.allPlain ok,RowOk.allD ok,ar,RX_cap,bO,altX,roomS,roomC,cutC,copyX,aY,al,extOf,Ext.all,peekX,aK,Option.map_some,hw1,hw2,hw3,hw1b,hw3b,Nat.min_self,Nat.zero_le,Nat.sub_zero,deepV,bne_self_eq_false,List.isEmpty_nil,decide_not,List.length_replicate,hlt0,hm1,hm2,hm3,hm4,aD,ay,Nat.not_succ_le_self];refine jV rfl (fun hc=>?_) (fun hc=>?_)
 ·have e:i=l.length:=by omega
  subst e;simp only [go_sem,seval,bf,bk,bg,bm,hi1,hi2,h10,Nat.le_refl,hp,hf,hpD,RowOk.frzRows ok,RowOk.all ok,RowOk.allPlain ok,RowOk.allD ok,ar,RX_cap,bO,altX,roomS,roomC,cutC,copyX,aY,al,extOf,Ext.all,peekX,aK,Option.map_some,hw1,hw2,hw3,hw1b,hw3b,Nat.min_self,Nat.zero_le,Nat.sub_zero,deepV,bne_self_eq_false,List.isEmpty_nil,decide_not,List.length_replicate,hlt0,hm1,hm2,hm3,hm4,aD,ay,Nat.not_succ_le_self,ff,fy,hsz];refine jY ok ?_;rw [hr];simp [List.take_of_length_le]
 ·have hc1:decide ((i:Int)=(l.length:Int))=false:=decide_eq_false hc;have hlt:i < l.length:=by omega
  simp only [go_sem,seval,bf,bk,bg,bm,hi1,hi2,h10,Nat.le_refl,hp,hf,hpD,RowOk.frzRows ok,RowOk.all ok,RowOk.allPlain ok,RowOk.allD ok,ar,RX_cap,bO,altX,roomS,roomC,cutC,copyX,aY,al,extOf,Ext.all,peekX,aK,Option.map_some,hw1,hw2,hw3,hw1b,hw3b,Nat.min_self,Nat.zero_le,Nat.sub_zero,deepV,bne_self_eq_false,List.isEmpty_nil,decide_not,List.length_replicate,hlt0,hm1,hm2,hm3,hm4,aD,ay,Nat.not_succ_le_self,hc1];refine jV rfl (fun hk=>?_) (fun hk=>?_)
  ·have hk1:decide (k < l.length+1)=true:=decide_eq_true hk;have hk2:k < i+(l.length+1 - i):=by omega
   have e1:i+(l.length+1 - i)=l.length+1:=by omega
   have hi3:(i:Int)<=((l.length+1:Nat):Int):=by omega
   have hi4:i<=l.length+1:=by omega
   obtain ⟨A,hA⟩:∃ A,List.map row (List.take i l)++List.replicate (l.length+1 - i) [C.val (Value.string ⟨#[]⟩),C.val (Value.int .i64 0),C.val (Value.slice none 0 0),C.val (Value.slice none 0 0)]=A:=⟨_,rfl⟩;have hAp:aZ A:=by rw [<-hA]; exact eK (dW ok _) (m8 _ [Value.string ⟨#[]⟩,Value.int .i64 0,Value.slice none 0 0,Value.slice none 0 0] (by simp [Value.oneCell']))
   have hAl:A.length=l.length+1:=by rw [<-hA,List.length_append,List.length_map,hlt0,List.length_replicate]; omega
   obtain ⟨B,hB⟩:∃ B,aw A i [(row x)]=B:=⟨_,rfl⟩;have hBp:aZ B:=by rw [<-hB]; exact dX hAp ⟨by simp [frzRows,hf],by simp [hpD]⟩
   have hBl:B.length=l.length+1:=by rw [<-hB]; simp [aw,hAl]; omega
   obtain ⟨D,hD⟩:∃ D,aw B (i+1) (List.map row (List.drop i l))=D:=⟨_,rfl⟩;have hDp:aZ D:=by rw [<-hD]; exact dX hBp (dW ok _)
   have hDl:D.length=l.length+1:=by rw [<-hD]; simp [aw,hBl]; omega
   have hDe:D=(l.take i++[x]++l.drop i).map row:=by
    rw [<-hD,<-hB,<-hA,List.map_take,List.map_drop,th (A:=l.map row) (n:=l.length) (by simp) hi2 (by simp)];simp
   simp only [go_sem,seval,bf,bk,bg,bm,hi1,hi2,h10,Nat.le_refl,hp,hf,hpD,RowOk.frzRows ok,RowOk.all ok,RowOk.allPlain ok,RowOk.allD ok,ar,RX_cap,bO,altX,roomS,roomC,cutC,copyX,aY,al,extOf,Ext.all,peekX,aK,Option.map_some,hw1,hw2,hw3,hw1b,hw3b,Nat.min_self,Nat.zero_le,Nat.sub_zero,deepV,bne_self_eq_false,List.isEmpty_nil,decide_not,List.length_replicate,hlt0,hm1,hm2,hm3,hm4,aD,ay,Nat.not_succ_le_self,hc1,hk1,hk,hk2,e1,hi3,hi4,hA,hAl,hAp.1,hAp.2,hB,hBp.1,hBp.2,hBl,hD,hDp.1,hDp.2,hsz];repeat' ((with_reducible refine eL ?_ ?_); kernel_rfl)
   simp only [go_sem,seval,bf,bk,bg,bm,hi1,hi2,h10,Nat.le_refl,hp,hf,hpD,RowOk.frzRows ok,RowOk.all ok,RowOk.allPlain ok,RowOk.allD ok,ar,RX_cap,bO,altX,roomS,roomC,cutC,copyX,aY,al,extOf,Ext.all,peekX,aK,Option.map_some,hw1,hw2,hw3,hw1b,hw3b,Nat.min_self,Nat.zero_le,Nat.sub_zero,deepV,bne_self_eq_false,List.isEmpty_nil,decide_not,List.length_replicate,hlt0,hm1,hm2,hm3,hm4,aD,ay,Nat.not_succ_le_self,ff,fy,hDp.1,hDp.2,hD];refine jY ok ?_;rw [hr,<-hDe,<-hDl,List.take_length]
  ·have hk1:decide (k < l.length+1)=false:=decide_eq_false hk;have hk2:¬ k < i+(l.length+1 - i):=by omega
   have hk3:l.length+1<=k:=by omega
   have e2:l.length+1 - l.length=1:=by omega
   have e3:l.length<=l.length+1:=by omega
   have hi3:(i:Int)<=((l.length+1:Nat):Int):=by omega
   have hi4:i<=l.length+1:=by omega
   have hne:¬ l.length+1 - (i+1)=0:=by omega
   have hne2:¬ l.length - i=0:=by omega
   obtain ⟨A,hA⟩:∃ A,List.map row l++[[C.dead,C.dead,C.dead,C.dead]]=A:=⟨_,rfl⟩;have hAp:aZ A:=by rw [<-hA]; exact eK (dW ok _) (ou 1 4)
   have hAl:A.length=l.length+1:=by rw [<-hA]; simp
   have hm5:min (l.length+1 - i) (l.length+1 - (i+1))=l.length - i:=by omega
   have hm5b:min (l.length+1 - i) (l.length - i)=l.length - i:=by omega
   obtain ⟨A2,hA2⟩:∃ A2,(A.drop i).take (l.length - i)=A2:=⟨_,rfl⟩;have hA2e:A2=List.map row (l.drop i):=by
    rw [<-hA2,<-hA,List.drop_append,List.length_map,show i - l.length=0 by omega,List.drop_zero,List.take_append,List.take_of_length_le (by simp),show l.length - i - (List.drop i (List.map row l)).length=0 by simp];simp [List.map_drop]
   have hA2p:(A2.all fun r=>r.all Abs.plainCell)=true:=by rw [hA2e]; exact ok.allPlain _
   have hA2f:frzRows A2=A2:=by rw [hA2e]; exact ok.frzRows _
   have hA2d:aZ A2:=by rw [hA2e]; exact dW ok _
   obtain ⟨B,hB⟩:∃ B,aw A (i+1) A2=B:=⟨_,rfl⟩;have hBp:aZ B:=by rw [<-hB]; exact dX hAp hA2d
   have hBl:B.length=l.length+1:=by rw [<-hB]; simp [aw,hAl,hA2e]; omega
   obtain ⟨D,hD⟩:∃ D,aw B i [(row x)]=D:=⟨_,rfl⟩;have hDp:aZ D:=by rw [<-hD]; exact dX hBp ⟨by simp [frzRows,hf],by simp [hpD]⟩
   have hDl:D.length=l.length+1:=by rw [<-hD]; simp [aw,hBl]; omega
   have hDe:D=(l.take i++[x]++l.drop i).map row:=by
    rw [<-hD,<-hB,<-hA2,<-hA,si (A:=l.map row) (n:=l.length) (by simp) hi2];simp [List.map_take,List.map_drop]
   simp only [go_sem,seval,bf,bk,bg,bm,hi1,hi2,h10,Nat.le_refl,hp,hf,hpD,RowOk.frzRows ok,RowOk.all ok,RowOk.allPlain ok,RowOk.allD ok,ar,RX_cap,bO,altX,roomS,roomC,cutC,copyX,aY,al,extOf,Ext.all,peekX,aK,Option.map_some,hw1,hw2,hw3,hw1b,hw3b,Nat.min_self,Nat.zero_le,Nat.sub_zero,deepV,bne_self_eq_false,List.isEmpty_nil,decide_not,List.length_replicate,hlt0,hm1,hm2,hm3,hm4,aD,ay,Nat.not_succ_le_self,hc1,hk1,hk,hk2,hk3,e2,e3,hi3,hi4,hne,hne2,hA,hAl,hAp.1,hAp.2,hes,hA2,hA2p,hA2f,hB,hBp.1,hBp.2,hBl,hD,hDp.1,hDp.2,hDl,hm5,hm5b];refine sj rfl ?_;simp only [go_sem,seval,bf,bk,bg,bm,hi1,hi2,h10,Nat.le_refl,hp,hf,hpD,RowOk.frzRows ok,RowOk.all ok,RowOk.allPlain ok,RowOk.allD ok,ar,RX_cap,bO,altX,roomS,roomC,cutC,copyX,aY,al,extOf,Ext.all,peekX,aK,Option.map_some,hw1,hw2,hw3,hw1b,hw3b,Nat.min_self,Nat.zero_le,Nat.sub_zero,deepV,bne_self_eq_false,List.isEmpty_nil,decide_not,List.length_replicate,hlt0,hm1,hm2,hm3,hm4,aD,ay,Nat.not_succ_le_self,hc1,hk1,hk,hk2,hk3,e2,e3,hi3,hi4,hne,hne2,hA,hAl,hAp.1,hAp.2,hes,hA2,hA2p,hA2f,hB,hBp.1,hBp.2,hBl,hD,hDp.1,hDp.2,hDl,hm5,hm5b];repeat' ((with_reducible refine eL ?_ ?_); kernel_rfl)
   simp only [go_sem,seval,bf,bk,bg,bm,hi1,hi2,h10,Nat.le_refl,hp,hf,hpD,RowOk.frzRows ok,RowOk.all ok,RowOk.allPlain ok,RowOk.allD ok,ar,RX_cap,bO,altX,roomS,roomC,cutC,copyX,aY,al,extOf,Ext.all,peekX,aK,Option.map_some,hw1,hw2,hw3,hw1b,hw3b,Nat.min_self,Nat.zero_le,Nat.sub_zero,deepV,bne_self_eq_false,List.isEmpty_nil,decide_not,List.length_replicate,hlt0,hm1,hm2,hm3,hm4,aD,ay,Nat.not_succ_le_self,ff,fy,hDp.1,hDp.2,hD,hDl];refine jY ok ?_;rw [hr,<-hDe,<-hDl,List.take_length]
theorem oY (N:Nat) (a0:List Client) (a1:Int) (a2:List Client) (r:List Client) (h:bB N a0 a1 a2=some r) :
  Con Try.prog 30 [true,false,true] false [.sl true none 4 none (a0.map Client.row),.val (.int .i64 a1),.sl true none 4 none (a2.map Client.row)] (.sl true none 4 none (r.map Client.row)):=by
 unfold bB at h;obtain ⟨n,x,rfl,rfl,h1,h2,h3⟩:=mw h;exact rA fun k hk1 hk2=>kd Client.row Client.row_ok a0 n x k r (Option.some.inj h3).symm h1 h2 (by simpa using hk1) hk2
def dt (N:Nat):FnS:={ own:=[true,false,true],pure:=false,fn:=fun cs=>match cs with
 | [c0,c1,c2]=>(decO 4 Client.dec c0).bind fun q0=>(decI .i64 c1).bind fun q1=>(decO 4 Client.dec c2).bind fun q2=>(bB N q0 q1 q2).map fun r=>.sl true none 4 none (r.map Client.row)
 | _=>none }
theorem l7 (N:Nat):(dt N).own=[true,false,true]:=rfl
theorem lx (N:Nat):(dt N).pure=false:=rfl
theorem lz (N:Nat):(dt N).peek=false:=rfl
attribute [go_sem] dt l7 lx lz
theorem tO (N:Nat):FSOk Try.prog 30 (dt N):=by
 refine ⟨fun cs r h=>?_,fun h=>by cases h⟩;simp only [dt] at h;split at h
 ·simp only [Option.bind_eq_some_iff,Option.map_eq_some_iff] at h;obtain ⟨q0,h0,q1,h1,q2,h2,r',hr,rfl⟩:=h;exact (oY N q0 q1 q2 r' hr).argsO rfl (gj (ju Client.row_ok Client.dec_le h0) (lT (aj h1) (gj (ju Client.row_ok Client.dec_le h2) kI)))
 ·cases h
def RawRow:Type:={r:List C // r.map C.frz=r/\r.all C.cellOk=true/\r.all Go.Abs.plainCell=true}
def RawRow.row (x:RawRow):List C:=x.1
theorem RawRow.ok:RowOk RawRow.row:=⟨fun x=>x.2.1,fun x=>x.2.2.1,fun x=>x.2.2.2⟩
theorem lV {N:Nat} {a0:List Client} {a1:Int} {x:Client} {r:List Client} (h:bB N a0 a1 [x]=some r):r[a1.toNat]?=some x:=by
 unfold bB at h;obtain ⟨n,y,rfl,hy,h1,h2,h3⟩:=mw h;obtain rfl:x=y:=by simpa using hy
 obtain rfl:=Option.some.inj h3;rw [Int.toNat_natCast,List.append_assoc,List.getElem?_append_right (by simp only [List.length_take]; omega)];simp only [List.length_take,Nat.min_eq_left h1,Nat.sub_self,List.cons_append,List.getElem?_cons_zero]
theorem oB (N:Nat) (a0:List Client) (a1:Int) (a2:List Client) (r:List Client) (h:bB N a0 a1 a2=some r) :
  Con Try.prog 30 [true,false,true] false [.sl true none 4 none (a0.map Client.row),.val (.int .i64 a1),.sl true none 4 none (a2.map Client.rowN)] (.sl true none 4 none ((r.map Client.row).set a1.toNat ((a2.map Client.rowN).headD []))):=by
 unfold bB at h;obtain ⟨n,x,rfl,rfl,h1,h2,h3⟩:=mw h;obtain rfl:=Option.some.inj h3;have ok:=Client.row_ok
 let f:Client->RawRow:=fun y=>⟨Client.row y,ok.frz y,ok.ok y,ok.plain y⟩
 let g:RawRow:=⟨Client.rowN x,rfl,rfl,rfl⟩
 have e1:(a0.map f).map RawRow.row=a0.map Client.row:=by rw [List.map_map]; rfl
 have e2:((a0.map f).take n++[g]++(a0.map f).drop n).map RawRow.row=((a0.take n++[x]++a0.drop n).map Client.row).set n (Client.rowN x):=by
  simp only [List.map_append,List.map_cons,List.map_nil,List.append_assoc];rw [<-List.map_take,<-List.map_drop,List.map_map,List.map_map,List.set_append_right _ _ (by simp only [List.length_map,List.length_take]; omega)];simp only [List.length_map,List.length_take,Nat.min_eq_left h1,Nat.sub_self,List.cons_append,List.nil_append,List.set_cons_zero];rfl
 refine rA fun k hk1 hk2=>?_;have:=kd RawRow.row RawRow.ok (a0.map f) n g k _ rfl (by simpa using h1) (by simpa using h2) (by simpa using hk1) hk2;rw [e1,e2] at this;exact this
def bT (N:Nat):FnS:={ own:=[true,false,true],pure:=false,fn:=fun cs=>match cs with
 | [c0,c1,c2]=>(decO 4 Client.dec c0).bind fun q0=>(decI .i64 c1).bind fun q1=>(decO 4 Client.decN c2).bind fun q2=>(bB N q0 q1 q2).map fun r=>.sl true none 4 none ((r.map Client.row).set q1.toNat ((q2.map Client.rowN).headD []))
 | _=>none }
theorem lP (N:Nat):(bT N).own=[true,false,true]:=rfl
theorem ly (N:Nat):(bT N).pure=false:=rfl
theorem lu (N:Nat):(bT N).peek=false:=rfl
attribute [go_sem] bT lP ly lu List.headD_cons Client.rowN Client.decN
theorem mu (N:Nat):FSOk Try.prog 30 (bT N):=by
 refine ⟨fun cs r h=>?_,fun h=>by cases h⟩;simp only [bT] at h;split at h
 ·simp only [Option.bind_eq_some_iff,Option.map_eq_some_iff] at h;obtain ⟨q0,h0,q1,h1,q2,h2,r',hr,rfl⟩:=h;exact (oB N q0 q1 q2 r' hr).argsO rfl (gj (ju Client.row_ok Client.dec_le h0) (lT (aj h1) (gj (ju Client.rowN_ok Client.decN_le h2) kI)))
 ·cases h


theorem s3 (N:Nat) (a0:Int) (r:Bool) (h:gT N a0=some r):Con Try.prog 73 [] true [.val (.int .i64 a0)] (.val (.bool r)):=by
 refine aJ (G:=(glist [])) Try.func73 rfl (by decide) (by kernel_rfl) gn [] mix (Nat.le_of_ble_eq_true rfl) ?_;simp only [Try.f73];unfold gT at h;refine Ws fun Z hZ=>?_;simp only [go_sem,seval];refine hZ _ (pp (Ws fun Z hZ=>?_));simp only [go_sem,seval];refine hZ _ (pp (Wk_ret (pp ?_)));cases h;simp only [go_sem,seval];exact ⟨_,rfl,RokI.h,PureI.h⟩
def je (N:Nat):FnS:=⟨[],true,fn1 (decI .i64) fun q0=>(gT N q0).map fun r=>.val (.bool r),false⟩
attribute [go_sem] je
theorem lH (N:Nat):FSOk Try.prog 73 (je N):=ok1 (fun q0 r h=>by
 obtain ⟨r',hr,rfl⟩:=Option.map_eq_some_iff.1 h;exact s3 N q0 r' hr) (aj)


noncomputable def pJ (N d f:Nat):Option FnS:=glist [(6,73,je N),(9,73,je N)] d f
attribute [go_sem] pJ
theorem tL (N:Nat) (a0:Int) (a1:Int) (r:Bool) (h:iT N a0 a1=some r):Con Try.prog 60 [] true [.val (.int .i64 a0),.val (.int .i64 a1)] (.val (.bool r)):=by
 refine aJ (G:=(pJ N)) Try.func60 rfl (by decide) (by kernel_rfl) (gc 6 (lH N) (gc 9 (lH N) gn)) [] mix (Nat.le_of_ble_eq_true rfl) ?_;simp only [Try.f60];unfold iT at h;refine Ws fun Z hZ=>?_;simp only [go_sem,seval];refine hZ _ (pp (Wk_seq ?_));obtain ⟨r1,hr1,h⟩:=Option.bind_eq_some_iff.1 h;refine aa fun Z hZ=>?_;simp only [go_sem,seval,hr1];refine sw (db rfl) (fun hc2=>?_) (fun hc2=>?_)
 ·rw [if_neg (ne_true_of_eq_false hc2)] at h;simp only [go_sem,seval,hc2];refine hZ _ (pp (Wk_ret (pp ?_)));cases h;simp only [go_sem,seval];exact ⟨_,rfl,RokI.h,PureI.h⟩
 rw [if_pos hc2] at h;obtain ⟨r2,hr3,h⟩:=Option.bind_eq_some_iff.1 h;simp only [go_sem,seval,hc2,hr3];refine da rfl (fun hc4=>?_) (fun hc4=>?_)
 ·rw [if_neg (ne_true_of_eq_false hc4)] at h;simp only [go_sem,seval,hc4];refine hZ _ (pp (Wk_ret (pp ?_)));cases h;simp only [go_sem,seval];exact ⟨_,rfl,RokI.h,PureI.h⟩
 rw [if_pos hc4] at h;simp only [go_sem,seval,hc4];refine hZ _ (pp (Wk_ret (pp ?_)));cases h;simp only [go_sem,seval];exact ⟨_,rfl,RokI.h,PureI.h⟩
def ll (N:Nat):FnS:=⟨[],true,fn2 (decI .i64) (decI .i64) fun q0 q1=>(iT N q0 q1).map fun r=>.val (.bool r),false⟩
attribute [go_sem] ll
theorem qY (N:Nat):FSOk Try.prog 60 (ll N):=ok2 (fun q0 q1 r h=>by
 obtain ⟨r',hr,rfl⟩:=Option.map_eq_some_iff.1 h;exact tL N q0 q1 r' hr) (aj) (aj)


theorem qG (N:Nat) (a0:Int) (r:Bool) (h:fv N a0=some r):Con Try.prog 61 [] true [.val (.int .i64 a0)] (.val (.bool r)):=by
 refine aJ (G:=(glist [])) Try.func61 rfl (by decide) (by kernel_rfl) gn [] mix (Nat.le_of_ble_eq_true rfl) ?_;simp only [Try.f61];unfold fv at h;refine Ws fun Z hZ=>?_;simp only [go_sem,seval];refine hZ _ (pp (Ws fun Z hZ=>?_));simp only [go_sem,seval];refine hZ _ (pp (Wk_ret (pp ?_)));cases h;simp only [go_sem,seval];exact ⟨_,rfl,RokI.h,PureI.h⟩
def gH (N:Nat):FnS:=⟨[],true,fn1 (decI .i64) fun q0=>(fv N q0).map fun r=>.val (.bool r),false⟩
attribute [go_sem] gH
theorem kj (N:Nat):FSOk Try.prog 61 (gH N):=ok1 (fun q0 r h=>by
 obtain ⟨r',hr,rfl⟩:=Option.map_eq_some_iff.1 h;exact qG N q0 r' hr) (aj)


noncomputable def jz (N d f:Nat):Option FnS:=glist [(27,60,ll N),(47,61,gH N),(50,61,gH N)] d f
attribute [go_sem] jz
theorem mY (N:Nat) (a0:(List Int)) (a1:Int) (r:Int × Bool) (h:b8 N a0 a1=some r):Con Try.prog 31 [] true [.sl false none 1 none (a0.map (rowI .i64)),.val (.int .i64 a1)] (.tup [.val (.int .i64 r.1),.val (.bool r.2)]):=by
 refine aJ (G:=(jz N)) Try.func31 rfl (by decide) (by kernel_rfl) (gc 27 (qY N) (gc 47 (kj N) (gc 50 (kj N) gn))) [] mix (Nat.le_of_ble_eq_true rfl) ?_;simp only [Try.f31];unfold b8 at h;refine Ws fun Z hZ=>?_;simp only [go_sem,seval];refine hZ _ (pp (Ws fun Z hZ=>?_));simp only [go_sem,seval];refine hZ _ (pp (Ws fun Z hZ=>?_));simp only [go_sem,seval];refine hZ _ (pp (Wk_seq (ak (pk (fun (b:Int × Int)=>⟨tab 54 (updT (updT (updT (updT (updT deadT 0 (.sl false none 1 none (a0.map (rowI .i64)))) 1 (.val (.int .i64 a1))) 6 (.val (.int .i64 ((a0.length:Nat):Int)))) 7 (.val (.int .i64 b.1))) 8 (.val (.int .i64 b.2))),RZ⟩) (0,((a0.length:Nat):Int)) h ?_ ?_))))
 ·refine wr ?_ ?_<;>repeat' first|rfl|constructor
 rintro n ⟨v2,v3⟩ h -;cases n with
 | zero=>simp [bI] at h
 | succ n=>
 simp only [bI] at h;refine Wk_seq (Ws fun Z hZ=>?_);simp only [go_sem,seval];refine hZ _ (pp (bq rfl (fun hc1=>?_) (fun hc1=>?_)))
 ·have hc1d:=decide_eq_true hc1;rw [if_pos hc1] at h;refine ai (pp (ak (Ws fun Z hZ=>?_)));simp only [go_sem,seval,hc1d];refine hZ _ (pp (Wk_seq ?_));obtain ⟨x9,hb2,hx3,h⟩:=dC h;obtain ⟨r10,hr4,h⟩:=Option.bind_eq_some_iff.1 h;refine aa fun Z hZ=>?_;simp only [go_sem,seval,hb2,hx3,hr4];refine hZ _ (pp (aM rfl (fun hc5=>?_) (fun hc5=>?_)))
  ·rw [if_pos hc5] at h;refine aa fun Z hZ=>?_;simp only [go_sem,seval,hc5];refine hZ _ (pp (⟨_,Nat.lt_succ_self _,(IntKind.i64.wrap ((IntKind.i64.wrap (shrI .u64 (IntKind.u64.wrap (IntKind.i64.wrap (v2+v3))) 1))+1),v3),?_,h⟩));refine wr ?_ ?_<;>repeat' first|rfl|constructor
  rw [if_neg (ne_true_of_eq_false hc5)] at h;refine aa fun Z hZ=>?_;simp only [go_sem,seval,hc5];refine hZ _ (pp (⟨_,Nat.lt_succ_self _,(v2,IntKind.i64.wrap (shrI .u64 (IntKind.u64.wrap (IntKind.i64.wrap (v2+v3))) 1)),?_,h⟩));refine wr ?_ ?_<;>repeat' first|rfl|constructor
 have hc1d:=decide_eq_false hc1;rw [if_neg hc1] at h;refine b9 (pp ?_);unfold eA at h;refine Ws fun Z hZ=>?_;simp only [go_sem,seval,hc1d];refine sw (ah rfl) (fun hc6=>?_) (fun hc6=>?_)
 ·have hc6d:=decide_eq_false hc6;rw [if_neg hc6] at h;simp only [go_sem,seval,hc6d];refine hZ _ (pp (Wk_ret (pp ?_)));cases h;simp only [go_sem,seval];exact ⟨_,rfl,RokI.h,PureI.h⟩
 have hc6d:=decide_eq_true hc6;rw [if_pos hc6] at h;obtain ⟨x11,hb7,hx8,h⟩:=dC h;simp only [go_sem,seval,hb7,hx8];refine ah rfl (fun hc9=>?_) (fun hc9=>?_)
 ·have hc9d:=decide_eq_true hc9;rw [if_pos hc9] at h;simp only [go_sem,seval,hc9d];refine hZ _ (pp (Wk_ret (pp ?_)));cases h;simp only [go_sem,seval];exact ⟨_,rfl,RokI.h,PureI.h⟩
 have hc9d:=decide_eq_false hc9;rw [if_neg hc9] at h;obtain ⟨r12,hr10,h⟩:=Option.bind_eq_some_iff.1 h;simp only [go_sem,seval,hb7,hx8,hc9d,hr10];refine db rfl (fun hc11=>?_) (fun hc11=>?_)
 ·rw [if_pos hc11] at h;obtain ⟨r13,hr12,h⟩:=Option.bind_eq_some_iff.1 h;simp only [go_sem,seval,hc11,hr12];refine hZ _ (pp (Wk_ret (pp ?_)));cases h;simp only [go_sem,seval];exact ⟨_,rfl,RokI.h,PureI.h⟩
 rw [if_neg (ne_true_of_eq_false hc11)] at h;simp only [go_sem,seval,hc11];refine hZ _ (pp (Wk_ret (pp ?_)));cases h;simp only [go_sem,seval];exact ⟨_,rfl,RokI.h,PureI.h⟩
def fP (N:Nat):FnS:=⟨[],true,fn2 (decL 1 (dec1 (decI .i64))) (decI .i64) fun q0 q1=>(b8 N q0 q1).map fun r=>.tup [.val (.int .i64 r.1),.val (.bool r.2)],false⟩
attribute [go_sem] fP
theorem lA (N:Nat):FSOk Try.prog 31 (fP N):=ok2 (fun q0 q1 r h=>by
 obtain ⟨r',hr,rfl⟩:=Option.map_eq_some_iff.1 h;exact mY N q0 q1 r' hr) (fun h=>au (bQ .i64) h) (aj)


def bK:FnS:={ own:=[true,true],pure:=false,fn:=fun _=>none,peek:=true }
theorem aF:bK.own=[true,true]:=rfl
theorem aE:bK.peek=true:=rfl
theorem mC:PeekOk Try.prog 62:=
 tI (fn:=Try.f62) (tS:=23) (tR:=4) (e:=3) (size:=1) Try.func62 rfl rfl (by kernel_rfl) (by kernel_rfl) (by kernel_rfl) (by kernel_rfl)
theorem kz:FSOk Try.prog 62 bK:=⟨(fun cs r h=>by simp [bK] at h),fun _=>mC⟩
noncomputable def dQ:Env:={ T:=tiOf Try.prog,G:=fun d f=>if d=67/\f=62 then some bK else none }
theorem bG:dQ.T=tiOf Try.prog:=rfl
theorem bE (d:Nat):dQ.F d=none:=rfl
theorem bD (d f:Nat):dQ.L d f=none:=rfl
theorem bF:dQ.G 67 62=some bK:=rfl
theorem pa:GOk Try.prog { T:=tiOf Try.prog,G:=dQ.G }:=by
 refine ⟨?_,fun _ _ _ h=>by cases h⟩;intro d f fs hfs;simp only [dQ] at hfs;split at hfs
 ·rename_i hc; obtain ⟨rfl,rfl⟩:=hc; obtain rfl:=Option.some.inj hfs; exact kz
 cases hfs
theorem qk:FunOk Try.prog 32 Try.f32 Try.f32.body.get! := ⟨Try.func32,rfl,by decide,by kernel_rfl⟩
set_option maxHeartbeats 4000000 in
theorem p8 {α:Type} (row:α->List C) (ok:RowOk row) (l:List α) (i:Nat) (x:α) (k:Nat) (r:List α) (hr:r=l.take i++[x]++l.drop i) (hi:i<=l.length) (hsz:(l.length+1) * 8<=140737488355328) (hk1:l.length<=k) (hk2:k<=maxLen) :
  Con Try.prog 32 [true,false,true] false [.sl true none 1 (some k) (l.map row),.val (.int .i64 i),.sl true none 1 none ([x].map row)] (.sl true none 1 none (r.map row)):=by
 refine tA (E:=dQ) (pB Try.prog _) pa mix qk (Nat.le_of_ble_eq_true rfl) ?_;intro _;rw [mo (by simp)];rw [show entryF [true,false,true] [C.sl true none 1 (some k) (l.map row),C.val (.int .i64 i),C.sl true none 1 none ([x].map row)]=(updT (updT (updT deadT 0 (.pal 0 [] 0 l.length none)) 1 (.val (.int .i64 i))) 2 (.pal 2 [] 0 1 none)) from by funext t; match t with|0=>simp [entryF,iL,viewD,updT]|1=>rfl|2=>rfl|t+3=>rfl];rw [show R0 [true,false,true] [C.sl true none 1 (some k) (l.map row),C.val (.int .i64 i),C.sl true none 1 none ([x].map row)]=upd (upd RZ 0 (C.sl true none 1 (some k) (l.map row))) 2 (C.sl true none 1 none ([x].map row)) from by funext t; match t with|0=>rfl|1=>rfl|2=>rfl|t+3=>rfl];apply tw;simp only [Try.f32,Option.get!];have hi1:(i:Int)<=(l.length:Int):=by omega
 have hi2:i<=l.length:=hi;have h10:(((1:Nat):Int)=0)=False:=by simp
 have hp:(row x).all Abs.plainCell=true:=ok.plain x;have hf:(row x).map C.frz=(row x):=ok.frz x;have hpD:(row x).all plainD=true:=by have:=(RowOk.allD ok [x]); simpa using this
 have hw1:IntKind.i64.wrap ((l.length:Int)+((1:Nat):Int))=((l.length+1:Nat):Int):=by rw [dN (by omega) (by omega)]; rfl
 have hlt0:(l.take i).length=i:=by simp; omega
 have hes:(1 != 0)=true:=rfl;have hm1:min 1 (l.length+1 - i)=1:=by omega
 have hm2:min (l.length - i) (l.length+1 - (i+1))=l.length - i:=by omega
 have hm3:(l.drop i).take (l.length - i)=l.drop i:=List.take_of_length_le (by simp);have hm4:i+1<=l.length+1:=by omega
 have hw2:IntKind.i64.wrap (((l.length+1:Nat):Int) - (i:Int))=((l.length+1 - i:Nat):Int):=by rw [dN (by omega) (by omega)]; omega
 have hw1b:IntKind.i64.wrap ((l.length:Int)+1)=((l.length+1:Nat):Int):=hw1;have hw3:IntKind.i64.wrap ((i:Int)+((1:Nat):Int))=((i+1:Nat):Int):=by rw [dN (by omega) (by omega)]; rfl
 have hw3b:IntKind.i64.wrap ((i:Int)+1)=((i+1:Nat):Int):=hw3;simp only [go_sem,seval,bG,bE,bD,bF,hi1,hi2,h10,Nat.le_refl,hp,hf,hpD,RowOk.frzRows ok,RowOk.all ok,RowOk.allPlain ok,RowOk.allD ok,ar,RX_cap,bO,altX,roomS,roomC,cutC,copyX,aY,al,extOf,Ext.all,peekX,aK,Option.map_some,hw1,hw2,hw3,hw1b,hw3b,Nat.min_self,Nat.zero_le,Nat.sub_zero,deepV,bne_self_eq_false,List.isEmpty_nil,decide_not,List.length_replicate,hlt0,hm1,hm2,hm3,hm4,aF,aE,Nat.not_succ_le_self];refine sg rfl ?_;simp only [go_sem,seval,bG,bE,bD,bF,hi1,hi2,h10,Nat.le_refl,hp,hf,hpD,RowOk.frzRows ok,RowOk.all ok,RowOk.allPlain ok,RowOk.allD ok,ar,RX_cap,bO,altX,roomS,roomC,cutC,copyX,aY,al,extOf,Ext.all,peekX,aK,Option.map_some,hw1,hw2,hw3,hw1b,hw3b,Nat.min_self,Nat.zero_le,Nat.sub_zero,deepV,bne_self_eq_false,List.isEmpty_nil,decide_not,List.length_replicate,hlt0,hm1,hm2,hm3,hm4,aF,aE,Nat.not_succ_le_self];refine jV rfl (fun hc=>?_) (fun hc=>?_)
 ·have e:i=l.length:=by omega
  subst e;simp only [go_sem,seval,bG,bE,bD,bF,hi1,hi2,h10,Nat.le_refl,hp,hf,hpD,RowOk.frzRows ok,RowOk.all ok,RowOk.allPlain ok,RowOk.allD ok,ar,RX_cap,bO,altX,roomS,roomC,cutC,copyX,aY,al,extOf,Ext.all,peekX,aK,Option.map_some,hw1,hw2,hw3,hw1b,hw3b,Nat.min_self,Nat.zero_le,Nat.sub_zero,deepV,bne_self_eq_false,List.isEmpty_nil,decide_not,List.length_replicate,hlt0,hm1,hm2,hm3,hm4,aF,aE,Nat.not_succ_le_self,ff,fy,hsz];refine jY ok ?_;rw [hr];simp [List.take_of_length_le]
 ·have hc1:decide ((i:Int)=(l.length:Int))=false:=decide_eq_false hc;have hlt:i < l.length:=by omega
  simp only [go_sem,seval,bG,bE,bD,bF,hi1,hi2,h10,Nat.le_refl,hp,hf,hpD,RowOk.frzRows ok,RowOk.all ok,RowOk.allPlain ok,RowOk.allD ok,ar,RX_cap,bO,altX,roomS,roomC,cutC,copyX,aY,al,extOf,Ext.all,peekX,aK,Option.map_some,hw1,hw2,hw3,hw1b,hw3b,Nat.min_self,Nat.zero_le,Nat.sub_zero,deepV,bne_self_eq_false,List.isEmpty_nil,decide_not,List.length_replicate,hlt0,hm1,hm2,hm3,hm4,aF,aE,Nat.not_succ_le_self,hc1];refine jV rfl (fun hk=>?_) (fun hk=>?_)
  ·have hk1:decide (k < l.length+1)=true:=decide_eq_true hk;have hk2:k < i+(l.length+1 - i):=by omega
   have e1:i+(l.length+1 - i)=l.length+1:=by omega
   have hi3:(i:Int)<=((l.length+1:Nat):Int):=by omega
   have hi4:i<=l.length+1:=by omega
   obtain ⟨A,hA⟩:∃ A,List.map row (List.take i l)++List.replicate (l.length+1 - i) [C.val (Value.int .i64 0)]=A:=⟨_,rfl⟩;have hAp:aZ A:=by rw [<-hA]; exact eK (dW ok _) (m8 _ [Value.int .i64 0] (by simp [Value.oneCell']))
   have hAl:A.length=l.length+1:=by rw [<-hA,List.length_append,List.length_map,hlt0,List.length_replicate]; omega
   obtain ⟨B,hB⟩:∃ B,aw A i [(row x)]=B:=⟨_,rfl⟩;have hBp:aZ B:=by rw [<-hB]; exact dX hAp ⟨by simp [frzRows,hf],by simp [hpD]⟩
   have hBl:B.length=l.length+1:=by rw [<-hB]; simp [aw,hAl]; omega
   obtain ⟨D,hD⟩:∃ D,aw B (i+1) (List.map row (List.drop i l))=D:=⟨_,rfl⟩;have hDp:aZ D:=by rw [<-hD]; exact dX hBp (dW ok _)
   have hDl:D.length=l.length+1:=by rw [<-hD]; simp [aw,hBl]; omega
   have hDe:D=(l.take i++[x]++l.drop i).map row:=by
    rw [<-hD,<-hB,<-hA,List.map_take,List.map_drop,th (A:=l.map row) (n:=l.length) (by simp) hi2 (by simp)];simp
   simp only [go_sem,seval,bG,bE,bD,bF,hi1,hi2,h10,Nat.le_refl,hp,hf,hpD,RowOk.frzRows ok,RowOk.all ok,RowOk.allPlain ok,RowOk.allD ok,ar,RX_cap,bO,altX,roomS,roomC,cutC,copyX,aY,al,extOf,Ext.all,peekX,aK,Option.map_some,hw1,hw2,hw3,hw1b,hw3b,Nat.min_self,Nat.zero_le,Nat.sub_zero,deepV,bne_self_eq_false,List.isEmpty_nil,decide_not,List.length_replicate,hlt0,hm1,hm2,hm3,hm4,aF,aE,Nat.not_succ_le_self,hc1,hk1,hk,hk2,e1,hi3,hi4,hA,hAl,hAp.1,hAp.2,hB,hBp.1,hBp.2,hBl,hD,hDp.1,hDp.2,hsz];repeat' ((with_reducible refine eL ?_ ?_); kernel_rfl)
   simp only [go_sem,seval,bG,bE,bD,bF,hi1,hi2,h10,Nat.le_refl,hp,hf,hpD,RowOk.frzRows ok,RowOk.all ok,RowOk.allPlain ok,RowOk.allD ok,ar,RX_cap,bO,altX,roomS,roomC,cutC,copyX,aY,al,extOf,Ext.all,peekX,aK,Option.map_some,hw1,hw2,hw3,hw1b,hw3b,Nat.min_self,Nat.zero_le,Nat.sub_zero,deepV,bne_self_eq_false,List.isEmpty_nil,decide_not,List.length_replicate,hlt0,hm1,hm2,hm3,hm4,aF,aE,Nat.not_succ_le_self,ff,fy,hDp.1,hDp.2,hD];refine jY ok ?_;rw [hr,<-hDe,<-hDl,List.take_length]
  ·have hk1:decide (k < l.length+1)=false:=decide_eq_false hk;have hk2:¬ k < i+(l.length+1 - i):=by omega
   have hk3:l.length+1<=k:=by omega
   have e2:l.length+1 - l.length=1:=by omega
   have e3:l.length<=l.length+1:=by omega
   have hi3:(i:Int)<=((l.length+1:Nat):Int):=by omega
   have hi4:i<=l.length+1:=by omega
   have hne:¬ l.length+1 - (i+1)=0:=by omega
   have hne2:¬ l.length - i=0:=by omega
   obtain ⟨A,hA⟩:∃ A,List.map row l++[[C.dead]]=A:=⟨_,rfl⟩;have hAp:aZ A:=by rw [<-hA]; exact eK (dW ok _) (ou 1 1)
   have hAl:A.length=l.length+1:=by rw [<-hA]; simp
   have hm5:min (l.length+1 - i) (l.length+1 - (i+1))=l.length - i:=by omega
   have hm5b:min (l.length+1 - i) (l.length - i)=l.length - i:=by omega
   obtain ⟨A2,hA2⟩:∃ A2,(A.drop i).take (l.length - i)=A2:=⟨_,rfl⟩;have hA2e:A2=List.map row (l.drop i):=by
    rw [<-hA2,<-hA,List.drop_append,List.length_map,show i - l.length=0 by omega,List.drop_zero,List.take_append,List.take_of_length_le (by simp),show l.length - i - (List.drop i (List.map row l)).length=0 by simp];simp [List.map_drop]
   have hA2p:(A2.all fun r=>r.all Abs.plainCell)=true:=by rw [hA2e]; exact ok.allPlain _
   have hA2f:frzRows A2=A2:=by rw [hA2e]; exact ok.frzRows _
   have hA2d:aZ A2:=by rw [hA2e]; exact dW ok _
   obtain ⟨B,hB⟩:∃ B,aw A (i+1) A2=B:=⟨_,rfl⟩;have hBp:aZ B:=by rw [<-hB]; exact dX hAp hA2d
   have hBl:B.length=l.length+1:=by rw [<-hB]; simp [aw,hAl,hA2e]; omega
   obtain ⟨D,hD⟩:∃ D,aw B i [(row x)]=D:=⟨_,rfl⟩;have hDp:aZ D:=by rw [<-hD]; exact dX hBp ⟨by simp [frzRows,hf],by simp [hpD]⟩
   have hDl:D.length=l.length+1:=by rw [<-hD]; simp [aw,hBl]; omega
   have hDe:D=(l.take i++[x]++l.drop i).map row:=by
    rw [<-hD,<-hB,<-hA2,<-hA,si (A:=l.map row) (n:=l.length) (by simp) hi2];simp [List.map_take,List.map_drop]
   simp only [go_sem,seval,bG,bE,bD,bF,hi1,hi2,h10,Nat.le_refl,hp,hf,hpD,RowOk.frzRows ok,RowOk.all ok,RowOk.allPlain ok,RowOk.allD ok,ar,RX_cap,bO,altX,roomS,roomC,cutC,copyX,aY,al,extOf,Ext.all,peekX,aK,Option.map_some,hw1,hw2,hw3,hw1b,hw3b,Nat.min_self,Nat.zero_le,Nat.sub_zero,deepV,bne_self_eq_false,List.isEmpty_nil,decide_not,List.length_replicate,hlt0,hm1,hm2,hm3,hm4,aF,aE,Nat.not_succ_le_self,hc1,hk1,hk,hk2,hk3,e2,e3,hi3,hi4,hne,hne2,hA,hAl,hAp.1,hAp.2,hes,hA2,hA2p,hA2f,hB,hBp.1,hBp.2,hBl,hD,hDp.1,hDp.2,hDl,hm5,hm5b];refine sj rfl ?_;simp only [go_sem,seval,bG,bE,bD,bF,hi1,hi2,h10,Nat.le_refl,hp,hf,hpD,RowOk.frzRows ok,RowOk.all ok,RowOk.allPlain ok,RowOk.allD ok,ar,RX_cap,bO,altX,roomS,roomC,cutC,copyX,aY,al,extOf,Ext.all,peekX,aK,Option.map_some,hw1,hw2,hw3,hw1b,hw3b,Nat.min_self,Nat.zero_le,Nat.sub_zero,deepV,bne_self_eq_false,List.isEmpty_nil,decide_not,List.length_replicate,hlt0,hm1,hm2,hm3,hm4,aF,aE,Nat.not_succ_le_self,hc1,hk1,hk,hk2,hk3,e2,e3,hi3,hi4,hne,hne2,hA,hAl,hAp.1,hAp.2,hes,hA2,hA2p,hA2f,hB,hBp.1,hBp.2,hBl,hD,hDp.1,hDp.2,hDl,hm5,hm5b];repeat' ((with_reducible refine eL ?_ ?_); kernel_rfl)
   simp only [go_sem,seval,bG,bE,bD,bF,hi1,hi2,h10,Nat.le_refl,hp,hf,hpD,RowOk.frzRows ok,RowOk.all ok,RowOk.allPlain ok,RowOk.allD ok,ar,RX_cap,bO,altX,roomS,roomC,cutC,copyX,aY,al,extOf,Ext.all,peekX,aK,Option.map_some,hw1,hw2,hw3,hw1b,hw3b,Nat.min_self,Nat.zero_le,Nat.sub_zero,deepV,bne_self_eq_false,List.isEmpty_nil,decide_not,List.length_replicate,hlt0,hm1,hm2,hm3,hm4,aF,aE,Nat.not_succ_le_self,ff,fy,hDp.1,hDp.2,hD,hDl];refine jY ok ?_;rw [hr,<-hDe,<-hDl,List.take_length]
theorem qA (N:Nat) (a0:List Int) (a1:Int) (a2:List Int) (r:List Int) (h:ef N a0 a1 a2=some r) :
  Con Try.prog 32 [true,false,true] false [.sl true none 1 none (a0.map (rowI .i64)),.val (.int .i64 a1),.sl true none 1 none (a2.map (rowI .i64))] (.sl true none 1 none (r.map (rowI .i64))):=by
 unfold ef at h;obtain ⟨n,x,rfl,rfl,h1,h2,h3⟩:=mw h;exact rA fun k hk1 hk2=>p8 (rowI .i64) (eo .i64) a0 n x k r (Option.some.inj h3).symm h1 h2 (by simpa using hk1) hk2
def du (N:Nat):FnS:={ own:=[true,false,true],pure:=false,fn:=fun cs=>match cs with
 | [c0,c1,c2]=>(decO 1 (dec1 (decI .i64)) c0).bind fun q0=>(decI .i64 c1).bind fun q1=>(decO 1 (dec1 (decI .i64)) c2).bind fun q2=>(ef N q0 q1 q2).map fun r=>.sl true none 1 none (r.map (rowI .i64))
 | _=>none }
theorem mL (N:Nat):(du N).own=[true,false,true]:=rfl
theorem mD (N:Nat):(du N).pure=false:=rfl
theorem mF (N:Nat):(du N).peek=false:=rfl
attribute [go_sem] du mL mD mF
theorem m9 (N:Nat):FSOk Try.prog 32 (du N):=by
 refine ⟨fun cs r h=>?_,fun h=>by cases h⟩;simp only [du] at h;split at h
 ·simp only [Option.bind_eq_some_iff,Option.map_eq_some_iff] at h;obtain ⟨q0,h0,q1,h1,q2,h2,r',hr,rfl⟩:=h;exact (qA N q0 q1 q2 r' hr).argsO rfl (gj (ju (eo .i64) (bQ .i64) h0) (lT (aj h1) (gj (ju (eo .i64) (bQ .i64) h2) kI)))
 ·cases h


noncomputable def qV (N d f:Nat):Option FnS:=glist [(14,22,fm N),(18,26,gO N),(23,27,iu N),(29,20,de N),(38,28,jk N),(68,29,ic N),(76,30,bT N),(84,31,fP N),(97,32,du N)] d f
attribute [go_sem] qV
theorem qT (N:Nat) (a0:(List Client)) (a1:ByteArray) (a2:Int) (r:(List Client) × Int) (h:fZ N a0 a1 a2=some r):Con Try.prog 10 [] false [.sl false none 4 none (a0.map Client.row),.val (.string a1),.val (.int .i64 a2)] (.tup [.sl true none 4 none (r.1.map Client.row),.val (.int .i64 r.2)]):=by
 refine aJ (G:=(qV N)) Try.func10 rfl (by decide) (by kernel_rfl) (gc 14 (fU N) (gc 18 (ja N) (gc 23 (jJ N) (gc 29 (dc N) (gc 38 (kC N) (gc 68 (jL N) (gc 76 (mu N) (gc 84 (lA N) (gc 97 (m9 N) gn))))))))) [] mix (Nat.le_of_ble_eq_true rfl) ?_;simp only [Try.f10];unfold fZ at h;refine Ws fun Z hZ=>?_;simp (config := { maxSteps := 4000000 }) only [go_sem,seval];refine hZ _ (pp (Wk_seq ?_));apply dI (fun (c9:Bool)=>⟨tab 101 (updT (updT (updT (updT deadT 0 (.sl false none 4 none (a0.map Client.row))) 1 (.val (.string a1))) 2 (.val (.int .i64 a2))) 25 (.val (.bool c9))),RZ⟩)
 ·intro hJ1;obtain ⟨r10,hr2,h⟩:=Option.bind_eq_some_iff.1 h;refine aa fun Z hZ=>?_;simp (config := { maxSteps := 4000000 }) only [go_sem,seval,hr2];refine da rfl (fun hc3=>?_) (fun hc3=>?_)
  ·first|rw [if_neg (ne_true_of_eq_false hc3)] at h|simp only [hc3,Bool.or_false,Bool.or_true,Bool.false_or,Bool.true_or,Bool.and_true,Bool.true_and,Bool.and_false,Bool.false_and,Bool.not_true,Bool.not_false,Bool.false_eq_true,if_true,if_false] at h
   simp (config := { maxSteps := 4000000 }) only [go_sem,seval,hc3];refine hZ _ (pp (hJ1 _ true ?_ h));refine wr ?_ ?_<;>repeat' first|rfl|constructor|simp only [go_sem,seval,Bool.or_self,List.length_set,Int.natCast_zero,Int.cast_ofNat_Int,hr2,hc3]
  first|rw [if_pos hc3] at h|simp only [hc3,Bool.or_false,Bool.or_true,Bool.false_or,Bool.true_or,Bool.and_true,Bool.true_and,Bool.and_false,Bool.false_and,Bool.not_true,Bool.not_false,Bool.false_eq_true,if_true,if_false] at h
  obtain ⟨r11,hr4,h⟩:=Option.bind_eq_some_iff.1 h;simp (config := { maxSteps := 4000000 }) only [go_sem,seval,hc3,hr4];refine da rfl (fun hc5=>?_) (fun hc5=>?_)
  ·first|rw [if_neg (ne_true_of_eq_false hc5)] at h|simp only [hc5,hc3,Bool.or_false,Bool.or_true,Bool.false_or,Bool.true_or,Bool.and_true,Bool.true_and,Bool.and_false,Bool.false_and,Bool.not_true,Bool.not_false,Bool.false_eq_true,if_true,if_false] at h
   simp (config := { maxSteps := 4000000 }) only [go_sem,seval,hc5];refine hZ _ (pp (hJ1 _ true ?_ h));refine wr ?_ ?_<;>repeat' first|rfl|constructor|simp only [go_sem,seval,Bool.or_self,List.length_set,Int.natCast_zero,Int.cast_ofNat_Int,hr2,hc3,hr4,hc5]
  first|rw [if_pos hc5] at h|simp only [hc5,hc3,Bool.or_false,Bool.or_true,Bool.false_or,Bool.true_or,Bool.and_true,Bool.true_and,Bool.and_false,Bool.false_and,Bool.not_true,Bool.not_false,Bool.false_eq_true,if_true,if_false] at h
  obtain ⟨r12,hr6,h⟩:=Option.bind_eq_some_iff.1 h;simp (config := { maxSteps := 4000000 }) only [go_sem,seval,hc5,hr6];refine hZ _ (pp (hJ1 _ (!r12) ?_ h));refine wr ?_ ?_<;>repeat' first|rfl|constructor|simp only [go_sem,seval,Bool.or_self,List.length_set,Int.natCast_zero,Int.cast_ofNat_Int,hr2,hc3,hr4,hc5,hr6]
 intro c9 h;unfold fS at h;refine aM rfl (fun hc7=>?_) (fun hc7=>?_)
 ·first|rw [if_pos hc7] at h|simp only [hc7,Bool.or_false,Bool.or_true,Bool.false_or,Bool.true_or,Bool.and_true,Bool.true_and,Bool.and_false,Bool.false_and,Bool.not_true,Bool.not_false,Bool.false_eq_true,if_true,if_false] at h
  refine Ws fun Z hZ=>?_;simp (config := { maxSteps := 4000000 }) only [go_sem,seval,hc7];refine hZ _ (pp (Wk_ret (pp ?_)));cases h;simp (config := { maxSteps := 4000000 }) only [go_sem,seval];exact ⟨_,rfl,(by repeat' (first|exact ROk.refl _|exact ROk.nil _|((refine ROk.of _ ?_ ?_); (focus ((repeat' (first|exact Le.refl _|exact LeL.nil|exact Le.nils|exact LeLL.refl _|refine LeLL.mapAppend ?_ ?_|refine LeLL.cons ?_ ?_|refine Le.sl ?_|refine Le.tup ?_|refine Le.agg ?_|refine LeL.cons ?_ ?_)); done)); (focus ((repeat' (first|exact NoOwn.val _|exact NoOwn.sl _ _ _ _|refine NoOwn.tup ?_|refine NoOwn.agg ?_|exact jQ|refine jd ?_ ?_)); done)))|((refine ROk.own ?_ ?_); (focus ((repeat' (first|exact Le.refl _|exact LeL.nil|exact Le.nils|exact LeLL.refl _|refine LeLL.mapAppend ?_ ?_|refine LeLL.cons ?_ ?_|refine Le.sl ?_|refine Le.tup ?_|refine Le.agg ?_|refine LeL.cons ?_ ?_)); done)); (focus ((first|exact RowOk.noOwn (eo .i64) _|exact RowOk.noOwn Answer.row_ok _|exact RowOk.noOwn Client.row_ok _|exact RowOk.noOwn gp _); done)))|refine ROk.agg rfl ?_|refine ROk.tup rfl ?_|exact kK|refine jO ?_ ?_))⟩
 first|rw [if_neg (ne_true_of_eq_false hc7)] at h|simp only [hc7,Bool.or_false,Bool.or_true,Bool.false_or,Bool.true_or,Bool.and_true,Bool.true_and,Bool.and_false,Bool.false_and,Bool.not_true,Bool.not_false,Bool.false_eq_true,if_true,if_false] at h
 refine ai (pp ?_);unfold jm at h;refine Wk_seq (Wk_seq ?_);obtain ⟨r16,hr8,h⟩:=Option.bind_eq_some_iff.1 h;refine aa fun Z hZ=>?_;simp (config := { maxSteps := 4000000 }) only [go_sem,seval,hc7,hr8];refine hZ _ (pp (ak (Ws fun Z hZ=>?_)));simp (config := { maxSteps := 4000000 }) only [go_sem,seval];refine hZ _ (pp (bq rfl (fun hc9=>?_) (fun hc9=>?_)))
 ·have hc9d:=decide_eq_true hc9;first|rw [if_pos hc9] at h|rw [if_pos hc9d] at h|simp only [hc9d,Bool.not_true,Bool.not_false,Bool.false_eq_true,if_true,if_false] at h
  refine Ws fun Z hZ=>?_;simp (config := { maxSteps := 4000000 }) only [go_sem,seval,hc9d];refine hZ _ (pp (Wk_ret (pp ?_)));cases h;simp (config := { maxSteps := 4000000 }) only [go_sem,seval];exact ⟨_,rfl,(by repeat' (first|exact ROk.refl _|exact ROk.nil _|((refine ROk.of _ ?_ ?_); (focus ((repeat' (first|exact Le.refl _|exact LeL.nil|exact Le.nils|exact LeLL.refl _|refine LeLL.mapAppend ?_ ?_|refine LeLL.cons ?_ ?_|refine Le.sl ?_|refine Le.tup ?_|refine Le.agg ?_|refine LeL.cons ?_ ?_)); done)); (focus ((repeat' (first|exact NoOwn.val _|exact NoOwn.sl _ _ _ _|refine NoOwn.tup ?_|refine NoOwn.agg ?_|exact jQ|refine jd ?_ ?_)); done)))|((refine ROk.own ?_ ?_); (focus ((repeat' (first|exact Le.refl _|exact LeL.nil|exact Le.nils|exact LeLL.refl _|refine LeLL.mapAppend ?_ ?_|refine LeLL.cons ?_ ?_|refine Le.sl ?_|refine Le.tup ?_|refine Le.agg ?_|refine LeL.cons ?_ ?_)); done)); (focus ((first|exact RowOk.noOwn (eo .i64) _|exact RowOk.noOwn Answer.row_ok _|exact RowOk.noOwn Client.row_ok _|exact RowOk.noOwn gp _); done)))|refine ROk.agg rfl ?_|refine ROk.tup rfl ?_|exact kK|refine jO ?_ ?_))⟩
 have hc9d:=decide_eq_false hc9;first|rw [if_neg hc9] at h|rw [if_neg (ne_true_of_eq_false hc9d)] at h|simp only [hc9d,Bool.not_true,Bool.not_false,Bool.false_eq_true,if_true,if_false] at h
 apply dI (fun (c17:Bool)=>⟨tab 101 (updT (updT (updT (updT deadT 0 (.sl false none 4 none (a0.map Client.row))) 1 (.val (.string a1))) 2 (.val (.int .i64 a2))) 32 (.val (.bool c17))),RZ⟩)
 ·intro hJ10;refine Ws fun Z hZ=>?_;simp (config := { maxSteps := 4000000 }) only [go_sem,seval,hc9d];refine hZ _ (pp (bq rfl (fun hc11=>?_) (fun hc11=>?_)))
  ·have hc11d:=decide_eq_true hc11;first|rw [if_pos hc11] at h|rw [if_pos hc11d] at h|simp only [hc11d,Bool.not_true,Bool.not_false,Bool.false_eq_true,if_true,if_false] at h
   refine ai (pp (hJ10 _ true ?_ h));refine wr ?_ ?_<;>repeat' first|rfl|constructor|simp only [go_sem,seval,hc11d]
  have hc11d:=decide_eq_false hc11;first|rw [if_neg hc11] at h|rw [if_neg (ne_true_of_eq_false hc11d)] at h|simp only [hc11d,Bool.not_true,Bool.not_false,Bool.false_eq_true,if_true,if_false] at h
  refine aa fun Z hZ=>?_;simp (config := { maxSteps := 4000000 }) only [go_sem,seval,hc11d];refine hZ _ (pp (hJ10 _ (decide (r16=2)) ?_ h));refine wr ?_ ?_<;>repeat' first|rfl|constructor|simp only [go_sem,seval,Bool.or_self,List.length_set,Int.natCast_zero,Int.cast_ofNat_Int,hc7,hr8,hc9d,hc11d]
 intro c17 h;unfold gS at h;refine aM rfl (fun hc12=>?_) (fun hc12=>?_)
 ·first|rw [if_pos hc12] at h|simp only [hc12,hc7,Bool.or_false,Bool.or_true,Bool.false_or,Bool.true_or,Bool.and_true,Bool.true_and,Bool.and_false,Bool.false_and,Bool.not_true,Bool.not_false,Bool.false_eq_true,if_true,if_false] at h
  refine Ws fun Z hZ=>?_;simp (config := { maxSteps := 4000000 }) only [go_sem,seval,hc12];refine hZ _ (pp (Wk_ret (pp ?_)));cases h;simp (config := { maxSteps := 4000000 }) only [go_sem,seval];exact ⟨_,rfl,(by repeat' (first|exact ROk.refl _|exact ROk.nil _|((refine ROk.of _ ?_ ?_); (focus ((repeat' (first|exact Le.refl _|exact LeL.nil|exact Le.nils|exact LeLL.refl _|refine LeLL.mapAppend ?_ ?_|refine LeLL.cons ?_ ?_|refine Le.sl ?_|refine Le.tup ?_|refine Le.agg ?_|refine LeL.cons ?_ ?_)); done)); (focus ((repeat' (first|exact NoOwn.val _|exact NoOwn.sl _ _ _ _|refine NoOwn.tup ?_|refine NoOwn.agg ?_|exact jQ|refine jd ?_ ?_)); done)))|((refine ROk.own ?_ ?_); (focus ((repeat' (first|exact Le.refl _|exact LeL.nil|exact Le.nils|exact LeLL.refl _|refine LeLL.mapAppend ?_ ?_|refine LeLL.cons ?_ ?_|refine Le.sl ?_|refine Le.tup ?_|refine Le.agg ?_|refine LeL.cons ?_ ?_)); done)); (focus ((first|exact RowOk.noOwn (eo .i64) _|exact RowOk.noOwn Answer.row_ok _|exact RowOk.noOwn Client.row_ok _|exact RowOk.noOwn gp _); done)))|refine ROk.agg rfl ?_|refine ROk.tup rfl ?_|exact kK|refine jO ?_ ?_))⟩
 first|rw [if_neg (ne_true_of_eq_false hc12)] at h|simp only [hc12,hc7,Bool.or_false,Bool.or_true,Bool.false_or,Bool.true_or,Bool.and_true,Bool.true_and,Bool.and_false,Bool.false_and,Bool.not_true,Bool.not_false,Bool.false_eq_true,if_true,if_false] at h
 refine ai (pp ?_);unfold kt at h;refine Wk_seq ?_;obtain ⟨r18,hr13,h⟩:=Option.bind_eq_some_iff.1 h;refine aa fun Z hZ=>?_;simp (config := { maxSteps := 4000000 }) only [go_sem,seval,hc12,hr13];refine hZ _ (pp (Wk_seq ?_));apply Ac (fun (c24:Bool) (c25:Bool)=>⟨tab 101 (updT (updT (updT (updT (updT (updT deadT 0 (.sl false none 4 none (a0.map Client.row))) 1 (.val (.string a1))) 2 (.val (.int .i64 a2))) 8 (.val (.int .i64 r18.1))) 9 (.val (.bool c24))) 66 (.val (.bool c25))),RZ⟩)
 ·intro hJ14;refine fA fun Z hZ=>?_;simp (config := { maxSteps := 4000000 }) only [go_sem,seval];repeat with_reducible refine eL (by kernel_rfl) ?_
  refine sw (db rfl) (fun hc15=>?_) (fun hc15=>?_)
  ·first|rw [if_neg (ne_true_of_eq_false hc15)] at h|simp only [hc15,hc7,hc12,Bool.or_false,Bool.or_true,Bool.false_or,Bool.true_or,Bool.and_true,Bool.true_and,Bool.and_false,Bool.false_and,Bool.not_true,Bool.not_false,Bool.false_eq_true,if_true,if_false] at h
   simp (config := { maxSteps := 4000000 }) only [go_sem,seval,hc15];repeat with_reducible refine eL (by kernel_rfl) ?_
   refine hZ _ (by kernel_rfl) (pp (hJ14 _ false (decide (((a0.length:Nat):Int)=32)) ?_ h));refine wr ?_ ?_<;>repeat' first|rfl|constructor|simp only [go_sem,seval,Bool.or_self,List.length_set,Int.natCast_zero,Int.cast_ofNat_Int,hc7,hr8,hc9d,hc12,hr13,hc15]
  first|rw [if_pos hc15] at h|simp only [hc15,hc7,hc12,Bool.or_false,Bool.or_true,Bool.false_or,Bool.true_or,Bool.and_true,Bool.true_and,Bool.and_false,Bool.false_and,Bool.not_true,Bool.not_false,Bool.false_eq_true,if_true,if_false] at h
  obtain ⟨x26,hb16,hx17,h⟩:=dC h;simp (config := { maxSteps := 4000000 }) only [go_sem,seval,hc15,hb16,hx17];repeat with_reducible refine eL (by kernel_rfl) ?_
  refine ah rfl (fun hc18=>?_) (fun hc18=>?_)
  ·have hc18d:=decide_eq_true hc18;first|rw [if_pos hc18] at h|rw [if_pos hc18d] at h|simp only [hc18d,Bool.not_true,Bool.not_false,Bool.false_eq_true,if_true,if_false] at h
   simp (config := { maxSteps := 4000000 }) only [go_sem,seval,hc18d];repeat with_reducible refine eL (by kernel_rfl) ?_
   refine hZ _ (by kernel_rfl) (pp (hJ14 _ true true ?_ h));refine wr ?_ ?_<;>repeat' first|rfl|constructor|simp only [go_sem,seval,Bool.or_self,List.length_set,Int.natCast_zero,Int.cast_ofNat_Int,hc7,hr8,hc9d,hc12,hr13,hc15,hb16,hx17,hc18d]
  have hc18d:=decide_eq_false hc18;first|rw [if_neg hc18] at h|rw [if_neg (ne_true_of_eq_false hc18d)] at h|simp only [hc18d,Bool.not_true,Bool.not_false,Bool.false_eq_true,if_true,if_false] at h
  simp (config := { maxSteps := 4000000 }) only [go_sem,seval,hc18d];repeat with_reducible refine eL (by kernel_rfl) ?_
  refine hZ _ (by kernel_rfl) (pp (hJ14 _ true false ?_ h));refine wr ?_ ?_<;>repeat' first|rfl|constructor|simp only [go_sem,seval,Bool.or_self,List.length_set,Int.natCast_zero,Int.cast_ofNat_Int,hc7,hr8,hc9d,hc12,hr13,hc15,hb16,hx17,hc18d]
 intro c24 c25 h;unfold gR at h;refine aM rfl (fun hc19=>?_) (fun hc19=>?_)
 ·first|rw [if_pos hc19] at h|simp only [hc19,hc7,hc12,Bool.or_false,Bool.or_true,Bool.false_or,Bool.true_or,Bool.and_true,Bool.true_and,Bool.and_false,Bool.false_and,Bool.not_true,Bool.not_false,Bool.false_eq_true,if_true,if_false] at h
  refine Ws fun Z hZ=>?_;simp (config := { maxSteps := 4000000 }) only [go_sem,seval,hc19];refine hZ _ (pp (Wk_ret (pp ?_)));cases h;simp (config := { maxSteps := 4000000 }) only [go_sem,seval];exact ⟨_,rfl,(by repeat' (first|exact ROk.refl _|exact ROk.nil _|((refine ROk.of _ ?_ ?_); (focus ((repeat' (first|exact Le.refl _|exact LeL.nil|exact Le.nils|exact LeLL.refl _|refine LeLL.mapAppend ?_ ?_|refine LeLL.cons ?_ ?_|refine Le.sl ?_|refine Le.tup ?_|refine Le.agg ?_|refine LeL.cons ?_ ?_)); done)); (focus ((repeat' (first|exact NoOwn.val _|exact NoOwn.sl _ _ _ _|refine NoOwn.tup ?_|refine NoOwn.agg ?_|exact jQ|refine jd ?_ ?_)); done)))|((refine ROk.own ?_ ?_); (focus ((repeat' (first|exact Le.refl _|exact LeL.nil|exact Le.nils|exact LeLL.refl _|refine LeLL.mapAppend ?_ ?_|refine LeLL.cons ?_ ?_|refine Le.sl ?_|refine Le.tup ?_|refine Le.agg ?_|refine LeL.cons ?_ ?_)); done)); (focus ((first|exact RowOk.noOwn (eo .i64) _|exact RowOk.noOwn Answer.row_ok _|exact RowOk.noOwn Client.row_ok _|exact RowOk.noOwn gp _); done)))|refine ROk.agg rfl ?_|refine ROk.tup rfl ?_|exact kK|refine jO ?_ ?_))⟩
 first|rw [if_neg (ne_true_of_eq_false hc19)] at h|simp only [hc19,hc7,hc12,Bool.or_false,Bool.or_true,Bool.false_or,Bool.true_or,Bool.and_true,Bool.true_and,Bool.and_false,Bool.false_and,Bool.not_true,Bool.not_false,Bool.false_eq_true,if_true,if_false] at h
 refine ai (pp ?_);unfold gP at h;refine Wk_seq ?_;obtain ⟨r27,hr20,h⟩:=Option.bind_eq_some_iff.1 h;refine aa fun Z hZ=>?_;simp (config := { maxSteps := 4000000 }) only [go_sem,seval,hc19,hr20];refine hZ _ (pp (Wk_seq (Ws fun Z hZ=>?_)));simp (config := { maxSteps := 4000000 }) only [go_sem,seval];refine hZ _ (pp (sw (dY rfl) (fun hc21=>?_) (fun hc21=>?_)))
 ·first|rw [if_pos hc21] at h|simp only [hc21,hc7,hc12,hc19,Bool.or_false,Bool.or_true,Bool.false_or,Bool.true_or,Bool.and_true,Bool.true_and,Bool.and_false,Bool.false_and,Bool.not_true,Bool.not_false,Bool.false_eq_true,if_true,if_false] at h
  refine ai (pp (Wk_seq ?_));obtain ⟨x32,hb28,hx29,h⟩:=dC h;obtain ⟨r33,hr30,h⟩:=Option.bind_eq_some_iff.1 h;refine aa fun Z hZ=>?_;simp (config := { maxSteps := 4000000 }) only [go_sem,seval,hc21,hb28,hx29,hr30];refine hZ _ (pp (Wk_seq ?_));obtain ⟨r34,hr31,h⟩:=Option.bind_eq_some_iff.1 h;refine aa fun Z hZ=>?_;simp (config := { maxSteps := 4000000 }) only [go_sem,seval,hb28,hx29,tB (row:=Client.rowD) (rx:=[.val (.string x32.Name),.val (.int .i64 x32.Low),.sl true none 1 none (x32.Open.map (rowI .i64)),.sl true none 10 none (x32.Done.map Answer.row)]) hx29 rfl rfl,eD (row:=Client.rowD) _ hx29,gB (row:=Client.rowD) hx29 rfl,hr31];refine hZ _ (pp (Ws fun Z hZ=>?_));simp (config := { maxSteps := 4000000 }) only [go_sem,seval];refine hZ _ (pp (gl (qd (n:=68) (Client.mk x32.Name x32.Low r34 x32.Done) (by simp only [go_sem,seval]; rfl) rfl rfl) (gl (mP (row:=Client.row) (n:=68) (by simp only [go_sem,seval]; rfl) (by simp only [oK,mR,go_sem,seval]; rfl)) (Wk_ret (pp ?_)))));cases h;simp (config := { maxSteps := 4000000 }) only [go_sem,seval];exact ⟨_,rfl,(by repeat' (first|exact ROk.refl _|exact ROk.nil _|((refine ROk.of _ ?_ ?_); (focus ((repeat' (first|exact Le.refl _|exact LeL.nil|exact Le.nils|exact LeLL.refl _|refine LeLL.mapAppend ?_ ?_|refine LeLL.cons ?_ ?_|refine Le.sl ?_|refine Le.tup ?_|refine Le.agg ?_|refine LeL.cons ?_ ?_)); done)); (focus ((repeat' (first|exact NoOwn.val _|exact NoOwn.sl _ _ _ _|refine NoOwn.tup ?_|refine NoOwn.agg ?_|exact jQ|refine jd ?_ ?_)); done)))|((refine ROk.own ?_ ?_); (focus ((repeat' (first|exact Le.refl _|exact LeL.nil|exact Le.nils|exact LeLL.refl _|refine LeLL.mapAppend ?_ ?_|refine LeLL.cons ?_ ?_|refine Le.sl ?_|refine Le.tup ?_|refine Le.agg ?_|refine LeL.cons ?_ ?_)); done)); (focus ((first|exact RowOk.noOwn (eo .i64) _|exact RowOk.noOwn Answer.row_ok _|exact RowOk.noOwn Client.row_ok _|exact RowOk.noOwn gp _); done)))|refine ROk.agg rfl ?_|refine ROk.tup rfl ?_|exact kK|refine jO ?_ ?_))⟩
 first|rw [if_neg (ne_true_of_eq_false hc21)] at h|simp only [hc21,hc7,hc12,hc19,Bool.or_false,Bool.or_true,Bool.false_or,Bool.true_or,Bool.and_true,Bool.true_and,Bool.and_false,Bool.false_and,Bool.not_true,Bool.not_false,Bool.false_eq_true,if_true,if_false] at h
 refine gl (mP (row:=Client.row) (n:=68) (by simp only [go_sem,seval]; rfl) (by simp only [oK,mR,go_sem,seval]; rfl)) ?_;obtain ⟨r28,hr22,h⟩:=Option.bind_eq_some_iff.1 h;have hx23:=lV hr22;refine aa fun Z hZ=>?_;simp (config := { maxSteps := 4000000 }) only [go_sem,seval,hc21,hr22];refine hZ _ (pp (gl (ui 76 [((r18.1).toNat,2)] 1 (by simp only [go_sem,seval,eD (row:=Client.row) _ hx23]) (by simp only [go_sem,seval,gB (row:=Client.row) hx23 rfl]; try rfl)) (gl (ui 76 [((r18.1).toNat,3)] 10 (by simp only [go_sem,seval,eD (row:=Client.row) _ hx23]) (by simp only [go_sem,seval,gB (row:=Client.row) hx23 rfl]; try rfl)) (Wk_seq ?_))));obtain ⟨x29,hb24,hx25,h⟩:=dC h;obtain rfl:=uW hx23 hx25;obtain ⟨r30,hr26,h⟩:=Option.bind_eq_some_iff.1 h;refine aa fun Z hZ=>?_;simp (config := { maxSteps := 4000000 }) only [go_sem,seval,eD (row:=Client.row) _ hx23,hb24,hr26];refine hZ _ (pp (Wk_seq ?_));obtain ⟨r31,hr27,h⟩:=Option.bind_eq_some_iff.1 h;refine aa fun Z hZ=>?_;simp (config := { maxSteps := 4000000 }) only [go_sem,seval,eD (row:=Client.row) _ hx23,gB (row:=Client.row) hx23 rfl,hb24,hr27];refine hZ _ (pp (Ws fun Z hZ=>?_));simp (config := { maxSteps := 4000000 }) only [go_sem,seval];refine hZ _ (pp (gl (zo (n:=76) (Client.mk a1 0 r31 []) [.val (.string a1),.val (.int .i64 0),.sl false none 1 none (r31.map (rowI .i64)),.sl false none 10 none []] (by simp only [go_sem,seval]; rfl) rfl) (Wk_ret (pp ?_))));cases h;simp (config := { maxSteps := 4000000 }) only [go_sem,seval];exact ⟨_,rfl,(by repeat' (first|exact ROk.refl _|exact ROk.nil _|((refine ROk.of _ ?_ ?_); (focus ((repeat' (first|exact Le.refl _|exact LeL.nil|exact Le.nils|exact LeLL.refl _|refine LeLL.mapAppend ?_ ?_|refine LeLL.cons ?_ ?_|refine Le.sl ?_|refine Le.tup ?_|refine Le.agg ?_|refine LeL.cons ?_ ?_)); done)); (focus ((repeat' (first|exact NoOwn.val _|exact NoOwn.sl _ _ _ _|refine NoOwn.tup ?_|refine NoOwn.agg ?_|exact jQ|refine jd ?_ ?_)); done)))|((refine ROk.own ?_ ?_); (focus ((repeat' (first|exact Le.refl _|exact LeL.nil|exact Le.nils|exact LeLL.refl _|refine LeLL.mapAppend ?_ ?_|refine LeLL.cons ?_ ?_|refine Le.sl ?_|refine Le.tup ?_|refine Le.agg ?_|refine LeL.cons ?_ ?_)); done)); (focus ((first|exact RowOk.noOwn (eo .i64) _|exact RowOk.noOwn Answer.row_ok _|exact RowOk.noOwn Client.row_ok _|exact RowOk.noOwn gp _); done)))|refine ROk.agg rfl ?_|refine ROk.tup rfl ?_|exact kK|refine jO ?_ ?_))⟩
def ji (N:Nat):FnS:=⟨[],false,fn3 (decL 4 Client.dec) decS (decI .i64) fun q0 q1 q2=>(fZ N q0 q1 q2).map fun r=>.tup [.sl false none 4 none (r.1.map Client.row),.val (.int .i64 r.2)],false⟩
attribute [go_sem] ji
theorem ky (N:Nat):FSOk Try.prog 10 (ji N):=ok3 (fun q0 q1 q2 r h=>by
 obtain ⟨r',hr,rfl⟩:=Option.map_eq_some_iff.1 h;exact (qT N q0 q1 q2 r' hr).res (by first|((try simp only [go_sem]); exact RokI.h)|(repeat' (first|exact ROk.refl _|exact ROk.nil _|((refine ROk.of _ ?_ ?_); (focus ((repeat' (first|exact Le.refl _|exact LeL.nil|exact Le.nils|exact LeLL.refl _|refine LeLL.mapAppend ?_ ?_|refine LeLL.cons ?_ ?_|refine Le.sl ?_|refine Le.tup ?_|refine Le.agg ?_|refine LeL.cons ?_ ?_)); done)); (focus ((repeat' (first|exact NoOwn.val _|exact NoOwn.sl _ _ _ _|refine NoOwn.tup ?_|refine NoOwn.agg ?_|exact jQ|refine jd ?_ ?_)); done)))|((refine ROk.own ?_ ?_); (focus ((repeat' (first|exact Le.refl _|exact LeL.nil|exact Le.nils|exact LeLL.refl _|refine LeLL.mapAppend ?_ ?_|refine LeLL.cons ?_ ?_|refine Le.sl ?_|refine Le.tup ?_|refine Le.agg ?_|refine LeL.cons ?_ ?_)); done)); (focus ((first|exact RowOk.noOwn (eo .i64) _|exact RowOk.noOwn Answer.row_ok _|exact RowOk.noOwn Client.row_ok _|exact RowOk.noOwn gp _); done)))|refine ROk.agg rfl ?_|refine ROk.tup rfl ?_|exact kK|refine jO ?_ ?_)))) (fun h=>au Client.dec_le h) (ba) (aj)

def pq (N:Nat):FnS:=⟨[],false,fn3 (decL 4 Client.dec) decS (decI .i64) fun q0 q1 q2=>(fZ N q0 q1 q2).map fun r=>.tup [.sl true none 4 none (r.1.map Client.row),.val (.int .i64 r.2)],false⟩
attribute [go_sem] pq
theorem z5 (N:Nat):FSOk Try.prog 10 (pq N):=ok3 (fun q0 q1 q2 r h=>by
 obtain ⟨r',hr,rfl⟩:=Option.map_eq_some_iff.1 h;exact qT N q0 q1 q2 r' hr) (fun h=>au Client.dec_le h) (ba) (aj)


theorem ss (N:Nat) (a0:Int) (c0_0:ByteArray) (c0_1:Int) (c0_2:(List Int)) (c0_3:Int) (c0_4:Int) (c0_5:Int) (c0_6:ByteArray) (c0_7:(List Int)) (c0_8:(List ByteArray)) (r:Bool) (h:fi N a0 c0_0 c0_1 c0_2 c0_3 c0_4 c0_5 c0_6 c0_7 c0_8=some r):Con Try.prog 38 [] true [.val (.int .i64 a0),.iref 9 [[.val (.string c0_0),.val (.int .i64 c0_1),.sl false none 1 none (c0_2.map (rowI .i64)),.val (.int .i64 c0_3),.val (.int .i64 c0_4),.val (.int .i64 c0_5),.val (.string c0_6),.sl false none 1 none (c0_7.map (rowI .i64)),.sl false none 1 none (c0_8.map rowS)]] 0 0] (.val (.bool r)):=by
 refine aJ (G:=(glist [])) Try.func38 rfl (by decide) (by kernel_rfl) gn [] mix (Nat.le_of_ble_eq_true rfl) ?_;simp only [Try.f38];unfold fi at h;refine Ws fun Z hZ=>?_;simp only [go_sem,seval];refine hZ _ (pp (Ws fun Z hZ=>?_));simp only [go_sem,seval];refine hZ _ (pp (Wk_ret (pp ?_)));cases h;simp only [go_sem,seval];exact ⟨_,rfl,RokI.h,PureI.h⟩
def fT (N:Nat):FnS:={ own:=[],pure:=true,fn:=fun cs=>match cs with
 | [c0,.iref 9 [[c1_0,c1_1,c1_2,c1_3,c1_4,c1_5,c1_6,c1_7,c1_8]] 0 0]=>((decI .i64) c0).bind fun qc0=>(decS c1_0).bind fun qc1_0=>((decI .i64) c1_1).bind fun qc1_1=>((decL 1 (dec1 (decI .i64))) c1_2).bind fun qc1_2=>((decI .i64) c1_3).bind fun qc1_3=>((decI .i64) c1_4).bind fun qc1_4=>((decI .i64) c1_5).bind fun qc1_5=>(decS c1_6).bind fun qc1_6=>((decL 1 (dec1 (decI .i64))) c1_7).bind fun qc1_7=>((decL 1 (dec1 decS)) c1_8).bind fun qc1_8=>(fi N qc0 qc1_0 qc1_1 qc1_2 qc1_3 qc1_4 qc1_5 qc1_6 qc1_7 qc1_8).map fun r=>.val (.bool r)
 | _=>none }
attribute [go_sem] fT
theorem kQ (N:Nat):FSOk Try.prog 38 (fT N):=by
 refine ⟨fun cs r h=>?_,fun h=>by cases h⟩;simp only [fT] at h;split at h
 ·simp only [Option.bind_eq_some_iff,Option.map_eq_some_iff] at h;obtain ⟨q0,h0,q1,h1,q2,h2,q3,h3,q4,h4,q5,h5,q6,h6,q7,h7,q8,h8,q9,h9,r',hr,rfl⟩:=h;exact ((ss N q0 q1 q2 q3 q4 q5 q6 q7 q8 q9 r' hr).args (LeL.cons (aj h0) (LeL.cons (Le.iref1 (LeL.cons (ba h1) (LeL.cons (aj h2) (LeL.cons (au (bQ .i64) h3) (LeL.cons (aj h4) (LeL.cons (aj h5) (LeL.cons (aj h6) (LeL.cons (ba h7) (LeL.cons (au (bQ .i64) h8) (LeL.cons (au iG h9) (LeL.nil))))))))))) (LeL.nil))))
 ·cases h


noncomputable def fw (N d f:Nat):Option FnS:=glist [(16,38,fT N)] d f
attribute [go_sem] fw
theorem jE (N:Nat) (a0:(List Int)) (k1_0_0:ByteArray) (k1_0_1:Int) (k1_0_2:(List Int)) (k1_0_3:Int) (k1_0_4:Int) (k1_0_5:Int) (k1_0_6:ByteArray) (k1_0_7:(List Int)) (k1_0_8:(List ByteArray)) (r:Int) (h:bH N a0 k1_0_0 k1_0_1 k1_0_2 k1_0_3 k1_0_4 k1_0_5 k1_0_6 k1_0_7 k1_0_8=some r):Con Try.prog 64 [] true [.sl false none 1 none (a0.map (rowI .i64)),.clo 38 [.iref 9 [[.val (.string k1_0_0),.val (.int .i64 k1_0_1),.sl false none 1 none (k1_0_2.map (rowI .i64)),.val (.int .i64 k1_0_3),.val (.int .i64 k1_0_4),.val (.int .i64 k1_0_5),.val (.string k1_0_6),.sl false none 1 none (k1_0_7.map (rowI .i64)),.sl false none 1 none (k1_0_8.map rowS)]] 0 0]] (.val (.int .i64 r)):=by
 refine aJ (G:=(fw N)) Try.func64 rfl (by decide) (by kernel_rfl) (gc 16 (kQ N) gn) [] mix (Nat.le_of_ble_eq_true rfl) ?_;simp only [Try.f64];unfold bH at h;refine Ws fun Z hZ=>?_;simp only [go_sem,seval];refine hZ _ (pp (Wk_seq (Ws fun Z hZ=>?_)));simp only [go_sem,seval];refine hZ _ (pp (ak (eM fun hreal2=>?_)));have hl1:=hreal2.lenT 0 (by decide) (by simp only [go_sem,seval]; rfl);first|rw [List.length_map] at hl1|rw [dB] at hl1|rw [<-List.map_append,List.length_map] at hl1
 refine eC (fun (v2:Nat) (b:Unit)=>⟨tab 19 (updT (updT (updT (updT deadT 0 (.sl false none 1 none (a0.map (rowI .i64)))) 1 (.clo 38 [.iref 9 [[.val (.string k1_0_0),.val (.int .i64 k1_0_1),.sl false none 1 none (k1_0_2.map (rowI .i64)),.val (.int .i64 k1_0_3),.val (.int .i64 k1_0_4),.val (.int .i64 k1_0_5),.val (.string k1_0_6),.sl false none 1 none (k1_0_7.map (rowI .i64)),.sl false none 1 none (k1_0_8.map rowS)]] 0 0])) 7 (.val (.int .i64 ((a0.length:Nat):Int)))) 8 (.val (.int .i64 ((v2:Nat):Int)))),RZ⟩) () h ?_ ?_
 ·refine wr ?_ ?_<;>repeat' first|rfl|constructor
 rintro v2 ⟨⟩ hi3 h -;rcases (dG a0 v2 hi3).symm with ⟨hi3',_,hd6⟩|⟨x5,hi3',hx4,hd6⟩
 ·rw [hd6] at h;simp only [aQ] at h;refine Ws fun Z hZ=>?_;simp only [go_sem,seval,hi3'];refine hZ _ (pp (Wk_seq ?_));try simp only [Int.ofNat_lt,hi3',if_true,if_false] at h
  refine bL rfl (b9 (pp (Ws fun Z hZ=>?_)));simp only [go_sem,seval];refine hZ _ (pp (Wk_ret (pp ?_)));cases h;simp only [go_sem,seval];exact ⟨_,rfl,RokI.h,PureI.h⟩
 rw [hd6] at h;simp only [aQ] at h;have hw5:=dw hi3' hl1;refine Ws fun Z hZ=>?_;simp only [go_sem,seval,hi3'];refine hZ _ (pp (Wk_seq ?_));try simp only [Int.ofNat_lt,hi3',if_true,if_false] at h
 refine bZ rfl (ai (pp (Wk_seq (ak (Ws fun Z hZ=>?_)))));simp only [go_sem,seval];refine hZ _ (pp (Wk_seq ?_));try rw [gx_nat hx4] at h
 obtain ⟨r1,hr7,h⟩:=Option.bind_eq_some_iff.1 h;refine aa fun Z hZ=>?_;simp only [go_sem,seval,hx4,hi3',hr7];refine hZ _ (pp (aM rfl (fun hc8=>?_) (fun hc8=>?_)))
 ·rw [if_pos hc8] at h;refine Ws fun Z hZ=>?_;simp only [go_sem,seval,hc8];refine hZ _ (pp (Wk_ret (pp ?_)));cases h;simp only [go_sem,seval];exact ⟨_,rfl,RokI.h,PureI.h⟩
 rw [if_neg (ne_true_of_eq_false hc8)] at h;refine ai (pp (aa fun Z hZ=>?_));simp only [go_sem,seval,hw5,hc8];refine hZ _ (pp ?_);first|refine ⟨(),?_,h⟩|refine ⟨hi3',(),?_,h⟩
 refine wr ?_ ?_<;>repeat' first|rfl|constructor
def bW (N:Nat):FnS:={ own:=[],pure:=true,fn:=fun cs=>match cs with
 | [c0,.clo 38 [.iref 9 [[k1_0_0,k1_0_1,k1_0_2,k1_0_3,k1_0_4,k1_0_5,k1_0_6,k1_0_7,k1_0_8]] 0 0]]=>((decL 1 (dec1 (decI .i64))) c0).bind fun qc0=>(decS k1_0_0).bind fun qk1_0_0=>((decI .i64) k1_0_1).bind fun qk1_0_1=>((decL 1 (dec1 (decI .i64))) k1_0_2).bind fun qk1_0_2=>((decI .i64) k1_0_3).bind fun qk1_0_3=>((decI .i64) k1_0_4).bind fun qk1_0_4=>((decI .i64) k1_0_5).bind fun qk1_0_5=>(decS k1_0_6).bind fun qk1_0_6=>((decL 1 (dec1 (decI .i64))) k1_0_7).bind fun qk1_0_7=>((decL 1 (dec1 decS)) k1_0_8).bind fun qk1_0_8=>(bH N qc0 qk1_0_0 qk1_0_1 qk1_0_2 qk1_0_3 qk1_0_4 qk1_0_5 qk1_0_6 qk1_0_7 qk1_0_8).map fun r=>.val (.int .i64 r)
 | _=>none }
attribute [go_sem] bW
theorem iZ (N:Nat):FSOk Try.prog 64 (bW N):=by
 refine ⟨fun cs r h=>?_,fun h=>by cases h⟩;simp only [bW] at h;split at h
 ·simp only [Option.bind_eq_some_iff,Option.map_eq_some_iff] at h;obtain ⟨q0,h0,q1,h1,q2,h2,q3,h3,q4,h4,q5,h5,q6,h6,q7,h7,q8,h8,q9,h9,r',hr,rfl⟩:=h;exact ((jE N q0 q1 q2 q3 q4 q5 q6 q7 q8 q9 r' hr).args (LeL.cons (au (bQ .i64) h0) (LeL.cons (Le.clo (LeL.cons (Le.iref1 (LeL.cons (ba h1) (LeL.cons (aj h2) (LeL.cons (au (bQ .i64) h3) (LeL.cons (aj h4) (LeL.cons (aj h5) (LeL.cons (aj h6) (LeL.cons (ba h7) (LeL.cons (au (bQ .i64) h8) (LeL.cons (au iG h9) (LeL.nil))))))))))) (LeL.nil))) (LeL.nil))))
 ·cases h


noncomputable def fc (N d f:Nat):Option FnS:=glist [(10,64,bW N),(28,38,fT N)] d f
attribute [go_sem] fc
theorem jv (N:Nat) (a0:(List Int)) (k1_0_0:ByteArray) (k1_0_1:Int) (k1_0_2:(List Int)) (k1_0_3:Int) (k1_0_4:Int) (k1_0_5:Int) (k1_0_6:ByteArray) (k1_0_7:(List Int)) (k1_0_8:(List ByteArray)) (r:(List Int)) (h:aW N a0 k1_0_0 k1_0_1 k1_0_2 k1_0_3 k1_0_4 k1_0_5 k1_0_6 k1_0_7 k1_0_8=some r):Con Try.prog 37 [true,false] true [.sl true none 1 none (a0.map (rowI .i64)),.clo 38 [.iref 9 [[.val (.string k1_0_0),.val (.int .i64 k1_0_1),.sl false none 1 none (k1_0_2.map (rowI .i64)),.val (.int .i64 k1_0_3),.val (.int .i64 k1_0_4),.val (.int .i64 k1_0_5),.val (.string k1_0_6),.sl false none 1 none (k1_0_7.map (rowI .i64)),.sl false none 1 none (k1_0_8.map rowS)]] 0 0]] (.sl true none 1 none (r.map (rowI .i64))):=by
 refine uY (G:=(fc N)) (L:=noL) Try.func37 rfl (by decide) (by kernel_rfl) (gc 10 (iZ N) (gc 28 (kQ N) gn)) (fun _ _ _ h=>by cases h) [] mix (Nat.le_of_ble_eq_true rfl) ?_;rw [show entryF [true,false] [.sl true none 1 none (a0.map (rowI .i64)),.clo 38 [.iref 9 [[.val (.string k1_0_0),.val (.int .i64 k1_0_1),.sl false none 1 none (k1_0_2.map (rowI .i64)),.val (.int .i64 k1_0_3),.val (.int .i64 k1_0_4),.val (.int .i64 k1_0_5),.val (.string k1_0_6),.sl false none 1 none (k1_0_7.map (rowI .i64)),.sl false none 1 none (k1_0_8.map rowS)]] 0 0]]=(updT (updT deadT 0 (.pal 0 [] 0 a0.length none)) 1 (.clo 38 [.iref 9 [[.val (.string k1_0_0),.val (.int .i64 k1_0_1),.sl false none 1 none (k1_0_2.map (rowI .i64)),.val (.int .i64 k1_0_3),.val (.int .i64 k1_0_4),.val (.int .i64 k1_0_5),.val (.string k1_0_6),.sl false none 1 none (k1_0_7.map (rowI .i64)),.sl false none 1 none (k1_0_8.map rowS)]] 0 0])) from by funext t; match t with|0=>simp [entryF,iL,viewD,updT]|1=>rfl|t+2=>rfl];rw [show R0 [true,false] [.sl true none 1 none (a0.map (rowI .i64)),.clo 38 [.iref 9 [[.val (.string k1_0_0),.val (.int .i64 k1_0_1),.sl false none 1 none (k1_0_2.map (rowI .i64)),.val (.int .i64 k1_0_3),.val (.int .i64 k1_0_4),.val (.int .i64 k1_0_5),.val (.string k1_0_6),.sl false none 1 none (k1_0_7.map (rowI .i64)),.sl false none 1 none (k1_0_8.map rowS)]] 0 0]]=upd RZ 0 (.sl true none 1 none (a0.map (rowI .i64))) from by funext t; match t with|0=>rfl|1=>rfl|t+2=>rfl];simp only [Try.f37];unfold aW at h;refine Ws fun Z hZ=>?_;simp only [go_sem,seval];refine hZ _ (pp (Wk_seq ?_));obtain ⟨r1,hr1,h⟩:=Option.bind_eq_some_iff.1 h;refine aa fun Z hZ=>?_;simp only [go_sem,seval,hr1];refine hZ _ (pp (Wk_seq (Ws fun Z hZ=>?_)));simp only [go_sem,seval];refine hZ _ (pp (bq rfl (fun hc2=>?_) (fun hc2=>?_)))
 ·have hc2d:=decide_eq_true hc2;rw [if_pos hc2] at h;refine Ws fun Z hZ=>?_;simp only [go_sem,seval,hc2d];refine hZ _ (pp (Wk_ret (pp ?_)));cases h;simp only [go_sem,seval,ff];exact ⟨_,rfl,RokI.h,KeepI.h,PureI.h⟩
 have hc2d:=decide_eq_false hc2;rw [if_neg hc2] at h;refine ai (pp (Wk_seq (Ws fun Z hZ=>?_)));simp only [go_sem,seval,hc2d];refine hZ _ (pp (ak (pk (fun (b:List Int × Int × Int)=>⟨tab 42 (updT (updT (updT (updT deadT 0 (.pal 0 [] 0 b.1.length none)) 1 (.clo 38 [.iref 9 [[.val (.string k1_0_0),.val (.int .i64 k1_0_1),.sl false none 1 none (k1_0_2.map (rowI .i64)),.val (.int .i64 k1_0_3),.val (.int .i64 k1_0_4),.val (.int .i64 k1_0_5),.val (.string k1_0_6),.sl false none 1 none (k1_0_7.map (rowI .i64)),.sl false none 1 none (k1_0_8.map rowS)]] 0 0])) 5 (.val (.int .i64 b.2.1))) 6 (.val (.int .i64 b.2.2))),(upd RZ 0 (.sl true none 1 none (b.1.map (rowI .i64))))⟩) (a0,r1,IntKind.i64.wrap (r1+1)) h ?_ ?_)))
 ·refine wr ?_ ?_<;>repeat' first|rfl|constructor|simp only [go_sem,seval,Bool.or_self,List.length_set,Int.natCast_zero,Int.cast_ofNat_Int,hr1,hc2d]
 rintro n ⟨l4,v5,v6⟩ h -;cases n with
 | zero=>simp [aI] at h
 | succ n=>
 simp only [aI] at h;refine Wk_seq (Ws fun Z hZ=>?_);simp only [go_sem,seval];refine hZ _ (pp (sw (bq rfl) (fun hc3=>?_) (fun hc3=>?_)))
 ·have hc3d:=decide_eq_false hc3;rw [if_neg hc3] at h;refine b9 (pp ?_);unfold bo at h;refine Wk_seq ?_;obtain ⟨hs12,h⟩:=qa h;try simp only [Int.toNat_natCast] at hs12 h
  refine aa fun Z hZ=>?_;simp only [go_sem,seval,hc3d,hs12,Nat.zero_le,u7 (row:=(rowI .i64)) (z:=0) (rz:=[.val (.int .i64 0)]) (k:=(v5).toNat) (l:=l4) (by have:=hs12; omega) rfl,altX,clearX,ar,RowOk.allD (eo .i64)];refine hZ _ (pp (Wk_seq ?_));obtain ⟨hs13,h⟩:=qa h;try simp only [Int.toNat_zero] at hs13 h
  refine aa fun Z hZ=>?_;simp only [go_sem,seval,hs12,Nat.sub_zero,deepV,hs13];refine hZ _ (pp (Wk_ret (pp ?_)));cases h;simp only [go_sem,seval,ff];exact ⟨_,rfl,RokI.h,KeepI.h,PureI.h⟩
 have hc3d:=decide_eq_true hc3;rw [if_pos hc3] at h;refine ai (pp (Wk_seq (ak (Wk_seq ?_))));obtain ⟨x13,hb4,hx5,h⟩:=dC h;refine aa fun Z hZ=>?_;simp only [go_sem,seval,hb4,hx5];refine hZ _ (pp (Wk_seq ?_));obtain ⟨r14,hr6,h⟩:=Option.bind_eq_some_iff.1 h;refine aa fun Z hZ=>?_;simp only [go_sem,seval,hr6];refine hZ _ (pp (sw (dY rfl) (fun hc7=>?_) (fun hc7=>?_)))
 ·rw [if_pos hc7] at h;refine ai (pp (aa fun Z hZ=>?_));simp only [go_sem,seval,hc7];refine hZ _ (pp (⟨_,Nat.lt_succ_self _,(l4,v5,IntKind.i64.wrap (v6+1)),?_,h⟩));refine wr ?_ ?_<;>repeat' first|rfl|constructor|simp only [go_sem,seval,Bool.or_self,List.length_set,Int.natCast_zero,Int.cast_ofNat_Int,hr1,hc2d,hc3d,hb4,hx5,hr6,hc7]
 rw [if_neg (ne_true_of_eq_false hc7)] at h;refine Wk_seq ?_;obtain ⟨x15,hb8,hx9,h⟩:=dC h;have hx11:=tz (y:=x13) hx9;refine aa fun Z hZ=>?_;simp only [go_sem,seval,hc7,hb8,hx9,l9 (row:=(rowI .i64)) (y:=x13) (rx:=[.val (.int .i64 x15)]) (ry:=[.val (.int .i64 x13)]) hx9 rfl rfl];refine hZ _ (pp (aa fun Z hZ=>?_));simp only [go_sem,seval];refine hZ _ (pp (aa fun Z hZ=>?_));simp only [go_sem,seval];refine hZ _ (pp (⟨_,Nat.lt_succ_self _,((l4.set ((v5).toNat) x13),IntKind.i64.wrap (v5+1),IntKind.i64.wrap (v6+1)),?_,h⟩));refine wr ?_ ?_<;>repeat' first|rfl|constructor|simp only [go_sem,seval,List.length_set]
def aH (N:Nat):FnS:={ own:=[true,false],pure:=true,fn:=fun cs=>match cs with
 | [c0,.clo 38 [.iref 9 [[k1_0_0,k1_0_1,k1_0_2,k1_0_3,k1_0_4,k1_0_5,k1_0_6,k1_0_7,k1_0_8]] 0 0]]=>((decO 1 (dec1 (decI .i64))) c0).bind fun q0=>(decS k1_0_0).bind fun q1=>((decI .i64) k1_0_1).bind fun q2=>((decL 1 (dec1 (decI .i64))) k1_0_2).bind fun q3=>((decI .i64) k1_0_3).bind fun q4=>((decI .i64) k1_0_4).bind fun q5=>((decI .i64) k1_0_5).bind fun q6=>(decS k1_0_6).bind fun q7=>((decL 1 (dec1 (decI .i64))) k1_0_7).bind fun q8=>((decL 1 (dec1 decS)) k1_0_8).bind fun q9=>(aW N q0 q1 q2 q3 q4 q5 q6 q7 q8 q9).map fun r=>.sl true none 1 none (r.map (rowI .i64))
 | _=>none }
theorem iK (N:Nat):(aH N).own=[true,false]:=rfl
theorem ib (N:Nat):(aH N).pure=true:=rfl
theorem iq (N:Nat):(aH N).peek=false:=rfl
attribute [go_sem] aH iK ib iq
theorem iM (N:Nat):FSOk Try.prog 37 (aH N):=by
 refine ⟨fun cs r h=>?_,fun h=>by cases h⟩;simp only [aH] at h;split at h
 ·simp only [Option.bind_eq_some_iff,Option.map_eq_some_iff] at h;obtain ⟨q0,h0,q1,h1,q2,h2,q3,h3,q4,h4,q5,h5,q6,h6,q7,h7,q8,h8,q9,h9,r',hr,rfl⟩:=h;exact (jv N q0 q1 q2 q3 q4 q5 q6 q7 q8 q9 r' hr).argsO rfl (gj (ju (eo .i64) (bQ .i64) h0) (lT (Le.clo (LeL.cons (Le.iref1 (LeL.cons (ba h1) (LeL.cons (aj h2) (LeL.cons (au (bQ .i64) h3) (LeL.cons (aj h4) (LeL.cons (aj h5) (LeL.cons (aj h6) (LeL.cons (ba h7) (LeL.cons (au (bQ .i64) h8) (LeL.cons (au iG h9) (LeL.nil))))))))))) (LeL.nil))) (kI)))
 ·cases h


def bz:FnS:={ own:=[true,true],pure:=false,fn:=fun _=>none,peek:=true }
theorem aC:bz.own=[true,true]:=rfl
theorem az:bz.peek=true:=rfl
theorem lC:PeekOk Try.prog 65:=
 tI (fn:=Try.f65) (tS:=54) (tR:=4) (e:=58) (size:=10) Try.func65 rfl rfl (by kernel_rfl) (by kernel_rfl) (by kernel_rfl) (by kernel_rfl)
theorem j3:FSOk Try.prog 65 bz:=⟨(fun cs r h=>by simp [bz] at h),fun _=>lC⟩
noncomputable def dh:Env:={ T:=tiOf Try.prog,G:=fun d f=>if d=67/\f=65 then some bz else none }
theorem bj:dh.T=tiOf Try.prog:=rfl
theorem be (d:Nat):dh.F d=none:=rfl
theorem bn (d f:Nat):dh.L d f=none:=rfl
theorem bh:dh.G 67 65=some bz:=rfl
theorem mU:GOk Try.prog { T:=tiOf Try.prog,G:=dh.G }:=by
 refine ⟨?_,fun _ _ _ h=>by cases h⟩;intro d f fs hfs;simp only [dh] at hfs;split at hfs
 ·rename_i hc; obtain ⟨rfl,rfl⟩:=hc; obtain rfl:=Option.some.inj hfs; exact j3
 cases hfs
theorem oE:FunOk Try.prog 39 Try.f39 Try.f39.body.get! := ⟨Try.func39,rfl,by decide,by kernel_rfl⟩
set_option maxHeartbeats 4000000 in
theorem oD {α:Type} (row:α->List C) (ok:RowOk row) (l:List α) (i:Nat) (x:α) (k:Nat) (r:List α) (hr:r=l.take i++[x]++l.drop i) (hi:i<=l.length) (hsz:(l.length+1) * 144<=140737488355328) (hk1:l.length<=k) (hk2:k<=maxLen) :
  Con Try.prog 39 [true,false,true] false [.sl true none 10 (some k) (l.map row),.val (.int .i64 i),.sl true none 10 none ([x].map row)] (.sl true none 10 none (r.map row)):=by
 refine tA (E:=dh) (pB Try.prog _) mU mix oE (Nat.le_of_ble_eq_true rfl) ?_;intro _;rw [mo (by simp)];rw [show entryF [true,false,true] [C.sl true none 10 (some k) (l.map row),C.val (.int .i64 i),C.sl true none 10 none ([x].map row)]=(updT (updT (updT deadT 0 (.pal 0 [] 0 l.length none)) 1 (.val (.int .i64 i))) 2 (.pal 2 [] 0 1 none)) from by funext t; match t with|0=>simp [entryF,iL,viewD,updT]|1=>rfl|2=>rfl|t+3=>rfl];rw [show R0 [true,false,true] [C.sl true none 10 (some k) (l.map row),C.val (.int .i64 i),C.sl true none 10 none ([x].map row)]=upd (upd RZ 0 (C.sl true none 10 (some k) (l.map row))) 2 (C.sl true none 10 none ([x].map row)) from by funext t; match t with|0=>rfl|1=>rfl|2=>rfl|t+3=>rfl];apply tw;simp only [Try.f39,Option.get!];have hi1:(i:Int)<=(l.length:Int):=by omega
 have hi2:i<=l.length:=hi;have h10:(((1:Nat):Int)=0)=False:=by simp
 have hp:(row x).all Abs.plainCell=true:=ok.plain x;have hf:(row x).map C.frz=(row x):=ok.frz x;have hpD:(row x).all plainD=true:=by have:=(RowOk.allD ok [x]); simpa using this
 have hw1:IntKind.i64.wrap ((l.length:Int)+((1:Nat):Int))=((l.length+1:Nat):Int):=by rw [dN (by omega) (by omega)]; rfl
 have hlt0:(l.take i).length=i:=by simp; omega
 have hes:(10 != 0)=true:=rfl;have hm1:min 1 (l.length+1 - i)=1:=by omega
 have hm2:min (l.length - i) (l.length+1 - (i+1))=l.length - i:=by omega
 have hm3:(l.drop i).take (l.length - i)=l.drop i:=List.take_of_length_le (by simp);have hm4:i+1<=l.length+1:=by omega
 have hw2:IntKind.i64.wrap (((l.length+1:Nat):Int) - (i:Int))=((l.length+1 - i:Nat):Int):=by rw [dN (by omega) (by omega)]; omega
 have hw1b:IntKind.i64.wrap ((l.length:Int)+1)=((l.length+1:Nat):Int):=hw1;have hw3:IntKind.i64.wrap ((i:Int)+((1:Nat):Int))=((i+1:Nat):Int):=by rw [dN (by omega) (by omega)]; rfl
 have hw3b:IntKind.i64.wrap ((i:Int)+1)=((i+1:Nat):Int):=hw3;simp only [go_sem,seval,bj,be,bn,bh,hi1,hi2,h10,Nat.le_refl,hp,hf,hpD,RowOk.frzRows ok,RowOk.all ok,RowOk.allPlain ok,RowOk.allD ok,ar,RX_cap,bO,altX,roomS,roomC,cutC,copyX,aY,al,extOf,Ext.all,peekX,aK,Option.map_some,hw1,hw2,hw3,hw1b,hw3b,Nat.min_self,Nat.zero_le,Nat.sub_zero,deepV,bne_self_eq_false,List.isEmpty_nil,decide_not,List.length_replicate,hlt0,hm1,hm2,hm3,hm4,aC,az,Nat.not_succ_le_self];refine sg rfl ?_;simp only [go_sem,seval,bj,be,bn,bh,hi1,hi2,h10,Nat.le_refl,hp,hf,hpD,RowOk.frzRows ok,RowOk.all ok,RowOk.allPlain ok,RowOk.allD ok,ar,RX_cap,bO,altX,roomS,roomC,cutC,copyX,aY,al,extOf,Ext.all,peekX,aK,Option.map_some,hw1,hw2,hw3,hw1b,hw3b,Nat.min_self,Nat.zero_le,Nat.sub_zero,deepV,bne_self_eq_false,List.isEmpty_nil,decide_not,List.length_replicate,hlt0,hm1,hm2,hm3,hm4,aC,az,Nat.not_succ_le_self];refine jV rfl (fun hc=>?_) (fun hc=>?_)
 ·have e:i=l.length:=by omega
  subst e;simp only [go_sem,seval,bj,be,bn,bh,hi1,hi2,h10,Nat.le_refl,hp,hf,hpD,RowOk.frzRows ok,RowOk.all ok,RowOk.allPlain ok,RowOk.allD ok,ar,RX_cap,bO,altX,roomS,roomC,cutC,copyX,aY,al,extOf,Ext.all,peekX,aK,Option.map_some,hw1,hw2,hw3,hw1b,hw3b,Nat.min_self,Nat.zero_le,Nat.sub_zero,deepV,bne_self_eq_false,List.isEmpty_nil,decide_not,List.length_replicate,hlt0,hm1,hm2,hm3,hm4,aC,az,Nat.not_succ_le_self,ff,fy,hsz];refine jY ok ?_;rw [hr];simp [List.take_of_length_le]
 ·have hc1:decide ((i:Int)=(l.length:Int))=false:=decide_eq_false hc;have hlt:i < l.length:=by omega
  simp only [go_sem,seval,bj,be,bn,bh,hi1,hi2,h10,Nat.le_refl,hp,hf,hpD,RowOk.frzRows ok,RowOk.all ok,RowOk.allPlain ok,RowOk.allD ok,ar,RX_cap,bO,altX,roomS,roomC,cutC,copyX,aY,al,extOf,Ext.all,peekX,aK,Option.map_some,hw1,hw2,hw3,hw1b,hw3b,Nat.min_self,Nat.zero_le,Nat.sub_zero,deepV,bne_self_eq_false,List.isEmpty_nil,decide_not,List.length_replicate,hlt0,hm1,hm2,hm3,hm4,aC,az,Nat.not_succ_le_self,hc1];refine jV rfl (fun hk=>?_) (fun hk=>?_)
  ·have hk1:decide (k < l.length+1)=true:=decide_eq_true hk;have hk2:k < i+(l.length+1 - i):=by omega
   have e1:i+(l.length+1 - i)=l.length+1:=by omega
   have hi3:(i:Int)<=((l.length+1:Nat):Int):=by omega
   have hi4:i<=l.length+1:=by omega
   obtain ⟨A,hA⟩:∃ A,List.map row (List.take i l)++List.replicate (l.length+1 - i) [C.val (Value.int .i64 0),C.val (Value.string ⟨#[]⟩),C.val (Value.int .i64 0),C.val (Value.slice none 0 0),C.val (Value.int .i64 0),C.val (Value.int .i64 0),C.val (Value.int .i64 0),C.val (Value.string ⟨#[]⟩),C.val (Value.slice none 0 0),C.val (Value.slice none 0 0)]=A:=⟨_,rfl⟩;have hAp:aZ A:=by rw [<-hA]; exact eK (dW ok _) (m8 _ [Value.int .i64 0,Value.string ⟨#[]⟩,Value.int .i64 0,Value.slice none 0 0,Value.int .i64 0,Value.int .i64 0,Value.int .i64 0,Value.string ⟨#[]⟩,Value.slice none 0 0,Value.slice none 0 0] (by simp [Value.oneCell']))
   have hAl:A.length=l.length+1:=by rw [<-hA,List.length_append,List.length_map,hlt0,List.length_replicate]; omega
   obtain ⟨B,hB⟩:∃ B,aw A i [(row x)]=B:=⟨_,rfl⟩;have hBp:aZ B:=by rw [<-hB]; exact dX hAp ⟨by simp [frzRows,hf],by simp [hpD]⟩
   have hBl:B.length=l.length+1:=by rw [<-hB]; simp [aw,hAl]; omega
   obtain ⟨D,hD⟩:∃ D,aw B (i+1) (List.map row (List.drop i l))=D:=⟨_,rfl⟩;have hDp:aZ D:=by rw [<-hD]; exact dX hBp (dW ok _)
   have hDl:D.length=l.length+1:=by rw [<-hD]; simp [aw,hBl]; omega
   have hDe:D=(l.take i++[x]++l.drop i).map row:=by
    rw [<-hD,<-hB,<-hA,List.map_take,List.map_drop,th (A:=l.map row) (n:=l.length) (by simp) hi2 (by simp)];simp
   simp only [go_sem,seval,bj,be,bn,bh,hi1,hi2,h10,Nat.le_refl,hp,hf,hpD,RowOk.frzRows ok,RowOk.all ok,RowOk.allPlain ok,RowOk.allD ok,ar,RX_cap,bO,altX,roomS,roomC,cutC,copyX,aY,al,extOf,Ext.all,peekX,aK,Option.map_some,hw1,hw2,hw3,hw1b,hw3b,Nat.min_self,Nat.zero_le,Nat.sub_zero,deepV,bne_self_eq_false,List.isEmpty_nil,decide_not,List.length_replicate,hlt0,hm1,hm2,hm3,hm4,aC,az,Nat.not_succ_le_self,hc1,hk1,hk,hk2,e1,hi3,hi4,hA,hAl,hAp.1,hAp.2,hB,hBp.1,hBp.2,hBl,hD,hDp.1,hDp.2,hsz];repeat' ((with_reducible refine eL ?_ ?_); kernel_rfl)
   simp only [go_sem,seval,bj,be,bn,bh,hi1,hi2,h10,Nat.le_refl,hp,hf,hpD,RowOk.frzRows ok,RowOk.all ok,RowOk.allPlain ok,RowOk.allD ok,ar,RX_cap,bO,altX,roomS,roomC,cutC,copyX,aY,al,extOf,Ext.all,peekX,aK,Option.map_some,hw1,hw2,hw3,hw1b,hw3b,Nat.min_self,Nat.zero_le,Nat.sub_zero,deepV,bne_self_eq_false,List.isEmpty_nil,decide_not,List.length_replicate,hlt0,hm1,hm2,hm3,hm4,aC,az,Nat.not_succ_le_self,ff,fy,hDp.1,hDp.2,hD];refine jY ok ?_;rw [hr,<-hDe,<-hDl,List.take_length]
  ·have hk1:decide (k < l.length+1)=false:=decide_eq_false hk;have hk2:¬ k < i+(l.length+1 - i):=by omega
   have hk3:l.length+1<=k:=by omega
   have e2:l.length+1 - l.length=1:=by omega
   have e3:l.length<=l.length+1:=by omega
   have hi3:(i:Int)<=((l.length+1:Nat):Int):=by omega
   have hi4:i<=l.length+1:=by omega
   have hne:¬ l.length+1 - (i+1)=0:=by omega
   have hne2:¬ l.length - i=0:=by omega
   obtain ⟨A,hA⟩:∃ A,List.map row l++[[C.dead,C.dead,C.dead,C.dead,C.dead,C.dead,C.dead,C.dead,C.dead,C.dead]]=A:=⟨_,rfl⟩;have hAp:aZ A:=by rw [<-hA]; exact eK (dW ok _) (ou 1 10)
   have hAl:A.length=l.length+1:=by rw [<-hA]; simp
   have hm5:min (l.length+1 - i) (l.length+1 - (i+1))=l.length - i:=by omega
   have hm5b:min (l.length+1 - i) (l.length - i)=l.length - i:=by omega
   obtain ⟨A2,hA2⟩:∃ A2,(A.drop i).take (l.length - i)=A2:=⟨_,rfl⟩;have hA2e:A2=List.map row (l.drop i):=by
    rw [<-hA2,<-hA,List.drop_append,List.length_map,show i - l.length=0 by omega,List.drop_zero,List.take_append,List.take_of_length_le (by simp),show l.length - i - (List.drop i (List.map row l)).length=0 by simp];simp [List.map_drop]
   have hA2p:(A2.all fun r=>r.all Abs.plainCell)=true:=by rw [hA2e]; exact ok.allPlain _
   have hA2f:frzRows A2=A2:=by rw [hA2e]; exact ok.frzRows _
   have hA2d:aZ A2:=by rw [hA2e]; exact dW ok _
   obtain ⟨B,hB⟩:∃ B,aw A (i+1) A2=B:=⟨_,rfl⟩;have hBp:aZ B:=by rw [<-hB]; exact dX hAp hA2d
   have hBl:B.length=l.length+1:=by rw [<-hB]; simp [aw,hAl,hA2e]; omega
   obtain ⟨D,hD⟩:∃ D,aw B i [(row x)]=D:=⟨_,rfl⟩;have hDp:aZ D:=by rw [<-hD]; exact dX hBp ⟨by simp [frzRows,hf],by simp [hpD]⟩
   have hDl:D.length=l.length+1:=by rw [<-hD]; simp [aw,hBl]; omega
   have hDe:D=(l.take i++[x]++l.drop i).map row:=by
    rw [<-hD,<-hB,<-hA2,<-hA,si (A:=l.map row) (n:=l.length) (by simp) hi2];simp [List.map_take,List.map_drop]
   simp only [go_sem,seval,bj,be,bn,bh,hi1,hi2,h10,Nat.le_refl,hp,hf,hpD,RowOk.frzRows ok,RowOk.all ok,RowOk.allPlain ok,RowOk.allD ok,ar,RX_cap,bO,altX,roomS,roomC,cutC,copyX,aY,al,extOf,Ext.all,peekX,aK,Option.map_some,hw1,hw2,hw3,hw1b,hw3b,Nat.min_self,Nat.zero_le,Nat.sub_zero,deepV,bne_self_eq_false,List.isEmpty_nil,decide_not,List.length_replicate,hlt0,hm1,hm2,hm3,hm4,aC,az,Nat.not_succ_le_self,hc1,hk1,hk,hk2,hk3,e2,e3,hi3,hi4,hne,hne2,hA,hAl,hAp.1,hAp.2,hes,hA2,hA2p,hA2f,hB,hBp.1,hBp.2,hBl,hD,hDp.1,hDp.2,hDl,hm5,hm5b];refine sj rfl ?_;simp only [go_sem,seval,bj,be,bn,bh,hi1,hi2,h10,Nat.le_refl,hp,hf,hpD,RowOk.frzRows ok,RowOk.all ok,RowOk.allPlain ok,RowOk.allD ok,ar,RX_cap,bO,altX,roomS,roomC,cutC,copyX,aY,al,extOf,Ext.all,peekX,aK,Option.map_some,hw1,hw2,hw3,hw1b,hw3b,Nat.min_self,Nat.zero_le,Nat.sub_zero,deepV,bne_self_eq_false,List.isEmpty_nil,decide_not,List.length_replicate,hlt0,hm1,hm2,hm3,hm4,aC,az,Nat.not_succ_le_self,hc1,hk1,hk,hk2,hk3,e2,e3,hi3,hi4,hne,hne2,hA,hAl,hAp.1,hAp.2,hes,hA2,hA2p,hA2f,hB,hBp.1,hBp.2,hBl,hD,hDp.1,hDp.2,hDl,hm5,hm5b];repeat' ((with_reducible refine eL ?_ ?_); kernel_rfl)
   simp only [go_sem,seval,bj,be,bn,bh,hi1,hi2,h10,Nat.le_refl,hp,hf,hpD,RowOk.frzRows ok,RowOk.all ok,RowOk.allPlain ok,RowOk.allD ok,ar,RX_cap,bO,altX,roomS,roomC,cutC,copyX,aY,al,extOf,Ext.all,peekX,aK,Option.map_some,hw1,hw2,hw3,hw1b,hw3b,Nat.min_self,Nat.zero_le,Nat.sub_zero,deepV,bne_self_eq_false,List.isEmpty_nil,decide_not,List.length_replicate,hlt0,hm1,hm2,hm3,hm4,aC,az,Nat.not_succ_le_self,ff,fy,hDp.1,hDp.2,hD,hDl];refine jY ok ?_;rw [hr,<-hDe,<-hDl,List.take_length]
theorem oX (N:Nat) (a0:List Answer) (a1:Int) (a2:List Answer) (r:List Answer) (h:fV N a0 a1 a2=some r) :
  Con Try.prog 39 [true,false,true] false [.sl true none 10 none (a0.map Answer.row),.val (.int .i64 a1),.sl true none 10 none (a2.map Answer.row)] (.sl true none 10 none (r.map Answer.row)):=by
 unfold fV at h;obtain ⟨n,x,rfl,rfl,h1,h2,h3⟩:=mw h;exact rA fun k hk1 hk2=>oD Answer.row Answer.row_ok a0 n x k r (Option.some.inj h3).symm h1 h2 (by simpa using hk1) hk2
def bP (N:Nat):FnS:={ own:=[true,false,true],pure:=false,fn:=fun cs=>match cs with
 | [c0,c1,c2]=>(decO 10 Answer.dec c0).bind fun q0=>(decI .i64 c1).bind fun q1=>(decO 10 Answer.dec c2).bind fun q2=>(fV N q0 q1 q2).map fun r=>.sl true none 10 none (r.map Answer.row)
 | _=>none }
theorem lL (N:Nat):(bP N).own=[true,false,true]:=rfl
theorem lr (N:Nat):(bP N).pure=false:=rfl
theorem lB (N:Nat):(bP N).peek=false:=rfl
attribute [go_sem] bP lL lr lB
theorem mh (N:Nat):FSOk Try.prog 39 (bP N):=by
 refine ⟨fun cs r h=>?_,fun h=>by cases h⟩;simp only [bP] at h;split at h
 ·simp only [Option.bind_eq_some_iff,Option.map_eq_some_iff] at h;obtain ⟨q0,h0,q1,h1,q2,h2,r',hr,rfl⟩:=h;exact (oX N q0 q1 q2 r' hr).argsO rfl (gj (ju Answer.row_ok Answer.dec_le h0) (lT (aj h1) (gj (ju Answer.row_ok Answer.dec_le h2) kI)))
 ·cases h


noncomputable def pD (N d f:Nat):Option FnS:=glist [(13,22,fm N),(17,24,gI N),(26,20,de N),(29,29,ic N),(34,28,jk N),(46,37,aH N),(80,40,gJ N),(83,39,bP N)] d f
attribute [go_sem] pD
theorem pw (N:Nat) (a0:(List Client)) (a1:Reply) (r:(List Client) × Int) (h:jP N a0 a1=some r):Con Try.prog 12 [] false [.sl false none 4 none (a0.map Client.row),.agg (Reply.row a1)] (.tup [.sl true none 4 none (r.1.map Client.row),.val (.int .i64 r.2)]):=by
 refine aJ (G:=(pD N)) Try.func12 rfl (by decide) (by kernel_rfl) (gc 13 (fU N) (gc 17 (kf N) (gc 26 (dc N) (gc 29 (jL N) (gc 34 (kC N) (gc 46 (iM N) (gc 80 (kh N) (gc 83 (mh N) gn)))))))) [] mix (Nat.le_of_ble_eq_true rfl) ?_;simp only [Try.f12];unfold jP at h;refine Ws fun Z hZ=>?_;simp only [go_sem,seval];refine hZ _ (pp (Wk_seq (ak ?_)));apply dI (fun (c8:Bool)=>⟨tab 87 (updT (updT (updT deadT 0 (.sl false none 4 none (a0.map Client.row))) 3 (.pref 3 [] 0 0)) 11 (.val (.bool c8))),(upd RZ 3 (.sl true none 9 (some 1) [Reply.row a1]))⟩)
 ·intro hJ1;obtain ⟨r9,hr2,h⟩:=Option.bind_eq_some_iff.1 h;refine aa fun Z hZ=>?_;simp only [go_sem,seval,hr2];refine da rfl (fun hc3=>?_) (fun hc3=>?_)
  ·rw [if_neg (ne_true_of_eq_false hc3)] at h;simp only [go_sem,seval,hc3];refine hZ _ (pp (hJ1 _ true ?_ h));refine wr ?_ ?_<;>repeat' first|rfl|constructor
  rw [if_pos hc3] at h;obtain ⟨r10,hr4,h⟩:=Option.bind_eq_some_iff.1 h;simp only [go_sem,seval,hc3,hr4];refine hZ _ (pp (hJ1 _ (!r10) ?_ h));refine wr ?_ ?_<;>repeat' first|rfl|constructor
 intro c8 h;unfold lh at h;refine aM rfl (fun hc5=>?_) (fun hc5=>?_)
 ·rw [if_pos hc5] at h;refine Ws fun Z hZ=>?_;simp only [go_sem,seval,hc5];refine hZ _ (pp (Wk_ret (pp ?_)));cases h;simp only [go_sem,seval];exact ⟨_,rfl,RokI.h⟩
 rw [if_neg (ne_true_of_eq_false hc5)] at h;refine Wk_seq ?_;obtain ⟨r11,hr6,h⟩:=Option.bind_eq_some_iff.1 h;refine aa fun Z hZ=>?_;simp only [go_sem,seval,hc5,hr6];refine hZ _ (pp (lj rfl (fun hc7=>?_) (fun hc7=>?_)))
 ·have hc7d:=decide_eq_false hc7;rw [if_neg hc7] at h;refine Ws fun Z hZ=>?_;simp only [go_sem,seval,hc7d];refine hZ _ (pp (Wk_ret (pp ?_)));cases h;simp only [go_sem,seval];exact ⟨_,rfl,RokI.h⟩
 have hc7d:=decide_eq_true hc7;rw [if_pos hc7] at h;refine ai (pp ?_);unfold kT at h;refine Wk_seq ?_;obtain ⟨r12,hr8,h⟩:=Option.bind_eq_some_iff.1 h;refine aa fun Z hZ=>?_;simp only [go_sem,seval,hc7d,hr8];refine hZ _ (pp (Wk_seq ?_));obtain ⟨r13,hr9,h⟩:=Option.bind_eq_some_iff.1 h;refine aa fun Z hZ=>?_;simp only [go_sem,seval,hr9];refine hZ _ (pp (Wk_seq ?_));obtain ⟨x14,hb10,hx11,h⟩:=dC h;refine aa fun Z hZ=>?_;simp only [go_sem,seval,hb10];refine hZ _ (pp (Wk_seq ?_));obtain ⟨r15,hr12,h⟩:=Option.bind_eq_some_iff.1 h;refine aa fun Z hZ=>?_;simp only [go_sem,seval,hx11,tB (row:=Client.rowD) (rx:=[.val (.string x14.Name),.val (.int .i64 x14.Low),.sl true none 1 none (x14.Open.map (rowI .i64)),.sl true none 10 none (x14.Done.map Answer.row)]) hx11 rfl rfl,eD (row:=Client.rowD) _ hx11,gB (row:=Client.rowD) hx11 rfl,hr12];refine hZ _ (pp (Ws fun Z hZ=>?_));simp only [go_sem,seval];refine hZ _ (pp ?_);apply dI (fun (v23:Int)=>⟨tab 87 (updT (updT (updT (updT deadT 3 (.pref 3 [] 0 0)) 6 (.pal 29 [] 0 r12.length none)) 9 (.pref 29 [] ((r13.1).toNat) 0)) 10 (.val (.int .i64 v23))),(upd (upd RZ 3 (.sl true none 9 (some 1) [Reply.row a1])) 29 (.sl true none 4 none ((r12.map Client.rowD).set ((r13.1).toNat) [.val (.string x14.Name),.val (.int .i64 x14.Low),.sl true none 1 none (r15.map (rowI .i64)),.sl true none 10 none (x14.Done.map Answer.row)])))⟩)
 ·intro hJ13;refine ak (eM fun hreal15=>?_);have hl14:=hreal15.lenAt 29 [((r13.1).toNat,3)] (by simp only [go_sem,seval,eD (row:=Client.rowD) _ hx11]; rfl);first|rw [List.length_map] at hl14|rw [dB] at hl14|rw [<-List.map_append,List.length_map] at hl14
  refine eC (fun (v12:Nat) (b:Unit)=>⟨tab 87 (updT (updT (updT (updT deadT 3 (.pref 3 [] 0 0)) 6 (.pal 29 [] 0 r12.length none)) 9 (.pref 29 [] ((r13.1).toNat) 0)) 10 (.val (.int .i64 ((v12:Nat):Int)))),(upd (upd RZ 3 (.sl true none 9 (some 1) [Reply.row a1])) 29 (.sl true none 4 none ((r12.map Client.rowD).set ((r13.1).toNat) [.val (.string x14.Name),.val (.int .i64 x14.Low),.sl true none 1 none (r15.map (rowI .i64)),.sl true none 10 none (x14.Done.map Answer.row)])))⟩) () h ?_ ?_
  ·refine wr ?_ ?_<;>repeat' first|rfl|constructor
  rintro v12 ⟨⟩ hi16 h -;rcases (dG x14.Done v12 hi16).symm with ⟨hi16',_,hd19⟩|⟨x16,hi16',hx17,hd19⟩
  ·rw [hd19] at h;simp only [jB] at h;refine Wk_seq (Wk_seq ?_);try simp only [Int.ofNat_lt,hi16',if_true,if_false] at h
   refine fA fun Z hZ=>?_;simp only [go_sem,seval,eD (row:=Client.rowD) _ hx11,hi16'];repeat with_reducible refine eL (by kernel_rfl) ?_
   refine hZ _ (by kernel_rfl) (pp (bL rfl ?_));first|rw [if_pos (rfl:true=true)] at h|rw [if_neg Bool.false_ne_true] at h|skip
   refine b9 (pp (hJ13 _ ((v12:Nat):Int) ?_ h));refine wr ?_ ?_<;>repeat' first|rfl|constructor
  rw [hd19] at h;simp only [jB] at h;have hw18:=dw hi16' hl14;refine Wk_seq (Wk_seq ?_);try simp only [Int.ofNat_lt,hi16',if_true,if_false] at h
  try rw [gx_nat hx17] at h
  refine fA fun Z hZ=>?_;simp only [go_sem,seval,eD (row:=Client.rowD) _ hx11,hx17,hi16'];repeat with_reducible refine eL (by kernel_rfl) ?_
  refine hZ _ (by kernel_rfl) (pp (sw (bq rfl) (fun hc20=>?_) (fun hc20=>?_)))
  ·have hc20d:=decide_eq_false hc20;rw [if_neg hc20] at h;refine b9 (pp (hJ13 _ ((v12:Nat):Int) ?_ h));refine wr ?_ ?_<;>repeat' first|rfl|constructor
  have hc20d:=decide_eq_true hc20;rw [if_pos hc20] at h;refine ai (pp (ak (aa fun Z hZ=>?_)));simp only [go_sem,seval,hw18,hc20d];refine hZ _ (pp ?_);first|refine ⟨(),?_,h⟩|refine ⟨hi16',(),?_,h⟩
  refine wr ?_ ?_<;>repeat' first|rfl|constructor
 intro v23 h;unfold oN at h;refine Wk_seq (yC [0,1,2,3,4,5,6,7,8] [9,10,11] [] [12,13,14,15] [29,3] (by kernel_rfl) fun Z hZ Y hY=>?_);simp only [go_sem,seval,eD (row:=Client.rowD) _ hx11];refine hY _ (by kernel_rfl) (qj (by simp only [go_sem,seval,chkA,Option.isNone,Bool.and_true]; try rfl) fun Y hY=>?_);obtain ⟨r24,hr21,h⟩:=Option.bind_eq_some_iff.1 h;simp only [go_sem,seval,hr21];refine hY _ (by kernel_rfl) (qj (by kernel_rfl) fun Y hY=>?_);simp only [go_sem,seval];refine hY _ (by kernel_rfl) (qj (by kernel_rfl) fun Y hY=>?_);simp only [go_sem,seval];refine hY _ (by kernel_rfl) (yd ?_);obtain ⟨r25,hr22,h⟩:=Option.bind_eq_some_iff.1 h;simp only [go_sem,seval,eD (row:=Client.rowD) _ hx11,gB (row:=Client.rowD) hx11 rfl,hr22];refine hZ _ (pp (Ws fun Z hZ=>?_));simp only [go_sem,seval];refine hZ _ (pp (gl (qd (n:=29) (Client.mk x14.Name x14.Low r15 r25) (by simp only [go_sem,seval]; rfl) rfl rfl) (gl (mP (row:=Client.row) (n:=29) (by simp only [go_sem,seval]; rfl) (by simp only [oK,mR,go_sem,seval]; rfl)) (Wk_ret (pp ?_)))));cases h;simp only [go_sem,seval];exact ⟨_,rfl,RokI.h⟩
def kZ (N:Nat):FnS:=⟨[],false,fn2 (decL 4 Client.dec) Reply.decA fun q0 q1=>(jP N q0 q1).map fun r=>.tup [.sl false none 4 none (r.1.map Client.row),.val (.int .i64 r.2)],false⟩
attribute [go_sem] kZ
theorem qK (N:Nat):FSOk Try.prog 12 (kZ N):=ok2 (fun q0 q1 r h=>by
 obtain ⟨r',hr,rfl⟩:=Option.map_eq_some_iff.1 h;exact (pw N q0 q1 r' hr).res (by (try simp only [go_sem]); exact RokI.h)) (fun h=>au Client.dec_le h) (Reply.decA_le)

def od (N:Nat):FnS:=⟨[],false,fn2 (decL 4 Client.dec) Reply.decA fun q0 q1=>(jP N q0 q1).map fun r=>.tup [.sl true none 4 none (r.1.map Client.row),.val (.int .i64 r.2)],false⟩
attribute [go_sem] od
theorem zd (N:Nat):FSOk Try.prog 12 (od N):=ok2 (fun q0 q1 r h=>by
 obtain ⟨r',hr,rfl⟩:=Option.map_eq_some_iff.1 h;exact pw N q0 q1 r' hr) (fun h=>au Client.dec_le h) (Reply.decA_le)


noncomputable def qz (N d f:Nat):Option FnS:=glist [(14,44,jD N)] d f
attribute [go_sem] qz
theorem uK (N:Nat) (a0:(List Client)) (a1:ByteArray) (a2:Int) (r:Reply × Bool) (h:eT N a0 a1 a2=some r):Con Try.prog 16 [] false [.sl false none 4 none (a0.map Client.row),.val (.string a1),.val (.int .i64 a2)] (.tup [.agg (Reply.row r.1),.val (.bool r.2)]):=by
 refine aJ (G:=(qz N)) Try.func16 rfl (by decide) (by kernel_rfl) (gc 14 (mn N) gn) [] mix (Nat.le_of_ble_eq_true rfl) ?_;simp only [Try.f16];unfold eT at h;refine Ws fun Z hZ=>?_;simp only [go_sem,seval];refine hZ _ (pp (Wk_seq ?_));obtain ⟨r1,hr1,h⟩:=Option.bind_eq_some_iff.1 h;refine aa fun Z hZ=>?_;simp only [go_sem,seval,hr1];refine hZ _ (pp (Ws fun Z hZ=>?_));simp only [go_sem,seval];refine hZ _ (pp (Wk_ret (pp ?_)));cases h;simp only [go_sem,seval];exact ⟨_,rfl,RokI.h⟩
def gr (N:Nat):FnS:=⟨[],false,fn3 (decL 4 Client.dec) decS (decI .i64) fun q0 q1 q2=>(eT N q0 q1 q2).map fun r=>.tup [.agg (Reply.row r.1),.val (.bool r.2)],false⟩
attribute [go_sem] gr
theorem iN (N:Nat):FSOk Try.prog 16 (gr N):=ok3 (fun q0 q1 q2 r h=>by
 obtain ⟨r',hr,rfl⟩:=Option.map_eq_some_iff.1 h;exact uK N q0 q1 q2 r' hr) (fun h=>au Client.dec_le h) (ba) (aj)


noncomputable def lI (N d f:Nat):Option FnS:=glist [(13,22,fm N),(17,26,gO N),(22,27,iu N),(28,28,jk N),(54,29,ic N),(73,42,qg N)] d f
attribute [go_sem] lI
theorem lG (N:Nat) (a0:(List Client)) (a1:ByteArray) (a2:Int) (r:(List Client) × Int) (h:dO N a0 a1 a2=some r):Con Try.prog 14 [] false [.sl false none 4 none (a0.map Client.row),.val (.string a1),.val (.int .i64 a2)] (.tup [.sl true none 4 none (r.1.map Client.row),.val (.int .i64 r.2)]):=by
 refine aJ (G:=(lI N)) Try.func14 rfl (by decide) (by kernel_rfl) (gc 13 (fU N) (gc 17 (ja N) (gc 22 (jJ N) (gc 28 (kC N) (gc 54 (jL N) (gc 73 (uQ N) gn)))))) [] mix (Nat.le_of_ble_eq_true rfl) ?_;simp only [Try.f14];unfold dO at h;refine Ws fun Z hZ=>?_;simp only [go_sem,seval];refine hZ _ (pp (Wk_seq ?_));apply dI (fun (c9:Bool)=>⟨tab 77 (updT (updT (updT (updT deadT 0 (.sl false none 4 none (a0.map Client.row))) 1 (.val (.string a1))) 2 (.val (.int .i64 a2))) 24 (.val (.bool c9))),RZ⟩)
 ·intro hJ1;obtain ⟨r10,hr2,h⟩:=Option.bind_eq_some_iff.1 h;refine aa fun Z hZ=>?_;simp only [go_sem,seval,hr2];refine da rfl (fun hc3=>?_) (fun hc3=>?_)
  ·rw [if_neg (ne_true_of_eq_false hc3)] at h;simp only [go_sem,seval,hc3];refine hZ _ (pp (hJ1 _ true ?_ h));refine wr ?_ ?_<;>repeat' first|rfl|constructor
  rw [if_pos hc3] at h;obtain ⟨r11,hr4,h⟩:=Option.bind_eq_some_iff.1 h;simp only [go_sem,seval,hc3,hr4];refine da rfl (fun hc5=>?_) (fun hc5=>?_)
  ·rw [if_neg (ne_true_of_eq_false hc5)] at h;simp only [go_sem,seval,hc5];refine hZ _ (pp (hJ1 _ true ?_ h));refine wr ?_ ?_<;>repeat' first|rfl|constructor
  rw [if_pos hc5] at h;obtain ⟨r12,hr6,h⟩:=Option.bind_eq_some_iff.1 h;simp only [go_sem,seval,hc5,hr6];refine hZ _ (pp (hJ1 _ (!r12) ?_ h));refine wr ?_ ?_<;>repeat' first|rfl|constructor
 intro c9 h;unfold dJ at h;refine aM rfl (fun hc7=>?_) (fun hc7=>?_)
 ·rw [if_pos hc7] at h;refine Ws fun Z hZ=>?_;simp only [go_sem,seval,hc7];refine hZ _ (pp (Wk_ret (pp ?_)));cases h;simp only [go_sem,seval];exact ⟨_,rfl,RokI.h⟩
 rw [if_neg (ne_true_of_eq_false hc7)] at h;refine ai (pp ?_);unfold eX at h;refine Wk_seq ?_;obtain ⟨r13,hr8,h⟩:=Option.bind_eq_some_iff.1 h;refine aa fun Z hZ=>?_;simp only [go_sem,seval,hc7,hr8];refine hZ _ (pp (Wk_seq (ak (Ws fun Z hZ=>?_))));simp only [go_sem,seval];refine hZ _ (pp (dY rfl (fun hc9=>?_) (fun hc9=>?_)))
 ·rw [if_neg (ne_true_of_eq_false hc9)] at h;refine Ws fun Z hZ=>?_;simp only [go_sem,seval,hc9];refine hZ _ (pp (Wk_ret (pp ?_)));cases h;simp only [go_sem,seval];exact ⟨_,rfl,RokI.h⟩
 rw [if_pos hc9] at h;apply dI (fun (c20:Bool)=>⟨tab 77 (updT (updT (updT (updT deadT 0 (.sl false none 4 none (a0.map Client.row))) 2 (.val (.int .i64 a2))) 8 (.val (.int .i64 r13.1))) 34 (.val (.bool c20))),RZ⟩)
 ·intro hJ10;obtain ⟨x21,hb11,hx12,h⟩:=dC h;refine aa fun Z hZ=>?_;simp only [go_sem,seval,hc9,hb11,hx12];refine sw (ah rfl) (fun hc13=>?_) (fun hc13=>?_)
  ·have hc13d:=decide_eq_false hc13;rw [if_neg hc13] at h;simp only [go_sem,seval,hc13d];refine hZ _ (pp (hJ10 _ false ?_ h));refine wr ?_ ?_<;>repeat' first|rfl|constructor
  have hc13d:=decide_eq_true hc13;rw [if_pos hc13] at h;obtain ⟨x22,hb14,hx15,h⟩:=dC h;try simp only [Int.toNat_zero] at hx15
  try simp only [Int.ofNat_lt,Int.natCast_nonneg,true_and] at hb14
  simp only [go_sem,seval,hb11,hx12,hb14,hx15];refine hZ _ (pp (hJ10 _ (decide (x22<=a2)) ?_ h));refine wr ?_ ?_<;>repeat' first|rfl|constructor
 intro c20 h;unfold dZ at h;refine aM rfl (fun hc16=>?_) (fun hc16=>?_)
 ·rw [if_pos hc16] at h;refine Ws fun Z hZ=>?_;simp only [go_sem,seval,hc16];refine hZ _ (pp (Wk_ret (pp ?_)));cases h;simp only [go_sem,seval];exact ⟨_,rfl,RokI.h⟩
 rw [if_neg (ne_true_of_eq_false hc16)] at h;refine ai (pp ?_);unfold eW at h;refine Wk_seq ?_;obtain ⟨r23,hr17,h⟩:=Option.bind_eq_some_iff.1 h;refine aa fun Z hZ=>?_;simp only [go_sem,seval,hc16,hr17];refine hZ _ (pp ?_);obtain ⟨x24,hb18,hx19,h⟩:=dC h;refine zk 3 10 57 [0,1,2] [3,4] (Nat.le_of_ble_eq_true rfl) rfl rfl (by kernel_rfl) fun Y hY=>?_;simp only [go_sem,seval,hb18];refine hY _ ⟨54,r23.length,((r13.1).toNat),_,_,_,_,(by simp only [go_sem,seval]<;>rfl),(by have:=hb18; omega),(by simp only [go_sem,seval]<;>rfl),(by simp only [go_sem,seval]<;>rfl),by decide,fun b0 off0 k0 Z hZ=>?_⟩
 simp only [go_sem,seval];refine hZ _ ?_;refine wb [0,1] [2,3,4,5] [6] [7,8,9] 71 11 11 54 ((r13.1).toNat) (by kernel_rfl) (by kernel_rfl) (by kernel_rfl) (by simp only [go_sem]<;>rfl) (by simp only [go_sem,seval]<;>rfl) (by have:=hb18; omega) (by simp only [go_sem,seval]<;>rfl) (by simp only [go_sem,seval]<;>rfl) (by simp only [go_sem,seval]<;>rfl) rfl fun Z hZ Y hY=>?_
 simp only [go_sem,seval,hx19];refine hY _ (by kernel_rfl) (qj (by kernel_rfl) fun Y hY=>?_);simp only [go_sem,seval];refine hY _ (by kernel_rfl) (yd ?_);simp only [go_sem,seval,hx19,tB (row:=Client.rowD) (rx:=[.val (.string x24.Name),.val (.int .i64 x24.Low),.sl true none 1 none (x24.Open.map (rowI .i64)),.sl true none 10 none (x24.Done.map Answer.row)]) hx19 rfl rfl];refine hZ _ ?_;refine wG [0,1] [2,3,4,5] [7,8,9] 6 71 11 11 54 ((r13.1).toNat) (by kernel_rfl) (by kernel_rfl) (by kernel_rfl) (by simp only [go_sem]<;>rfl) (by simp only [go_sem,seval]<;>rfl) (by have:=hb18; omega) (by simp only [go_sem,seval]<;>rfl) (by simp only [go_sem,seval]<;>rfl) (by simp only [go_sem,seval]<;>rfl) rfl fun Z hZ Y hY=>?_
 simp only [go_sem,seval,eD (row:=Client.rowD) _ hx19];obtain ⟨r25,hr20,h⟩:=Option.bind_eq_some_iff.1 h;obtain ⟨hd21,rfl⟩:=wB hr20;refine hY _ (by kernel_rfl) (BV 73 42 43 x24.Done.length [(((r13.1).toNat),3)] (qg N) (x24.Done.map Answer.row) 10 ((r23.map Client.rowD).set ((r13.1).toNat) [.val (.string x24.Name),.val (.int .i64 (if a2 > x24.Low then a2 else x24.Low)),.sl true none 1 none (x24.Open.map (rowI .i64)),.dead]) [.val (.string x24.Name),.val (.int .i64 (if a2 > x24.Low then a2 else x24.Low)),.sl true none 1 none (x24.Open.map (rowI .i64)),.dead] [.dead,.val (.int .i64 (if a2 > x24.Low then a2 else x24.Low)),.dead,.dead] (V.fIdx (fun a:Answer=>V.kq (if a2 > x24.Low then a2 else x24.Low) a.Seq) x24.Done) ⟨rfl,rfl,rfl,rfl,?_,?_,rfl,rfl,by decide,by decide,by decide,by decide,?_,?_,?_,?_,?_,?_,rfl,V.less_low,V.fIdx_nodup _ _,?_,V.answer_one _,V.del_raw N _ _ hd21.2 hd21.1,?_,?_⟩)
 ·simp only [go_sem,seval]<;>rfl
 ·rfl
 ·simp only [go_sem,seval,Bool.or_self,eD (row:=Client.rowD) _ hx19,gB (row:=Client.rowD) hx19 rfl]<;>rfl
 ·simp only [go_sem,seval,gB (row:=Client.rowD) hx19 rfl]<;>rfl
 ·simp only [go_sem,seval,gB (row:=Client.rowD) hx19 rfl]<;>rfl
 ·simp only [go_sem,seval,gB (row:=Client.rowD) hx19 rfl]<;>rfl
 ·simp only [List.length_set,List.length_map]
 ·simp only [go_sem,seval,eD (row:=Client.rowD) _ hx19]
 ·intro k hk; simpa using V.fIdx_lt _ _ k hk
 ·kernel_rfl
 rw [V.fIdx_pick];simp only [go_sem,seval,eD (row:=Client.rowD) _ hx19,gB (row:=Client.rowD) hx19 rfl];refine hZ _ ?_;refine Wk.pinned (Ws fun Z hZ=>?_);simp only [go_sem,seval];refine hZ _ (pp (gl (qd (n:=54) (Client.mk x24.Name (if a2 > x24.Low then a2 else x24.Low) x24.Open (x24.Done.filter fun a=>V.kq (if a2 > x24.Low then a2 else x24.Low) a.Seq)) (by simp only [go_sem,seval]; rfl) rfl rfl) ?_));refine gl (mP (row:=Client.row) (n:=54) (by simp only [go_sem,seval]; rfl) (by simp only [oK,mR,go_sem,seval]; rfl)) (Wk_ret (pp ?_));cases h;simp only [go_sem,seval];exact ⟨_,rfl,RokI.h⟩
def gg (N:Nat):FnS:=⟨[],false,fn3 (decL 4 Client.dec) decS (decI .i64) fun q0 q1 q2=>(dO N q0 q1 q2).map fun r=>.tup [.sl false none 4 none (r.1.map Client.row),.val (.int .i64 r.2)],false⟩
attribute [go_sem] gg
theorem j8 (N:Nat):FSOk Try.prog 14 (gg N):=ok3 (fun q0 q1 q2 r h=>by
 obtain ⟨r',hr,rfl⟩:=Option.map_eq_some_iff.1 h;exact (lG N q0 q1 q2 r' hr).res (by (try simp only [go_sem]); exact RokI.h)) (fun h=>au Client.dec_le h) (ba) (aj)

def kG (N:Nat):FnS:=⟨[],false,fn3 (decL 4 Client.dec) decS (decI .i64) fun q0 q1 q2=>(dO N q0 q1 q2).map fun r=>.tup [.sl true none 4 none (r.1.map Client.row),.val (.int .i64 r.2)],false⟩
attribute [go_sem] kG
theorem vF (N:Nat):FSOk Try.prog 14 (kG N):=ok3 (fun q0 q1 q2 r h=>by
 obtain ⟨r',hr,rfl⟩:=Option.map_eq_some_iff.1 h;exact lG N q0 q1 q2 r' hr) (fun h=>au Client.dec_le h) (ba) (aj)


noncomputable def qn (N d f:Nat):Option FnS:=glist [(12,10,ji N),(17,10,ji N),(24,12,kZ N),(29,16,gr N),(34,14,gg N),(62,20,de N),(67,20,de N),(72,20,de N),(77,20,de N)] d f
attribute [go_sem] qn
theorem uG (N:Nat)  (r:Bool) (h:ko N  = some r):Con Try.prog 7 [] true [] (.val (.bool r)):=by
 refine aJ (G:=(qn N)) Try.func7 rfl (by decide) (by kernel_rfl) (gc 12 (ky N) (gc 17 (ky N) (gc 24 (qK N) (gc 29 (iN N) (gc 34 (j8 N) (gc 62 (dc N) (gc 67 (dc N) (gc 72 (dc N) (gc 77 (dc N) gn))))))))) [] mix (Nat.le_of_ble_eq_true rfl) ?_;simp only [Try.f7];unfold ko at h;refine Ws fun Z hZ=>?_;simp only [go_sem,seval];refine hZ _ (pp (Wk_seq ?_));obtain ⟨r1,hr1,h⟩:=Option.bind_eq_some_iff.1 h;refine aa fun Z hZ=>?_;simp only [go_sem,seval,hr1];refine hZ _ (pp (Wk_seq ?_));obtain ⟨r2,hr2,h⟩:=Option.bind_eq_some_iff.1 h;refine aa fun Z hZ=>?_;simp only [go_sem,seval,hr2];refine hZ _ (pp (Wk_seq ?_));obtain ⟨r3,hr3,h⟩:=Option.bind_eq_some_iff.1 h;refine aa fun Z hZ=>?_;simp only [go_sem,seval,hr3];refine hZ _ (pp (Wk_seq ?_));obtain ⟨r4,hr4,h⟩:=Option.bind_eq_some_iff.1 h;refine aa fun Z hZ=>?_;simp only [go_sem,seval,hr4];refine hZ _ (pp (Wk_seq ?_));obtain ⟨r5,hr5,h⟩:=Option.bind_eq_some_iff.1 h;refine aa fun Z hZ=>?_;simp only [go_sem,seval,hr5];refine hZ _ (pp (Ws fun Z hZ=>?_));simp only [go_sem,seval];refine sw (ah rfl) (fun hc6=>?_) (fun hc6=>?_)
 ·have hc6d:=decide_eq_false hc6;rw [if_neg hc6] at h;simp only [go_sem,seval,hc6d];refine hZ _ (pp (Wk_ret (pp ?_)));cases h;simp only [go_sem,seval];exact ⟨_,rfl,RokI.h,PureI.h⟩
 have hc6d:=decide_eq_true hc6;rw [if_pos hc6] at h;simp only [go_sem,seval,hc6d];refine sw (ah rfl) (fun hc7=>?_) (fun hc7=>?_)
 ·have hc7d:=decide_eq_false hc7;rw [if_neg hc7] at h;simp only [go_sem,seval,hc7d];refine hZ _ (pp (Wk_ret (pp ?_)));cases h;simp only [go_sem,seval];exact ⟨_,rfl,RokI.h,PureI.h⟩
 have hc7d:=decide_eq_true hc7;rw [if_pos hc7] at h;simp only [go_sem,seval,hc7d];refine sw (ah rfl) (fun hc8=>?_) (fun hc8=>?_)
 ·have hc8d:=decide_eq_false hc8;rw [if_neg hc8] at h;simp only [go_sem,seval,hc8d];refine hZ _ (pp (Wk_ret (pp ?_)));cases h;simp only [go_sem,seval];exact ⟨_,rfl,RokI.h,PureI.h⟩
 have hc8d:=decide_eq_true hc8;rw [if_pos hc8] at h;simp only [go_sem,seval,hc8d];refine sw (db rfl) (fun hc9=>?_) (fun hc9=>?_)
 ·rw [if_neg (ne_true_of_eq_false hc9)] at h;simp only [go_sem,seval,hc9];refine hZ _ (pp (Wk_ret (pp ?_)));cases h;simp only [go_sem,seval];exact ⟨_,rfl,RokI.h,PureI.h⟩
 rw [if_pos hc9] at h;simp only [go_sem,seval,hc9];refine sw (ah rfl) (fun hc10=>?_) (fun hc10=>?_)
 ·have hc10d:=decide_eq_false hc10;rw [if_neg hc10] at h;simp only [go_sem,seval,hc10d];refine hZ _ (pp (Wk_ret (pp ?_)));cases h;simp only [go_sem,seval];exact ⟨_,rfl,RokI.h,PureI.h⟩
 have hc10d:=decide_eq_true hc10;rw [if_pos hc10] at h;simp only [go_sem,seval,hc10d];refine sw (ah rfl) (fun hc11=>?_) (fun hc11=>?_)
 ·have hc11d:=decide_eq_false hc11;rw [if_neg hc11] at h;simp only [go_sem,seval,hc11d];refine hZ _ (pp (Wk_ret (pp ?_)));cases h;simp only [go_sem,seval];exact ⟨_,rfl,RokI.h,PureI.h⟩
 have hc11d:=decide_eq_true hc11;rw [if_pos hc11] at h;obtain ⟨r6,hr12,h⟩:=Option.bind_eq_some_iff.1 h;simp only [go_sem,seval,hc11d,hr12];refine sw (ah rfl) (fun hc13=>?_) (fun hc13=>?_)
 ·have hc13d:=decide_eq_false hc13;rw [if_neg hc13] at h;simp only [go_sem,seval,hc13d];refine hZ _ (pp (Wk_ret (pp ?_)));cases h;simp only [go_sem,seval];exact ⟨_,rfl,RokI.h,PureI.h⟩
 have hc13d:=decide_eq_true hc13;rw [if_pos hc13] at h;obtain ⟨r7,hr14,h⟩:=Option.bind_eq_some_iff.1 h;simp only [go_sem,seval,hc13d,hr14];refine sw (ah rfl) (fun hc15=>?_) (fun hc15=>?_)
 ·have hc15d:=decide_eq_false hc15;rw [if_neg hc15] at h;simp only [go_sem,seval,hc15d];refine hZ _ (pp (Wk_ret (pp ?_)));cases h;simp only [go_sem,seval];exact ⟨_,rfl,RokI.h,PureI.h⟩
 have hc15d:=decide_eq_true hc15;rw [if_pos hc15] at h;obtain ⟨r8,hr16,h⟩:=Option.bind_eq_some_iff.1 h;simp only [go_sem,seval,hc15d,hr16];refine ah rfl (fun hc17=>?_) (fun hc17=>?_)
 ·have hc17d:=decide_eq_true hc17;rw [if_pos hc17] at h;obtain ⟨r9,hr18,h⟩:=Option.bind_eq_some_iff.1 h;simp only [go_sem,seval,hc17d,hr18];refine hZ _ (pp (Wk_ret (pp ?_)));cases h;simp only [go_sem,seval];exact ⟨_,rfl,RokI.h,PureI.h⟩
 have hc17d:=decide_eq_false hc17;rw [if_neg hc17] at h;simp only [go_sem,seval,hc17d];refine hZ _ (pp (Wk_ret (pp ?_)));cases h;simp only [go_sem,seval];exact ⟨_,rfl,RokI.h,PureI.h⟩
def jU (N:Nat):FnS:={ own:=[],pure:=true,fn:=fun cs=>match cs with
 | [] =>  (ko N ).map fun r=>.val (.bool r)
 | _=>none }
attribute [go_sem] jU
theorem rQ (N:Nat):FSOk Try.prog 7 (jU N):=by
 refine ⟨fun cs r h=>?_,fun h=>by cases h⟩;simp only [jU] at h;split at h
 ·simp only [Option.map_eq_some_iff] at h;obtain ⟨r',hr,rfl⟩:=h;exact ((uG N  r' hr).args (LeL.nil))
 ·cases h


theorem uO (N:Nat) (a0:Reply) (r:Bool) (h:js N a0=some r):Con Try.prog 9 [] true [.agg (Reply.row a0)] (.val (.bool r)):=by
 refine aJ (G:=(glist [])) Try.func9 rfl (by decide) (by kernel_rfl) gn [] mix (Nat.le_of_ble_eq_true rfl) ?_;simp only [Try.f9];unfold js at h;refine Ws fun Z hZ=>?_;simp only [go_sem,seval];refine hZ _ (pp (Wk_seq (Ws fun Z hZ=>?_)));simp only [go_sem,seval];refine hZ _ (pp (ak (eM fun hreal2=>?_)));have hl1:=hreal2.cell 1 8 (by simp only [go_sem,seval]; rfl) rfl;first|rw [List.length_map] at hl1|rw [dB] at hl1|rw [<-List.map_append,List.length_map] at hl1
 refine eC (fun (v2:Nat) (b:Unit)=>⟨tab 51 (updT (updT deadT 1 (.pref 1 [] 0 0)) 3 (.val (.int .i64 ((v2:Nat):Int)))),(upd RZ 1 (.sl true none 9 (some 1) [Reply.row a0]))⟩) () h ?_ ?_
 ·refine wr ?_ ?_<;>repeat' first|rfl|constructor
 rintro v2 ⟨⟩ hi3 h -;rcases (dG a0.Value_.L v2 hi3) with ⟨x5,hi3',hx4,hd6⟩|⟨hi3',_,hd6⟩
 ·rw [hd6] at h;simp only [gu] at h;have hw5:=dw hi3' hl1;refine Wk_seq (Ws fun Z hZ=>?_);simp only [go_sem,seval,hi3'];refine hZ _ (pp ?_);try simp only [Int.ofNat_lt,hi3',if_true,if_false] at h
  refine bZ rfl (ai (pp (Wk_seq (ak (Wk_seq ?_)))));try rw [gx_nat hx4] at h
  refine aa fun Z hZ=>?_;simp only [go_sem,seval,hx4,hi3'];refine hZ _ (pp (bq rfl (fun hc7=>?_) (fun hc7=>?_)))
  ·have hc7d:=decide_eq_true hc7;rw [if_pos hc7] at h;refine Ws fun Z hZ=>?_;simp only [go_sem,seval,hc7d];refine hZ _ (pp (Wk_ret (pp ?_)));cases h;simp only [go_sem,seval];exact ⟨_,rfl,RokI.h,PureI.h⟩
  have hc7d:=decide_eq_false hc7;rw [if_neg hc7] at h;refine ai (pp (aa fun Z hZ=>?_));simp only [go_sem,seval,hw5,hc7d];refine hZ _ (pp ?_);first|refine ⟨(),?_,h⟩|refine ⟨hi3',(),?_,h⟩
  refine wr ?_ ?_<;>repeat' first|rfl|constructor
 rw [hd6] at h;simp only [gu] at h;refine Wk_seq (Ws fun Z hZ=>?_);simp only [go_sem,seval,hi3'];refine hZ _ (pp ?_);try simp only [Int.ofNat_lt,hi3',if_true,if_false] at h
 refine bL rfl (b9 (pp ?_));unfold lO at h;refine Ws fun Z hZ=>?_;simp only [go_sem,seval];refine sw (ah rfl) (fun hc8=>?_) (fun hc8=>?_)
 ·have hc8d:=decide_eq_false hc8;rw [if_neg hc8] at h;simp only [go_sem,seval,hc8d];refine hZ _ (pp (Wk_ret (pp ?_)));cases h;simp only [go_sem,seval];exact ⟨_,rfl,RokI.h,PureI.h⟩
 have hc8d:=decide_eq_true hc8;rw [if_pos hc8] at h;simp only [go_sem,seval,hc8d];refine sw (ah rfl) (fun hc9=>?_) (fun hc9=>?_)
 ·have hc9d:=decide_eq_false hc9;rw [if_neg hc9] at h;simp only [go_sem,seval,hc9d];refine hZ _ (pp (Wk_ret (pp ?_)));cases h;simp only [go_sem,seval];exact ⟨_,rfl,RokI.h,PureI.h⟩
 have hc9d:=decide_eq_true hc9;rw [if_pos hc9] at h;simp only [go_sem,seval,hc9d];refine sw (ah rfl) (fun hc10=>?_) (fun hc10=>?_)
 ·have hc10d:=decide_eq_false hc10;rw [if_neg hc10] at h;simp only [go_sem,seval,hc10d];refine hZ _ (pp (Wk_ret (pp ?_)));cases h;simp only [go_sem,seval];exact ⟨_,rfl,RokI.h,PureI.h⟩
 have hc10d:=decide_eq_true hc10;rw [if_pos hc10] at h;simp only [go_sem,seval,hc10d];refine ah rfl (fun hc11=>?_) (fun hc11=>?_)
 ·have hc11d:=decide_eq_true hc11;rw [if_pos hc11] at h;simp only [go_sem,seval,hc11d];refine hZ _ (pp (Wk_ret (pp ?_)));cases h;simp only [go_sem,seval];exact ⟨_,rfl,RokI.h,PureI.h⟩
 have hc11d:=decide_eq_false hc11;rw [if_neg hc11] at h;simp only [go_sem,seval,hc11d];refine hZ _ (pp (Wk_ret (pp ?_)));cases h;simp only [go_sem,seval];exact ⟨_,rfl,RokI.h,PureI.h⟩
def lQ (N:Nat):FnS:=⟨[],true,fn1 Reply.decA fun q0=>(js N q0).map fun r=>.val (.bool r),false⟩
attribute [go_sem] lQ
theorem rP (N:Nat):FSOk Try.prog 9 (lQ N):=ok1 (fun q0 r h=>by
 obtain ⟨r',hr,rfl⟩:=Option.map_eq_some_iff.1 h;exact uO N q0 r' hr) (Reply.decA_le)


noncomputable def qv (N d f:Nat):Option FnS:=glist [(55,9,lQ N)] d f
attribute [go_sem] qv
theorem uL (N:Nat) (a0:(List Client)) (r:Bool) (h:jr N a0=some r):Con Try.prog 8 [] true [.sl false none 4 none (a0.map Client.row)] (.val (.bool r)):=by
 refine aJ (G:=(qv N)) Try.func8 rfl (by decide) (by kernel_rfl) (gc 55 (rP N) gn) [] mix (Nat.le_of_ble_eq_true rfl) ?_;simp only [Try.f8];unfold jr at h;refine Ws fun Z hZ=>?_;simp only [go_sem,seval];refine hZ _ (pp (Wk_seq (Ws fun Z hZ=>?_)));simp only [go_sem,seval];refine hZ _ (pp (ak (eM fun hreal2=>?_)));have hl1:=hreal2.lenT 0 (by decide) (by simp only [go_sem,seval]; rfl);first|rw [List.length_map] at hl1|rw [dB] at hl1|rw [<-List.map_append,List.length_map] at hl1
 refine eC (fun (v2:Nat) (b:Unit)=>⟨tab 60 (updT (updT deadT 0 (.sl false none 4 none (a0.map Client.row))) 3 (.val (.int .i64 ((v2:Nat):Int)))),RZ⟩) () h ?_ ?_
 ·refine wr ?_ ?_<;>repeat' first|rfl|constructor
 rintro v2 ⟨⟩ hi3 h -;rcases (dG a0 v2 hi3).symm with ⟨hi3',_,hd6⟩|⟨x5,hi3',hx4,hd6⟩
 ·rw [hd6] at h;simp only [eG] at h;refine Wk_seq (Ws fun Z hZ=>?_);simp only [go_sem,seval,hi3'];refine hZ _ (pp ?_);try simp only [Int.ofNat_lt,hi3',if_true,if_false] at h
  refine bL rfl (b9 (pp (Ws fun Z hZ=>?_)));simp only [go_sem,seval];refine hZ _ (pp (Wk_ret (pp ?_)));cases h;simp only [go_sem,seval];exact ⟨_,rfl,RokI.h,PureI.h⟩
 rw [hd6] at h;simp only [eG] at h;have hw5:=dw hi3' hl1;refine Wk_seq (Ws fun Z hZ=>?_);simp only [go_sem,seval,hi3'];refine hZ _ (pp ?_);try simp only [Int.ofNat_lt,hi3',if_true,if_false] at h
 refine bZ rfl (ai (pp (Wk_seq (ak (Wk_seq ?_)))));apply dI (fun (c3:Bool)=>⟨tab 60 (updT (updT (updT deadT 0 (.sl false none 4 none (a0.map Client.row))) 3 (.val (.int .i64 ((v2:Nat):Int)))) 35 (.val (.bool c3))),RZ⟩)
 ·intro hJ7;try rw [gx_nat hx4] at h
  refine aa fun Z hZ=>?_;simp only [go_sem,seval,hx4,hi3'];refine ah rfl (fun hc8=>?_) (fun hc8=>?_)
  ·have hc8d:=decide_eq_true hc8;rw [if_pos hc8] at h;simp only [go_sem,seval,hc8d];refine hZ _ (pp (hJ7 _ true ?_ h));refine wr ?_ ?_<;>repeat' first|rfl|constructor
  have hc8d:=decide_eq_false hc8;rw [if_neg hc8] at h;try rw [gx_nat hx4] at h
  simp only [go_sem,seval,hx4,hi3',hc8d];refine ah rfl (fun hc9=>?_) (fun hc9=>?_)
  ·have hc9d:=decide_eq_true hc9;rw [if_pos hc9] at h;simp only [go_sem,seval,hc9d];refine hZ _ (pp (hJ7 _ true ?_ h));refine wr ?_ ?_<;>repeat' first|rfl|constructor
  have hc9d:=decide_eq_false hc9;rw [if_neg hc9] at h;try rw [gx_nat hx4] at h
  simp only [go_sem,seval,hx4,hi3',hc9d];refine hZ _ (pp (hJ7 _ (decide (40 < ((x5.Done.length:Nat):Int))) ?_ h));refine wr ?_ ?_<;>repeat' first|rfl|constructor
 intro c3 h;unfold iP at h;refine aM rfl (fun hc10=>?_) (fun hc10=>?_)
 ·rw [if_pos hc10] at h;refine Ws fun Z hZ=>?_;simp only [go_sem,seval,hc10];refine hZ _ (pp (Wk_ret (pp ?_)));cases h;simp only [go_sem,seval];exact ⟨_,rfl,RokI.h,PureI.h⟩
 rw [if_neg (ne_true_of_eq_false hc10)] at h;refine ai (pp ?_);unfold iQ at h;refine Ws fun Z hZ=>?_;simp only [go_sem,seval,hc10];refine hZ _ (pp (ak (pk (fun (b:Int)=>⟨tab 60 (updT (updT (updT deadT 0 (.sl false none 4 none (a0.map Client.row))) 3 (.val (.int .i64 ((v2:Nat):Int)))) 4 (.val (.int .i64 b))),RZ⟩) 0 h ?_ ?_)))
 ·refine wr ?_ ?_<;>repeat' first|rfl|constructor
 rintro n v11 h -;cases n with
 | zero=>simp [gw] at h
 | succ n=>
 simp only [gw] at h;refine Wk_seq (Wk_seq ?_);try rw [gx_nat hx4] at h
 refine aa fun Z hZ=>?_;simp only [go_sem,seval,hx4,hi3'];refine hZ _ (pp (sw (bq rfl) (fun hc11=>?_) (fun hc11=>?_)))
 ·have hc11d:=decide_eq_false hc11;rw [if_neg hc11] at h;refine b9 (pp (aa fun Z hZ=>?_));simp only [go_sem,seval,hw5,hc11d];refine hZ _ (pp ?_);first|refine ⟨(),?_,h⟩|refine ⟨hi3',(),?_,h⟩
  refine wr ?_ ?_<;>repeat' first|rfl|constructor
 have hc11d:=decide_eq_true hc11;rw [if_pos hc11] at h;refine ai (pp (Wk_seq (ak (Wk_seq ?_))));try rw [gx_nat hx4] at h
 obtain ⟨x4,hb12,hx13,h⟩:=dC h;obtain ⟨r5,hr14,h⟩:=Option.bind_eq_some_iff.1 h;refine aa fun Z hZ=>?_;simp only [go_sem,seval,hx4,hi3',hb12,hx13,hr14];refine hZ _ (pp (dY rfl (fun hc15=>?_) (fun hc15=>?_)))
 ·rw [if_neg (ne_true_of_eq_false hc15)] at h;refine Ws fun Z hZ=>?_;simp only [go_sem,seval,hc15];refine hZ _ (pp (Wk_ret (pp ?_)));cases h;simp only [go_sem,seval];exact ⟨_,rfl,RokI.h,PureI.h⟩
 rw [if_pos hc15] at h;refine ai (pp (aa fun Z hZ=>?_));simp only [go_sem,seval,hc15];refine hZ _ (pp (⟨_,Nat.lt_succ_self _,(IntKind.i64.wrap (v11+1)),?_,h⟩));refine wr ?_ ?_<;>repeat' first|rfl|constructor
def lX (N:Nat):FnS:=⟨[],true,fn1 (decL 4 Client.dec) fun q0=>(jr N q0).map fun r=>.val (.bool r),false⟩
attribute [go_sem] lX
theorem rO (N:Nat):FSOk Try.prog 8 (lX N):=ok1 (fun q0 r h=>by
 obtain ⟨r',hr,rfl⟩:=Option.map_eq_some_iff.1 h;exact uL N q0 r' hr) (fun h=>au Client.dec_le h)


theorem sQ (N:Nat) (a0:(List Int)) (a1:(List Int)) (r:Bool) (h:gU N a0 a1=some r):Con Try.prog 46 [] true [.sl false none 1 none (a0.map (rowI .i64)),.sl false none 1 none (a1.map (rowI .i64))] (.val (.bool r)):=by
 refine aJ (G:=(glist [])) Try.func46 rfl (by decide) (by kernel_rfl) gn [] mix (Nat.le_of_ble_eq_true rfl) ?_;simp only [Try.f46];unfold gU at h;refine Ws fun Z hZ=>?_;simp only [go_sem,seval];refine hZ _ (pp (Wk_seq (Ws fun Z hZ=>?_)));simp only [go_sem,seval];refine hZ _ (pp (lj rfl (fun hc1=>?_) (fun hc1=>?_)))
 ·have hc1d:=decide_eq_false hc1;rw [if_neg hc1] at h;refine Ws fun Z hZ=>?_;simp only [go_sem,seval,hc1d];refine hZ _ (pp (Wk_ret (pp ?_)));cases h;simp only [go_sem,seval];exact ⟨_,rfl,RokI.h,PureI.h⟩
 have hc1d:=decide_eq_true hc1;rw [if_pos hc1] at h;refine ai (pp (Wk_seq (Ws fun Z hZ=>?_)));simp only [go_sem,seval,hc1d];refine hZ _ (pp (ak (eM fun hreal3=>?_)));have hl2:=hreal3.lenT 0 (by decide) (by simp only [go_sem,seval]; rfl);first|rw [List.length_map] at hl2|rw [dB] at hl2|rw [<-List.map_append,List.length_map] at hl2
 refine eC (fun (v3:Nat) (b:Unit)=>⟨tab 26 (updT (updT (updT deadT 0 (.sl false none 1 none (a0.map (rowI .i64)))) 1 (.sl false none 1 none (a1.map (rowI .i64)))) 5 (.val (.int .i64 ((v3:Nat):Int)))),RZ⟩) () h ?_ ?_
 ·refine wr ?_ ?_<;>repeat' first|rfl|constructor
 rintro v3 ⟨⟩ hi4 h -;rcases (dG a0 v3 hi4).symm with ⟨hi4',_,hd7⟩|⟨x6,hi4',hx5,hd7⟩
 ·rw [hd7] at h;simp only [fg] at h;refine Wk_seq (Ws fun Z hZ=>?_);simp only [go_sem,seval,hi4'];refine hZ _ (pp ?_);try simp only [Int.ofNat_lt,hi4',if_true,if_false] at h
  refine bL rfl (b9 (pp (Ws fun Z hZ=>?_)));simp only [go_sem,seval];refine hZ _ (pp (Wk_ret (pp ?_)));cases h;simp only [go_sem,seval];exact ⟨_,rfl,RokI.h,PureI.h⟩
 rw [hd7] at h;simp only [fg] at h;have hw6:=dw hi4' hl2;refine Wk_seq (Ws fun Z hZ=>?_);simp only [go_sem,seval,hi4'];refine hZ _ (pp ?_);try simp only [Int.ofNat_lt,hi4',if_true,if_false] at h
 refine bZ rfl (ai (pp (Wk_seq (ak (Wk_seq ?_)))));try rw [gx_nat hx5] at h
 obtain ⟨x1,hb8,hx9,h⟩:=dC h;try simp only [Int.toNat_natCast] at hx9
 try simp only [Int.ofNat_lt,Int.natCast_nonneg,true_and] at hb8
 refine fA fun Z hZ=>?_;simp only [go_sem,seval,hx5,hi4',hb8,hx9];refine hZ _ (by kernel_rfl) (pp (lj rfl (fun hc10=>?_) (fun hc10=>?_)))
 ·have hc10d:=decide_eq_false hc10;rw [if_neg hc10] at h;refine Ws fun Z hZ=>?_;simp only [go_sem,seval,hc10d];refine hZ _ (pp (Wk_ret (pp ?_)));cases h;simp only [go_sem,seval];exact ⟨_,rfl,RokI.h,PureI.h⟩
 have hc10d:=decide_eq_true hc10;rw [if_pos hc10] at h;refine ai (pp (aa fun Z hZ=>?_));simp only [go_sem,seval,hw6,hc10d];refine hZ _ (pp ?_);first|refine ⟨(),?_,h⟩|refine ⟨hi4',(),?_,h⟩
 refine wr ?_ ?_<;>repeat' first|rfl|constructor
def jc (N:Nat):FnS:=⟨[],true,fn2 (decL 1 (dec1 (decI .i64))) (decL 1 (dec1 (decI .i64))) fun q0 q1=>(gU N q0 q1).map fun r=>.val (.bool r),false⟩
attribute [go_sem] jc
theorem lF (N:Nat):FSOk Try.prog 46 (jc N):=ok2 (fun q0 q1 r h=>by
 obtain ⟨r',hr,rfl⟩:=Option.map_eq_some_iff.1 h;exact sQ N q0 q1 r' hr) (fun h=>au (bQ .i64) h) (fun h=>au (bQ .i64) h)


theorem qJ (N:Nat) (a0:(List ByteArray)) (a1:(List ByteArray)) (r:Bool) (h:gE N a0 a1=some r):Con Try.prog 69 [] true [.sl false none 1 none (a0.map rowS),.sl false none 1 none (a1.map rowS)] (.val (.bool r)):=by
 refine aJ (G:=(glist [])) Try.func69 rfl (by decide) (by kernel_rfl) gn [] mix (Nat.le_of_ble_eq_true rfl) ?_;simp only [Try.f69];unfold gE at h;refine Ws fun Z hZ=>?_;simp only [go_sem,seval];refine hZ _ (pp (Wk_seq (Ws fun Z hZ=>?_)));simp only [go_sem,seval];refine hZ _ (pp (lj rfl (fun hc1=>?_) (fun hc1=>?_)))
 ·have hc1d:=decide_eq_false hc1;rw [if_neg hc1] at h;refine Ws fun Z hZ=>?_;simp only [go_sem,seval,hc1d];refine hZ _ (pp (Wk_ret (pp ?_)));cases h;simp only [go_sem,seval];exact ⟨_,rfl,RokI.h,PureI.h⟩
 have hc1d:=decide_eq_true hc1;rw [if_pos hc1] at h;refine ai (pp (Wk_seq (Ws fun Z hZ=>?_)));simp only [go_sem,seval,hc1d];refine hZ _ (pp (ak (eM fun hreal3=>?_)));have hl2:=hreal3.lenT 0 (by decide) (by simp only [go_sem,seval]; rfl);first|rw [List.length_map] at hl2|rw [dB] at hl2|rw [<-List.map_append,List.length_map] at hl2
 refine eC (fun (v3:Nat) (b:Unit)=>⟨tab 26 (updT (updT (updT deadT 0 (.sl false none 1 none (a0.map rowS))) 1 (.sl false none 1 none (a1.map rowS))) 5 (.val (.int .i64 ((v3:Nat):Int)))),RZ⟩) () h ?_ ?_
 ·refine wr ?_ ?_<;>repeat' first|rfl|constructor
 rintro v3 ⟨⟩ hi4 h -;rcases (dG a0 v3 hi4).symm with ⟨hi4',_,hd7⟩|⟨x6,hi4',hx5,hd7⟩
 ·rw [hd7] at h;simp only [en] at h;refine Wk_seq (Ws fun Z hZ=>?_);simp only [go_sem,seval,hi4'];refine hZ _ (pp ?_);try simp only [Int.ofNat_lt,hi4',if_true,if_false] at h
  refine bL rfl (b9 (pp (Ws fun Z hZ=>?_)));simp only [go_sem,seval];refine hZ _ (pp (Wk_ret (pp ?_)));cases h;simp only [go_sem,seval];exact ⟨_,rfl,RokI.h,PureI.h⟩
 rw [hd7] at h;simp only [en] at h;have hw6:=dw hi4' hl2;refine Wk_seq (Ws fun Z hZ=>?_);simp only [go_sem,seval,hi4'];refine hZ _ (pp ?_);try simp only [Int.ofNat_lt,hi4',if_true,if_false] at h
 refine bZ rfl (ai (pp (Wk_seq (ak (Wk_seq ?_)))));try rw [gx_nat hx5] at h
 obtain ⟨x1,hb8,hx9,h⟩:=dC h;try simp only [Int.toNat_natCast] at hx9
 try simp only [Int.ofNat_lt,Int.natCast_nonneg,true_and] at hb8
 refine fA fun Z hZ=>?_;simp only [go_sem,seval,hx5,hi4',hb8,hx9];refine hZ _ (by kernel_rfl) (pp (dY rfl (fun hc10=>?_) (fun hc10=>?_)))
 ·rw [if_neg (ne_true_of_eq_false hc10)] at h;refine Ws fun Z hZ=>?_;simp only [go_sem,seval,hc10];refine hZ _ (pp (Wk_ret (pp ?_)));cases h;simp only [go_sem,seval];exact ⟨_,rfl,RokI.h,PureI.h⟩
 rw [if_pos hc10] at h;refine ai (pp (aa fun Z hZ=>?_));simp only [go_sem,seval,hw6,hc10];refine hZ _ (pp ?_);first|refine ⟨(),?_,h⟩|refine ⟨hi4',(),?_,h⟩
 refine wr ?_ ?_<;>repeat' first|rfl|constructor
def jw (N:Nat):FnS:=⟨[],true,fn2 (decL 1 (dec1 decS)) (decL 1 (dec1 decS)) fun q0 q1=>(gE N q0 q1).map fun r=>.val (.bool r),false⟩
attribute [go_sem] jw
theorem pb (N:Nat):FSOk Try.prog 69 (jw N):=ok2 (fun q0 q1 r h=>by
 obtain ⟨r',hr,rfl⟩:=Option.map_eq_some_iff.1 h;exact qJ N q0 q1 r' hr) (fun h=>au iG h) (fun h=>au iG h)


noncomputable def oo (N d f:Nat):Option FnS:=glist [(29,46,jc N),(36,69,jw N)] d f
attribute [go_sem] oo
theorem sn (N:Nat) (a0:Value) (a1:Value) (r:Bool) (h:gm N a0 a1=some r):Con Try.prog 47 [] true [.agg (Value.row a0),.agg (Value.row a1)] (.val (.bool r)):=by
 refine aJ (G:=(oo N)) Try.func47 rfl (by decide) (by kernel_rfl) (gc 29 (lF N) (gc 36 (pb N) gn)) [] mix (Nat.le_of_ble_eq_true rfl) ?_;simp only [Try.f47];unfold gm at h;refine Ws fun Z hZ=>?_;simp only [go_sem,seval];refine hZ _ (pp (Ws fun Z hZ=>?_));simp only [go_sem,seval];refine sw (ah rfl) (fun hc1=>?_) (fun hc1=>?_)
 ·have hc1d:=decide_eq_false hc1;rw [if_neg hc1] at h;simp only [go_sem,seval,hc1d];refine hZ _ (pp (Wk_ret (pp ?_)));cases h;simp only [go_sem,seval];exact ⟨_,rfl,RokI.h,PureI.h⟩
 have hc1d:=decide_eq_true hc1;rw [if_pos hc1] at h;simp only [go_sem,seval,hc1d];refine sw (ah rfl) (fun hc2=>?_) (fun hc2=>?_)
 ·have hc2d:=decide_eq_false hc2;rw [if_neg hc2] at h;simp only [go_sem,seval,hc2d];refine hZ _ (pp (Wk_ret (pp ?_)));cases h;simp only [go_sem,seval];exact ⟨_,rfl,RokI.h,PureI.h⟩
 have hc2d:=decide_eq_true hc2;rw [if_pos hc2] at h;simp only [go_sem,seval,hc2d];refine sw (db rfl) (fun hc3=>?_) (fun hc3=>?_)
 ·rw [if_neg (ne_true_of_eq_false hc3)] at h;simp only [go_sem,seval,hc3];refine hZ _ (pp (Wk_ret (pp ?_)));cases h;simp only [go_sem,seval];exact ⟨_,rfl,RokI.h,PureI.h⟩
 rw [if_pos hc3] at h;obtain ⟨r1,hr4,h⟩:=Option.bind_eq_some_iff.1 h;simp only [go_sem,seval,hc3,hr4];refine db rfl (fun hc5=>?_) (fun hc5=>?_)
 ·rw [if_pos hc5] at h;obtain ⟨r2,hr6,h⟩:=Option.bind_eq_some_iff.1 h;simp only [go_sem,seval,hc5,hr6];refine hZ _ (pp (Wk_ret (pp ?_)));cases h;simp only [go_sem,seval];exact ⟨_,rfl,RokI.h,PureI.h⟩
 rw [if_neg (ne_true_of_eq_false hc5)] at h;simp only [go_sem,seval,hc5];refine hZ _ (pp (Wk_ret (pp ?_)));cases h;simp only [go_sem,seval];exact ⟨_,rfl,RokI.h,PureI.h⟩
def ke (N:Nat):FnS:=⟨[],true,fn2 Value.decA Value.decA fun q0 q1=>(gm N q0 q1).map fun r=>.val (.bool r),false⟩
attribute [go_sem] ke
theorem pY (N:Nat):FSOk Try.prog 47 (ke N):=ok2 (fun q0 q1 r h=>by
 obtain ⟨r',hr,rfl⟩:=Option.map_eq_some_iff.1 h;exact sn N q0 q1 r' hr) (Value.decA_le) (Value.decA_le)


noncomputable def mI (N d f:Nat):Option FnS:=glist [(22,46,jc N),(36,47,ke N)] d f
attribute [go_sem] mI
theorem rL (N:Nat) (a0:Reply) (a1:Reply) (r:Bool) (h:eU N a0 a1=some r):Con Try.prog 19 [] true [.agg (Reply.row a0),.agg (Reply.row a1)] (.val (.bool r)):=by
 refine aJ (G:=(mI N)) Try.func19 rfl (by decide) (by kernel_rfl) (gc 22 (lF N) (gc 36 (pY N) gn)) [] mix (Nat.le_of_ble_eq_true rfl) ?_;simp only [Try.f19];unfold eU at h;refine Ws fun Z hZ=>?_;simp only [go_sem,seval];refine hZ _ (pp (Ws fun Z hZ=>?_));simp only [go_sem,seval];refine sw (db rfl) (fun hc1=>?_) (fun hc1=>?_)
 ·rw [if_neg (ne_true_of_eq_false hc1)] at h;simp only [go_sem,seval,hc1];refine hZ _ (pp (Wk_ret (pp ?_)));cases h;simp only [go_sem,seval];exact ⟨_,rfl,RokI.h,PureI.h⟩
 rw [if_pos hc1] at h;simp only [go_sem,seval,hc1];refine sw (ah rfl) (fun hc2=>?_) (fun hc2=>?_)
 ·have hc2d:=decide_eq_false hc2;rw [if_neg hc2] at h;simp only [go_sem,seval,hc2d];refine hZ _ (pp (Wk_ret (pp ?_)));cases h;simp only [go_sem,seval];exact ⟨_,rfl,RokI.h,PureI.h⟩
 have hc2d:=decide_eq_true hc2;rw [if_pos hc2] at h;obtain ⟨r1,hr3,h⟩:=Option.bind_eq_some_iff.1 h;simp only [go_sem,seval,hc2d,hr3];refine sw (db rfl) (fun hc4=>?_) (fun hc4=>?_)
 ·rw [if_neg (ne_true_of_eq_false hc4)] at h;simp only [go_sem,seval,hc4];refine hZ _ (pp (Wk_ret (pp ?_)));cases h;simp only [go_sem,seval];exact ⟨_,rfl,RokI.h,PureI.h⟩
 rw [if_pos hc4] at h;simp only [go_sem,seval,hc4];refine ah rfl (fun hc5=>?_) (fun hc5=>?_)
 ·have hc5d:=decide_eq_true hc5;rw [if_pos hc5] at h;obtain ⟨r2,hr6,h⟩:=Option.bind_eq_some_iff.1 h;simp only [go_sem,seval,hc5d,hr6];refine hZ _ (pp (Wk_ret (pp ?_)));cases h;simp only [go_sem,seval];exact ⟨_,rfl,RokI.h,PureI.h⟩
 have hc5d:=decide_eq_false hc5;rw [if_neg hc5] at h;simp only [go_sem,seval,hc5d];refine hZ _ (pp (Wk_ret (pp ?_)));cases h;simp only [go_sem,seval];exact ⟨_,rfl,RokI.h,PureI.h⟩
def gY (N:Nat):FnS:=⟨[],true,fn2 Reply.decA Reply.decA fun q0 q1=>(eU N q0 q1).map fun r=>.val (.bool r),false⟩
attribute [go_sem] gY
theorem kP (N:Nat):FSOk Try.prog 19 (gY N):=ok2 (fun q0 q1 r h=>by
 obtain ⟨r',hr,rfl⟩:=Option.map_eq_some_iff.1 h;exact rL N q0 q1 r' hr) (Reply.decA_le) (Reply.decA_le)


noncomputable def mK (N d f:Nat):Option FnS:=glist [(22,7,jU N),(25,8,lX N),(44,22,fm N),(50,20,de N),(55,16,gr N),(62,10,ji N),(69,14,gg N),(78,16,gr N),(84,20,de N),(95,19,gY N),(104,16,gr N),(110,20,de N),(121,19,gY N)] d f
attribute [go_sem] mK
theorem mJ (N:Nat) (a0:(List Client)) (a1:ByteArray) (a2:ByteArray) (a3:Int) (a4:Int) (r:Bool) (h:fK N a0 a1 a2 a3 a4=some r):Con Try.prog 6 [] true [.sl false none 4 none (a0.map Client.row),.val (.string a1),.val (.string a2),.val (.int .i64 a3),.val (.int .i64 a4)] (.val (.bool r)):=by
 refine aJ (G:=(mK N)) Try.func6 rfl (by decide) (by kernel_rfl) (gc 22 (rQ N) (gc 25 (rO N) (gc 44 (fU N) (gc 50 (dc N) (gc 55 (iN N) (gc 62 (ky N) (gc 69 (j8 N) (gc 78 (iN N) (gc 84 (dc N) (gc 95 (kP N) (gc 104 (iN N) (gc 110 (dc N) (gc 121 (kP N) gn))))))))))))) [] mix (Nat.le_of_ble_eq_true rfl) ?_;simp only [Try.f6];unfold fK at h;refine Ws fun Z hZ=>?_;simp only [go_sem,seval];refine hZ _ (pp (Wk_seq (Wk_seq ?_)));obtain ⟨r1,hr1,h⟩:=Option.bind_eq_some_iff.1 h;refine aa fun Z hZ=>?_;simp only [go_sem,seval,hr1];refine hZ _ (pp (dY rfl (fun hc2=>?_) (fun hc2=>?_)))
 ·rw [if_neg (ne_true_of_eq_false hc2)] at h;refine Ws fun Z hZ=>?_;simp only [go_sem,seval,hc2];refine hZ _ (pp (Wk_ret (pp ?_)));cases h;simp only [go_sem,seval];exact ⟨_,rfl,RokI.h,PureI.h⟩
 rw [if_pos hc2] at h;refine ai (pp (Wk_seq ?_));apply dI (fun (c8:Bool)=>⟨tab 123 (updT (updT (updT (updT (updT (updT deadT 0 (.sl false none 4 none (a0.map Client.row))) 1 (.val (.string a1))) 2 (.val (.string a2))) 3 (.val (.int .i64 a3))) 4 (.val (.int .i64 a4))) 46 (.val (.bool c8))),RZ⟩)
 ·intro hJ3;obtain ⟨r9,hr4,h⟩:=Option.bind_eq_some_iff.1 h;refine aa fun Z hZ=>?_;simp only [go_sem,seval,hc2,hr4];refine da rfl (fun hc5=>?_) (fun hc5=>?_)
  ·rw [if_neg (ne_true_of_eq_false hc5)] at h;simp only [go_sem,seval,hc5];refine hZ _ (pp (hJ3 _ true ?_ h));refine wr ?_ ?_<;>repeat' first|rfl|constructor
  rw [if_pos hc5] at h;simp only [go_sem,seval,hc5];refine ah rfl (fun hc6=>?_) (fun hc6=>?_)
  ·have hc6d:=decide_eq_true hc6;rw [if_pos hc6] at h;simp only [go_sem,seval,hc6d];refine hZ _ (pp (hJ3 _ true ?_ h));refine wr ?_ ?_<;>repeat' first|rfl|constructor
  have hc6d:=decide_eq_false hc6;rw [if_neg hc6] at h;simp only [go_sem,seval,hc6d];refine ah rfl (fun hc7=>?_) (fun hc7=>?_)
  ·have hc7d:=decide_eq_true hc7;rw [if_pos hc7] at h;simp only [go_sem,seval,hc7d];refine hZ _ (pp (hJ3 _ true ?_ h));refine wr ?_ ?_<;>repeat' first|rfl|constructor
  have hc7d:=decide_eq_false hc7;rw [if_neg hc7] at h;simp only [go_sem,seval,hc7d];refine db rfl (fun hc8=>?_) (fun hc8=>?_)
  ·rw [if_pos hc8] at h;simp only [go_sem,seval,hc8];refine hZ _ (pp (hJ3 _ true ?_ h));refine wr ?_ ?_<;>repeat' first|rfl|constructor
  rw [if_neg (ne_true_of_eq_false hc8)] at h;obtain ⟨r10,hr9,h⟩:=Option.bind_eq_some_iff.1 h;simp only [go_sem,seval,hc8,hr9];refine hZ _ (pp (hJ3 _ (!r10) ?_ h));refine wr ?_ ?_<;>repeat' first|rfl|constructor
 intro c8 h;unfold dT at h;refine aM rfl (fun hc10=>?_) (fun hc10=>?_)
 ·rw [if_pos hc10] at h;refine Ws fun Z hZ=>?_;simp only [go_sem,seval,hc10];refine hZ _ (pp (Wk_ret (pp ?_)));cases h;simp only [go_sem,seval];exact ⟨_,rfl,RokI.h,PureI.h⟩
 rw [if_neg (ne_true_of_eq_false hc10)] at h;refine ai (pp ?_);unfold dy at h;refine Wk_seq ?_;obtain ⟨r11,hr11,h⟩:=Option.bind_eq_some_iff.1 h;refine aa fun Z hZ=>?_;simp only [go_sem,seval,hc10,hr11];refine hZ _ (pp (Wk_seq ?_));obtain ⟨r12,hr12,h⟩:=Option.bind_eq_some_iff.1 h;refine aa fun Z hZ=>?_;simp only [go_sem,seval,hr12];refine hZ _ (pp (Wk_seq ?_));obtain ⟨r13,hr13,h⟩:=Option.bind_eq_some_iff.1 h;refine aa fun Z hZ=>?_;simp only [go_sem,seval,hr13];refine hZ _ (pp (Wk_seq ?_));obtain ⟨r14,hr14,h⟩:=Option.bind_eq_some_iff.1 h;refine aa fun Z hZ=>?_;simp only [go_sem,seval,hr14];refine hZ _ (pp ?_);apply AB ⟨tab 123 (updT (updT (updT (updT (updT (updT (updT deadT 2 (.val (.string a2))) 4 (.val (.int .i64 a4))) 11 (.val (.int .i64 r11))) 12 (.pref 12 [] 0 0)) 13 (.val (.bool r12.2))) 16 (.sl false none 4 none (r14.1.map Client.row))) 17 (.val (.int .i64 r14.2))),(upd RZ 12 (.sl true none 9 (some 1) [Reply.row r12.1]))⟩
 ·intro hJ15;refine Ws fun Z hZ=>?_;simp only [go_sem,seval];refine hZ _ (pp (sw (bq rfl) (fun hc16=>?_) (fun hc16=>?_)))
  ·have hc16d:=decide_eq_false hc16;rw [if_neg hc16] at h;refine ai (pp (hJ15 _  ?_ h));refine wr ?_ ?_<;>repeat' first|rfl|constructor
  have hc16d:=decide_eq_true hc16;rw [if_pos hc16] at h;refine Wk_seq ?_;obtain ⟨r20,hr17,h⟩:=Option.bind_eq_some_iff.1 h;refine aa fun Z hZ=>?_;simp only [go_sem,seval,hc16d,hr17];refine hZ _ (pp ?_);apply dI (fun (c23:Bool)=>⟨tab 123 (updT (updT (updT (updT (updT (updT (updT (updT deadT 2 (.val (.string a2))) 4 (.val (.int .i64 a4))) 11 (.val (.int .i64 r11))) 12 (.pref 12 [] 0 0)) 13 (.val (.bool r12.2))) 16 (.sl false none 4 none (r14.1.map Client.row))) 17 (.val (.int .i64 r14.2))) 97 (.val (.bool c23))),(upd RZ 12 (.sl true none 9 (some 1) [Reply.row r12.1]))⟩)
  ·intro hJ18;obtain ⟨r24,hr19,h⟩:=Option.bind_eq_some_iff.1 h;refine aa fun Z hZ=>?_;simp only [go_sem,seval,hr19];refine jl rfl (fun hc20=>?_) (fun hc20=>?_)
   ·have hc20d:=decide_eq_false hc20;rw [if_neg hc20] at h;simp only [go_sem,seval,hc20d];refine hZ _ (pp (hJ18 _ true ?_ h));refine wr ?_ ?_<;>repeat' first|rfl|constructor
   have hc20d:=decide_eq_true hc20;rw [if_pos hc20] at h;simp only [go_sem,seval,hc20d];refine jl rfl (fun hc21=>?_) (fun hc21=>?_)
   ·have hc21d:=decide_eq_false hc21;rw [if_neg hc21] at h;simp only [go_sem,seval,hc21d];refine hZ _ (pp (hJ18 _ true ?_ h));refine wr ?_ ?_<;>repeat' first|rfl|constructor
   have hc21d:=decide_eq_true hc21;rw [if_pos hc21] at h;obtain ⟨r25,hr22,h⟩:=Option.bind_eq_some_iff.1 h;simp only [go_sem,seval,hc21d,hr22];refine hZ _ (pp (hJ18 _ (!r25) ?_ h));refine wr ?_ ?_<;>repeat' first|rfl|constructor
  intro c23 h;unfold fD at h;refine aM rfl (fun hc23=>?_) (fun hc23=>?_)
  ·rw [if_pos hc23] at h;refine Ws fun Z hZ=>?_;simp only [go_sem,seval,hc23];refine hZ _ (pp (Wk_ret (pp ?_)));cases h;simp only [go_sem,seval];exact ⟨_,rfl,RokI.h,PureI.h⟩
  rw [if_neg (ne_true_of_eq_false hc23)] at h;refine ai (pp (hJ15 _  ?_ h));refine wr ?_ ?_<;>repeat' first|rfl|constructor
 intro  h;unfold dz at h;refine Wk_seq (Ws fun Z hZ=>?_);simp only [go_sem,seval];refine hZ _ (pp (sw (bq rfl) (fun hc24=>?_) (fun hc24=>?_)))
 ·have hc24d:=decide_eq_false hc24;rw [if_neg hc24] at h;refine ai (pp (Ws fun Z hZ=>?_));simp only [go_sem,seval,hc24d];refine hZ _ (pp (Wk_ret (pp ?_)));cases h;simp only [go_sem,seval];exact ⟨_,rfl,RokI.h,PureI.h⟩
 have hc24d:=decide_eq_true hc24;rw [if_pos hc24] at h;refine Wk_seq ?_;obtain ⟨r26,hr25,h⟩:=Option.bind_eq_some_iff.1 h;refine aa fun Z hZ=>?_;simp only [go_sem,seval,hc24d,hr25];refine hZ _ (pp (Wk_seq ?_));obtain ⟨r27,hr26,h⟩:=Option.bind_eq_some_iff.1 h;refine aa fun Z hZ=>?_;simp only [go_sem,seval,hr26];refine sw (ah rfl) (fun hc27=>?_) (fun hc27=>?_)
 ·have hc27d:=decide_eq_false hc27;rw [if_neg hc27] at h;simp only [go_sem,seval,hc27d];refine hZ _ (pp (Wk_ret (pp ?_)));cases h;simp only [go_sem,seval];exact ⟨_,rfl,RokI.h,PureI.h⟩
 have hc27d:=decide_eq_true hc27;rw [if_pos hc27] at h;simp only [go_sem,seval,hc27d];refine ah rfl (fun hc28=>?_) (fun hc28=>?_)
 ·have hc28d:=decide_eq_true hc28;rw [if_pos hc28] at h;obtain ⟨r28,hr29,h⟩:=Option.bind_eq_some_iff.1 h;simp only [go_sem,seval,hc28d,hr29];refine hZ _ (pp (Wk_ret (pp ?_)));cases h;simp only [go_sem,seval];exact ⟨_,rfl,RokI.h,PureI.h⟩
 have hc28d:=decide_eq_false hc28;rw [if_neg hc28] at h;simp only [go_sem,seval,hc28d];refine hZ _ (pp (Wk_ret (pp ?_)));cases h;simp only [go_sem,seval];exact ⟨_,rfl,RokI.h,PureI.h⟩
def mg (N:Nat):FnS:=⟨[],true,fn5 (decL 4 Client.dec) decS decS (decI .i64) (decI .i64) fun q0 q1 q2 q3 q4=>(fK N q0 q1 q2 q3 q4).map fun r=>.val (.bool r),false⟩
attribute [go_sem] mg
theorem yc (N:Nat):FSOk Try.prog 6 (mg N):=ok5 (fun q0 q1 q2 q3 q4 r h=>by
 obtain ⟨r',hr,rfl⟩:=Option.map_eq_some_iff.1 h;exact mJ N q0 q1 q2 q3 q4 r' hr) (fun h=>au Client.dec_le h) (ba) (ba) (aj) (aj)

end Go.Proofs.Yteldkhmcgloafaa
