/- Walks: each function computes its model. No condition. -/
import Derived.Test.YteldkhmcgloafaaV
/- Each Go function computes its model: proofs laid by a program of ours. -/
set_option maxHeartbeats 40000000
set_option synthInstance.maxHeartbeats 2000000
set_option synthInstance.maxSize 4000
set_option linter.unusedSimpArgs false
set_option linter.unusedVariables false
set_option maxRecDepth 100000
namespace Go.Proofs.Yteldkhmcgloafaa
open Go Go.Proofs Go.Abs
theorem wj (N:Nat) (a0:ByteArray) (r:Bool) (h:gD N a0=some r):Con Try.prog 26 [] true [.val (.string a0)] (.val (.bool r)):=by
 refine aV (G:=(glist [])) Try.func26 rfl (by decide) (by kernel_rfl) gn [] mix (Nat.le_of_ble_eq_true rfl) ?_;simp only [Try.f26];unfold gD at h;refine Ws fun Z hZ=>?_;simp only [go_sem,seval];refine hZ _ (pp (Ws fun Z hZ=>?_));simp only [go_sem,seval];refine ar rfl (fun hc1=>?_) (fun hc1=>?_)
 ·have hc1d:=decide_eq_true hc1;rw [if_pos hc1] at h;simp only [go_sem,seval,hc1d];refine hZ _ (pp (Wk_ret (pp ?_)));cases h;simp only [go_sem,seval];exact ⟨_,rfl,RokI.h,PureI.h⟩
 have hc1d:=decide_eq_false hc1;rw [if_neg hc1] at h;simp only [go_sem,seval,hc1d];refine hZ _ (pp (Wk_ret (pp ?_)));cases h;simp only [go_sem,seval];exact ⟨_,rfl,RokI.h,PureI.h⟩
def iv (N:Nat):FnS:=⟨[],true,fn1 decS fun q0=>(gD N q0).map fun r=>.val (.bool r),false⟩
attribute [go_sem] iv
theorem jt (N:Nat):FSOk Try.prog 26 (iv N):=ok1 (fun q0 r h=>by
 obtain ⟨r',hr,rfl⟩:=Option.map_eq_some_iff.1 h;exact wj N q0 r' hr) (bw)


theorem rN (N:Nat) (a0:(List Int)) (a1:Int) (r:Int) (h:gV N a0 a1=some r):Con Try.prog 76 [] true [.sl false none 1 none (a0.map (rowI .i64)),.val (.int .i64 a1)] (.val (.int .i64 r)):=by
 refine aV (G:=(glist [])) Try.func76 rfl (by decide) (by kernel_rfl) gn [] mix (Nat.le_of_ble_eq_true rfl) ?_;simp only [Try.f76];unfold gV at h;refine Ws fun Z hZ=>?_;simp only [go_sem,seval];refine hZ _ (pp (Wk_seq (Ws fun Z hZ=>?_)));simp only [go_sem,seval];refine hZ _ (pp (aA (gp fun hreal2=>?_)));have hl1:=hreal2.lenT 0 (by decide) (by simp only [go_sem,seval]; rfl);first|rw [List.length_map] at hl1|rw [eD] at hl1|rw [<-List.map_append,List.length_map] at hl1
 refine gv (fun (v2:Nat) (b:Unit)=>⟨tab 19 (updT (updT (updT (updT deadT 0 (.sl false none 1 none (a0.map (rowI .i64)))) 1 (.val (.int .i64 a1))) 7 (.val (.int .i64 ((a0.length:Nat):Int)))) 8 (.val (.int .i64 ((v2:Nat):Int)))),RZ⟩) () h ?_ ?_
 ·refine wr ?_ ?_<;>repeat' first|rfl|constructor
 rintro v2 ⟨⟩ hi3 h -;rcases (eQ a0 v2 hi3).symm with ⟨hi3',_,hd6⟩|⟨x5,hi3',hx4,hd6⟩
 ·rw [hd6] at h;simp only [eL] at h;refine Ws fun Z hZ=>?_;simp only [go_sem,seval,hi3'];refine hZ _ (pp (Wk_seq ?_));try simp only [Int.ofNat_lt,hi3',if_true,if_false] at h
  refine dB rfl (dL (pp (Ws fun Z hZ=>?_)));simp only [go_sem,seval];refine hZ _ (pp (Wk_ret (pp ?_)));cases h;simp only [go_sem,seval];exact ⟨_,rfl,RokI.h,PureI.h⟩
 rw [hd6] at h;simp only [eL] at h;have hw5:=eI hi3' hl1;refine Ws fun Z hZ=>?_;simp only [go_sem,seval,hi3'];refine hZ _ (pp (Wk_seq ?_));try simp only [Int.ofNat_lt,hi3',if_true,if_false] at h
 refine dG rfl (ak (pp (Wk_seq (aA (Ws fun Z hZ=>?_)))));simp only [go_sem,seval];refine hZ _ (pp (Wk_seq ?_));try rw [gx_nat hx4] at h
 refine ae fun Z hZ=>?_;simp only [go_sem,seval,hx4,hi3'];refine hZ _ (pp (bj rfl (fun hc7=>?_) (fun hc7=>?_)))
 ·have hc7d:=decide_eq_true hc7;rw [if_pos hc7] at h;refine Ws fun Z hZ=>?_;simp only [go_sem,seval,hc7d];refine hZ _ (pp (Wk_ret (pp ?_)));cases h;simp only [go_sem,seval];exact ⟨_,rfl,RokI.h,PureI.h⟩
 have hc7d:=decide_eq_false hc7;rw [if_neg hc7] at h;refine ak (pp (ae fun Z hZ=>?_));simp only [go_sem,seval,hw5,hc7d];refine hZ _ (pp ?_);first|refine ⟨(),?_,h⟩|refine ⟨hi3',(),?_,h⟩
 refine wr ?_ ?_<;>repeat' first|rfl|constructor
def jK (N:Nat):FnS:=⟨[],true,fn2 (decL 1 (dec1 (decI .i64))) (decI .i64) fun q0 q1=>(gV N q0 q1).map fun r=>.val (.int .i64 r),false⟩
attribute [go_sem] jK
theorem pE (N:Nat):FSOk Try.prog 76 (jK N):=ok2 (fun q0 q1 r h=>by
 obtain ⟨r',hr,rfl⟩:=Option.map_eq_some_iff.1 h;exact rN N q0 q1 r' hr) (fun h=>aF (dy .i64) h) (aj)


noncomputable def kX (N d f:Nat):Option FnS:=glist [(7,76,jK N)] d f
attribute [go_sem] kX
theorem pU (N:Nat) (a0:(List Int)) (a1:Int) (r:Bool) (h:eM N a0 a1=some r):Con Try.prog 71 [] true [.sl false none 1 none (a0.map (rowI .i64)),.val (.int .i64 a1)] (.val (.bool r)):=by
 refine aV (G:=(kX N)) Try.func71 rfl (by decide) (by kernel_rfl) (gc 7 (pE N) gn) [] mix (Nat.le_of_ble_eq_true rfl) ?_;simp only [Try.f71];unfold eM at h;refine Ws fun Z hZ=>?_;simp only [go_sem,seval];refine hZ _ (pp (Wk_seq ?_));obtain ⟨r1,hr1,h⟩:=Option.bind_eq_some_iff.1 h;refine ae fun Z hZ=>?_;simp only [go_sem,seval,hr1];refine hZ _ (pp (Wk_ret (pp ?_)));cases h;simp only [go_sem,seval];exact ⟨_,rfl,RokI.h,PureI.h⟩
def jd (N:Nat):FnS:=⟨[],true,fn2 (decL 1 (dec1 (decI .i64))) (decI .i64) fun q0 q1=>(eM N q0 q1).map fun r=>.val (.bool r),false⟩
attribute [go_sem] jd
theorem ou (N:Nat):FSOk Try.prog 71 (jd N):=ok2 (fun q0 q1 r h=>by
 obtain ⟨r',hr,rfl⟩:=Option.map_eq_some_iff.1 h;exact pU N q0 q1 r' hr) (fun h=>aF (dy .i64) h) (aj)


theorem tQ (N:Nat) (a0:Int) (r:Bool) (h:fX N a0=some r):Con Try.prog 27 [] true [.val (.int .i64 a0)] (.val (.bool r)):=by
 refine aV (G:=(glist [])) Try.func27 rfl (by decide) (by kernel_rfl) gn [] mix (Nat.le_of_ble_eq_true rfl) ?_;simp only [Try.f27];unfold fX at h;refine Ws fun Z hZ=>?_;simp only [go_sem,seval];refine hZ _ (pp (Ws fun Z hZ=>?_));simp only [go_sem,seval];refine ar rfl (fun hc1=>?_) (fun hc1=>?_)
 ·have hc1d:=decide_eq_true hc1;rw [if_pos hc1] at h;simp only [go_sem,seval,hc1d];refine hZ _ (pp (Wk_ret (pp ?_)));cases h;simp only [go_sem,seval];exact ⟨_,rfl,RokI.h,PureI.h⟩
 have hc1d:=decide_eq_false hc1;rw [if_neg hc1] at h;simp only [go_sem,seval,hc1d];refine hZ _ (pp (Wk_ret (pp ?_)));cases h;simp only [go_sem,seval];exact ⟨_,rfl,RokI.h,PureI.h⟩
def iL (N:Nat):FnS:=⟨[],true,fn1 (decI .i64) fun q0=>(fX N q0).map fun r=>.val (.bool r),false⟩
attribute [go_sem] iL
theorem j6 (N:Nat):FSOk Try.prog 27 (iL N):=ok1 (fun q0 r h=>by
 obtain ⟨r',hr,rfl⟩:=Option.map_eq_some_iff.1 h;exact tQ N q0 r' hr) (aj)


theorem sJ (N:Nat) (a0:Value) (r:Bool) (h:gh N a0=some r):Con Try.prog 51 [] true [.agg (Value.row a0)] (.val (.bool r)):=by
 refine aV (G:=(glist [])) Try.func51 rfl (by decide) (by kernel_rfl) gn [] mix (Nat.le_of_ble_eq_true rfl) ?_;simp only [Try.f51];unfold gh at h;refine Ws fun Z hZ=>?_;simp only [go_sem,seval];refine hZ _ (pp (Wk_seq ?_));apply dh (fun (c3:Bool)=>⟨tab 86 (updT (updT deadT 1 (.pref 1 [] 0 0)) 12 (.val (.bool c3))),(upd RZ 1 (.sl true none 5 (some 1) [Value.row a0]))⟩)
 ·intro hJ1;refine ae fun Z hZ=>?_;simp only [go_sem,seval];refine ar rfl (fun hc2=>?_) (fun hc2=>?_)
  ·have hc2d:=decide_eq_true hc2;rw [if_pos hc2] at h;simp only [go_sem,seval,hc2d];refine hZ _ (pp (hJ1 _ true ?_ h));refine wr ?_ ?_<;>repeat' first|rfl|constructor|simp only [go_sem,seval,Bool.or_self,List.length_set,Int.natCast_zero,Int.cast_ofNat_Int,hc2d]
  have hc2d:=decide_eq_false hc2;rw [if_neg hc2] at h;simp only [go_sem,seval,hc2d];refine hZ _ (pp (hJ1 _ (decide (5 < a0.Kind)) ?_ h));refine wr ?_ ?_<;>repeat' first|rfl|constructor|simp only [go_sem,seval,Bool.or_self,List.length_set,Int.natCast_zero,Int.cast_ofNat_Int,hc2d]
 intro c3 h;unfold iE at h;refine aH rfl (fun hc3=>?_) (fun hc3=>?_)
 ·rw [if_pos hc3] at h;refine Ws fun Z hZ=>?_;simp only [go_sem,seval,hc3];refine hZ _ (pp (Wk_ret (pp ?_)));cases h;simp only [go_sem,seval];exact ⟨_,rfl,RokI.h,PureI.h⟩
 rw [if_neg (ne_true_of_eq_false hc3)] at h;refine ak (pp ?_);unfold iV at h;refine Wk_seq (aA ?_);apply dh (fun (c12:Bool)=>⟨tab 86 (updT (updT deadT 1 (.pref 1 [] 0 0)) 13 (.val (.bool c12))),(upd RZ 1 (.sl true none 5 (some 1) [Value.row a0]))⟩)
 ·intro hJ4;refine ae fun Z hZ=>?_;simp only [go_sem,seval,hc3];refine sw (jD rfl) (fun hc5=>?_) (fun hc5=>?_)
  ·have hc5d:=decide_eq_true hc5;rw [if_pos hc5] at h;simp only [go_sem,seval,hc5d];refine hZ _ (pp (hJ4 _ false ?_ h));refine wr ?_ ?_<;>repeat' first|rfl|constructor|simp only [go_sem,seval,Bool.or_self,List.length_set,Int.natCast_zero,Int.cast_ofNat_Int,hc3,hc5d]
  have hc5d:=decide_eq_false hc5;rw [if_neg hc5] at h;simp only [go_sem,seval,hc5d];refine sw (jD rfl) (fun hc6=>?_) (fun hc6=>?_)
  ·have hc6d:=decide_eq_true hc6;rw [if_pos hc6] at h;simp only [go_sem,seval,hc6d];refine hZ _ (pp (hJ4 _ false ?_ h));refine wr ?_ ?_<;>repeat' first|rfl|constructor|simp only [go_sem,seval,Bool.or_self,List.length_set,Int.natCast_zero,Int.cast_ofNat_Int,hc3,hc5d,hc6d]
  have hc6d:=decide_eq_false hc6;rw [if_neg hc6] at h;simp only [go_sem,seval,hc6d];refine jD rfl (fun hc7=>?_) (fun hc7=>?_)
  ·have hc7d:=decide_eq_false hc7;rw [if_neg hc7] at h;simp only [go_sem,seval,hc7d];refine hZ _ (pp (hJ4 _ true ?_ h));refine wr ?_ ?_<;>repeat' first|rfl|constructor|simp only [go_sem,seval,Bool.or_self,List.length_set,Int.natCast_zero,Int.cast_ofNat_Int,hc3,hc5d,hc6d,hc7d]
  have hc7d:=decide_eq_true hc7;rw [if_pos hc7] at h;simp only [go_sem,seval,hc7d];refine hZ _ (pp (hJ4 _ (!decide (a0.N=1)) ?_ h));refine wr ?_ ?_<;>repeat' first|rfl|constructor|simp only [go_sem,seval,Bool.or_self,List.length_set,Int.natCast_zero,Int.cast_ofNat_Int,hc3,hc5d,hc6d,hc7d]
 intro c12 h;unfold fh at h;refine aH rfl (fun hc8=>?_) (fun hc8=>?_)
 ·rw [if_pos hc8] at h;refine Ws fun Z hZ=>?_;simp only [go_sem,seval,hc8];refine hZ _ (pp (Wk_ret (pp ?_)));cases h;simp only [go_sem,seval];exact ⟨_,rfl,RokI.h,PureI.h⟩
 rw [if_neg (ne_true_of_eq_false hc8)] at h;apply dh (fun (c17:Bool)=>⟨tab 86 (updT (updT deadT 1 (.pref 1 [] 0 0)) 32 (.val (.bool c17))),(upd RZ 1 (.sl true none 5 (some 1) [Value.row a0]))⟩)
 ·intro hJ9;apply dh (fun (c18:Bool)=>⟨tab 86 (updT (updT deadT 1 (.pref 1 [] 0 0)) 32 (.val (.bool c18))),(upd RZ 1 (.sl true none 5 (some 1) [Value.row a0]))⟩)
  ·intro hJ10;refine ae fun Z hZ=>?_;simp only [go_sem,seval,hc8];refine dp rfl (fun hc11=>?_) (fun hc11=>?_)
   ·rw [if_neg (ne_true_of_eq_false hc11)] at h;simp only [go_sem,seval,hc11];refine hZ _ (pp (hJ10 _ (!decide (a0.Kind=3)) ?_ h));refine wr ?_ ?_<;>repeat' first|rfl|constructor|simp only [go_sem,seval,Bool.or_self,List.length_set,Int.natCast_zero,Int.cast_ofNat_Int,hc3,hc8,hc11]
   rw [if_pos hc11] at h;simp only [go_sem,seval,hc11];refine hZ _ (pp (hJ10 _ false ?_ h));refine wr ?_ ?_<;>repeat' first|rfl|constructor|simp only [go_sem,seval,Bool.or_self,List.length_set,Int.natCast_zero,Int.cast_ofNat_Int,hc3,hc8,hc11]
  intro c18 h;unfold iD at h;refine aH rfl (fun hc12=>?_) (fun hc12=>?_)
  ·rw [if_pos hc12] at h;refine ak (pp (hJ9 _ true ?_ h));refine wr ?_ ?_<;>repeat' first|rfl|constructor|simp only [go_sem,seval,hc12]
  rw [if_neg (ne_true_of_eq_false hc12)] at h;apply dh (fun (c19:Bool)=>⟨tab 86 (updT (updT deadT 1 (.pref 1 [] 0 0)) 32 (.val (.bool c19))),(upd RZ 1 (.sl true none 5 (some 1) [Value.row a0]))⟩)
  ·intro hJ13;refine ae fun Z hZ=>?_;simp only [go_sem,seval,hc12];refine ar rfl (fun hc14=>?_) (fun hc14=>?_)
   ·have hc14d:=decide_eq_true hc14;rw [if_pos hc14] at h;simp only [go_sem,seval,hc14d];refine hZ _ (pp (hJ13 _ (!decide (a0.Kind=4)) ?_ h));refine wr ?_ ?_<;>repeat' first|rfl|constructor|simp only [go_sem,seval,Bool.or_self,List.length_set,Int.natCast_zero,Int.cast_ofNat_Int,hc3,hc8,hc12,hc14d]
   have hc14d:=decide_eq_false hc14;rw [if_neg hc14] at h;simp only [go_sem,seval,hc14d];refine hZ _ (pp (hJ13 _ false ?_ h));refine wr ?_ ?_<;>repeat' first|rfl|constructor|simp only [go_sem,seval,Bool.or_self,List.length_set,Int.natCast_zero,Int.cast_ofNat_Int,hc3,hc8,hc12,hc14d]
  intro c19 h;unfold iI at h;refine aH rfl (fun hc15=>?_) (fun hc15=>?_)
  ·rw [if_pos hc15] at h;refine ak (pp (hJ9 _ true ?_ h));refine wr ?_ ?_<;>repeat' first|rfl|constructor|simp only [go_sem,seval,hc15]
  rw [if_neg (ne_true_of_eq_false hc15)] at h;refine ae fun Z hZ=>?_;simp only [go_sem,seval,hc15];refine ar rfl (fun hc16=>?_) (fun hc16=>?_)
  ·have hc16d:=decide_eq_true hc16;rw [if_pos hc16] at h;simp only [go_sem,seval,hc16d];refine hZ _ (pp (hJ9 _ (!decide (a0.Kind=5)) ?_ h));refine wr ?_ ?_<;>repeat' first|rfl|constructor|simp only [go_sem,seval,Bool.or_self,List.length_set,Int.natCast_zero,Int.cast_ofNat_Int,hc3,hc8,hc12,hc15,hc16d]
  have hc16d:=decide_eq_false hc16;rw [if_neg hc16] at h;simp only [go_sem,seval,hc16d];refine hZ _ (pp (hJ9 _ false ?_ h));refine wr ?_ ?_<;>repeat' first|rfl|constructor|simp only [go_sem,seval,Bool.or_self,List.length_set,Int.natCast_zero,Int.cast_ofNat_Int,hc3,hc8,hc12,hc15,hc16d]
 intro c17 h;unfold iF at h;refine aH rfl (fun hc17=>?_) (fun hc17=>?_)
 ·rw [if_pos hc17] at h;refine Ws fun Z hZ=>?_;simp only [go_sem,seval,hc17];refine hZ _ (pp (Wk_ret (pp ?_)));cases h;simp only [go_sem,seval];exact ⟨_,rfl,RokI.h,PureI.h⟩
 rw [if_neg (ne_true_of_eq_false hc17)] at h;refine ak (pp ?_);unfold fi at h;refine Wk_seq ?_;apply dh (fun (c22:Bool)=>⟨tab 86 (updT (updT deadT 1 (.pref 1 [] 0 0)) 74 (.val (.bool c22))),(upd RZ 1 (.sl true none 5 (some 1) [Value.row a0]))⟩)
 ·intro hJ18;refine ae fun Z hZ=>?_;simp only [go_sem,seval,hc17];refine ar rfl (fun hc19=>?_) (fun hc19=>?_)
  ·have hc19d:=decide_eq_true hc19;rw [if_pos hc19] at h;simp only [go_sem,seval,hc19d];refine hZ _ (pp (hJ18 _ true ?_ h));refine wr ?_ ?_<;>repeat' first|rfl|constructor|simp only [go_sem,seval,Bool.or_self,List.length_set,Int.natCast_zero,Int.cast_ofNat_Int,hc3,hc8,hc17,hc19d]
  have hc19d:=decide_eq_false hc19;rw [if_neg hc19] at h;simp only [go_sem,seval,hc19d];refine ar rfl (fun hc20=>?_) (fun hc20=>?_)
  ·have hc20d:=decide_eq_true hc20;rw [if_pos hc20] at h;simp only [go_sem,seval,hc20d];refine hZ _ (pp (hJ18 _ true ?_ h));refine wr ?_ ?_<;>repeat' first|rfl|constructor|simp only [go_sem,seval,Bool.or_self,List.length_set,Int.natCast_zero,Int.cast_ofNat_Int,hc3,hc8,hc17,hc19d,hc20d]
  have hc20d:=decide_eq_false hc20;rw [if_neg hc20] at h;simp only [go_sem,seval,hc20d];refine hZ _ (pp (hJ18 _ (decide (16 < ((a0.L.length:Nat):Int))) ?_ h));refine wr ?_ ?_<;>repeat' first|rfl|constructor|simp only [go_sem,seval,Bool.or_self,List.length_set,Int.natCast_zero,Int.cast_ofNat_Int,hc3,hc8,hc17,hc19d,hc20d]
 intro c22 h;unfold fW at h;refine aH rfl (fun hc21=>?_) (fun hc21=>?_)
 ·rw [if_pos hc21] at h;refine Ws fun Z hZ=>?_;simp only [go_sem,seval,hc21];refine hZ _ (pp (Wk_ret (pp ?_)));cases h;simp only [go_sem,seval];exact ⟨_,rfl,RokI.h,PureI.h⟩
 rw [if_neg (ne_true_of_eq_false hc21)] at h;refine ak (pp ?_);unfold fY at h;refine Wk_seq (Ws fun Z hZ=>?_);simp only [go_sem,seval,hc21];refine hZ _ (pp (aA (gp fun hreal23=>?_)));have hl22:=hreal23.lenT 76 (by decide) (by simp only [go_sem,seval]; rfl);first|rw [List.length_map] at hl22|rw [eD] at hl22|rw [<-List.map_append,List.length_map] at hl22
 refine gv (fun (v17:Nat) (b:Unit)=>⟨tab 86 (updT (updT (updT deadT 76 (.sl false none 1 none (a0.L.map rowS))) 77 (.val (.int .i64 ((a0.L.length:Nat):Int)))) 78 (.val (.int .i64 ((v17:Nat):Int)))),RZ⟩) () h ?_ ?_
 ·refine wr ?_ ?_<;>repeat' first|rfl|constructor|simp only [go_sem,seval,Bool.or_self,List.length_set,Int.natCast_zero,Int.cast_ofNat_Int,hc3,hc8,hc17,hc21]
 rintro v17 ⟨⟩ hi24 h -;rcases (eQ a0.L v17 hi24).symm with ⟨hi24',_,hd27⟩|⟨x20,hi24',hx25,hd27⟩
 ·rw [hd27] at h;simp only [fa] at h;refine Ws fun Z hZ=>?_;simp only [go_sem,seval,hi24'];refine hZ _ (pp (Wk_seq ?_));try simp only [Int.ofNat_lt,hi24',if_true,if_false] at h
  refine dB rfl (dL (pp (Ws fun Z hZ=>?_)));simp only [go_sem,seval];refine hZ _ (pp (Wk_ret (pp ?_)));cases h;simp only [go_sem,seval];exact ⟨_,rfl,RokI.h,PureI.h⟩
 rw [hd27] at h;simp only [fa] at h;have hw26:=eI hi24' hl22;refine Ws fun Z hZ=>?_;simp only [go_sem,seval,hi24'];refine hZ _ (pp (Wk_seq ?_));try simp only [Int.ofNat_lt,hi24',if_true,if_false] at h
 refine dG rfl (ak (pp (Wk_seq (aA (Wk_seq ?_)))));try rw [gx_nat hx25] at h
 refine ae fun Z hZ=>?_;simp only [go_sem,seval,hx25,hi24'];refine hZ _ (pp (Ws fun Z hZ=>?_));simp only [go_sem,seval];refine hZ _ (pp (bj rfl (fun hc28=>?_) (fun hc28=>?_)))
 ·have hc28d:=decide_eq_true hc28;rw [if_pos hc28] at h;refine Ws fun Z hZ=>?_;simp only [go_sem,seval,hc28d];refine hZ _ (pp (Wk_ret (pp ?_)));cases h;simp only [go_sem,seval];exact ⟨_,rfl,RokI.h,PureI.h⟩
 have hc28d:=decide_eq_false hc28;rw [if_neg hc28] at h;refine ak (pp (ae fun Z hZ=>?_));simp only [go_sem,seval,hw26,hc28d];refine hZ _ (pp ?_);first|refine ⟨(),?_,h⟩|refine ⟨hi24',(),?_,h⟩
 refine wr ?_ ?_<;>repeat' first|rfl|constructor|simp only [go_sem,seval,Bool.or_self,List.length_set,Int.natCast_zero,Int.cast_ofNat_Int,hc3,hc8,hc17,hc21,hx25,hi24',hw26,hc28d]
def jU (N:Nat):FnS:=⟨[],true,fn1 Value.decA fun q0=>(gh N q0).map fun r=>.val (.bool r),false⟩
attribute [go_sem] jU
theorem qj (N:Nat):FSOk Try.prog 51 (jU N):=ok1 (fun q0 r h=>by
 obtain ⟨r',hr,rfl⟩:=Option.map_eq_some_iff.1 h;exact sJ N q0 r' hr) (Value.decA_le)


noncomputable def mE (N d f:Nat):Option FnS:=glist [(5,26,iv N),(9,27,iL N),(30,51,jU N)] d f
attribute [go_sem] mE
theorem rP (N:Nat) (a0:Reply) (r:Bool) (h:eW N a0=some r):Con Try.prog 24 [] true [.agg (Reply.row a0)] (.val (.bool r)):=by
 refine aV (G:=(mE N)) Try.func24 rfl (by decide) (by kernel_rfl) (gc 5 (jt N) (gc 9 (j6 N) (gc 30 (qj N) gn))) [] mix (Nat.le_of_ble_eq_true rfl) ?_;simp only [Try.f24];unfold eW at h;refine Ws fun Z hZ=>?_;simp only [go_sem,seval];refine hZ _ (pp (Wk_seq ?_));obtain ⟨r1,hr1,h⟩:=Option.bind_eq_some_iff.1 h;refine ae fun Z hZ=>?_;simp only [go_sem,seval,hr1];refine sw (bX rfl) (fun hc2=>?_) (fun hc2=>?_)
 ·rw [if_neg (ne_true_of_eq_false hc2)] at h;simp only [go_sem,seval,hc2];refine hZ _ (pp (Wk_ret (pp ?_)));cases h;simp only [go_sem,seval];exact ⟨_,rfl,RokI.h,PureI.h⟩
 rw [if_pos hc2] at h;obtain ⟨r2,hr3,h⟩:=Option.bind_eq_some_iff.1 h;simp only [go_sem,seval,hc2,hr3];refine sw (bX rfl) (fun hc4=>?_) (fun hc4=>?_)
 ·rw [if_neg (ne_true_of_eq_false hc4)] at h;simp only [go_sem,seval,hc4];refine hZ _ (pp (Wk_ret (pp ?_)));cases h;simp only [go_sem,seval];exact ⟨_,rfl,RokI.h,PureI.h⟩
 rw [if_pos hc4] at h;simp only [go_sem,seval,hc4];refine sw (ar rfl) (fun hc5=>?_) (fun hc5=>?_)
 ·have hc5d:=decide_eq_false hc5;rw [if_neg hc5] at h;simp only [go_sem,seval,hc5d];refine hZ _ (pp (Wk_ret (pp ?_)));cases h;simp only [go_sem,seval];exact ⟨_,rfl,RokI.h,PureI.h⟩
 have hc5d:=decide_eq_true hc5;rw [if_pos hc5] at h;simp only [go_sem,seval,hc5d];refine sw (ar rfl) (fun hc6=>?_) (fun hc6=>?_)
 ·have hc6d:=decide_eq_false hc6;rw [if_neg hc6] at h;simp only [go_sem,seval,hc6d];refine hZ _ (pp (Wk_ret (pp ?_)));cases h;simp only [go_sem,seval];exact ⟨_,rfl,RokI.h,PureI.h⟩
 have hc6d:=decide_eq_true hc6;rw [if_pos hc6] at h;simp only [go_sem,seval,hc6d];refine sw (ar rfl) (fun hc7=>?_) (fun hc7=>?_)
 ·have hc7d:=decide_eq_false hc7;rw [if_neg hc7] at h;simp only [go_sem,seval,hc7d];refine hZ _ (pp (Wk_ret (pp ?_)));cases h;simp only [go_sem,seval];exact ⟨_,rfl,RokI.h,PureI.h⟩
 have hc7d:=decide_eq_true hc7;rw [if_pos hc7] at h;obtain ⟨r3,hr8,h⟩:=Option.bind_eq_some_iff.1 h;simp only [go_sem,seval,hc7d,hr8];refine sw (bX rfl) (fun hc9=>?_) (fun hc9=>?_)
 ·rw [if_neg (ne_true_of_eq_false hc9)] at h;simp only [go_sem,seval,hc9];refine hZ _ (pp (Wk_ret (pp ?_)));cases h;simp only [go_sem,seval];exact ⟨_,rfl,RokI.h,PureI.h⟩
 rw [if_pos hc9] at h;simp only [go_sem,seval,hc9];refine ar rfl (fun hc10=>?_) (fun hc10=>?_)
 ·have hc10d:=decide_eq_true hc10;rw [if_pos hc10] at h;simp only [go_sem,seval,hc10d];refine hZ _ (pp (Wk_ret (pp ?_)));cases h;simp only [go_sem,seval];exact ⟨_,rfl,RokI.h,PureI.h⟩
 have hc10d:=decide_eq_false hc10;rw [if_neg hc10] at h;simp only [go_sem,seval,hc10d];refine hZ _ (pp (Wk_ret (pp ?_)));cases h;simp only [go_sem,seval];exact ⟨_,rfl,RokI.h,PureI.h⟩
def ib (N:Nat):FnS:=⟨[],true,fn1 Reply.decA fun q0=>(eW N q0).map fun r=>.val (.bool r),false⟩
attribute [go_sem] ib
theorem kG (N:Nat):FSOk Try.prog 24 (ib N):=ok1 (fun q0 r h=>by
 obtain ⟨r',hr,rfl⟩:=Option.map_eq_some_iff.1 h;exact rP N q0 r' hr) (Reply.decA_le)


noncomputable def lV (N d f:Nat):Option FnS:=glist [(10,26,iv N),(68,71,jd N),(73,24,ib N)] d f
attribute [go_sem] lV
theorem rp (N:Nat) (a0:Client) (r:Bool) (h:fC N a0=some r):Con Try.prog 49 [] true [.agg (Client.row a0)] (.val (.bool r)):=by
 refine aV (G:=(lV N)) Try.func49 rfl (by decide) (by kernel_rfl) (gc 10 (jt N) (gc 68 (ou N) (gc 73 (kG N) gn))) [] mix (Nat.le_of_ble_eq_true rfl) ?_;simp only [Try.f49];unfold fC at h;refine Ws fun Z hZ=>?_;simp only [go_sem,seval];refine hZ _ (pp (Wk_seq ?_));apply dh (fun (c5:Bool)=>⟨tab 95 (updT (updT deadT 1 (.pref 1 [] 0 0)) 31 (.val (.bool c5))),(upd RZ 1 (.sl true none 4 (some 1) [Client.row a0]))⟩)
 ·intro hJ1;obtain ⟨r6,hr2,h⟩:=Option.bind_eq_some_iff.1 h;refine ae fun Z hZ=>?_;simp only [go_sem,seval,hr2];refine dp rfl (fun hc3=>?_) (fun hc3=>?_)
  ·rw [if_neg (ne_true_of_eq_false hc3)] at h;simp only [go_sem,seval,hc3];refine hZ _ (pp (hJ1 _ true ?_ h));refine wr ?_ ?_<;>repeat' first|rfl|constructor
  rw [if_pos hc3] at h;simp only [go_sem,seval,hc3];refine ar rfl (fun hc4=>?_) (fun hc4=>?_)
  ·have hc4d:=decide_eq_true hc4;rw [if_pos hc4] at h;simp only [go_sem,seval,hc4d];refine hZ _ (pp (hJ1 _ true ?_ h));refine wr ?_ ?_<;>repeat' first|rfl|constructor
  have hc4d:=decide_eq_false hc4;rw [if_neg hc4] at h;simp only [go_sem,seval,hc4d];refine ar rfl (fun hc5=>?_) (fun hc5=>?_)
  ·have hc5d:=decide_eq_true hc5;rw [if_pos hc5] at h;simp only [go_sem,seval,hc5d];refine hZ _ (pp (hJ1 _ true ?_ h));refine wr ?_ ?_<;>repeat' first|rfl|constructor
  have hc5d:=decide_eq_false hc5;rw [if_neg hc5] at h;simp only [go_sem,seval,hc5d];refine hZ _ (pp (hJ1 _ (decide (16 < (IntKind.i64.wrap (((a0.Open.length:Nat):Int)+((a0.Done.length:Nat):Int))))) ?_ h));refine wr ?_ ?_<;>repeat' first|rfl|constructor
 intro c5 h;unfold eC at h;refine aH rfl (fun hc6=>?_) (fun hc6=>?_)
 ·rw [if_pos hc6] at h;refine Ws fun Z hZ=>?_;simp only [go_sem,seval,hc6];refine hZ _ (pp (Wk_ret (pp ?_)));cases h;simp only [go_sem,seval];exact ⟨_,rfl,RokI.h,PureI.h⟩
 rw [if_neg (ne_true_of_eq_false hc6)] at h;refine ak (pp ?_);unfold ew at h;refine Ws fun Z hZ=>?_;simp only [go_sem,seval,hc6];refine hZ _ (pp (Wk_seq (Ws fun Z hZ=>?_)));simp only [go_sem,seval];refine hZ _ (pp (aA (gp fun hreal8=>?_)));have hl7:=hreal8.lenT 35 (by decide) (by simp only [go_sem,seval]; rfl);first|rw [List.length_map] at hl7|rw [eD] at hl7|rw [<-List.map_append,List.length_map] at hl7
 refine gv (fun (v7:Nat) (b:Int)=>⟨tab 95 (updT (updT (updT (updT (updT deadT 1 (.pref 1 [] 0 0)) 3 (.val (.int .i64 b))) 35 (.sl false none 1 none (a0.Open.map (rowI .i64)))) 36 (.val (.int .i64 ((a0.Open.length:Nat):Int)))) 37 (.val (.int .i64 ((v7:Nat):Int)))),(upd RZ 1 (.sl true none 4 (some 1) [Client.row a0]))⟩) a0.Low h ?_ ?_
 ·refine wr ?_ ?_<;>repeat' first|rfl|constructor
 rintro v7 v6 hi9 h -;rcases (eQ a0.Open v7 hi9) with ⟨x10,hi9',hx10,hd12⟩|⟨hi9',_,hd12⟩
 ·rw [hd12] at h;simp only [dN] at h;have hw11:=eI hi9' hl7;refine Ws fun Z hZ=>?_;simp only [go_sem,seval,hi9'];refine hZ _ (pp (Wk_seq ?_));try simp only [Int.ofNat_lt,hi9',if_true,if_false] at h
  refine dG rfl (ak (pp (Wk_seq (aA (Wk_seq ?_)))));try rw [gx_nat hx10] at h
  refine ae fun Z hZ=>?_;simp only [go_sem,seval,hx10,hi9'];refine hZ _ (pp (Wk_seq ?_));apply dh (fun (c20:Bool)=>⟨tab 95 (updT (updT (updT (updT (updT (updT deadT 1 (.pref 1 [] 0 0)) 5 (.val (.int .i64 x10))) 35 (.sl false none 1 none (a0.Open.map (rowI .i64)))) 36 (.val (.int .i64 ((a0.Open.length:Nat):Int)))) 37 (.val (.int .i64 ((v7:Nat):Int)))) 47 (.val (.bool c20))),(upd RZ 1 (.sl true none 4 (some 1) [Client.row a0]))⟩)
  ·intro hJ13;refine ae fun Z hZ=>?_;simp only [go_sem,seval];refine ar rfl (fun hc14=>?_) (fun hc14=>?_)
   ·have hc14d:=decide_eq_true hc14;rw [if_pos hc14] at h;simp only [go_sem,seval,hc14d];refine hZ _ (pp (hJ13 _ true ?_ h));refine wr ?_ ?_<;>repeat' first|rfl|constructor
   have hc14d:=decide_eq_false hc14;rw [if_neg hc14] at h;simp only [go_sem,seval,hc14d];refine hZ _ (pp (hJ13 _ (decide (1099511627776 < x10)) ?_ h));refine wr ?_ ?_<;>repeat' first|rfl|constructor
  intro c20 h;unfold gI at h;refine aH rfl (fun hc15=>?_) (fun hc15=>?_)
  ·rw [if_pos hc15] at h;refine Ws fun Z hZ=>?_;simp only [go_sem,seval,hc15];refine hZ _ (pp (Wk_ret (pp ?_)));cases h;simp only [go_sem,seval];exact ⟨_,rfl,RokI.h,PureI.h⟩
  rw [if_neg (ne_true_of_eq_false hc15)] at h;refine ak (pp ?_);unfold gH at h;refine ae fun Z hZ=>?_;simp only [go_sem,seval,hc15];refine hZ _ (pp (ae fun Z hZ=>?_));simp only [go_sem,seval,hw11];refine hZ _ (pp ?_);first|refine ⟨x10,?_,h⟩|refine ⟨hi9',x10,?_,h⟩
  refine wr ?_ ?_<;>repeat' first|rfl|constructor
 rw [hd12] at h;simp only [dN] at h;refine Ws fun Z hZ=>?_;simp only [go_sem,seval,hi9'];refine hZ _ (pp (Wk_seq ?_));try simp only [Int.ofNat_lt,hi9',if_true,if_false] at h
 refine dB rfl (dL (pp ?_));unfold jx at h;refine Ws fun Z hZ=>?_;simp only [go_sem,seval];refine hZ _ (pp (Wk_seq (Ws fun Z hZ=>?_)));simp only [go_sem,seval];refine hZ _ (pp (aA (gp fun hreal17=>?_)));have hl16:=hreal17.lenT 53 (by decide) (by simp only [go_sem,seval]; rfl);first|rw [List.length_map] at hl16|rw [eD] at hl16|rw [<-List.map_append,List.length_map] at hl16
 refine gv (fun (v18:Nat) (b:Int)=>⟨tab 95 (updT (updT (updT (updT (updT deadT 1 (.pref 1 [] 0 0)) 3 (.val (.int .i64 b))) 53 (.sl false none 10 none (a0.Done.map Answer.row))) 54 (.val (.int .i64 ((a0.Done.length:Nat):Int)))) 55 (.val (.int .i64 ((v18:Nat):Int)))),(upd RZ 1 (.sl true none 4 (some 1) [Client.row a0]))⟩) a0.Low h ?_ ?_
 ·refine wr ?_ ?_<;>repeat' first|rfl|constructor
 rintro v18 v17 hi18 h -;rcases (eQ a0.Done v18 hi18).symm with ⟨hi18',_,hd21⟩|⟨x21,hi18',hx19,hd21⟩
 ·rw [hd21] at h;simp only [bG] at h;refine Ws fun Z hZ=>?_;simp only [go_sem,seval,hi18'];refine hZ _ (pp (Wk_seq ?_));try simp only [Int.ofNat_lt,hi9',hi18',if_true,if_false] at h
  refine dB rfl (dL (pp (Ws fun Z hZ=>?_)));simp only [go_sem,seval];refine hZ _ (pp (Wk_ret (pp ?_)));cases h;simp only [go_sem,seval];exact ⟨_,rfl,RokI.h,PureI.h⟩
 rw [hd21] at h;simp only [bG] at h;have hw20:=eI hi18' hl16;refine Ws fun Z hZ=>?_;simp only [go_sem,seval,hi18'];refine hZ _ (pp (Wk_seq ?_));try simp only [Int.ofNat_lt,hi9',hi18',if_true,if_false] at h
 refine dG rfl (ak (pp (Wk_seq (aA (Wk_seq ?_)))));try rw [gx_nat hx19] at h
 refine ae fun Z hZ=>?_;simp only [go_sem,seval,hx19,hi18'];refine hZ _ (pp (Wk_seq ?_));apply dh (fun (c27:Bool)=>⟨tab 95 (updT (updT (updT (updT (updT (updT deadT 1 (.pref 1 [] 0 0)) 7 (.pref 7 [] 0 0)) 53 (.sl false none 10 none (a0.Done.map Answer.row))) 54 (.val (.int .i64 ((a0.Done.length:Nat):Int)))) 55 (.val (.int .i64 ((v18:Nat):Int)))) 91 (.val (.bool c27))),(upd (upd RZ 1 (.sl true none 4 (some 1) [Client.row a0])) 7 (.sl true none 10 (some 1) [Answer.row x21]))⟩)
 ·intro hJ22;refine ae fun Z hZ=>?_;simp only [go_sem,seval];refine ar rfl (fun hc23=>?_) (fun hc23=>?_)
  ·have hc23d:=decide_eq_true hc23;rw [if_pos hc23] at h;simp only [go_sem,seval,hc23d];refine hZ _ (pp (hJ22 _ true ?_ h));refine wr ?_ ?_<;>repeat' first|rfl|constructor
  have hc23d:=decide_eq_false hc23;rw [if_neg hc23] at h;obtain ⟨r28,hr24,h⟩:=Option.bind_eq_some_iff.1 h;simp only [go_sem,seval,hc23d,hr24];refine bX rfl (fun hc25=>?_) (fun hc25=>?_)
  ·rw [if_pos hc25] at h;simp only [go_sem,seval,hc25];refine hZ _ (pp (hJ22 _ true ?_ h));refine wr ?_ ?_<;>repeat' first|rfl|constructor
  rw [if_neg (ne_true_of_eq_false hc25)] at h;obtain ⟨r29,hr26,h⟩:=Option.bind_eq_some_iff.1 h;simp only [go_sem,seval,hc25,hr26];refine dp rfl (fun hc27=>?_) (fun hc27=>?_)
  ·rw [if_neg (ne_true_of_eq_false hc27)] at h;simp only [go_sem,seval,hc27];refine hZ _ (pp (hJ22 _ true ?_ h));refine wr ?_ ?_<;>repeat' first|rfl|constructor
  rw [if_pos hc27] at h;simp only [go_sem,seval,hc27];refine dp rfl (fun hc28=>?_) (fun hc28=>?_)
  ·rw [if_neg (ne_true_of_eq_false hc28)] at h;simp only [go_sem,seval,hc28];refine hZ _ (pp (hJ22 _ true ?_ h));refine wr ?_ ?_<;>repeat' first|rfl|constructor
  rw [if_pos hc28] at h;simp only [go_sem,seval,hc28];refine hZ _ (pp (hJ22 _ (!decide (x21.Reply_.Seq=x21.Seq)) ?_ h));refine wr ?_ ?_<;>repeat' first|rfl|constructor
 intro c27 h;unfold dR at h;refine aH rfl (fun hc29=>?_) (fun hc29=>?_)
 ·rw [if_pos hc29] at h;refine Ws fun Z hZ=>?_;simp only [go_sem,seval,hc29];refine hZ _ (pp (Wk_ret (pp ?_)));cases h;simp only [go_sem,seval];exact ⟨_,rfl,RokI.h,PureI.h⟩
 rw [if_neg (ne_true_of_eq_false hc29)] at h;refine ak (pp ?_);unfold dP at h;refine ae fun Z hZ=>?_;simp only [go_sem,seval,hc29];refine hZ _ (pp (ae fun Z hZ=>?_));simp only [go_sem,seval,hw20];refine hZ _ (pp ?_);first|refine ⟨x21.Seq,?_,h⟩|refine ⟨hi18',x21.Seq,?_,h⟩
 refine wr ?_ ?_<;>repeat' first|rfl|constructor
def jA (N:Nat):FnS:=⟨[],true,fn1 Client.decA fun q0=>(fC N q0).map fun r=>.val (.bool r),false⟩
attribute [go_sem] jA
theorem o5 (N:Nat):FSOk Try.prog 49 (jA N):=ok1 (fun q0 r h=>by
 obtain ⟨r',hr,rfl⟩:=Option.map_eq_some_iff.1 h;exact rp N q0 r' hr) (Client.decA_le)


noncomputable def qW (N d f:Nat):Option FnS:=glist [(16,49,jA N)] d f
attribute [go_sem] qW
theorem vy (N:Nat) (a0:(List Client)) (r:Bool) (h:eP N a0=some r):Con Try.prog 22 [] true [.sl false none 4 none (a0.map Client.row)] (.val (.bool r)):=by
 refine aV (G:=(qW N)) Try.func22 rfl (by decide) (by kernel_rfl) (gc 16 (o5 N) gn) [] mix (Nat.le_of_ble_eq_true rfl) ?_;simp only [Try.f22];unfold eP at h;refine Ws fun Z hZ=>?_;simp only [go_sem,seval];refine hZ _ (pp (Wk_seq (Ws fun Z hZ=>?_)));simp only [go_sem,seval];refine hZ _ (pp (bj rfl (fun hc1=>?_) (fun hc1=>?_)))
 ·have hc1d:=decide_eq_true hc1;rw [if_pos hc1] at h;refine Ws fun Z hZ=>?_;simp only [go_sem,seval,hc1d];refine hZ _ (pp (Wk_ret (pp ?_)));cases h;simp only [go_sem,seval];exact ⟨_,rfl,RokI.h,PureI.h⟩
 have hc1d:=decide_eq_false hc1;rw [if_neg hc1] at h;refine ak (pp (Wk_seq (Ws fun Z hZ=>?_)));simp only [go_sem,seval,hc1d];refine hZ _ (pp (aA (gp fun hreal3=>?_)));have hl2:=hreal3.lenT 0 (by decide) (by simp only [go_sem,seval]; rfl);first|rw [List.length_map] at hl2|rw [eD] at hl2|rw [<-List.map_append,List.length_map] at hl2
 refine gv (fun (v3:Nat) (b:Unit)=>⟨tab 34 (updT (updT (updT (updT deadT 0 (.sl false none 4 none (a0.map Client.row))) 8 (.sl false none 4 none (a0.map Client.row))) 9 (.val (.int .i64 ((a0.length:Nat):Int)))) 10 (.val (.int .i64 ((v3:Nat):Int)))),RZ⟩) () h ?_ ?_
 ·refine wr ?_ ?_<;>repeat' first|rfl|constructor
 rintro v3 ⟨⟩ hi4 h -;rcases (eQ a0 v3 hi4).symm with ⟨hi4',_,hd7⟩|⟨x6,hi4',hx5,hd7⟩
 ·rw [hd7] at h;simp only [ff] at h;refine Ws fun Z hZ=>?_;simp only [go_sem,seval,hi4'];refine hZ _ (pp (Wk_seq ?_));try simp only [Int.ofNat_lt,hi4',if_true,if_false] at h
  refine dB rfl (dL (pp (Ws fun Z hZ=>?_)));simp only [go_sem,seval];refine hZ _ (pp (Wk_ret (pp ?_)));cases h;simp only [go_sem,seval];exact ⟨_,rfl,RokI.h,PureI.h⟩
 rw [hd7] at h;simp only [ff] at h;have hw6:=eI hi4' hl2;refine Ws fun Z hZ=>?_;simp only [go_sem,seval,hi4'];refine hZ _ (pp (Wk_seq ?_));try simp only [Int.ofNat_lt,hi4',if_true,if_false] at h
 refine dG rfl (ak (pp (Wk_seq (aA (Wk_seq ?_)))));try rw [gx_nat hx5] at h
 refine ae fun Z hZ=>?_;simp only [go_sem,seval,hx5,hi4'];refine hZ _ (pp ?_);apply dh (fun (c3:Bool)=>⟨tab 34 (updT (updT (updT (updT (updT deadT 0 (.sl false none 4 none (a0.map Client.row))) 8 (.sl false none 4 none (a0.map Client.row))) 9 (.val (.int .i64 ((a0.length:Nat):Int)))) 10 (.val (.int .i64 ((v3:Nat):Int)))) 32 (.val (.bool c3))),RZ⟩)
 ·intro hJ8;obtain ⟨r4,hr9,h⟩:=Option.bind_eq_some_iff.1 h;refine fv fun Z hZ=>?_;simp only [go_sem,seval,hr9];repeat with_reducible refine ek (by kernel_rfl) ?_
  refine dp rfl (fun hc10=>?_) (fun hc10=>?_)
  ·rw [if_neg (ne_true_of_eq_false hc10)] at h;simp only [go_sem,seval,hc10];refine hZ _ (by kernel_rfl) (pp (hJ8 _ true ?_ h));refine wr ?_ ?_<;>repeat' first|rfl|constructor
  rw [if_pos hc10] at h;simp only [go_sem,seval,hc10];refine ar rfl (fun hc11=>?_) (fun hc11=>?_)
  ·have hc11d:=decide_eq_true hc11;rw [if_pos hc11] at h;obtain ⟨x5,hb12,hx13,h⟩:=eA h;simp only [go_sem,seval,hc11d,hb12,hx13];refine hZ _ (by kernel_rfl) (pp (hJ8 _ (!(sLt x5.Name x6.Name)) ?_ h));refine wr ?_ ?_<;>repeat' first|rfl|constructor
  have hc11d:=decide_eq_false hc11;rw [if_neg hc11] at h;simp only [go_sem,seval,hc11d];refine hZ _ (by kernel_rfl) (pp (hJ8 _ false ?_ h));refine wr ?_ ?_<;>repeat' first|rfl|constructor
 intro c3 h;unfold jl at h;refine aH rfl (fun hc14=>?_) (fun hc14=>?_)
 ·rw [if_pos hc14] at h;refine Ws fun Z hZ=>?_;simp only [go_sem,seval,hc14];refine hZ _ (pp (Wk_ret (pp ?_)));cases h;simp only [go_sem,seval];exact ⟨_,rfl,RokI.h,PureI.h⟩
 rw [if_neg (ne_true_of_eq_false hc14)] at h;refine ak (pp (ae fun Z hZ=>?_));simp only [go_sem,seval,hw6,hc14];refine hZ _ (pp ?_);first|refine ⟨(),?_,h⟩|refine ⟨hi4',(),?_,h⟩
 refine wr ?_ ?_<;>repeat' first|rfl|constructor
def fP (N:Nat):FnS:=⟨[],true,fn1 (decL 4 Client.dec) fun q0=>(eP N q0).map fun r=>.val (.bool r),false⟩
attribute [go_sem] fP
theorem gC (N:Nat):FSOk Try.prog 22 (fP N):=ok1 (fun q0 r h=>by
 obtain ⟨r',hr,rfl⟩:=Option.map_eq_some_iff.1 h;exact vy N q0 r' hr) (fun h=>aF Client.dec_le h)


theorem pR (N:Nat) (a0:(List Int)) (r:(List Int)) (h:bY N a0=some r):Con Try.prog 56 [] true [.sl false (some false) 1 none (a0.map (rowI .i64))] (.sl true none 1 none (r.map (rowI .i64))):=by
 refine aV (G:=(glist [])) Try.func56 rfl (by decide) (by kernel_rfl) gn [] mix (Nat.le_of_ble_eq_true rfl) ?_;simp only [Try.f56];unfold bY at h;refine Ws fun Z hZ=>?_;simp only [go_sem,seval];refine hZ _ (pp (Wk_seq (Ws fun Z hZ=>?_)));simp only [go_sem,seval];refine hZ _ (pp (dB rfl ?_));first|rw [if_pos (rfl:true=true)] at h|rw [if_neg Bool.false_ne_true] at h|skip
 refine ak (pp (Wk_seq ?_));first|obtain ⟨ha1,h⟩:=qv h|(obtain ⟨ha1,h⟩:=qG h; rw [List.nil_append] at h)
 simp only [Nat.reduceAdd] at ha1;refine ae fun Z hZ=>?_;simp only [go_sem,seval,ha1];refine hZ _ (pp (Wk_ret (pp ?_)));cases h;simp only [go_sem,seval];exact ⟨_,rfl,RokI.h,PureI.h⟩
theorem pH (N:Nat)  (r:(List Int)) (h:bY N []=some r):Con Try.prog 56 [] true [.val (.slice none 0 0)] (.sl true none 1 none (r.map (rowI .i64))):=by
 refine aV (G:=(glist [])) Try.func56 rfl (by decide) (by kernel_rfl) gn [] mix (Nat.le_of_ble_eq_true rfl) ?_;simp only [Try.f56];unfold bY at h;refine Ws fun Z hZ=>?_;simp only [go_sem,seval];refine hZ _ (pp (Wk_seq (Ws fun Z hZ=>?_)));simp only [go_sem,seval];refine hZ _ (pp (dG rfl ?_));first|rw [if_pos (rfl:true=true)] at h|rw [if_neg Bool.false_ne_true] at h|skip
 refine Ws fun Z hZ=>?_;simp only [go_sem,seval];refine hZ _ (pp (Wk_ret (pp ?_)));obtain rfl:r=[]:=by simpa [apn] using h.symm
 simp only [go_sem,seval];exact ⟨_,rfl,RokI.h,PureI.h⟩
theorem mK (N:Nat) (a0:(List Int)) (r:(List Int)) (h:bY N a0=some r):Con Try.prog 56 [] true [.sl false none 1 none (a0.map (rowI .i64))] (.sl true none 1 none (r.map (rowI .i64))):=
 Con_nl (fun e=>by obtain rfl:a0=[]:=List.map_eq_nil_iff.1 e; exact pH N r h) (pR N a0 r h)
def lW (N:Nat):FnS:=⟨[],true,fn1 (decL 1 (dec1 (decI .i64))) fun q0=>(bY N q0).map fun r=>.sl false none 1 none (r.map (rowI .i64)),false⟩
attribute [go_sem] lW
theorem yy (N:Nat):FSOk Try.prog 56 (lW N):=ok1 (fun q0 r h=>by
 obtain ⟨r',hr,rfl⟩:=Option.map_eq_some_iff.1 h;exact (mK N q0 r' hr).res (by (try simp only [go_sem]); exact RokI.h)) (fun h=>aF (dy .i64) h)

def gG (N:Nat):FnS:=⟨[],true,fn1 (decL 1 (dec1 (decI .i64))) fun q0=>(bY N q0).map fun r=>.sl true none 1 none (r.map (rowI .i64)),false⟩
attribute [go_sem] gG
theorem kB (N:Nat):FSOk Try.prog 56 (gG N):=ok1 (fun q0 r h=>by
 obtain ⟨r',hr,rfl⟩:=Option.map_eq_some_iff.1 h;exact mK N q0 r' hr) (fun h=>aF (dy .i64) h)


theorem oS (N:Nat) (a0:(List ByteArray)) (r:(List ByteArray)) (h:da N a0=some r):Con Try.prog 67 [] true [.sl false (some false) 1 none (a0.map rowS)] (.sl true none 1 none (r.map rowS)):=by
 refine aV (G:=(glist [])) Try.func67 rfl (by decide) (by kernel_rfl) gn [] mix (Nat.le_of_ble_eq_true rfl) ?_;simp only [Try.f67];unfold da at h;refine Ws fun Z hZ=>?_;simp only [go_sem,seval];refine hZ _ (pp (Wk_seq (Ws fun Z hZ=>?_)));simp only [go_sem,seval];refine hZ _ (pp (dB rfl ?_));first|rw [if_pos (rfl:true=true)] at h|rw [if_neg Bool.false_ne_true] at h|skip
 refine ak (pp (Wk_seq ?_));first|obtain ⟨ha1,h⟩:=qv h|(obtain ⟨ha1,h⟩:=qG h; rw [List.nil_append] at h)
 simp only [Nat.reduceAdd] at ha1;refine ae fun Z hZ=>?_;simp only [go_sem,seval,ha1];refine hZ _ (pp (Wk_ret (pp ?_)));cases h;simp only [go_sem,seval];exact ⟨_,rfl,RokI.h,PureI.h⟩
theorem oa (N:Nat)  (r:(List ByteArray)) (h:da N []=some r):Con Try.prog 67 [] true [.val (.slice none 0 0)] (.sl true none 1 none (r.map rowS)):=by
 refine aV (G:=(glist [])) Try.func67 rfl (by decide) (by kernel_rfl) gn [] mix (Nat.le_of_ble_eq_true rfl) ?_;simp only [Try.f67];unfold da at h;refine Ws fun Z hZ=>?_;simp only [go_sem,seval];refine hZ _ (pp (Wk_seq (Ws fun Z hZ=>?_)));simp only [go_sem,seval];refine hZ _ (pp (dG rfl ?_));first|rw [if_pos (rfl:true=true)] at h|rw [if_neg Bool.false_ne_true] at h|skip
 refine Ws fun Z hZ=>?_;simp only [go_sem,seval];refine hZ _ (pp (Wk_ret (pp ?_)));obtain rfl:r=[]:=by simpa [apn] using h.symm
 simp only [go_sem,seval];exact ⟨_,rfl,RokI.h,PureI.h⟩
theorem lq (N:Nat) (a0:(List ByteArray)) (r:(List ByteArray)) (h:da N a0=some r):Con Try.prog 67 [] true [.sl false none 1 none (a0.map rowS)] (.sl true none 1 none (r.map rowS)):=
 Con_nl (fun e=>by obtain rfl:a0=[]:=List.map_eq_nil_iff.1 e; exact oa N r h) (oS N a0 r h)
def kF (N:Nat):FnS:=⟨[],true,fn1 (decL 1 (dec1 decS)) fun q0=>(da N q0).map fun r=>.sl false none 1 none (r.map rowS),false⟩
attribute [go_sem] kF
theorem vO (N:Nat):FSOk Try.prog 67 (kF N):=ok1 (fun q0 r h=>by
 obtain ⟨r',hr,rfl⟩:=Option.map_eq_some_iff.1 h;exact (lq N q0 r' hr).res (by (try simp only [go_sem]); exact RokI.h)) (fun h=>aF jX h)

def im (N:Nat):FnS:=⟨[],true,fn1 (decL 1 (dec1 decS)) fun q0=>(da N q0).map fun r=>.sl true none 1 none (r.map rowS),false⟩
attribute [go_sem] im
theorem m3 (N:Nat):FSOk Try.prog 67 (im N):=ok1 (fun q0 r h=>by
 obtain ⟨r',hr,rfl⟩:=Option.map_eq_some_iff.1 h;exact lq N q0 r' hr) (fun h=>aF jX h)


noncomputable def mP (N d f:Nat):Option FnS:=glist [(7,56,gG N),(11,67,im N)] d f
attribute [go_sem] mP
theorem mC (N:Nat) (a0:Reply) (r:Reply) (h:dO N a0=some r):Con Try.prog 40 [] true [.agg (Reply.row a0)] (.agg [.val (.string r.Client_),.val (.int .i64 r.Seq),.sl false none 1 none (r.Path.map (rowI .i64)),.val (.int .i64 r.Err),.val (.int .i64 r.Value_.Kind),.val (.int .i64 r.Value_.N),.val (.string r.Value_.S),.sl true none 1 none (r.Value_.I.map (rowI .i64)),.sl true none 1 none (r.Value_.L.map rowS)]):=by
 refine aV (G:=(mP N)) Try.func40 rfl (by decide) (by kernel_rfl) (gc 7 (kB N) (gc 11 (m3 N) gn)) [] mix (Nat.le_of_ble_eq_true rfl) ?_;simp only [Try.f40];unfold dO at h;refine Ws fun Z hZ=>?_;simp only [go_sem,seval];refine hZ _ (pp (Ws fun Z hZ=>?_));simp only [go_sem,seval];refine hZ _ (pp (Wk_seq ?_));obtain ⟨r1,hr1,h⟩:=Option.bind_eq_some_iff.1 h;obtain ⟨r2,hr2,h⟩:=Option.bind_eq_some_iff.1 h;refine fv fun Z hZ=>?_;simp only [go_sem,seval,hr1,hr2];repeat with_reducible refine ek (by kernel_rfl) ?_
 refine hZ _ (by kernel_rfl) (pp (Ws fun Z hZ=>?_));simp only [go_sem,seval];refine hZ _ (pp (Wk_ret (pp ?_)));cases h;simp only [go_sem,seval];exact ⟨_,rfl,RokI.h,PureI.h⟩
def gZ (N:Nat):FnS:=⟨[],true,fn1 Reply.decA fun q0=>(dO N q0).map fun r=>.agg (Reply.row r),false⟩
attribute [go_sem] gZ
theorem kC (N:Nat):FSOk Try.prog 40 (gZ N):=ok1 (fun q0 r h=>by
 obtain ⟨r',hr,rfl⟩:=Option.map_eq_some_iff.1 h;exact (mC N q0 r' hr).res (by (try simp only [go_sem]); exact RokI.h)) (Reply.decA_le)

def jw (N:Nat):FnS:=⟨[],true,fn1 Reply.decA fun q0=>(dO N q0).map fun r=>.agg [.val (.string r.Client_),.val (.int .i64 r.Seq),.sl false none 1 none (r.Path.map (rowI .i64)),.val (.int .i64 r.Err),.val (.int .i64 r.Value_.Kind),.val (.int .i64 r.Value_.N),.val (.string r.Value_.S),.sl true none 1 none (r.Value_.I.map (rowI .i64)),.sl true none 1 none (r.Value_.L.map rowS)],false⟩
attribute [go_sem] jw
theorem oY (N:Nat):FSOk Try.prog 40 (jw N):=ok1 (fun q0 r h=>by
 obtain ⟨r',hr,rfl⟩:=Option.map_eq_some_iff.1 h;exact mC N q0 r' hr) (Reply.decA_le)


noncomputable def p9 (N d f:Nat):Option FnS:=glist [(15,22,fP N),(58,40,jw N)] d f
attribute [go_sem] p9
theorem pW (N:Nat) (a0:(List Client)) (a1:ByteArray) (a2:Int) (r:Int × Reply) (h:fZ N a0 a1 a2=some r):Con Try.prog 44 [] false [.sl false none 4 none (a0.map Client.row),.val (.string a1),.val (.int .i64 a2)] (.tup [.val (.int .i64 r.1),.agg [.val (.string r.2.Client_),.val (.int .i64 r.2.Seq),.sl false none 1 none (r.2.Path.map (rowI .i64)),.val (.int .i64 r.2.Err),.val (.int .i64 r.2.Value_.Kind),.val (.int .i64 r.2.Value_.N),.val (.string r.2.Value_.S),.sl true none 1 none (r.2.Value_.I.map (rowI .i64)),.sl true none 1 none (r.2.Value_.L.map rowS)]]):=by
 refine aV (G:=(p9 N)) Try.func44 rfl (by decide) (by kernel_rfl) (gc 15 (gC N) (gc 58 (oY N) gn)) [] mix (Nat.le_of_ble_eq_true rfl) ?_;simp only [Try.f44];unfold fZ at h;refine Ws fun Z hZ=>?_;simp only [go_sem,seval];refine hZ _ (pp (BB (Wk_seq (Wk_seq ?_))));obtain ⟨r1,hr1,h⟩:=Option.bind_eq_some_iff.1 h;refine ae fun Z hZ=>?_;simp only [go_sem,seval,hr1];refine hZ _ (pp (eS rfl (fun hc2=>?_) (fun hc2=>?_)))
 ·rw [if_neg (ne_true_of_eq_false hc2)] at h;refine Ws fun Z hZ=>?_;simp only [go_sem,seval,hc2];refine hZ _ (pp (Wk_ret (pp ?_)));cases h;simp only [go_sem,seval];exact ⟨_,rfl,RokI.h⟩
 rw [if_pos hc2] at h;refine ak (pp (Wk_seq (Be (pp (Wk_seq (Ws fun Z hZ=>?_))))));simp only [go_sem,seval,hc2];refine hZ _ (pp (aA (gp fun hreal4=>?_)));have hl3:=hreal4.lenT 0 (by decide) (by simp only [go_sem,seval]; rfl);first|rw [List.length_map] at hl3|rw [eD] at hl3|rw [<-List.map_append,List.length_map] at hl3
 refine gv (fun (v4:Nat) (b:Unit)=>⟨tab 62 (updT (updT (updT (updT (updT (updT deadT 1 (.val (.string a1))) 2 (.val (.int .i64 a2))) 7 (.pref 7 [] 0 0)) 18 (.sl false none 4 none (a0.map Client.row))) 19 (.val (.int .i64 ((a0.length:Nat):Int)))) 20 (.val (.int .i64 ((v4:Nat):Int)))),(upd RZ 7 (.sl true none 9 (some 1) [[.val (.string (⟨#[]⟩)),.val (.int .i64 0),.val (.slice none 0 0),.val (.int .i64 0),.val (.int .i64 0),.val (.int .i64 0),.val (.string (⟨#[]⟩)),.val (.slice none 0 0),.val (.slice none 0 0)]]))⟩) () h ?_ ?_
 ·refine wr ?_ ?_<;>repeat' first|rfl|constructor
 rintro v4 ⟨⟩ hi5 h -;rcases (eQ a0 v4 hi5).symm with ⟨hi5',_,hd8⟩|⟨x7,hi5',hx6,hd8⟩
 ·rw [hd8] at h;simp only [gf] at h;refine Ws fun Z hZ=>?_;simp only [go_sem,seval,hi5'];refine hZ _ (pp (Wk_seq ?_));try simp only [Int.ofNat_lt,hi5',if_true,if_false] at h
  refine dB rfl (dL (pp (Ws fun Z hZ=>?_)));simp only [go_sem,seval];refine hZ _ (pp (Wk_ret (pp ?_)));cases h;simp only [go_sem,seval];exact ⟨_,rfl,RokI.h⟩
 rw [hd8] at h;simp only [gf] at h;have hw7:=eI hi5' hl3;refine Ws fun Z hZ=>?_;simp only [go_sem,seval,hi5'];refine hZ _ (pp (Wk_seq ?_));try simp only [Int.ofNat_lt,hi5',if_true,if_false] at h
 refine dG rfl (ak (pp (Wk_seq (aA (Wk_seq ?_)))));try rw [gx_nat hx6] at h
 refine ae fun Z hZ=>?_;simp only [go_sem,seval,hx6,hi5'];refine hZ _ (pp (Wk_seq (Ws fun Z hZ=>?_)));simp only [go_sem,seval];refine hZ _ (pp (eS rfl (fun hc9=>?_) (fun hc9=>?_)))
 ·rw [if_neg (ne_true_of_eq_false hc9)] at h;refine dL (pp (ae fun Z hZ=>?_));simp only [go_sem,seval,hw7,hc9];refine hZ _ (pp ?_);first|refine ⟨(),?_,h⟩|refine ⟨hi5',(),?_,h⟩
  refine wr ?_ ?_<;>repeat' first|rfl|constructor
 rw [if_pos hc9] at h;refine ak (pp (Wk_seq (Ws fun Z hZ=>?_)));simp only [go_sem,seval,hc9];refine hZ _ (pp (bj rfl (fun hc10=>?_) (fun hc10=>?_)))
 ·have hc10d:=decide_eq_true hc10;rw [if_pos hc10] at h;refine Ws fun Z hZ=>?_;simp only [go_sem,seval,hc10d];refine hZ _ (pp (Wk_ret (pp ?_)));cases h;simp only [go_sem,seval];exact ⟨_,rfl,RokI.h⟩
 have hc10d:=decide_eq_false hc10;rw [if_neg hc10] at h;refine ak (pp (Wk_seq (Ws fun Z hZ=>?_)));simp only [go_sem,seval,hc10d];refine hZ _ (pp (aA (gp fun hreal12=>?_)));have hl11:=hreal12.lenT 34 (by decide) (by simp only [go_sem,seval]; rfl);first|rw [List.length_map] at hl11|rw [eD] at hl11|rw [<-List.map_append,List.length_map] at hl11
 refine gv (fun (v13:Nat) (b:Unit)=>⟨tab 62 (updT (updT (updT (updT (updT (updT deadT 2 (.val (.int .i64 a2))) 7 (.pref 7 [] 0 0)) 9 (.pref 9 [] 0 0)) 34 (.sl false none 1 none (x7.Open.map (rowI .i64)))) 35 (.val (.int .i64 ((x7.Open.length:Nat):Int)))) 36 (.val (.int .i64 ((v13:Nat):Int)))),(upd (upd RZ 7 (.sl true none 9 (some 1) [[.val (.string (⟨#[]⟩)),.val (.int .i64 0),.val (.slice none 0 0),.val (.int .i64 0),.val (.int .i64 0),.val (.int .i64 0),.val (.string (⟨#[]⟩)),.val (.slice none 0 0),.val (.slice none 0 0)]])) 9 (.sl true none 4 (some 1) [Client.row x7]))⟩) () h ?_ ?_
 ·refine wr ?_ ?_<;>repeat' first|rfl|constructor
 rintro v13 ⟨⟩ hi13 h -;rcases (eQ x7.Open v13 hi13) with ⟨x16,hi13',hx14,hd16⟩|⟨hi13',_,hd16⟩
 ·rw [hd16] at h;simp only [fu] at h;have hw15:=eI hi13' hl11;refine Ws fun Z hZ=>?_;simp only [go_sem,seval,hi13'];refine hZ _ (pp (Wk_seq ?_));try simp only [Int.ofNat_lt,hi5',hi13',if_true,if_false] at h
  refine dG rfl (ak (pp (Wk_seq (aA (Wk_seq ?_)))));try rw [gx_nat hx14] at h
  refine ae fun Z hZ=>?_;simp only [go_sem,seval,hx14,hi13'];refine hZ _ (pp (Ws fun Z hZ=>?_));simp only [go_sem,seval];refine hZ _ (pp (bj rfl (fun hc17=>?_) (fun hc17=>?_)))
  ·have hc17d:=decide_eq_true hc17;rw [if_pos hc17] at h;refine Ws fun Z hZ=>?_;simp only [go_sem,seval,hc17d];refine hZ _ (pp (Wk_ret (pp ?_)));cases h;simp only [go_sem,seval];exact ⟨_,rfl,RokI.h⟩
  have hc17d:=decide_eq_false hc17;rw [if_neg hc17] at h;refine ak (pp (ae fun Z hZ=>?_));simp only [go_sem,seval,hw15,hc17d];refine hZ _ (pp ?_);first|refine ⟨(),?_,h⟩|refine ⟨hi13',(),?_,h⟩
  refine wr ?_ ?_<;>repeat' first|rfl|constructor
 rw [hd16] at h;simp only [fu] at h;refine Ws fun Z hZ=>?_;simp only [go_sem,seval,hi13'];refine hZ _ (pp (Wk_seq ?_));try simp only [Int.ofNat_lt,hi5',hi13',if_true,if_false] at h
 refine dB rfl (dL (pp ?_));unfold lF at h;refine Wk_seq (Ws fun Z hZ=>?_);simp only [go_sem,seval];refine hZ _ (pp (aA (gp fun hreal19=>?_)));have hl18:=hreal19.lenT 46 (by decide) (by simp only [go_sem,seval]; rfl);first|rw [List.length_map] at hl18|rw [eD] at hl18|rw [<-List.map_append,List.length_map] at hl18
 refine gv (fun (v20:Nat) (b:Unit)=>⟨tab 62 (updT (updT (updT (updT (updT deadT 2 (.val (.int .i64 a2))) 7 (.pref 7 [] 0 0)) 46 (.sl false none 10 none (x7.Done.map Answer.row))) 47 (.val (.int .i64 ((x7.Done.length:Nat):Int)))) 48 (.val (.int .i64 ((v20:Nat):Int)))),(upd RZ 7 (.sl true none 9 (some 1) [[.val (.string (⟨#[]⟩)),.val (.int .i64 0),.val (.slice none 0 0),.val (.int .i64 0),.val (.int .i64 0),.val (.int .i64 0),.val (.string (⟨#[]⟩)),.val (.slice none 0 0),.val (.slice none 0 0)]]))⟩) () h ?_ ?_
 ·refine wr ?_ ?_<;>repeat' first|rfl|constructor
 rintro v20 ⟨⟩ hi20 h -;rcases (eQ x7.Done v20 hi20).symm with ⟨hi20',_,hd23⟩|⟨x23,hi20',hx21,hd23⟩
 ·rw [hd23] at h;simp only [gg] at h;refine Ws fun Z hZ=>?_;simp only [go_sem,seval,hi20'];refine hZ _ (pp (Wk_seq ?_));try simp only [Int.ofNat_lt,hi5',hi13',hi20',if_true,if_false] at h
  refine dB rfl (dL (pp ?_));unfold lH at h;refine dL (pp (Ws fun Z hZ=>?_));simp only [go_sem,seval];refine hZ _ (pp (Wk_ret (pp ?_)));cases h;simp only [go_sem,seval];exact ⟨_,rfl,RokI.h⟩
 rw [hd23] at h;simp only [gg] at h;have hw22:=eI hi20' hl18;refine Ws fun Z hZ=>?_;simp only [go_sem,seval,hi20'];refine hZ _ (pp (Wk_seq ?_));try simp only [Int.ofNat_lt,hi5',hi13',hi20',if_true,if_false] at h
 refine dG rfl (ak (pp (Wk_seq (aA (Wk_seq ?_)))));try rw [gx_nat hx21] at h
 refine ae fun Z hZ=>?_;simp only [go_sem,seval,hx21,hi20'];refine hZ _ (pp (Ws fun Z hZ=>?_));simp only [go_sem,seval];refine hZ _ (pp (bj rfl (fun hc24=>?_) (fun hc24=>?_)))
 ·have hc24d:=decide_eq_true hc24;rw [if_pos hc24] at h;refine Wk_seq ?_;obtain ⟨r15,hr25,h⟩:=Option.bind_eq_some_iff.1 h;refine ae fun Z hZ=>?_;simp only [go_sem,seval,hc24d,hr25];refine hZ _ (pp (Wk_ret (pp ?_)));cases h;simp only [go_sem,seval];exact ⟨_,rfl,RokI.h⟩
 have hc24d:=decide_eq_false hc24;rw [if_neg hc24] at h;refine ak (pp (ae fun Z hZ=>?_));simp only [go_sem,seval,hw22,hc24d];refine hZ _ (pp ?_);first|refine ⟨(),?_,h⟩|refine ⟨hi20',(),?_,h⟩
 refine wr ?_ ?_<;>repeat' first|rfl|constructor
def jQ (N:Nat):FnS:=⟨[],false,fn3 (decL 4 Client.dec) decS (decI .i64) fun q0 q1 q2=>(fZ N q0 q1 q2).map fun r=>.tup [.val (.int .i64 r.1),.agg (Reply.row r.2)],false⟩
attribute [go_sem] jQ
theorem mR (N:Nat):FSOk Try.prog 44 (jQ N):=ok3 (fun q0 q1 q2 r h=>by
 obtain ⟨r',hr,rfl⟩:=Option.map_eq_some_iff.1 h;exact (pW N q0 q1 q2 r' hr).res (by (try simp only [go_sem]); exact RokI.h)) (fun h=>aF Client.dec_le h) (bw) (aj)

def oQ (N:Nat):FnS:=⟨[],false,fn3 (decL 4 Client.dec) decS (decI .i64) fun q0 q1 q2=>(fZ N q0 q1 q2).map fun r=>.tup [.val (.int .i64 r.1),.agg [.val (.string r.2.Client_),.val (.int .i64 r.2.Seq),.sl false none 1 none (r.2.Path.map (rowI .i64)),.val (.int .i64 r.2.Err),.val (.int .i64 r.2.Value_.Kind),.val (.int .i64 r.2.Value_.N),.val (.string r.2.Value_.S),.sl true none 1 none (r.2.Value_.I.map (rowI .i64)),.sl true none 1 none (r.2.Value_.L.map rowS)]],false⟩
attribute [go_sem] oQ
theorem z5 (N:Nat):FSOk Try.prog 44 (oQ N):=ok3 (fun q0 q1 q2 r h=>by
 obtain ⟨r',hr,rfl⟩:=Option.map_eq_some_iff.1 h;exact pW N q0 q1 q2 r' hr) (fun h=>aF Client.dec_le h) (bw) (aj)


noncomputable def qm (N d f:Nat):Option FnS:=glist [(13,44,jQ N)] d f
attribute [go_sem] qm
theorem uH (N:Nat) (a0:(List Client)) (a1:ByteArray) (a2:Int) (r:Int) (h:dS N a0 a1 a2=some r):Con Try.prog 20 [] true [.sl false none 4 none (a0.map Client.row),.val (.string a1),.val (.int .i64 a2)] (.val (.int .i64 r)):=by
 refine aV (G:=(qm N)) Try.func20 rfl (by decide) (by kernel_rfl) (gc 13 (mR N) gn) [] mix (Nat.le_of_ble_eq_true rfl) ?_;simp only [Try.f20];unfold dS at h;refine Ws fun Z hZ=>?_;simp only [go_sem,seval];refine hZ _ (pp (Wk_seq ?_));obtain ⟨r1,hr1,h⟩:=Option.bind_eq_some_iff.1 h;refine ae fun Z hZ=>?_;simp only [go_sem,seval,hr1];refine hZ _ (pp (Ws fun Z hZ=>?_));simp only [go_sem,seval];refine hZ _ (pp (Wk_ret (pp ?_)));cases h;simp only [go_sem,seval];exact ⟨_,rfl,RokI.h,PureI.h⟩
def ei (N:Nat):FnS:=⟨[],true,fn3 (decL 4 Client.dec) decS (decI .i64) fun q0 q1 q2=>(dS N q0 q1 q2).map fun r=>.val (.int .i64 r),false⟩
attribute [go_sem] ei
theorem en (N:Nat):FSOk Try.prog 20 (ei N):=ok3 (fun q0 q1 q2 r h=>by
 obtain ⟨r',hr,rfl⟩:=Option.map_eq_some_iff.1 h;exact uH N q0 q1 q2 r' hr) (fun h=>aF Client.dec_le h) (bw) (aj)


theorem tU (N:Nat) (a0:Client) (a1:ByteArray) (r:Int) (h:gW N a0 a1=some r):Con Try.prog 54 [] true [.agg (Client.row a0),.val (.string a1)] (.val (.int .i64 r)):=by
 refine aV (G:=(glist [])) Try.func54 rfl (by decide) (by kernel_rfl) gn [] mix (Nat.le_of_ble_eq_true rfl) ?_;simp only [Try.f54];unfold gW at h;refine Ws fun Z hZ=>?_;simp only [go_sem,seval];refine hZ _ (pp (Wk_seq (aA (Ws fun Z hZ=>?_))));simp only [go_sem,seval];refine hZ _ (pp (aH rfl (fun hc1=>?_) (fun hc1=>?_)))
 ·first|rw [if_pos hc1] at h|simp only [hc1,Bool.or_false,Bool.or_true,Bool.false_or,Bool.true_or,Bool.and_true,Bool.true_and,Bool.and_false,Bool.false_and,Bool.not_true,Bool.not_false,Bool.false_eq_true,if_true,if_false] at h
  refine Ws fun Z hZ=>?_;simp only [go_sem,seval,hc1];refine hZ _ (pp (Wk_ret (pp ?_)));cases h;simp only [go_sem,seval];exact ⟨_,rfl,RokI.h,PureI.h⟩
 first|rw [if_neg (ne_true_of_eq_false hc1)] at h|simp only [hc1,Bool.or_false,Bool.or_true,Bool.false_or,Bool.true_or,Bool.and_true,Bool.true_and,Bool.and_false,Bool.false_and,Bool.not_true,Bool.not_false,Bool.false_eq_true,if_true,if_false] at h
 refine Ws fun Z hZ=>?_;simp only [go_sem,seval,hc1];refine hZ _ (pp (eS rfl (fun hc2=>?_) (fun hc2=>?_)))
 ·first|rw [if_neg (ne_true_of_eq_false hc2)] at h|simp only [hc2,hc1,Bool.or_false,Bool.false_eq_true,if_false] at h
  refine Ws fun Z hZ=>?_;simp only [go_sem,seval,hc2];refine hZ _ (pp (Wk_ret (pp ?_)));cases h;simp only [go_sem,seval];exact ⟨_,rfl,RokI.h,PureI.h⟩
 first|rw [if_pos hc2] at h|simp only [hc2,hc1,Bool.or_true,if_true] at h
 refine ak (pp (Ws fun Z hZ=>?_));simp only [go_sem,seval,hc2];refine hZ _ (pp (Wk_ret (pp ?_)));cases h;simp only [go_sem,seval];exact ⟨_,rfl,RokI.h,PureI.h⟩
def jN (N:Nat):FnS:=⟨[],true,fn2 Client.decA decS fun q0 q1=>(gW N q0 q1).map fun r=>.val (.int .i64 r),false⟩
attribute [go_sem] jN
theorem mD (N:Nat):FSOk Try.prog 54 (jN N):=ok2 (fun q0 q1 r h=>by
 obtain ⟨r',hr,rfl⟩:=Option.map_eq_some_iff.1 h;exact tU N q0 q1 r' hr) (Client.decA_le) (bw)


noncomputable def eK (N d f:Nat):Option FnS:=glist [(30,54,jN N),(46,54,jN N)] d f
attribute [go_sem] eK
theorem iH (N:Nat) (a0:(List Client)) (a1:ByteArray) (r:Int × Bool) (h:aZ N a0 a1=some r):Con Try.prog 53 [] true [.sl false none 4 none (a0.map Client.row),.val (.string a1),.clo 54 []] (.tup [.val (.int .i64 r.1),.val (.bool r.2)]):=by
 refine aV (G:=(eK N)) Try.func53 rfl (by decide) (by kernel_rfl) (gc 30 (mD N) (gc 46 (mD N) gn)) [] mix (Nat.le_of_ble_eq_true rfl) ?_;simp only [Try.f53];unfold aZ at h;refine Ws fun Z hZ=>?_;simp only [go_sem,seval];refine hZ _ (pp (Ws fun Z hZ=>?_));simp only [go_sem,seval];refine hZ _ (pp (Ws fun Z hZ=>?_));simp only [go_sem,seval];refine hZ _ (pp (Wk_seq (aA (qa (fun (b:Int × Int)=>⟨tab 49 (updT (updT (updT (updT (updT (updT deadT 0 (.sl false none 4 none (a0.map Client.row))) 1 (.val (.string a1))) 2 (.clo 54 [])) 8 (.val (.int .i64 ((a0.length:Nat):Int)))) 9 (.val (.int .i64 b.1))) 10 (.val (.int .i64 b.2))),RZ⟩) (0,((a0.length:Nat):Int)) h ?_ ?_))))
 ·refine wr ?_ ?_<;>repeat' first|rfl|constructor
 rintro n ⟨v2,v3⟩ h -;cases n with
 | zero=>simp [aB] at h
 | succ n=>
 simp only [aB] at h;refine Wk_seq (Ws fun Z hZ=>?_);simp only [go_sem,seval];refine hZ _ (pp (sw (bj rfl) (fun hc1=>?_) (fun hc1=>?_)))
 ·have hc1d:=decide_eq_false hc1;rw [if_neg hc1] at h;refine dL (pp ?_);unfold bA at h;refine Ws fun Z hZ=>?_;simp only [go_sem,seval,hc1d];refine ar rfl (fun hc6=>?_) (fun hc6=>?_)
  ·have hc6d:=decide_eq_true hc6;rw [if_pos hc6] at h;obtain ⟨x11,hb7,hx8,h⟩:=eA h;obtain ⟨r12,hr9,h⟩:=Option.bind_eq_some_iff.1 h;simp only [go_sem,seval,hb7,hx8,hr9];refine hZ _ (pp (Wk_ret (pp ?_)));cases h;simp only [go_sem,seval];exact ⟨_,rfl,RokI.h,PureI.h⟩
  have hc6d:=decide_eq_false hc6;rw [if_neg hc6] at h;simp only [go_sem,seval,hc6d];refine hZ _ (pp (Wk_ret (pp ?_)));cases h;simp only [go_sem,seval];exact ⟨_,rfl,RokI.h,PureI.h⟩
 have hc1d:=decide_eq_true hc1;rw [if_pos hc1] at h;refine ak (pp (aA (Ws fun Z hZ=>?_)));simp only [go_sem,seval,hc1d];refine hZ _ (pp (Wk_seq ?_));obtain ⟨x9,hb2,hx3,h⟩:=eA h;obtain ⟨r10,hr4,h⟩:=Option.bind_eq_some_iff.1 h;refine ae fun Z hZ=>?_;simp only [go_sem,seval,hb2,hx3,hr4];refine hZ _ (pp (bj rfl (fun hc5=>?_) (fun hc5=>?_)))
 ·have hc5d:=decide_eq_true hc5;rw [if_pos hc5] at h;refine ae fun Z hZ=>?_;simp only [go_sem,seval,hc5d];refine hZ _ (pp (⟨_,Nat.lt_succ_self _,(IntKind.i64.wrap ((IntKind.i64.wrap (shrI .u64 (IntKind.u64.wrap (IntKind.i64.wrap (v2+v3))) 1))+1),v3),?_,h⟩));refine wr ?_ ?_<;>repeat' first|rfl|constructor
 have hc5d:=decide_eq_false hc5;rw [if_neg hc5] at h;refine ae fun Z hZ=>?_;simp only [go_sem,seval,hc5d];refine hZ _ (pp (⟨_,Nat.lt_succ_self _,(v2,IntKind.i64.wrap (shrI .u64 (IntKind.u64.wrap (IntKind.i64.wrap (v2+v3))) 1)),?_,h⟩));refine wr ?_ ?_<;>repeat' first|rfl|constructor
def bz (N:Nat):FnS:={ own:=[],pure:=true,fn:=fun cs=>match cs with
 | [c0,c1,.clo 54 []]=>((decL 4 Client.dec) c0).bind fun qc0=>(decS c1).bind fun qc1=>(aZ N qc0 qc1).map fun r=>.tup [.val (.int .i64 r.1),.val (.bool r.2)]
 | _=>none }
attribute [go_sem] bz
theorem gS (N:Nat):FSOk Try.prog 53 (bz N):=by
 refine ⟨fun cs r h=>?_,fun h=>by cases h⟩;simp only [bz] at h;split at h
 ·simp only [Option.bind_eq_some_iff,Option.map_eq_some_iff] at h;obtain ⟨q0,h0,q1,h1,r',hr,rfl⟩:=h;exact ((iH N q0 q1 r' hr).args (LeL.cons (aF Client.dec_le h0) (LeL.cons (bw h1) (LeL.cons (Le.clo (LeL.nil)) (LeL.nil)))))
 ·cases h


noncomputable def rB (N d f:Nat):Option FnS:=glist [(8,53,bz N)] d f
attribute [go_sem] rB
theorem wW (N:Nat) (a0:(List Client)) (a1:ByteArray) (r:Int × Bool) (h:iO N a0 a1=some r):Con Try.prog 28 [] true [.sl false none 4 none (a0.map Client.row),.val (.string a1)] (.tup [.val (.int .i64 r.1),.val (.bool r.2)]):=by
 refine aV (G:=(rB N)) Try.func28 rfl (by decide) (by kernel_rfl) (gc 8 (gS N) gn) [] mix (Nat.le_of_ble_eq_true rfl) ?_;simp only [Try.f28];unfold iO at h;refine Ws fun Z hZ=>?_;simp only [go_sem,seval];refine hZ _ (pp (Wk_seq ?_));obtain ⟨r1,hr1,h⟩:=Option.bind_eq_some_iff.1 h;refine ae fun Z hZ=>?_;simp only [go_sem,seval,hr1];refine hZ _ (pp (Wk_ret (pp ?_)));cases h;simp only [go_sem,seval];exact ⟨_,rfl,RokI.h,PureI.h⟩
def jB (N:Nat):FnS:=⟨[],true,fn2 (decL 4 Client.dec) decS fun q0 q1=>(iO N q0 q1).map fun r=>.tup [.val (.int .i64 r.1),.val (.bool r.2)],false⟩
attribute [go_sem] jB
theorem kQ (N:Nat):FSOk Try.prog 28 (jB N):=ok2 (fun q0 q1 r h=>by
 obtain ⟨r',hr,rfl⟩:=Option.map_eq_some_iff.1 h;exact wW N q0 q1 r' hr) (fun h=>aF Client.dec_le h) (bw)


theorem oP (N:Nat) (a0:(List Client)) (r:(List Client)) (h:db N a0=some r):Con Try.prog 55 [] false [.sl false (some false) 4 none (a0.map Client.row)] (.sl true none 4 none (r.map Client.row)):=by
 refine aV (G:=(glist [])) Try.func55 rfl (by decide) (by kernel_rfl) gn [] mix (Nat.le_of_ble_eq_true rfl) ?_;simp only [Try.f55];unfold db at h;refine Ws fun Z hZ=>?_;simp only [go_sem,seval];refine hZ _ (pp (Wk_seq (Ws fun Z hZ=>?_)));simp only [go_sem,seval];refine hZ _ (pp (dB rfl ?_));first|rw [if_pos (rfl:true=true)] at h|rw [if_neg Bool.false_ne_true] at h|skip
 refine ak (pp (Wk_seq ?_));first|obtain ⟨ha1,h⟩:=qv h|(obtain ⟨ha1,h⟩:=qG h; rw [List.nil_append] at h)
 simp only [Nat.reduceAdd] at ha1;refine ae fun Z hZ=>?_;simp only [go_sem,seval,ha1];refine hZ _ (pp (Wk_ret (pp ?_)));cases h;simp only [go_sem,seval];exact ⟨_,rfl,RokI.h⟩
theorem m8 (N:Nat)  (r:(List Client)) (h:db N []=some r):Con Try.prog 55 [] false [.val (.slice none 0 0)] (.sl true none 4 none (r.map Client.row)):=by
 refine aV (G:=(glist [])) Try.func55 rfl (by decide) (by kernel_rfl) gn [] mix (Nat.le_of_ble_eq_true rfl) ?_;simp only [Try.f55];unfold db at h;refine Ws fun Z hZ=>?_;simp only [go_sem,seval];refine hZ _ (pp (Wk_seq (Ws fun Z hZ=>?_)));simp only [go_sem,seval];refine hZ _ (pp (dG rfl ?_));first|rw [if_pos (rfl:true=true)] at h|rw [if_neg Bool.false_ne_true] at h|skip
 refine Ws fun Z hZ=>?_;simp only [go_sem,seval];refine hZ _ (pp (Wk_ret (pp ?_)));obtain rfl:r=[]:=by simpa [apn] using h.symm
 simp only [go_sem,seval];exact ⟨_,rfl,RokI.h⟩
theorem kZ (N:Nat) (a0:(List Client)) (r:(List Client)) (h:db N a0=some r):Con Try.prog 55 [] false [.sl false none 4 none (a0.map Client.row)] (.sl true none 4 none (r.map Client.row)):=
 Con_nl (fun e=>by obtain rfl:a0=[]:=List.map_eq_nil_iff.1 e; exact m8 N r h) (oP N a0 r h)
def kI (N:Nat):FnS:=⟨[],false,fn1 (decL 4 Client.dec) fun q0=>(db N q0).map fun r=>.sl false none 4 none (r.map Client.row),false⟩
attribute [go_sem] kI
theorem vP (N:Nat):FSOk Try.prog 55 (kI N):=ok1 (fun q0 r h=>by
 obtain ⟨r',hr,rfl⟩:=Option.map_eq_some_iff.1 h;exact (kZ N q0 r' hr).res (by (try simp only [go_sem]); exact RokI.h)) (fun h=>aF Client.dec_le h)

def ij (N:Nat):FnS:=⟨[],false,fn1 (decL 4 Client.dec) fun q0=>(db N q0).map fun r=>.sl true none 4 none (r.map Client.row),false⟩
attribute [go_sem] ij
theorem mS (N:Nat):FSOk Try.prog 55 (ij N):=ok1 (fun q0 r h=>by
 obtain ⟨r',hr,rfl⟩:=Option.map_eq_some_iff.1 h;exact kZ N q0 r' hr) (fun h=>aF Client.dec_le h)


theorem oF (N:Nat) (a0:(List Answer)) (r:(List Answer)) (h:dc N a0=some r):Con Try.prog 57 [] false [.sl false (some false) 10 none (a0.map Answer.row)] (.sl true none 10 none (r.map Answer.row)):=by
 refine aV (G:=(glist [])) Try.func57 rfl (by decide) (by kernel_rfl) gn [] mix (Nat.le_of_ble_eq_true rfl) ?_;simp only [Try.f57];unfold dc at h;refine Ws fun Z hZ=>?_;simp only [go_sem,seval];refine hZ _ (pp (Wk_seq (Ws fun Z hZ=>?_)));simp only [go_sem,seval];refine hZ _ (pp (dB rfl ?_));first|rw [if_pos (rfl:true=true)] at h|rw [if_neg Bool.false_ne_true] at h|skip
 refine ak (pp (Wk_seq ?_));first|obtain ⟨ha1,h⟩:=qv h|(obtain ⟨ha1,h⟩:=qG h; rw [List.nil_append] at h)
 simp only [Nat.reduceAdd] at ha1;refine ae fun Z hZ=>?_;simp only [go_sem,seval,ha1];refine hZ _ (pp (Wk_ret (pp ?_)));cases h;simp only [go_sem,seval];exact ⟨_,rfl,RokI.h⟩
theorem m9 (N:Nat)  (r:(List Answer)) (h:dc N []=some r):Con Try.prog 57 [] false [.val (.slice none 0 0)] (.sl true none 10 none (r.map Answer.row)):=by
 refine aV (G:=(glist [])) Try.func57 rfl (by decide) (by kernel_rfl) gn [] mix (Nat.le_of_ble_eq_true rfl) ?_;simp only [Try.f57];unfold dc at h;refine Ws fun Z hZ=>?_;simp only [go_sem,seval];refine hZ _ (pp (Wk_seq (Ws fun Z hZ=>?_)));simp only [go_sem,seval];refine hZ _ (pp (dG rfl ?_));first|rw [if_pos (rfl:true=true)] at h|rw [if_neg Bool.false_ne_true] at h|skip
 refine Ws fun Z hZ=>?_;simp only [go_sem,seval];refine hZ _ (pp (Wk_ret (pp ?_)));obtain rfl:r=[]:=by simpa [apn] using h.symm
 simp only [go_sem,seval];exact ⟨_,rfl,RokI.h⟩
theorem lj (N:Nat) (a0:(List Answer)) (r:(List Answer)) (h:dc N a0=some r):Con Try.prog 57 [] false [.sl false none 10 none (a0.map Answer.row)] (.sl true none 10 none (r.map Answer.row)):=
 Con_nl (fun e=>by obtain rfl:a0=[]:=List.map_eq_nil_iff.1 e; exact m9 N r h) (oF N a0 r h)
def kH (N:Nat):FnS:=⟨[],false,fn1 (decL 10 Answer.dec) fun q0=>(dc N q0).map fun r=>.sl false none 10 none (r.map Answer.row),false⟩
attribute [go_sem] kH
theorem vN (N:Nat):FSOk Try.prog 57 (kH N):=ok1 (fun q0 r h=>by
 obtain ⟨r',hr,rfl⟩:=Option.map_eq_some_iff.1 h;exact (lj N q0 r' hr).res (by (try simp only [go_sem]); exact RokI.h)) (fun h=>aF Answer.dec_le h)

def il (N:Nat):FnS:=⟨[],false,fn1 (decL 10 Answer.dec) fun q0=>(dc N q0).map fun r=>.sl true none 10 none (r.map Answer.row),false⟩
attribute [go_sem] il
theorem mU (N:Nat):FSOk Try.prog 57 (il N):=ok1 (fun q0 r h=>by
 obtain ⟨r',hr,rfl⟩:=Option.map_eq_some_iff.1 h;exact lj N q0 r' hr) (fun h=>aF Answer.dec_le h)


noncomputable def rl (N d f:Nat):Option FnS:=glist [(7,55,ij N),(22,56,gG N),(28,57,il N),(57,40,gZ N)] d f
attribute [go_sem] rl
theorem mX (N:Nat) (a0:(List Client)) (r:(List Client)) (h:fj N a0=some r):Con Try.prog 29 [] false [.sl false none 4 none (a0.map Client.row)] (.sl true none 4 none (r.map Client.rowD)):=by
 refine aV (G:=(rl N)) Try.func29 rfl (by decide) (by kernel_rfl) (gc 7 (mS N) (gc 22 (kB N) (gc 28 (mU N) (gc 57 (kC N) gn)))) [] mix (Nat.le_of_ble_eq_true rfl) ?_;simp only [Try.f29];unfold fj at h;refine Ws fun Z hZ=>?_;simp only [go_sem,seval];refine hZ _ (pp (Wk_seq ?_));obtain ⟨r1,hr1,h⟩:=Option.bind_eq_some_iff.1 h;refine ae fun Z hZ=>?_;simp only [go_sem,seval,hr1];refine hZ _ (pp (Wk_seq (Ws fun Z hZ=>?_)));simp only [go_sem,seval];refine hZ _ (pp (aA (gp fun hreal3=>?_)));have hl2:=hreal3.lenX 7 (by simp only [go_sem,seval]; rfl);first|rw [List.length_map] at hl2|rw [eD] at hl2|rw [<-List.map_append,List.length_map] at hl2
 refine wM (fun (v4:Nat) (b:List Client)=>⟨tab 63 (updT (updT (updT deadT 3 (.pal 7 [] 0 b.length none)) 9 (.val (.int .i64 ((r1.length:Nat):Int)))) 10 (.val (.int .i64 ((v4:Nat):Int)))),(upd RZ 7 (.sl true none 4 none (mxR Client.rowD Client.row v4 b)))⟩) r1 h ?_ ?_
 ·refine wr ?_ ?_<;>repeat' first|rfl|constructor|simp only [go_sem,seval,Bool.or_self,List.length_set,Int.natCast_zero,Int.cast_ofNat_Int,hr1]
 rintro v4 l3 _ h -;rcases (sM r1.length v4).symm with ⟨hi4',hd7⟩|⟨hi4',hd7⟩
 ·rw [hd7] at h;simp only [fO] at h;obtain ⟨hg25,h⟩:=Az h;refine Ws fun Z hZ=>?_;simp only [go_sem,seval,hi4',Db hg25];refine hZ _ (pp (Wk_seq ?_));try simp only [Int.ofNat_lt,hi4',if_true,if_false] at h
  refine dB rfl (dL (pp (Ws fun Z hZ=>?_)));simp only [go_sem,seval];refine hZ _ (pp (Wk_ret (pp ?_)));cases h;simp only [go_sem,seval];exact ⟨_,rfl,RokI.h⟩
 rw [hd7] at h;simp only [fO] at h;have hw6:=eI hi4' hl2;refine Ws fun Z hZ=>?_;simp only [go_sem,seval,hi4'];refine hZ _ (pp (Wk_seq ?_));try simp only [Int.ofNat_lt,hi4',if_true,if_false] at h
 refine dG rfl (ak (pp (Wk_seq (aA (Ws fun Z hZ=>?_)))));simp only [go_sem,seval];refine hZ _ (pp (Wk_seq ?_));obtain ⟨x2,hb8,hx9,h⟩:=eA h;try simp only [Int.toNat_natCast] at hx9
 try simp only [Int.ofNat_lt,Int.natCast_nonneg,true_and] at hb8
 obtain ⟨r3,hr10,h⟩:=Option.bind_eq_some_iff.1 h;obtain ⟨r4,hr11,h⟩:=Option.bind_eq_some_iff.1 h;refine fv fun Z hZ=>?_;simp only [go_sem,seval,hb8,sp (f:=Client.rowD) (g:=Client.row) hx9,hr10,hr11,mix_of (f:=Client.rowD) (g:=Client.row) (rx:=[.val (.string x2.Name),.val (.int .i64 x2.Low),.sl false none 1 none (x2.Open.map (rowI .i64)),.sl false none 10 none (x2.Done.map Answer.row)]) hx9 rfl rfl,mg (f:=Client.rowD) (g:=Client.row) _ hx9,sH (f:=Client.rowD) (g:=Client.row) hx9 rfl];repeat with_reducible refine ek (by kernel_rfl) ?_
 refine hZ _ (by kernel_rfl) (pp (Ws fun Z hZ=>?_));simp only [go_sem,seval,hb8,mg (f:=Client.rowD) (g:=Client.row) _ hx9];refine hZ _ (pp (aA (gp fun hreal13=>?_)));have hl12:=hreal13.lenAt 7 [(v4,3)] (by simp only [go_sem,seval,mg (f:=Client.rowD) (g:=Client.row) _ hx9]; rfl);first|rw [List.length_map] at hl12|rw [eD] at hl12|rw [<-List.map_append,List.length_map] at hl12
 refine wM (fun (v13:Nat) (b:List Answer)=>⟨tab 63 (updT (updT (updT (updT (updT (updT deadT 3 (.pal 7 [] 0 l3.length none)) 4 (.val (.int .i64 ((v4:Nat):Int)))) 9 (.val (.int .i64 ((r1.length:Nat):Int)))) 10 (.val (.int .i64 ((v4:Nat):Int)))) 38 (.val (.int .i64 ((r4.length:Nat):Int)))) 39 (.val (.int .i64 ((v13:Nat):Int)))),(upd RZ 7 (.sl true none 4 none ((mxR Client.rowD Client.row v4 l3).set v4 [.val (.string x2.Name),.val (.int .i64 x2.Low),.sl true none 1 none (r3.map (rowI .i64)),.sl true none 10 none (b.map Answer.row)])))⟩) r4 h ?_ ?_
 ·refine wr ?_ ?_<;>repeat' first|rfl|constructor|simp only [go_sem,seval,Bool.or_self,List.length_set,Int.natCast_zero,Int.cast_ofNat_Int,hr1,hi4',hw6,hb8,hx9,sp (f:=Client.rowD) (g:=Client.row) hx9,eD,hr10,hr11,mix_of (f:=Client.rowD) (g:=Client.row) (rx:=[.val (.string x2.Name),.val (.int .i64 x2.Low),.sl false none 1 none (x2.Open.map (rowI .i64)),.sl false none 10 none (x2.Done.map Answer.row)]) hx9 rfl rfl,mg (f:=Client.rowD) (g:=Client.row) _ hx9,sH (f:=Client.rowD) (g:=Client.row) hx9 rfl]
 rintro v13 l12 _ h -;rcases (sM r4.length v13).symm with ⟨hi14',hd17⟩|⟨hi14',hd17⟩
 ·rw [hd17] at h;simp only [fK] at h;refine Ws fun Z hZ=>?_;simp only [go_sem,seval,hi14'];refine hZ _ (pp (Wk_seq ?_));try simp only [Int.ofNat_lt,hi4',hi14',if_true,if_false] at h
  refine dB rfl (dL (pp (ae fun Z hZ=>?_)));simp only [go_sem,seval,hw6];refine hZ _ (pp ?_);first|refine ⟨(l3.set v4 (Client.mk x2.Name x2.Low r3 l12)),?_,h⟩|refine ⟨hi4',(l3.set v4 (Client.mk x2.Name x2.Low r3 l12)),?_,h⟩
  refine Weak.trans (zk (n:=7) (Client.mk x2.Name x2.Low r3 l12) hx9 (by simp only [go_sem,seval]; rfl) rfl rfl) ?_;refine wr ?_ ?_<;>repeat' first|rfl|constructor|simp only [go_sem,seval,List.length_set]
 rw [hd17] at h;simp only [fK] at h;have hw16:=eI hi14' hl12;refine Ws fun Z hZ=>?_;simp only [go_sem,seval,hi14'];refine hZ _ (pp (Wk_seq ?_));try simp only [Int.ofNat_lt,hi4',hi14',if_true,if_false] at h
 refine dG rfl (ak (pp (Wk_seq (aA (Ws fun Z hZ=>?_)))));simp only [go_sem,seval];refine hZ _ (pp ?_);obtain ⟨x5,hb18,hx19,h⟩:=eA h;try simp only [Int.toNat_natCast] at hx19
 try simp only [Int.ofNat_lt,Int.natCast_nonneg,true_and] at hb18
 obtain rfl:=vQ hx9 hx19;obtain ⟨x6,hb20,hx21,h⟩:=eA h;try simp only [Int.toNat_natCast] at hx21
 try simp only [Int.ofNat_lt,Int.natCast_nonneg,true_and] at hb20
 obtain ⟨r7,hr22,h⟩:=Option.bind_eq_some_iff.1 h;have hx24:=uk (y:=(Answer.mk x6.Seq r7)) hx21;refine fv fun Z hZ=>?_;simp only [go_sem,seval,hb8,mg (f:=Client.rowD) (g:=Client.row) _ hx9,sH (f:=Client.rowD) (g:=Client.row) hx9 rfl,hb20,hx21,hr22,mv (row:=Answer.row) (y:=(Answer.mk x6.Seq r7)) (rx:=[.val (.int .i64 x6.Seq),.val (.string x6.Reply_.Client_),.val (.int .i64 x6.Reply_.Seq),.sl false none 1 none (x6.Reply_.Path.map (rowI .i64)),.val (.int .i64 x6.Reply_.Err),.val (.int .i64 x6.Reply_.Value_.Kind),.val (.int .i64 x6.Reply_.Value_.N),.val (.string x6.Reply_.Value_.S),.sl false none 1 none (x6.Reply_.Value_.I.map (rowI .i64)),.sl false none 1 none (x6.Reply_.Value_.L.map rowS)]) (ry:=[.val (.int .i64 x6.Seq),.val (.string r7.Client_),.val (.int .i64 r7.Seq),.sl false none 1 none (r7.Path.map (rowI .i64)),.val (.int .i64 r7.Err),.val (.int .i64 r7.Value_.Kind),.val (.int .i64 r7.Value_.N),.val (.string r7.Value_.S),.sl false none 1 none (r7.Value_.I.map (rowI .i64)),.sl false none 1 none (r7.Value_.L.map rowS)]) hx21 rfl rfl];repeat with_reducible refine ek (by kernel_rfl) ?_
 refine hZ _ (by kernel_rfl) (pp (ae fun Z hZ=>?_));simp only [go_sem,seval,hw16];refine hZ _ (pp ?_);first|refine ⟨(l12.set v13 (Answer.mk x6.Seq r7)),?_,h⟩|refine ⟨hi14',(l12.set v13 (Answer.mk x6.Seq r7)),?_,h⟩
 refine wr ?_ ?_<;>repeat' first|rfl|constructor|simp only [go_sem,seval,Bool.or_self,List.length_set,Int.natCast_zero,Int.cast_ofNat_Int,hr1,hi4',hw6,hb8,hx9,sp (f:=Client.rowD) (g:=Client.row) hx9,eD,hr10,hr11,mix_of (f:=Client.rowD) (g:=Client.row) (rx:=[.val (.string x2.Name),.val (.int .i64 x2.Low),.sl false none 1 none (x2.Open.map (rowI .i64)),.sl false none 10 none (x2.Done.map Answer.row)]) hx9 rfl rfl,mg (f:=Client.rowD) (g:=Client.row) _ hx9,sH (f:=Client.rowD) (g:=Client.row) hx9 rfl,hi14',hw16,hb18,hb20,hx21,hr22,mv (row:=Answer.row) (y:=(Answer.mk x6.Seq r7)) (rx:=[.val (.int .i64 x6.Seq),.val (.string x6.Reply_.Client_),.val (.int .i64 x6.Reply_.Seq),.sl false none 1 none (x6.Reply_.Path.map (rowI .i64)),.val (.int .i64 x6.Reply_.Err),.val (.int .i64 x6.Reply_.Value_.Kind),.val (.int .i64 x6.Reply_.Value_.N),.val (.string x6.Reply_.Value_.S),.sl false none 1 none (x6.Reply_.Value_.I.map (rowI .i64)),.sl false none 1 none (x6.Reply_.Value_.L.map rowS)]) (ry:=[.val (.int .i64 x6.Seq),.val (.string r7.Client_),.val (.int .i64 r7.Seq),.sl false none 1 none (r7.Path.map (rowI .i64)),.val (.int .i64 r7.Err),.val (.int .i64 r7.Value_.Kind),.val (.int .i64 r7.Value_.N),.val (.string r7.Value_.S),.sl false none 1 none (r7.Value_.I.map (rowI .i64)),.sl false none 1 none (r7.Value_.L.map rowS)]) hx21 rfl rfl,hx24]
def ql (N:Nat):FnS:=⟨[],false,fn1 (decL 4 Client.dec) fun q0=>(fj N q0).map fun r=>.sl false none 4 none (r.map Client.row),false⟩
attribute [go_sem] ql
theorem A8 (N:Nat):FSOk Try.prog 29 (ql N):=ok1 (fun q0 r h=>by
 obtain ⟨r',hr,rfl⟩:=Option.map_eq_some_iff.1 h;exact (mX N q0 r' hr).res (by (try simp only [go_sem]); exact RokI.h)) (fun h=>aF Client.dec_le h)

def pr (N:Nat):FnS:=⟨[],false,fn1 (decL 4 Client.dec) fun q0=>(fj N q0).map fun r=>.sl true none 4 none (r.map Client.row),false⟩
attribute [go_sem] pr
theorem Ab (N:Nat):FSOk Try.prog 29 (pr N):=ok1 (fun q0 r h=>by
 obtain ⟨r',hr,rfl⟩:=Option.map_eq_some_iff.1 h;exact (mX N q0 r' hr).res (by (try simp only [go_sem]); exact RokI.h)) (fun h=>aF Client.dec_le h)

def iA (N:Nat):FnS:=⟨[],false,fn1 (decL 4 Client.dec) fun q0=>(fj N q0).map fun r=>.sl true none 4 none (r.map Client.rowD),false⟩
attribute [go_sem] iA
theorem jV (N:Nat):FSOk Try.prog 29 (iA N):=ok1 (fun q0 r h=>by
 obtain ⟨r',hr,rfl⟩:=Option.map_eq_some_iff.1 h;exact mX N q0 r' hr) (fun h=>aF Client.dec_le h)


def bF:FnS:={ own:=[true,true],pure:=false,fn:=fun _=>none,peek:=true }
theorem aE:bF.own=[true,true]:=rfl
theorem ay:bF.peek=true:=rfl
theorem lR:PeekOk Try.prog 58:=
 uB (fn:=Try.f58) (tS:=22) (tR:=4) (e:=56) (size:=4) Try.func58 rfl rfl (by kernel_rfl) (by kernel_rfl) (by kernel_rfl) (by kernel_rfl)
theorem kf:FSOk Try.prog 58 bF:=⟨(fun cs r h=>by simp [bF] at h),fun _=>lR⟩
noncomputable def dw:Env:={ T:=tiOf Try.prog,G:=fun d f=>if d=67/\f=58 then some bF else none }
theorem br:dw.T=tiOf Try.prog:=rfl
theorem bk (d:Nat):dw.F d=none:=rfl
theorem bt (d f:Nat):dw.L d f=none:=rfl
theorem bq:dw.G 67 58=some bF:=rfl
theorem og:GOk Try.prog { T:=tiOf Try.prog,G:=dw.G }:=by
 refine ⟨?_,fun _ _ _ h=>by cases h⟩;intro d f fs hfs;simp only [dw] at hfs;split at hfs
 ·rename_i hc; obtain ⟨rfl,rfl⟩:=hc; obtain rfl:=Option.some.inj hfs; exact kf
 cases hfs
theorem oX:FunOk Try.prog 30 Try.f30 Try.f30.body.get! := ⟨Try.func30,rfl,by decide,by kernel_rfl⟩
set_option maxHeartbeats 4000000 in
theorem kz {α:Type} (row:α->List C) (ok:RowOk row) (l:List α) (i:Nat) (x:α) (k:Nat) (r:List α) (hr:r=l.take i++[x]++l.drop i) (hi:i<=l.length) (hsz:(l.length+1) * 72<=140737488355328) (hk1:l.length<=k) (hk2:k<=maxLen) :
  Con Try.prog 30 [true,false,true] false [.sl true none 4 (some k) (l.map row),.val (.int .i64 i),.sl true none 4 none ([x].map row)] (.sl true none 4 none (r.map row)):=by
 refine uJ (E:=dw) (qk Try.prog _) og mix oX (Nat.le_of_ble_eq_true rfl) ?_;intro _;rw [mH (by simp)];rw [show entryF [true,false,true] [C.sl true none 4 (some k) (l.map row),C.val (.int .i64 i),C.sl true none 4 none ([x].map row)]=(updT (updT (updT deadT 0 (.pal 0 [] 0 l.length none)) 1 (.val (.int .i64 i))) 2 (.pal 2 [] 0 1 none)) from by funext t; match t with|0=>simp [entryF,jc,viewD,updT]|1=>rfl|2=>rfl|t+3=>rfl];rw [show R0 [true,false,true] [C.sl true none 4 (some k) (l.map row),C.val (.int .i64 i),C.sl true none 4 none ([x].map row)]=upd (upd RZ 0 (C.sl true none 4 (some k) (l.map row))) 2 (C.sl true none 4 none ([x].map row)) from by funext t; match t with|0=>rfl|1=>rfl|2=>rfl|t+3=>rfl];apply ua;simp only [Try.f30,Option.get!];have hi1:(i:Int)<=(l.length:Int):=by omega
 have hi2:i<=l.length:=hi;have h10:(((1:Nat):Int)=0)=False:=by simp
 have hp:(row x).all Abs.plainCell=true:=ok.plain x;have hf:(row x).map C.frz=(row x):=ok.frz x;have hpD:(row x).all plainD=true:=by have:=(RowOk.allD ok [x]); simpa using this
 have hw1:IntKind.i64.wrap ((l.length:Int)+((1:Nat):Int))=((l.length+1:Nat):Int):=by rw [dY (by omega) (by omega)]; rfl
 have hlt0:(l.take i).length=i:=by simp; omega
 have hes:(4 != 0)=true:=rfl;have hm1:min 1 (l.length+1 - i)=1:=by omega
 have hm2:min (l.length - i) (l.length+1 - (i+1))=l.length - i:=by omega
 have hm3:(l.drop i).take (l.length - i)=l.drop i:=List.take_of_length_le (by simp);have hm4:i+1<=l.length+1:=by omega
 have hw2:IntKind.i64.wrap (((l.length+1:Nat):Int) - (i:Int))=((l.length+1 - i:Nat):Int):=by rw [dY (by omega) (by omega)]; omega
 have hw1b:IntKind.i64.wrap ((l.length:Int)+1)=((l.length+1:Nat):Int):=hw1;have hw3:IntKind.i64.wrap ((i:Int)+((1:Nat):Int))=((i+1:Nat):Int):=by rw [dY (by omega) (by omega)]; rfl
 have hw3b:IntKind.i64.wrap ((i:Int)+1)=((i+1:Nat):Int):=hw3;simp only [go_sem,seval,br,bk,bt,bq,hi1,hi2,h10,Nat.le_refl,hp,hf,hpD,RowOk.frzRows ok,RowOk.all ok,RowOk.allPlain ok,RowOk.allD ok,al,RX_cap,bT,altX,roomS,roomC,cutC,copyX,bg,ai,extOf,Ext.all,peekX,aN,Option.map_some,hw1,hw2,hw3,hw1b,hw3b,Nat.min_self,Nat.zero_le,Nat.sub_zero,deepV,bne_self_eq_false,List.isEmpty_nil,decide_not,List.length_replicate,hlt0,hm1,hm2,hm3,hm4,aE,ay,Nat.not_succ_le_self];refine tc rfl ?_;simp only [go_sem,seval,br,bk,bt,bq,hi1,hi2,h10,Nat.le_refl,hp,hf,hpD,RowOk.frzRows ok,RowOk.all ok,RowOk.allPlain ok,RowOk.allD ok,al,RX_cap,bT,altX,roomS,roomC,cutC,copyX,bg,ai,extOf,Ext.all,peekX,aN,Option.map_some,hw1,hw2,hw3,hw1b,hw3b,Nat.min_self,Nat.zero_le,Nat.sub_zero,deepV,bne_self_eq_false,List.isEmpty_nil,decide_not,List.length_replicate,hlt0,hm1,hm2,hm3,hm4,aE,ay,Nat.not_succ_le_self];refine j8 rfl (fun hc=>?_) (fun hc=>?_)
 ·have e:i=l.length:=by omega
  subst e;simp only [go_sem,seval,br,bk,bt,bq,hi1,hi2,h10,Nat.le_refl,hp,hf,hpD,RowOk.frzRows ok,RowOk.all ok,RowOk.allPlain ok,RowOk.allD ok,al,RX_cap,bT,altX,roomS,roomC,cutC,copyX,bg,ai,extOf,Ext.all,peekX,aN,Option.map_some,hw1,hw2,hw3,hw1b,hw3b,Nat.min_self,Nat.zero_le,Nat.sub_zero,deepV,bne_self_eq_false,List.isEmpty_nil,decide_not,List.length_replicate,hlt0,hm1,hm2,hm3,hm4,aE,ay,Nat.not_succ_le_self,fG,fS,hsz];refine j9 ok ?_;rw [hr];simp [List.take_of_length_le]
 ·have hc1:decide ((i:Int)=(l.length:Int))=false:=decide_eq_false hc;have hlt:i < l.length:=by omega
  simp only [go_sem,seval,br,bk,bt,bq,hi1,hi2,h10,Nat.le_refl,hp,hf,hpD,RowOk.frzRows ok,RowOk.all ok,RowOk.allPlain ok,RowOk.allD ok,al,RX_cap,bT,altX,roomS,roomC,cutC,copyX,bg,ai,extOf,Ext.all,peekX,aN,Option.map_some,hw1,hw2,hw3,hw1b,hw3b,Nat.min_self,Nat.zero_le,Nat.sub_zero,deepV,bne_self_eq_false,List.isEmpty_nil,decide_not,List.length_replicate,hlt0,hm1,hm2,hm3,hm4,aE,ay,Nat.not_succ_le_self,hc1];refine j8 rfl (fun hk=>?_) (fun hk=>?_)
  ·have hk1:decide (k < l.length+1)=true:=decide_eq_true hk;have hk2:k < i+(l.length+1 - i):=by omega
   have e1:i+(l.length+1 - i)=l.length+1:=by omega
   have hi3:(i:Int)<=((l.length+1:Nat):Int):=by omega
   have hi4:i<=l.length+1:=by omega
   obtain ⟨A,hA⟩:∃ A,List.map row (List.take i l)++List.replicate (l.length+1 - i) [C.val (Value.string ⟨#[]⟩),C.val (Value.int .i64 0),C.val (Value.slice none 0 0),C.val (Value.slice none 0 0)]=A:=⟨_,rfl⟩;have hAp:bh A:=by rw [<-hA]; exact fc (eu ok _) (oL _ [Value.string ⟨#[]⟩,Value.int .i64 0,Value.slice none 0 0,Value.slice none 0 0] (by simp [Value.oneCell']))
   have hAl:A.length=l.length+1:=by rw [<-hA,List.length_append,List.length_map,hlt0,List.length_replicate]; omega
   obtain ⟨B,hB⟩:∃ B,au A i [(row x)]=B:=⟨_,rfl⟩;have hBp:bh B:=by rw [<-hB]; exact et hAp ⟨by simp [frzRows,hf],by simp [hpD]⟩
   have hBl:B.length=l.length+1:=by rw [<-hB]; simp [au,hAl]; omega
   obtain ⟨D,hD⟩:∃ D,au B (i+1) (List.map row (List.drop i l))=D:=⟨_,rfl⟩;have hDp:bh D:=by rw [<-hD]; exact et hBp (eu ok _)
   have hDl:D.length=l.length+1:=by rw [<-hD]; simp [au,hBl]; omega
   have hDe:D=(l.take i++[x]++l.drop i).map row:=by
    rw [<-hD,<-hB,<-hA,List.map_take,List.map_drop,tZ (A:=l.map row) (n:=l.length) (by simp) hi2 (by simp)];simp
   simp only [go_sem,seval,br,bk,bt,bq,hi1,hi2,h10,Nat.le_refl,hp,hf,hpD,RowOk.frzRows ok,RowOk.all ok,RowOk.allPlain ok,RowOk.allD ok,al,RX_cap,bT,altX,roomS,roomC,cutC,copyX,bg,ai,extOf,Ext.all,peekX,aN,Option.map_some,hw1,hw2,hw3,hw1b,hw3b,Nat.min_self,Nat.zero_le,Nat.sub_zero,deepV,bne_self_eq_false,List.isEmpty_nil,decide_not,List.length_replicate,hlt0,hm1,hm2,hm3,hm4,aE,ay,Nat.not_succ_le_self,hc1,hk1,hk,hk2,e1,hi3,hi4,hA,hAl,hAp.1,hAp.2,hB,hBp.1,hBp.2,hBl,hD,hDp.1,hDp.2,hsz];repeat' ((with_reducible refine ek ?_ ?_); kernel_rfl)
   simp only [go_sem,seval,br,bk,bt,bq,hi1,hi2,h10,Nat.le_refl,hp,hf,hpD,RowOk.frzRows ok,RowOk.all ok,RowOk.allPlain ok,RowOk.allD ok,al,RX_cap,bT,altX,roomS,roomC,cutC,copyX,bg,ai,extOf,Ext.all,peekX,aN,Option.map_some,hw1,hw2,hw3,hw1b,hw3b,Nat.min_self,Nat.zero_le,Nat.sub_zero,deepV,bne_self_eq_false,List.isEmpty_nil,decide_not,List.length_replicate,hlt0,hm1,hm2,hm3,hm4,aE,ay,Nat.not_succ_le_self,fG,fS,hDp.1,hDp.2,hD];refine j9 ok ?_;rw [hr,<-hDe,<-hDl,List.take_length]
  ·have hk1:decide (k < l.length+1)=false:=decide_eq_false hk;have hk2:¬ k < i+(l.length+1 - i):=by omega
   have hk3:l.length+1<=k:=by omega
   have e2:l.length+1 - l.length=1:=by omega
   have e3:l.length<=l.length+1:=by omega
   have hi3:(i:Int)<=((l.length+1:Nat):Int):=by omega
   have hi4:i<=l.length+1:=by omega
   have hne:¬ l.length+1 - (i+1)=0:=by omega
   have hne2:¬ l.length - i=0:=by omega
   obtain ⟨A,hA⟩:∃ A,List.map row l++[[C.dead,C.dead,C.dead,C.dead]]=A:=⟨_,rfl⟩;have hAp:bh A:=by rw [<-hA]; exact fc (eu ok _) (oV 1 4)
   have hAl:A.length=l.length+1:=by rw [<-hA]; simp
   have hm5:min (l.length+1 - i) (l.length+1 - (i+1))=l.length - i:=by omega
   have hm5b:min (l.length+1 - i) (l.length - i)=l.length - i:=by omega
   obtain ⟨A2,hA2⟩:∃ A2,(A.drop i).take (l.length - i)=A2:=⟨_,rfl⟩;have hA2e:A2=List.map row (l.drop i):=by
    rw [<-hA2,<-hA,List.drop_append,List.length_map,show i - l.length=0 by omega,List.drop_zero,List.take_append,List.take_of_length_le (by simp),show l.length - i - (List.drop i (List.map row l)).length=0 by simp];simp [List.map_drop]
   have hA2p:(A2.all fun r=>r.all Abs.plainCell)=true:=by rw [hA2e]; exact ok.allPlain _
   have hA2f:frzRows A2=A2:=by rw [hA2e]; exact ok.frzRows _
   have hA2d:bh A2:=by rw [hA2e]; exact eu ok _
   obtain ⟨B,hB⟩:∃ B,au A (i+1) A2=B:=⟨_,rfl⟩;have hBp:bh B:=by rw [<-hB]; exact et hAp hA2d
   have hBl:B.length=l.length+1:=by rw [<-hB]; simp [au,hAl,hA2e]; omega
   obtain ⟨D,hD⟩:∃ D,au B i [(row x)]=D:=⟨_,rfl⟩;have hDp:bh D:=by rw [<-hD]; exact et hBp ⟨by simp [frzRows,hf],by simp [hpD]⟩
   have hDl:D.length=l.length+1:=by rw [<-hD]; simp [au,hBl]; omega
   have hDe:D=(l.take i++[x]++l.drop i).map row:=by
    rw [<-hD,<-hB,<-hA2,<-hA,s3 (A:=l.map row) (n:=l.length) (by simp) hi2];simp [List.map_take,List.map_drop]
   simp only [go_sem,seval,br,bk,bt,bq,hi1,hi2,h10,Nat.le_refl,hp,hf,hpD,RowOk.frzRows ok,RowOk.all ok,RowOk.allPlain ok,RowOk.allD ok,al,RX_cap,bT,altX,roomS,roomC,cutC,copyX,bg,ai,extOf,Ext.all,peekX,aN,Option.map_some,hw1,hw2,hw3,hw1b,hw3b,Nat.min_self,Nat.zero_le,Nat.sub_zero,deepV,bne_self_eq_false,List.isEmpty_nil,decide_not,List.length_replicate,hlt0,hm1,hm2,hm3,hm4,aE,ay,Nat.not_succ_le_self,hc1,hk1,hk,hk2,hk3,e2,e3,hi3,hi4,hne,hne2,hA,hAl,hAp.1,hAp.2,hes,hA2,hA2p,hA2f,hB,hBp.1,hBp.2,hBl,hD,hDp.1,hDp.2,hDl,hm5,hm5b];refine sY rfl ?_;simp only [go_sem,seval,br,bk,bt,bq,hi1,hi2,h10,Nat.le_refl,hp,hf,hpD,RowOk.frzRows ok,RowOk.all ok,RowOk.allPlain ok,RowOk.allD ok,al,RX_cap,bT,altX,roomS,roomC,cutC,copyX,bg,ai,extOf,Ext.all,peekX,aN,Option.map_some,hw1,hw2,hw3,hw1b,hw3b,Nat.min_self,Nat.zero_le,Nat.sub_zero,deepV,bne_self_eq_false,List.isEmpty_nil,decide_not,List.length_replicate,hlt0,hm1,hm2,hm3,hm4,aE,ay,Nat.not_succ_le_self,hc1,hk1,hk,hk2,hk3,e2,e3,hi3,hi4,hne,hne2,hA,hAl,hAp.1,hAp.2,hes,hA2,hA2p,hA2f,hB,hBp.1,hBp.2,hBl,hD,hDp.1,hDp.2,hDl,hm5,hm5b];repeat' ((with_reducible refine ek ?_ ?_); kernel_rfl)
   simp only [go_sem,seval,br,bk,bt,bq,hi1,hi2,h10,Nat.le_refl,hp,hf,hpD,RowOk.frzRows ok,RowOk.all ok,RowOk.allPlain ok,RowOk.allD ok,al,RX_cap,bT,altX,roomS,roomC,cutC,copyX,bg,ai,extOf,Ext.all,peekX,aN,Option.map_some,hw1,hw2,hw3,hw1b,hw3b,Nat.min_self,Nat.zero_le,Nat.sub_zero,deepV,bne_self_eq_false,List.isEmpty_nil,decide_not,List.length_replicate,hlt0,hm1,hm2,hm3,hm4,aE,ay,Nat.not_succ_le_self,fG,fS,hDp.1,hDp.2,hD,hDl];refine j9 ok ?_;rw [hr,<-hDe,<-hDl,List.take_length]
theorem pG (N:Nat) (a0:List Client) (a1:Int) (a2:List Client) (r:List Client) (h:bH N a0 a1 a2=some r) :
  Con Try.prog 30 [true,false,true] false [.sl true none 4 none (a0.map Client.row),.val (.int .i64 a1),.sl true none 4 none (a2.map Client.row)] (.sl true none 4 none (r.map Client.row)):=by
 unfold bH at h;obtain ⟨n,x,rfl,rfl,h1,h2,h3⟩:=mJ h;exact su fun k hk1 hk2=>kz Client.row Client.row_ok a0 n x k r (Option.some.inj h3).symm h1 h2 (by simpa using hk1) hk2
def dF (N:Nat):FnS:={ own:=[true,false,true],pure:=false,fn:=fun cs=>match cs with
 | [c0,c1,c2]=>(decO 4 Client.dec c0).bind fun q0=>(decI .i64 c1).bind fun q1=>(decO 4 Client.dec c2).bind fun q2=>(bH N q0 q1 q2).map fun r=>.sl true none 4 none (r.map Client.row)
 | _=>none }
theorem mq (N:Nat):(dF N).own=[true,false,true]:=rfl
theorem lO (N:Nat):(dF N).pure=false:=rfl
theorem lP (N:Nat):(dF N).peek=false:=rfl
attribute [go_sem] dF mq lO lP
theorem vf (N:Nat):FSOk Try.prog 30 (dF N):=by
 refine ⟨fun cs r h=>?_,fun h=>by cases h⟩;simp only [dF] at h;split at h
 ·simp only [Option.bind_eq_some_iff,Option.map_eq_some_iff] at h;obtain ⟨q0,h0,q1,h1,q2,h2,r',hr,rfl⟩:=h;exact (pG N q0 q1 q2 r' hr).argsO rfl (gK (jI Client.row_ok Client.dec_le h0) (mj (aj h1) (gK (jI Client.row_ok Client.dec_le h2) lk)))
 ·cases h
def RawRow:Type:={r:List C // r.map C.frz=r/\r.all C.cellOk=true/\r.all Go.Abs.plainCell=true}
def RawRow.row (x:RawRow):List C:=x.1
theorem RawRow.ok:RowOk RawRow.row:=⟨fun x=>x.2.1,fun x=>x.2.2.1,fun x=>x.2.2.2⟩
theorem mh {N:Nat} {a0:List Client} {a1:Int} {x:Client} {r:List Client} (h:bH N a0 a1 [x]=some r):r[a1.toNat]?=some x:=by
 unfold bH at h;obtain ⟨n,y,rfl,hy,h1,h2,h3⟩:=mJ h;obtain rfl:x=y:=by simpa using hy
 obtain rfl:=Option.some.inj h3;rw [Int.toNat_natCast,List.append_assoc,List.getElem?_append_right (by simp only [List.length_take]; omega)];simp only [List.length_take,Nat.min_eq_left h1,Nat.sub_self,List.cons_append,List.getElem?_cons_zero]
theorem o6 (N:Nat) (a0:List Client) (a1:Int) (a2:List Client) (r:List Client) (h:bH N a0 a1 a2=some r) :
  Con Try.prog 30 [true,false,true] false [.sl true none 4 none (a0.map Client.row),.val (.int .i64 a1),.sl true none 4 none (a2.map Client.rowN)] (.sl true none 4 none ((r.map Client.row).set a1.toNat ((a2.map Client.rowN).headD []))):=by
 unfold bH at h;obtain ⟨n,x,rfl,rfl,h1,h2,h3⟩:=mJ h;obtain rfl:=Option.some.inj h3;have ok:=Client.row_ok
 let f:Client->RawRow:=fun y=>⟨Client.row y,ok.frz y,ok.ok y,ok.plain y⟩
 let g:RawRow:=⟨Client.rowN x,rfl,rfl,rfl⟩
 have e1:(a0.map f).map RawRow.row=a0.map Client.row:=by rw [List.map_map]; rfl
 have e2:((a0.map f).take n++[g]++(a0.map f).drop n).map RawRow.row=((a0.take n++[x]++a0.drop n).map Client.row).set n (Client.rowN x):=by
  simp only [List.map_append,List.map_cons,List.map_nil,List.append_assoc];rw [<-List.map_take,<-List.map_drop,List.map_map,List.map_map,List.set_append_right _ _ (by simp only [List.length_map,List.length_take]; omega)];simp only [List.length_map,List.length_take,Nat.min_eq_left h1,Nat.sub_self,List.cons_append,List.nil_append,List.set_cons_zero];rfl
 refine su fun k hk1 hk2=>?_;have:=kz RawRow.row RawRow.ok (a0.map f) n g k _ rfl (by simpa using h1) (by simpa using h2) (by simpa using hk1) hk2;rw [e1,e2] at this;exact this
def b8 (N:Nat):FnS:={ own:=[true,false,true],pure:=false,fn:=fun cs=>match cs with
 | [c0,c1,c2]=>(decO 4 Client.dec c0).bind fun q0=>(decI .i64 c1).bind fun q1=>(decO 4 Client.decN c2).bind fun q2=>(bH N q0 q1 q2).map fun r=>.sl true none 4 none ((r.map Client.row).set q1.toNat ((q2.map Client.rowN).headD []))
 | _=>none }
theorem mn (N:Nat):(b8 N).own=[true,false,true]:=rfl
theorem lN (N:Nat):(b8 N).pure=false:=rfl
theorem lQ (N:Nat):(b8 N).peek=false:=rfl
attribute [go_sem] b8 mn lN lQ List.headD_cons Client.rowN Client.decN
theorem mQ (N:Nat):FSOk Try.prog 30 (b8 N):=by
 refine ⟨fun cs r h=>?_,fun h=>by cases h⟩;simp only [b8] at h;split at h
 ·simp only [Option.bind_eq_some_iff,Option.map_eq_some_iff] at h;obtain ⟨q0,h0,q1,h1,q2,h2,r',hr,rfl⟩:=h;exact (o6 N q0 q1 q2 r' hr).argsO rfl (gK (jI Client.row_ok Client.dec_le h0) (mj (aj h1) (gK (jI Client.rowN_ok Client.decN_le h2) lk)))
 ·cases h


theorem tL (N:Nat) (a0:Int) (r:Bool) (h:iw N a0=some r):Con Try.prog 73 [] true [.val (.int .i64 a0)] (.val (.bool r)):=by
 refine aV (G:=(glist [])) Try.func73 rfl (by decide) (by kernel_rfl) gn [] mix (Nat.le_of_ble_eq_true rfl) ?_;simp only [Try.f73];unfold iw at h;refine Ws fun Z hZ=>?_;simp only [go_sem,seval];refine hZ _ (pp (Ws fun Z hZ=>?_));simp only [go_sem,seval];refine hZ _ (pp (Wk_ret (pp ?_)));cases h;simp only [go_sem,seval];exact ⟨_,rfl,RokI.h,PureI.h⟩
def jz (N:Nat):FnS:=⟨[],true,fn1 (decI .i64) fun q0=>(iw N q0).map fun r=>.val (.bool r),false⟩
attribute [go_sem] jz
theorem lY (N:Nat):FSOk Try.prog 73 (jz N):=ok1 (fun q0 r h=>by
 obtain ⟨r',hr,rfl⟩:=Option.map_eq_some_iff.1 h;exact tL N q0 r' hr) (aj)


noncomputable def pS (N d f:Nat):Option FnS:=glist [(6,73,jz N),(9,73,jz N)] d f
attribute [go_sem] pS
theorem tY (N:Nat) (a0:Int) (a1:Int) (r:Bool) (h:jh N a0 a1=some r):Con Try.prog 60 [] true [.val (.int .i64 a0),.val (.int .i64 a1)] (.val (.bool r)):=by
 refine aV (G:=(pS N)) Try.func60 rfl (by decide) (by kernel_rfl) (gc 6 (lY N) (gc 9 (lY N) gn)) [] mix (Nat.le_of_ble_eq_true rfl) ?_;simp only [Try.f60];unfold jh at h;refine Ws fun Z hZ=>?_;simp only [go_sem,seval];refine hZ _ (pp (Wk_seq ?_));obtain ⟨r1,hr1,h⟩:=Option.bind_eq_some_iff.1 h;refine ae fun Z hZ=>?_;simp only [go_sem,seval,hr1];refine sw (bX rfl) (fun hc2=>?_) (fun hc2=>?_)
 ·rw [if_neg (ne_true_of_eq_false hc2)] at h;simp only [go_sem,seval,hc2];refine hZ _ (pp (Wk_ret (pp ?_)));cases h;simp only [go_sem,seval];exact ⟨_,rfl,RokI.h,PureI.h⟩
 rw [if_pos hc2] at h;obtain ⟨r2,hr3,h⟩:=Option.bind_eq_some_iff.1 h;simp only [go_sem,seval,hc2,hr3];refine dp rfl (fun hc4=>?_) (fun hc4=>?_)
 ·rw [if_neg (ne_true_of_eq_false hc4)] at h;simp only [go_sem,seval,hc4];refine hZ _ (pp (Wk_ret (pp ?_)));cases h;simp only [go_sem,seval];exact ⟨_,rfl,RokI.h,PureI.h⟩
 rw [if_pos hc4] at h;simp only [go_sem,seval,hc4];refine hZ _ (pp (Wk_ret (pp ?_)));cases h;simp only [go_sem,seval];exact ⟨_,rfl,RokI.h,PureI.h⟩
def lA (N:Nat):FnS:=⟨[],true,fn2 (decI .i64) (decI .i64) fun q0 q1=>(jh N q0 q1).map fun r=>.val (.bool r),false⟩
attribute [go_sem] lA
theorem rT (N:Nat):FSOk Try.prog 60 (lA N):=ok2 (fun q0 q1 r h=>by
 obtain ⟨r',hr,rfl⟩:=Option.map_eq_some_iff.1 h;exact tY N q0 q1 r' hr) (aj) (aj)


theorem rF (N:Nat) (a0:Int) (r:Bool) (h:fL N a0=some r):Con Try.prog 61 [] true [.val (.int .i64 a0)] (.val (.bool r)):=by
 refine aV (G:=(glist [])) Try.func61 rfl (by decide) (by kernel_rfl) gn [] mix (Nat.le_of_ble_eq_true rfl) ?_;simp only [Try.f61];unfold fL at h;refine Ws fun Z hZ=>?_;simp only [go_sem,seval];refine hZ _ (pp (Ws fun Z hZ=>?_));simp only [go_sem,seval];refine hZ _ (pp (Wk_ret (pp ?_)));cases h;simp only [go_sem,seval];exact ⟨_,rfl,RokI.h,PureI.h⟩
def ia (N:Nat):FnS:=⟨[],true,fn1 (decI .i64) fun q0=>(fL N q0).map fun r=>.val (.bool r),false⟩
attribute [go_sem] ia
theorem kJ (N:Nat):FSOk Try.prog 61 (ia N):=ok1 (fun q0 r h=>by
 obtain ⟨r',hr,rfl⟩:=Option.map_eq_some_iff.1 h;exact rF N q0 r' hr) (aj)


noncomputable def jO (N d f:Nat):Option FnS:=glist [(27,60,lA N),(47,61,ia N),(50,61,ia N)] d f
attribute [go_sem] jO
theorem oc (N:Nat) (a0:(List Int)) (a1:Int) (r:Int × Bool) (h:dj N a0 a1=some r):Con Try.prog 31 [] true [.sl false none 1 none (a0.map (rowI .i64)),.val (.int .i64 a1)] (.tup [.val (.int .i64 r.1),.val (.bool r.2)]):=by
 refine aV (G:=(jO N)) Try.func31 rfl (by decide) (by kernel_rfl) (gc 27 (rT N) (gc 47 (kJ N) (gc 50 (kJ N) gn))) [] mix (Nat.le_of_ble_eq_true rfl) ?_;simp only [Try.f31];unfold dj at h;refine Ws fun Z hZ=>?_;simp only [go_sem,seval];refine hZ _ (pp (Ws fun Z hZ=>?_));simp only [go_sem,seval];refine hZ _ (pp (Ws fun Z hZ=>?_));simp only [go_sem,seval];refine hZ _ (pp (Wk_seq (aA (qa (fun (b:Int × Int)=>⟨tab 54 (updT (updT (updT (updT (updT deadT 0 (.sl false none 1 none (a0.map (rowI .i64)))) 1 (.val (.int .i64 a1))) 6 (.val (.int .i64 ((a0.length:Nat):Int)))) 7 (.val (.int .i64 b.1))) 8 (.val (.int .i64 b.2))),RZ⟩) (0,((a0.length:Nat):Int)) h ?_ ?_))))
 ·refine wr ?_ ?_<;>repeat' first|rfl|constructor
 rintro n ⟨v2,v3⟩ h -;cases n with
 | zero=>simp [bO] at h
 | succ n=>
 simp only [bO] at h;refine Wk_seq (Ws fun Z hZ=>?_);simp only [go_sem,seval];refine hZ _ (pp (bj rfl (fun hc1=>?_) (fun hc1=>?_)))
 ·have hc1d:=decide_eq_true hc1;rw [if_pos hc1] at h;refine ak (pp (aA (Ws fun Z hZ=>?_)));simp only [go_sem,seval,hc1d];refine hZ _ (pp (Wk_seq ?_));obtain ⟨x9,hb2,hx3,h⟩:=eA h;obtain ⟨r10,hr4,h⟩:=Option.bind_eq_some_iff.1 h;refine ae fun Z hZ=>?_;simp only [go_sem,seval,hb2,hx3,hr4];refine hZ _ (pp (aH rfl (fun hc5=>?_) (fun hc5=>?_)))
  ·rw [if_pos hc5] at h;refine ae fun Z hZ=>?_;simp only [go_sem,seval,hc5];refine hZ _ (pp (⟨_,Nat.lt_succ_self _,(IntKind.i64.wrap ((IntKind.i64.wrap (shrI .u64 (IntKind.u64.wrap (IntKind.i64.wrap (v2+v3))) 1))+1),v3),?_,h⟩));refine wr ?_ ?_<;>repeat' first|rfl|constructor
  rw [if_neg (ne_true_of_eq_false hc5)] at h;refine ae fun Z hZ=>?_;simp only [go_sem,seval,hc5];refine hZ _ (pp (⟨_,Nat.lt_succ_self _,(v2,IntKind.i64.wrap (shrI .u64 (IntKind.u64.wrap (IntKind.i64.wrap (v2+v3))) 1)),?_,h⟩));refine wr ?_ ?_<;>repeat' first|rfl|constructor
 have hc1d:=decide_eq_false hc1;rw [if_neg hc1] at h;refine dL (pp ?_);unfold eU at h;refine Ws fun Z hZ=>?_;simp only [go_sem,seval,hc1d];refine sw (ar rfl) (fun hc6=>?_) (fun hc6=>?_)
 ·have hc6d:=decide_eq_false hc6;rw [if_neg hc6] at h;simp only [go_sem,seval,hc6d];refine hZ _ (pp (Wk_ret (pp ?_)));cases h;simp only [go_sem,seval];exact ⟨_,rfl,RokI.h,PureI.h⟩
 have hc6d:=decide_eq_true hc6;rw [if_pos hc6] at h;obtain ⟨x11,hb7,hx8,h⟩:=eA h;simp only [go_sem,seval,hb7,hx8];refine ar rfl (fun hc9=>?_) (fun hc9=>?_)
 ·have hc9d:=decide_eq_true hc9;rw [if_pos hc9] at h;simp only [go_sem,seval,hc9d];refine hZ _ (pp (Wk_ret (pp ?_)));cases h;simp only [go_sem,seval];exact ⟨_,rfl,RokI.h,PureI.h⟩
 have hc9d:=decide_eq_false hc9;rw [if_neg hc9] at h;obtain ⟨r12,hr10,h⟩:=Option.bind_eq_some_iff.1 h;simp only [go_sem,seval,hb7,hx8,hc9d,hr10];refine bX rfl (fun hc11=>?_) (fun hc11=>?_)
 ·rw [if_pos hc11] at h;obtain ⟨r13,hr12,h⟩:=Option.bind_eq_some_iff.1 h;simp only [go_sem,seval,hc11,hr12];refine hZ _ (pp (Wk_ret (pp ?_)));cases h;simp only [go_sem,seval];exact ⟨_,rfl,RokI.h,PureI.h⟩
 rw [if_neg (ne_true_of_eq_false hc11)] at h;simp only [go_sem,seval,hc11];refine hZ _ (pp (Wk_ret (pp ?_)));cases h;simp only [go_sem,seval];exact ⟨_,rfl,RokI.h,PureI.h⟩
def gw (N:Nat):FnS:=⟨[],true,fn2 (decL 1 (dec1 (decI .i64))) (decI .i64) fun q0 q1=>(dj N q0 q1).map fun r=>.tup [.val (.int .i64 r.1),.val (.bool r.2)],false⟩
attribute [go_sem] gw
theorem lL (N:Nat):FSOk Try.prog 31 (gw N):=ok2 (fun q0 q1 r h=>by
 obtain ⟨r',hr,rfl⟩:=Option.map_eq_some_iff.1 h;exact oc N q0 q1 r' hr) (fun h=>aF (dy .i64) h) (aj)


def bQ:FnS:={ own:=[true,true],pure:=false,fn:=fun _=>none,peek:=true }
theorem aI:bQ.own=[true,true]:=rfl
theorem aG:bQ.peek=true:=rfl
theorem mT:PeekOk Try.prog 62:=
 uB (fn:=Try.f62) (tS:=23) (tR:=4) (e:=3) (size:=1) Try.func62 rfl rfl (by kernel_rfl) (by kernel_rfl) (by kernel_rfl) (by kernel_rfl)
theorem kU:FSOk Try.prog 62 bQ:=⟨(fun cs r h=>by simp [bQ] at h),fun _=>mT⟩
noncomputable def ef:Env:={ T:=tiOf Try.prog,G:=fun d f=>if d=67/\f=62 then some bQ else none }
theorem bJ:ef.T=tiOf Try.prog:=rfl
theorem bM (d:Nat):ef.F d=none:=rfl
theorem bL (d f:Nat):ef.L d f=none:=rfl
theorem bK:ef.G 67 62=some bQ:=rfl
theorem pI:GOk Try.prog { T:=tiOf Try.prog,G:=ef.G }:=by
 refine ⟨?_,fun _ _ _ h=>by cases h⟩;intro d f fs hfs;simp only [ef] at hfs;split at hfs
 ·rename_i hc; obtain ⟨rfl,rfl⟩:=hc; obtain rfl:=Option.some.inj hfs; exact kU
 cases hfs
theorem qK:FunOk Try.prog 32 Try.f32 Try.f32.body.get! := ⟨Try.func32,rfl,by decide,by kernel_rfl⟩
set_option maxHeartbeats 4000000 in
theorem qy {α:Type} (row:α->List C) (ok:RowOk row) (l:List α) (i:Nat) (x:α) (k:Nat) (r:List α) (hr:r=l.take i++[x]++l.drop i) (hi:i<=l.length) (hsz:(l.length+1) * 8<=140737488355328) (hk1:l.length<=k) (hk2:k<=maxLen) :
  Con Try.prog 32 [true,false,true] false [.sl true none 1 (some k) (l.map row),.val (.int .i64 i),.sl true none 1 none ([x].map row)] (.sl true none 1 none (r.map row)):=by
 refine uJ (E:=ef) (qk Try.prog _) pI mix qK (Nat.le_of_ble_eq_true rfl) ?_;intro _;rw [mH (by simp)];rw [show entryF [true,false,true] [C.sl true none 1 (some k) (l.map row),C.val (.int .i64 i),C.sl true none 1 none ([x].map row)]=(updT (updT (updT deadT 0 (.pal 0 [] 0 l.length none)) 1 (.val (.int .i64 i))) 2 (.pal 2 [] 0 1 none)) from by funext t; match t with|0=>simp [entryF,jc,viewD,updT]|1=>rfl|2=>rfl|t+3=>rfl];rw [show R0 [true,false,true] [C.sl true none 1 (some k) (l.map row),C.val (.int .i64 i),C.sl true none 1 none ([x].map row)]=upd (upd RZ 0 (C.sl true none 1 (some k) (l.map row))) 2 (C.sl true none 1 none ([x].map row)) from by funext t; match t with|0=>rfl|1=>rfl|2=>rfl|t+3=>rfl];apply ua;simp only [Try.f32,Option.get!];have hi1:(i:Int)<=(l.length:Int):=by omega
 have hi2:i<=l.length:=hi;have h10:(((1:Nat):Int)=0)=False:=by simp
 have hp:(row x).all Abs.plainCell=true:=ok.plain x;have hf:(row x).map C.frz=(row x):=ok.frz x;have hpD:(row x).all plainD=true:=by have:=(RowOk.allD ok [x]); simpa using this
 have hw1:IntKind.i64.wrap ((l.length:Int)+((1:Nat):Int))=((l.length+1:Nat):Int):=by rw [dY (by omega) (by omega)]; rfl
 have hlt0:(l.take i).length=i:=by simp; omega
 have hes:(1 != 0)=true:=rfl;have hm1:min 1 (l.length+1 - i)=1:=by omega
 have hm2:min (l.length - i) (l.length+1 - (i+1))=l.length - i:=by omega
 have hm3:(l.drop i).take (l.length - i)=l.drop i:=List.take_of_length_le (by simp);have hm4:i+1<=l.length+1:=by omega
 have hw2:IntKind.i64.wrap (((l.length+1:Nat):Int) - (i:Int))=((l.length+1 - i:Nat):Int):=by rw [dY (by omega) (by omega)]; omega
 have hw1b:IntKind.i64.wrap ((l.length:Int)+1)=((l.length+1:Nat):Int):=hw1;have hw3:IntKind.i64.wrap ((i:Int)+((1:Nat):Int))=((i+1:Nat):Int):=by rw [dY (by omega) (by omega)]; rfl
 have hw3b:IntKind.i64.wrap ((i:Int)+1)=((i+1:Nat):Int):=hw3;simp only [go_sem,seval,bJ,bM,bL,bK,hi1,hi2,h10,Nat.le_refl,hp,hf,hpD,RowOk.frzRows ok,RowOk.all ok,RowOk.allPlain ok,RowOk.allD ok,al,RX_cap,bT,altX,roomS,roomC,cutC,copyX,bg,ai,extOf,Ext.all,peekX,aN,Option.map_some,hw1,hw2,hw3,hw1b,hw3b,Nat.min_self,Nat.zero_le,Nat.sub_zero,deepV,bne_self_eq_false,List.isEmpty_nil,decide_not,List.length_replicate,hlt0,hm1,hm2,hm3,hm4,aI,aG,Nat.not_succ_le_self];refine tc rfl ?_;simp only [go_sem,seval,bJ,bM,bL,bK,hi1,hi2,h10,Nat.le_refl,hp,hf,hpD,RowOk.frzRows ok,RowOk.all ok,RowOk.allPlain ok,RowOk.allD ok,al,RX_cap,bT,altX,roomS,roomC,cutC,copyX,bg,ai,extOf,Ext.all,peekX,aN,Option.map_some,hw1,hw2,hw3,hw1b,hw3b,Nat.min_self,Nat.zero_le,Nat.sub_zero,deepV,bne_self_eq_false,List.isEmpty_nil,decide_not,List.length_replicate,hlt0,hm1,hm2,hm3,hm4,aI,aG,Nat.not_succ_le_self];refine j8 rfl (fun hc=>?_) (fun hc=>?_)
 ·have e:i=l.length:=by omega
  subst e;simp only [go_sem,seval,bJ,bM,bL,bK,hi1,hi2,h10,Nat.le_refl,hp,hf,hpD,RowOk.frzRows ok,RowOk.all ok,RowOk.allPlain ok,RowOk.allD ok,al,RX_cap,bT,altX,roomS,roomC,cutC,copyX,bg,ai,extOf,Ext.all,peekX,aN,Option.map_some,hw1,hw2,hw3,hw1b,hw3b,Nat.min_self,Nat.zero_le,Nat.sub_zero,deepV,bne_self_eq_false,List.isEmpty_nil,decide_not,List.length_replicate,hlt0,hm1,hm2,hm3,hm4,aI,aG,Nat.not_succ_le_self,fG,fS,hsz];refine j9 ok ?_;rw [hr];simp [List.take_of_length_le]
 ·have hc1:decide ((i:Int)=(l.length:Int))=false:=decide_eq_false hc;have hlt:i < l.length:=by omega
  simp only [go_sem,seval,bJ,bM,bL,bK,hi1,hi2,h10,Nat.le_refl,hp,hf,hpD,RowOk.frzRows ok,RowOk.all ok,RowOk.allPlain ok,RowOk.allD ok,al,RX_cap,bT,altX,roomS,roomC,cutC,copyX,bg,ai,extOf,Ext.all,peekX,aN,Option.map_some,hw1,hw2,hw3,hw1b,hw3b,Nat.min_self,Nat.zero_le,Nat.sub_zero,deepV,bne_self_eq_false,List.isEmpty_nil,decide_not,List.length_replicate,hlt0,hm1,hm2,hm3,hm4,aI,aG,Nat.not_succ_le_self,hc1];refine j8 rfl (fun hk=>?_) (fun hk=>?_)
  ·have hk1:decide (k < l.length+1)=true:=decide_eq_true hk;have hk2:k < i+(l.length+1 - i):=by omega
   have e1:i+(l.length+1 - i)=l.length+1:=by omega
   have hi3:(i:Int)<=((l.length+1:Nat):Int):=by omega
   have hi4:i<=l.length+1:=by omega
   obtain ⟨A,hA⟩:∃ A,List.map row (List.take i l)++List.replicate (l.length+1 - i) [C.val (Value.int .i64 0)]=A:=⟨_,rfl⟩;have hAp:bh A:=by rw [<-hA]; exact fc (eu ok _) (oL _ [Value.int .i64 0] (by simp [Value.oneCell']))
   have hAl:A.length=l.length+1:=by rw [<-hA,List.length_append,List.length_map,hlt0,List.length_replicate]; omega
   obtain ⟨B,hB⟩:∃ B,au A i [(row x)]=B:=⟨_,rfl⟩;have hBp:bh B:=by rw [<-hB]; exact et hAp ⟨by simp [frzRows,hf],by simp [hpD]⟩
   have hBl:B.length=l.length+1:=by rw [<-hB]; simp [au,hAl]; omega
   obtain ⟨D,hD⟩:∃ D,au B (i+1) (List.map row (List.drop i l))=D:=⟨_,rfl⟩;have hDp:bh D:=by rw [<-hD]; exact et hBp (eu ok _)
   have hDl:D.length=l.length+1:=by rw [<-hD]; simp [au,hBl]; omega
   have hDe:D=(l.take i++[x]++l.drop i).map row:=by
    rw [<-hD,<-hB,<-hA,List.map_take,List.map_drop,tZ (A:=l.map row) (n:=l.length) (by simp) hi2 (by simp)];simp
   simp only [go_sem,seval,bJ,bM,bL,bK,hi1,hi2,h10,Nat.le_refl,hp,hf,hpD,RowOk.frzRows ok,RowOk.all ok,RowOk.allPlain ok,RowOk.allD ok,al,RX_cap,bT,altX,roomS,roomC,cutC,copyX,bg,ai,extOf,Ext.all,peekX,aN,Option.map_some,hw1,hw2,hw3,hw1b,hw3b,Nat.min_self,Nat.zero_le,Nat.sub_zero,deepV,bne_self_eq_false,List.isEmpty_nil,decide_not,List.length_replicate,hlt0,hm1,hm2,hm3,hm4,aI,aG,Nat.not_succ_le_self,hc1,hk1,hk,hk2,e1,hi3,hi4,hA,hAl,hAp.1,hAp.2,hB,hBp.1,hBp.2,hBl,hD,hDp.1,hDp.2,hsz];repeat' ((with_reducible refine ek ?_ ?_); kernel_rfl)
   simp only [go_sem,seval,bJ,bM,bL,bK,hi1,hi2,h10,Nat.le_refl,hp,hf,hpD,RowOk.frzRows ok,RowOk.all ok,RowOk.allPlain ok,RowOk.allD ok,al,RX_cap,bT,altX,roomS,roomC,cutC,copyX,bg,ai,extOf,Ext.all,peekX,aN,Option.map_some,hw1,hw2,hw3,hw1b,hw3b,Nat.min_self,Nat.zero_le,Nat.sub_zero,deepV,bne_self_eq_false,List.isEmpty_nil,decide_not,List.length_replicate,hlt0,hm1,hm2,hm3,hm4,aI,aG,Nat.not_succ_le_self,fG,fS,hDp.1,hDp.2,hD];refine j9 ok ?_;rw [hr,<-hDe,<-hDl,List.take_length]
  ·have hk1:decide (k < l.length+1)=false:=decide_eq_false hk;have hk2:¬ k < i+(l.length+1 - i):=by omega
   have hk3:l.length+1<=k:=by omega
   have e2:l.length+1 - l.length=1:=by omega
   have e3:l.length<=l.length+1:=by omega
   have hi3:(i:Int)<=((l.length+1:Nat):Int):=by omega
   have hi4:i<=l.length+1:=by omega
   have hne:¬ l.length+1 - (i+1)=0:=by omega
   have hne2:¬ l.length - i=0:=by omega
   obtain ⟨A,hA⟩:∃ A,List.map row l++[[C.dead]]=A:=⟨_,rfl⟩;have hAp:bh A:=by rw [<-hA]; exact fc (eu ok _) (oV 1 1)
   have hAl:A.length=l.length+1:=by rw [<-hA]; simp
   have hm5:min (l.length+1 - i) (l.length+1 - (i+1))=l.length - i:=by omega
   have hm5b:min (l.length+1 - i) (l.length - i)=l.length - i:=by omega
   obtain ⟨A2,hA2⟩:∃ A2,(A.drop i).take (l.length - i)=A2:=⟨_,rfl⟩;have hA2e:A2=List.map row (l.drop i):=by
    rw [<-hA2,<-hA,List.drop_append,List.length_map,show i - l.length=0 by omega,List.drop_zero,List.take_append,List.take_of_length_le (by simp),show l.length - i - (List.drop i (List.map row l)).length=0 by simp];simp [List.map_drop]
   have hA2p:(A2.all fun r=>r.all Abs.plainCell)=true:=by rw [hA2e]; exact ok.allPlain _
   have hA2f:frzRows A2=A2:=by rw [hA2e]; exact ok.frzRows _
   have hA2d:bh A2:=by rw [hA2e]; exact eu ok _
   obtain ⟨B,hB⟩:∃ B,au A (i+1) A2=B:=⟨_,rfl⟩;have hBp:bh B:=by rw [<-hB]; exact et hAp hA2d
   have hBl:B.length=l.length+1:=by rw [<-hB]; simp [au,hAl,hA2e]; omega
   obtain ⟨D,hD⟩:∃ D,au B i [(row x)]=D:=⟨_,rfl⟩;have hDp:bh D:=by rw [<-hD]; exact et hBp ⟨by simp [frzRows,hf],by simp [hpD]⟩
   have hDl:D.length=l.length+1:=by rw [<-hD]; simp [au,hBl]; omega
   have hDe:D=(l.take i++[x]++l.drop i).map row:=by
    rw [<-hD,<-hB,<-hA2,<-hA,s3 (A:=l.map row) (n:=l.length) (by simp) hi2];simp [List.map_take,List.map_drop]
   simp only [go_sem,seval,bJ,bM,bL,bK,hi1,hi2,h10,Nat.le_refl,hp,hf,hpD,RowOk.frzRows ok,RowOk.all ok,RowOk.allPlain ok,RowOk.allD ok,al,RX_cap,bT,altX,roomS,roomC,cutC,copyX,bg,ai,extOf,Ext.all,peekX,aN,Option.map_some,hw1,hw2,hw3,hw1b,hw3b,Nat.min_self,Nat.zero_le,Nat.sub_zero,deepV,bne_self_eq_false,List.isEmpty_nil,decide_not,List.length_replicate,hlt0,hm1,hm2,hm3,hm4,aI,aG,Nat.not_succ_le_self,hc1,hk1,hk,hk2,hk3,e2,e3,hi3,hi4,hne,hne2,hA,hAl,hAp.1,hAp.2,hes,hA2,hA2p,hA2f,hB,hBp.1,hBp.2,hBl,hD,hDp.1,hDp.2,hDl,hm5,hm5b];refine sY rfl ?_;simp only [go_sem,seval,bJ,bM,bL,bK,hi1,hi2,h10,Nat.le_refl,hp,hf,hpD,RowOk.frzRows ok,RowOk.all ok,RowOk.allPlain ok,RowOk.allD ok,al,RX_cap,bT,altX,roomS,roomC,cutC,copyX,bg,ai,extOf,Ext.all,peekX,aN,Option.map_some,hw1,hw2,hw3,hw1b,hw3b,Nat.min_self,Nat.zero_le,Nat.sub_zero,deepV,bne_self_eq_false,List.isEmpty_nil,decide_not,List.length_replicate,hlt0,hm1,hm2,hm3,hm4,aI,aG,Nat.not_succ_le_self,hc1,hk1,hk,hk2,hk3,e2,e3,hi3,hi4,hne,hne2,hA,hAl,hAp.1,hAp.2,hes,hA2,hA2p,hA2f,hB,hBp.1,hBp.2,hBl,hD,hDp.1,hDp.2,hDl,hm5,hm5b];repeat' ((with_reducible refine ek ?_ ?_); kernel_rfl)
   simp only [go_sem,seval,bJ,bM,bL,bK,hi1,hi2,h10,Nat.le_refl,hp,hf,hpD,RowOk.frzRows ok,RowOk.all ok,RowOk.allPlain ok,RowOk.allD ok,al,RX_cap,bT,altX,roomS,roomC,cutC,copyX,bg,ai,extOf,Ext.all,peekX,aN,Option.map_some,hw1,hw2,hw3,hw1b,hw3b,Nat.min_self,Nat.zero_le,Nat.sub_zero,deepV,bne_self_eq_false,List.isEmpty_nil,decide_not,List.length_replicate,hlt0,hm1,hm2,hm3,hm4,aI,aG,Nat.not_succ_le_self,fG,fS,hDp.1,hDp.2,hD,hDl];refine j9 ok ?_;rw [hr,<-hDe,<-hDl,List.take_length]
theorem rm (N:Nat) (a0:List Int) (a1:Int) (a2:List Int) (r:List Int) (h:eH N a0 a1 a2=some r) :
  Con Try.prog 32 [true,false,true] false [.sl true none 1 none (a0.map (rowI .i64)),.val (.int .i64 a1),.sl true none 1 none (a2.map (rowI .i64))] (.sl true none 1 none (r.map (rowI .i64))):=by
 unfold eH at h;obtain ⟨n,x,rfl,rfl,h1,h2,h3⟩:=mJ h;exact su fun k hk1 hk2=>qy (rowI .i64) (dV .i64) a0 n x k r (Option.some.inj h3).symm h1 h2 (by simpa using hk1) hk2
def dE (N:Nat):FnS:={ own:=[true,false,true],pure:=false,fn:=fun cs=>match cs with
 | [c0,c1,c2]=>(decO 1 (dec1 (decI .i64)) c0).bind fun q0=>(decI .i64 c1).bind fun q1=>(decO 1 (dec1 (decI .i64)) c2).bind fun q2=>(eH N q0 q1 q2).map fun r=>.sl true none 1 none (r.map (rowI .i64))
 | _=>none }
theorem oo (N:Nat):(dE N).own=[true,false,true]:=rfl
theorem mV (N:Nat):(dE N).pure=false:=rfl
theorem mW (N:Nat):(dE N).peek=false:=rfl
attribute [go_sem] dE oo mV mW
theorem oM (N:Nat):FSOk Try.prog 32 (dE N):=by
 refine ⟨fun cs r h=>?_,fun h=>by cases h⟩;simp only [dE] at h;split at h
 ·simp only [Option.bind_eq_some_iff,Option.map_eq_some_iff] at h;obtain ⟨q0,h0,q1,h1,q2,h2,r',hr,rfl⟩:=h;exact (rm N q0 q1 q2 r' hr).argsO rfl (gK (jI (dV .i64) (dy .i64) h0) (mj (aj h1) (gK (jI (dV .i64) (dy .i64) h2) lk)))
 ·cases h


noncomputable def rE (N d f:Nat):Option FnS:=glist [(14,22,fP N),(18,26,iv N),(23,27,iL N),(29,20,ei N),(38,28,jB N),(68,29,iA N),(76,30,b8 N),(84,31,gw N),(97,32,dE N)] d f
attribute [go_sem] rE
theorem rL (N:Nat) (a0:(List Client)) (a1:ByteArray) (a2:Int) (r:(List Client) × Int) (h:fR N a0 a1 a2=some r):Con Try.prog 10 [] false [.sl false none 4 none (a0.map Client.row),.val (.string a1),.val (.int .i64 a2)] (.tup [.sl true none 4 none (r.1.map Client.row),.val (.int .i64 r.2)]):=by
 refine aV (G:=(rE N)) Try.func10 rfl (by decide) (by kernel_rfl) (gc 14 (gC N) (gc 18 (jt N) (gc 23 (j6 N) (gc 29 (en N) (gc 38 (kQ N) (gc 68 (jV N) (gc 76 (mQ N) (gc 84 (lL N) (gc 97 (oM N) gn))))))))) [] mix (Nat.le_of_ble_eq_true rfl) ?_;simp only [Try.f10];unfold fR at h;refine Ws fun Z hZ=>?_;simp (config := { maxSteps := 4000000 }) only [go_sem,seval];refine hZ _ (pp (Wk_seq ?_));apply dh (fun (c9:Bool)=>⟨tab 101 (updT (updT (updT (updT deadT 0 (.sl false none 4 none (a0.map Client.row))) 1 (.val (.string a1))) 2 (.val (.int .i64 a2))) 25 (.val (.bool c9))),RZ⟩)
 ·intro hJ1;obtain ⟨r10,hr2,h⟩:=Option.bind_eq_some_iff.1 h;refine ae fun Z hZ=>?_;simp (config := { maxSteps := 4000000 }) only [go_sem,seval,hr2];refine dp rfl (fun hc3=>?_) (fun hc3=>?_)
  ·first|rw [if_neg (ne_true_of_eq_false hc3)] at h|simp only [hc3,Bool.or_false,Bool.or_true,Bool.false_or,Bool.true_or,Bool.and_true,Bool.true_and,Bool.and_false,Bool.false_and,Bool.not_true,Bool.not_false,Bool.false_eq_true,if_true,if_false] at h
   simp (config := { maxSteps := 4000000 }) only [go_sem,seval,hc3];refine hZ _ (pp (hJ1 _ true ?_ h));refine wr ?_ ?_<;>repeat' first|rfl|constructor|simp only [go_sem,seval,Bool.or_self,List.length_set,Int.natCast_zero,Int.cast_ofNat_Int,hr2,hc3]
  first|rw [if_pos hc3] at h|simp only [hc3,Bool.or_false,Bool.or_true,Bool.false_or,Bool.true_or,Bool.and_true,Bool.true_and,Bool.and_false,Bool.false_and,Bool.not_true,Bool.not_false,Bool.false_eq_true,if_true,if_false] at h
  obtain ⟨r11,hr4,h⟩:=Option.bind_eq_some_iff.1 h;simp (config := { maxSteps := 4000000 }) only [go_sem,seval,hc3,hr4];refine dp rfl (fun hc5=>?_) (fun hc5=>?_)
  ·first|rw [if_neg (ne_true_of_eq_false hc5)] at h|simp only [hc5,hc3,Bool.or_false,Bool.or_true,Bool.false_or,Bool.true_or,Bool.and_true,Bool.true_and,Bool.and_false,Bool.false_and,Bool.not_true,Bool.not_false,Bool.false_eq_true,if_true,if_false] at h
   simp (config := { maxSteps := 4000000 }) only [go_sem,seval,hc5];refine hZ _ (pp (hJ1 _ true ?_ h));refine wr ?_ ?_<;>repeat' first|rfl|constructor|simp only [go_sem,seval,Bool.or_self,List.length_set,Int.natCast_zero,Int.cast_ofNat_Int,hr2,hc3,hr4,hc5]
  first|rw [if_pos hc5] at h|simp only [hc5,hc3,Bool.or_false,Bool.or_true,Bool.false_or,Bool.true_or,Bool.and_true,Bool.true_and,Bool.and_false,Bool.false_and,Bool.not_true,Bool.not_false,Bool.false_eq_true,if_true,if_false] at h
  obtain ⟨r12,hr6,h⟩:=Option.bind_eq_some_iff.1 h;simp (config := { maxSteps := 4000000 }) only [go_sem,seval,hc5,hr6];refine hZ _ (pp (hJ1 _ (!r12) ?_ h));refine wr ?_ ?_<;>repeat' first|rfl|constructor|simp only [go_sem,seval,Bool.or_self,List.length_set,Int.natCast_zero,Int.cast_ofNat_Int,hr2,hc3,hr4,hc5,hr6]
 intro c9 h;unfold gA at h;refine aH rfl (fun hc7=>?_) (fun hc7=>?_)
 ·first|rw [if_pos hc7] at h|simp only [hc7,Bool.or_false,Bool.or_true,Bool.false_or,Bool.true_or,Bool.and_true,Bool.true_and,Bool.and_false,Bool.false_and,Bool.not_true,Bool.not_false,Bool.false_eq_true,if_true,if_false] at h
  refine Ws fun Z hZ=>?_;simp (config := { maxSteps := 4000000 }) only [go_sem,seval,hc7];refine hZ _ (pp (Wk_ret (pp ?_)));cases h;simp (config := { maxSteps := 4000000 }) only [go_sem,seval];exact ⟨_,rfl,(by repeat' (first|exact ROk.refl _|exact ROk.nil _|((refine ROk.of _ ?_ ?_); (focus ((repeat' (first|exact Le.refl _|exact LeL.nil|exact Le.nils|exact LeLL.refl _|refine LeLL.mapAppend ?_ ?_|refine LeLL.cons ?_ ?_|refine Le.sl ?_|refine Le.tup ?_|refine Le.agg ?_|refine LeL.cons ?_ ?_)); done)); (focus ((repeat' (first|exact NoOwn.val _|exact NoOwn.sl _ _ _ _|refine NoOwn.tup ?_|refine NoOwn.agg ?_|exact j1|refine ju ?_ ?_)); done)))|((refine ROk.own ?_ ?_); (focus ((repeat' (first|exact Le.refl _|exact LeL.nil|exact Le.nils|exact LeLL.refl _|refine LeLL.mapAppend ?_ ?_|refine LeLL.cons ?_ ?_|refine Le.sl ?_|refine Le.tup ?_|refine Le.agg ?_|refine LeL.cons ?_ ?_)); done)); (focus ((first|exact RowOk.noOwn (dV .i64) _|exact RowOk.noOwn Answer.row_ok _|exact RowOk.noOwn Client.row_ok _|exact RowOk.noOwn gQ _); done)))|refine ROk.agg rfl ?_|refine ROk.tup rfl ?_|exact lf|refine jZ ?_ ?_))⟩
 first|rw [if_neg (ne_true_of_eq_false hc7)] at h|simp only [hc7,Bool.or_false,Bool.or_true,Bool.false_or,Bool.true_or,Bool.and_true,Bool.true_and,Bool.and_false,Bool.false_and,Bool.not_true,Bool.not_false,Bool.false_eq_true,if_true,if_false] at h
 refine ak (pp ?_);unfold jE at h;refine Wk_seq (Wk_seq ?_);obtain ⟨r16,hr8,h⟩:=Option.bind_eq_some_iff.1 h;refine ae fun Z hZ=>?_;simp (config := { maxSteps := 4000000 }) only [go_sem,seval,hc7,hr8];refine hZ _ (pp (aA (Ws fun Z hZ=>?_)));simp (config := { maxSteps := 4000000 }) only [go_sem,seval];refine hZ _ (pp (bj rfl (fun hc9=>?_) (fun hc9=>?_)))
 ·have hc9d:=decide_eq_true hc9;first|rw [if_pos hc9] at h|rw [if_pos hc9d] at h|simp only [hc9d,Bool.not_true,Bool.not_false,Bool.false_eq_true,if_true,if_false] at h
  refine Ws fun Z hZ=>?_;simp (config := { maxSteps := 4000000 }) only [go_sem,seval,hc9d];refine hZ _ (pp (Wk_ret (pp ?_)));cases h;simp (config := { maxSteps := 4000000 }) only [go_sem,seval];exact ⟨_,rfl,(by repeat' (first|exact ROk.refl _|exact ROk.nil _|((refine ROk.of _ ?_ ?_); (focus ((repeat' (first|exact Le.refl _|exact LeL.nil|exact Le.nils|exact LeLL.refl _|refine LeLL.mapAppend ?_ ?_|refine LeLL.cons ?_ ?_|refine Le.sl ?_|refine Le.tup ?_|refine Le.agg ?_|refine LeL.cons ?_ ?_)); done)); (focus ((repeat' (first|exact NoOwn.val _|exact NoOwn.sl _ _ _ _|refine NoOwn.tup ?_|refine NoOwn.agg ?_|exact j1|refine ju ?_ ?_)); done)))|((refine ROk.own ?_ ?_); (focus ((repeat' (first|exact Le.refl _|exact LeL.nil|exact Le.nils|exact LeLL.refl _|refine LeLL.mapAppend ?_ ?_|refine LeLL.cons ?_ ?_|refine Le.sl ?_|refine Le.tup ?_|refine Le.agg ?_|refine LeL.cons ?_ ?_)); done)); (focus ((first|exact RowOk.noOwn (dV .i64) _|exact RowOk.noOwn Answer.row_ok _|exact RowOk.noOwn Client.row_ok _|exact RowOk.noOwn gQ _); done)))|refine ROk.agg rfl ?_|refine ROk.tup rfl ?_|exact lf|refine jZ ?_ ?_))⟩
 have hc9d:=decide_eq_false hc9;first|rw [if_neg hc9] at h|rw [if_neg (ne_true_of_eq_false hc9d)] at h|simp only [hc9d,Bool.not_true,Bool.not_false,Bool.false_eq_true,if_true,if_false] at h
 apply dh (fun (c17:Bool)=>⟨tab 101 (updT (updT (updT (updT deadT 0 (.sl false none 4 none (a0.map Client.row))) 1 (.val (.string a1))) 2 (.val (.int .i64 a2))) 32 (.val (.bool c17))),RZ⟩)
 ·intro hJ10;refine Ws fun Z hZ=>?_;simp (config := { maxSteps := 4000000 }) only [go_sem,seval,hc9d];refine hZ _ (pp (bj rfl (fun hc11=>?_) (fun hc11=>?_)))
  ·have hc11d:=decide_eq_true hc11;first|rw [if_pos hc11] at h|rw [if_pos hc11d] at h|simp only [hc11d,Bool.not_true,Bool.not_false,Bool.false_eq_true,if_true,if_false] at h
   refine ak (pp (hJ10 _ true ?_ h));refine wr ?_ ?_<;>repeat' first|rfl|constructor|simp only [go_sem,seval,hc11d]
  have hc11d:=decide_eq_false hc11;first|rw [if_neg hc11] at h|rw [if_neg (ne_true_of_eq_false hc11d)] at h|simp only [hc11d,Bool.not_true,Bool.not_false,Bool.false_eq_true,if_true,if_false] at h
  refine ae fun Z hZ=>?_;simp (config := { maxSteps := 4000000 }) only [go_sem,seval,hc11d];refine hZ _ (pp (hJ10 _ (decide (r16=2)) ?_ h));refine wr ?_ ?_<;>repeat' first|rfl|constructor|simp only [go_sem,seval,Bool.or_self,List.length_set,Int.natCast_zero,Int.cast_ofNat_Int,hc7,hr8,hc9d,hc11d]
 intro c17 h;unfold iq at h;refine aH rfl (fun hc12=>?_) (fun hc12=>?_)
 ·first|rw [if_pos hc12] at h|simp only [hc12,hc7,Bool.or_false,Bool.or_true,Bool.false_or,Bool.true_or,Bool.and_true,Bool.true_and,Bool.and_false,Bool.false_and,Bool.not_true,Bool.not_false,Bool.false_eq_true,if_true,if_false] at h
  refine Ws fun Z hZ=>?_;simp (config := { maxSteps := 4000000 }) only [go_sem,seval,hc12];refine hZ _ (pp (Wk_ret (pp ?_)));cases h;simp (config := { maxSteps := 4000000 }) only [go_sem,seval];exact ⟨_,rfl,(by repeat' (first|exact ROk.refl _|exact ROk.nil _|((refine ROk.of _ ?_ ?_); (focus ((repeat' (first|exact Le.refl _|exact LeL.nil|exact Le.nils|exact LeLL.refl _|refine LeLL.mapAppend ?_ ?_|refine LeLL.cons ?_ ?_|refine Le.sl ?_|refine Le.tup ?_|refine Le.agg ?_|refine LeL.cons ?_ ?_)); done)); (focus ((repeat' (first|exact NoOwn.val _|exact NoOwn.sl _ _ _ _|refine NoOwn.tup ?_|refine NoOwn.agg ?_|exact j1|refine ju ?_ ?_)); done)))|((refine ROk.own ?_ ?_); (focus ((repeat' (first|exact Le.refl _|exact LeL.nil|exact Le.nils|exact LeLL.refl _|refine LeLL.mapAppend ?_ ?_|refine LeLL.cons ?_ ?_|refine Le.sl ?_|refine Le.tup ?_|refine Le.agg ?_|refine LeL.cons ?_ ?_)); done)); (focus ((first|exact RowOk.noOwn (dV .i64) _|exact RowOk.noOwn Answer.row_ok _|exact RowOk.noOwn Client.row_ok _|exact RowOk.noOwn gQ _); done)))|refine ROk.agg rfl ?_|refine ROk.tup rfl ?_|exact lf|refine jZ ?_ ?_))⟩
 first|rw [if_neg (ne_true_of_eq_false hc12)] at h|simp only [hc12,hc7,Bool.or_false,Bool.or_true,Bool.false_or,Bool.true_or,Bool.and_true,Bool.true_and,Bool.and_false,Bool.false_and,Bool.not_true,Bool.not_false,Bool.false_eq_true,if_true,if_false] at h
 refine ak (pp ?_);unfold kM at h;refine Wk_seq ?_;obtain ⟨r18,hr13,h⟩:=Option.bind_eq_some_iff.1 h;refine ae fun Z hZ=>?_;simp (config := { maxSteps := 4000000 }) only [go_sem,seval,hc12,hr13];refine hZ _ (pp (Wk_seq ?_));apply Br (fun (c24:Bool) (c25:Bool)=>⟨tab 101 (updT (updT (updT (updT (updT (updT deadT 0 (.sl false none 4 none (a0.map Client.row))) 1 (.val (.string a1))) 2 (.val (.int .i64 a2))) 8 (.val (.int .i64 r18.1))) 9 (.val (.bool c24))) 66 (.val (.bool c25))),RZ⟩)
 ·intro hJ14;refine fv fun Z hZ=>?_;simp (config := { maxSteps := 4000000 }) only [go_sem,seval];repeat with_reducible refine ek (by kernel_rfl) ?_
  refine sw (bX rfl) (fun hc15=>?_) (fun hc15=>?_)
  ·first|rw [if_neg (ne_true_of_eq_false hc15)] at h|simp only [hc15,hc7,hc12,Bool.or_false,Bool.or_true,Bool.false_or,Bool.true_or,Bool.and_true,Bool.true_and,Bool.and_false,Bool.false_and,Bool.not_true,Bool.not_false,Bool.false_eq_true,if_true,if_false] at h
   simp (config := { maxSteps := 4000000 }) only [go_sem,seval,hc15];repeat with_reducible refine ek (by kernel_rfl) ?_
   refine hZ _ (by kernel_rfl) (pp (hJ14 _ false (decide (((a0.length:Nat):Int)=32)) ?_ h));refine wr ?_ ?_<;>repeat' first|rfl|constructor|simp only [go_sem,seval,Bool.or_self,List.length_set,Int.natCast_zero,Int.cast_ofNat_Int,hc7,hr8,hc9d,hc12,hr13,hc15]
  first|rw [if_pos hc15] at h|simp only [hc15,hc7,hc12,Bool.or_false,Bool.or_true,Bool.false_or,Bool.true_or,Bool.and_true,Bool.true_and,Bool.and_false,Bool.false_and,Bool.not_true,Bool.not_false,Bool.false_eq_true,if_true,if_false] at h
  obtain ⟨x26,hb16,hx17,h⟩:=eA h;simp (config := { maxSteps := 4000000 }) only [go_sem,seval,hc15,hb16,hx17];repeat with_reducible refine ek (by kernel_rfl) ?_
  refine ar rfl (fun hc18=>?_) (fun hc18=>?_)
  ·have hc18d:=decide_eq_true hc18;first|rw [if_pos hc18] at h|rw [if_pos hc18d] at h|simp only [hc18d,Bool.not_true,Bool.not_false,Bool.false_eq_true,if_true,if_false] at h
   simp (config := { maxSteps := 4000000 }) only [go_sem,seval,hc18d];repeat with_reducible refine ek (by kernel_rfl) ?_
   refine hZ _ (by kernel_rfl) (pp (hJ14 _ true true ?_ h));refine wr ?_ ?_<;>repeat' first|rfl|constructor|simp only [go_sem,seval,Bool.or_self,List.length_set,Int.natCast_zero,Int.cast_ofNat_Int,hc7,hr8,hc9d,hc12,hr13,hc15,hb16,hx17,hc18d]
  have hc18d:=decide_eq_false hc18;first|rw [if_neg hc18] at h|rw [if_neg (ne_true_of_eq_false hc18d)] at h|simp only [hc18d,Bool.not_true,Bool.not_false,Bool.false_eq_true,if_true,if_false] at h
  simp (config := { maxSteps := 4000000 }) only [go_sem,seval,hc18d];repeat with_reducible refine ek (by kernel_rfl) ?_
  refine hZ _ (by kernel_rfl) (pp (hJ14 _ true false ?_ h));refine wr ?_ ?_<;>repeat' first|rfl|constructor|simp only [go_sem,seval,Bool.or_self,List.length_set,Int.natCast_zero,Int.cast_ofNat_Int,hc7,hr8,hc9d,hc12,hr13,hc15,hb16,hx17,hc18d]
 intro c24 c25 h;unfold iy at h;refine aH rfl (fun hc19=>?_) (fun hc19=>?_)
 ·first|rw [if_pos hc19] at h|simp only [hc19,hc7,hc12,Bool.or_false,Bool.or_true,Bool.false_or,Bool.true_or,Bool.and_true,Bool.true_and,Bool.and_false,Bool.false_and,Bool.not_true,Bool.not_false,Bool.false_eq_true,if_true,if_false] at h
  refine Ws fun Z hZ=>?_;simp (config := { maxSteps := 4000000 }) only [go_sem,seval,hc19];refine hZ _ (pp (Wk_ret (pp ?_)));cases h;simp (config := { maxSteps := 4000000 }) only [go_sem,seval];exact ⟨_,rfl,(by repeat' (first|exact ROk.refl _|exact ROk.nil _|((refine ROk.of _ ?_ ?_); (focus ((repeat' (first|exact Le.refl _|exact LeL.nil|exact Le.nils|exact LeLL.refl _|refine LeLL.mapAppend ?_ ?_|refine LeLL.cons ?_ ?_|refine Le.sl ?_|refine Le.tup ?_|refine Le.agg ?_|refine LeL.cons ?_ ?_)); done)); (focus ((repeat' (first|exact NoOwn.val _|exact NoOwn.sl _ _ _ _|refine NoOwn.tup ?_|refine NoOwn.agg ?_|exact j1|refine ju ?_ ?_)); done)))|((refine ROk.own ?_ ?_); (focus ((repeat' (first|exact Le.refl _|exact LeL.nil|exact Le.nils|exact LeLL.refl _|refine LeLL.mapAppend ?_ ?_|refine LeLL.cons ?_ ?_|refine Le.sl ?_|refine Le.tup ?_|refine Le.agg ?_|refine LeL.cons ?_ ?_)); done)); (focus ((first|exact RowOk.noOwn (dV .i64) _|exact RowOk.noOwn Answer.row_ok _|exact RowOk.noOwn Client.row_ok _|exact RowOk.noOwn gQ _); done)))|refine ROk.agg rfl ?_|refine ROk.tup rfl ?_|exact lf|refine jZ ?_ ?_))⟩
 first|rw [if_neg (ne_true_of_eq_false hc19)] at h|simp only [hc19,hc7,hc12,Bool.or_false,Bool.or_true,Bool.false_or,Bool.true_or,Bool.and_true,Bool.true_and,Bool.and_false,Bool.false_and,Bool.not_true,Bool.not_false,Bool.false_eq_true,if_true,if_false] at h
 refine ak (pp ?_);unfold iz at h;refine Wk_seq ?_;obtain ⟨r27,hr20,h⟩:=Option.bind_eq_some_iff.1 h;refine ae fun Z hZ=>?_;simp (config := { maxSteps := 4000000 }) only [go_sem,seval,hc19,hr20];refine hZ _ (pp (Wk_seq (Ws fun Z hZ=>?_)));simp (config := { maxSteps := 4000000 }) only [go_sem,seval];refine hZ _ (pp (sw (eS rfl) (fun hc21=>?_) (fun hc21=>?_)))
 ·first|rw [if_pos hc21] at h|simp only [hc21,hc7,hc12,hc19,Bool.or_false,Bool.or_true,Bool.false_or,Bool.true_or,Bool.and_true,Bool.true_and,Bool.and_false,Bool.false_and,Bool.not_true,Bool.not_false,Bool.false_eq_true,if_true,if_false] at h
  refine ak (pp (Wk_seq ?_));obtain ⟨x32,hb28,hx29,h⟩:=eA h;obtain ⟨r33,hr30,h⟩:=Option.bind_eq_some_iff.1 h;refine ae fun Z hZ=>?_;simp (config := { maxSteps := 4000000 }) only [go_sem,seval,hc21,hb28,hx29,hr30];refine hZ _ (pp (Wk_seq ?_));obtain ⟨r34,hr31,h⟩:=Option.bind_eq_some_iff.1 h;refine ae fun Z hZ=>?_;simp (config := { maxSteps := 4000000 }) only [go_sem,seval,hb28,hx29,uD (row:=Client.rowD) (rx:=[.val (.string x32.Name),.val (.int .i64 x32.Low),.sl true none 1 none (x32.Open.map (rowI .i64)),.sl true none 10 none (x32.Done.map Answer.row)]) hx29 rfl rfl,eX (row:=Client.rowD) _ hx29,gU (row:=Client.rowD) hx29 rfl,hr31];refine hZ _ (pp (Ws fun Z hZ=>?_));simp (config := { maxSteps := 4000000 }) only [go_sem,seval];refine hZ _ (pp (fe (qI (n:=68) (Client.mk x32.Name x32.Low r34 x32.Done) (by simp only [go_sem,seval]; rfl) rfl rfl) (fe (om (row:=Client.row) (n:=68) (by simp only [go_sem,seval]; rfl) (by simp only [pn,oe,go_sem,seval]; rfl)) (Wk_ret (pp ?_)))));cases h;simp (config := { maxSteps := 4000000 }) only [go_sem,seval];exact ⟨_,rfl,(by repeat' (first|exact ROk.refl _|exact ROk.nil _|((refine ROk.of _ ?_ ?_); (focus ((repeat' (first|exact Le.refl _|exact LeL.nil|exact Le.nils|exact LeLL.refl _|refine LeLL.mapAppend ?_ ?_|refine LeLL.cons ?_ ?_|refine Le.sl ?_|refine Le.tup ?_|refine Le.agg ?_|refine LeL.cons ?_ ?_)); done)); (focus ((repeat' (first|exact NoOwn.val _|exact NoOwn.sl _ _ _ _|refine NoOwn.tup ?_|refine NoOwn.agg ?_|exact j1|refine ju ?_ ?_)); done)))|((refine ROk.own ?_ ?_); (focus ((repeat' (first|exact Le.refl _|exact LeL.nil|exact Le.nils|exact LeLL.refl _|refine LeLL.mapAppend ?_ ?_|refine LeLL.cons ?_ ?_|refine Le.sl ?_|refine Le.tup ?_|refine Le.agg ?_|refine LeL.cons ?_ ?_)); done)); (focus ((first|exact RowOk.noOwn (dV .i64) _|exact RowOk.noOwn Answer.row_ok _|exact RowOk.noOwn Client.row_ok _|exact RowOk.noOwn gQ _); done)))|refine ROk.agg rfl ?_|refine ROk.tup rfl ?_|exact lf|refine jZ ?_ ?_))⟩
 first|rw [if_neg (ne_true_of_eq_false hc21)] at h|simp only [hc21,hc7,hc12,hc19,Bool.or_false,Bool.or_true,Bool.false_or,Bool.true_or,Bool.and_true,Bool.true_and,Bool.and_false,Bool.false_and,Bool.not_true,Bool.not_false,Bool.false_eq_true,if_true,if_false] at h
 refine fe (om (row:=Client.row) (n:=68) (by simp only [go_sem,seval]; rfl) (by simp only [pn,oe,go_sem,seval]; rfl)) ?_;obtain ⟨r28,hr22,h⟩:=Option.bind_eq_some_iff.1 h;have hx23:=mh hr22;refine ae fun Z hZ=>?_;simp (config := { maxSteps := 4000000 }) only [go_sem,seval,hc21,hr22];refine hZ _ (pp (fe (vx 76 [((r18.1).toNat,2)] 1 (by simp only [go_sem,seval,eX (row:=Client.row) _ hx23]) (by simp only [go_sem,seval,gU (row:=Client.row) hx23 rfl]; try rfl)) (fe (vx 76 [((r18.1).toNat,3)] 10 (by simp only [go_sem,seval,eX (row:=Client.row) _ hx23]) (by simp only [go_sem,seval,gU (row:=Client.row) hx23 rfl]; try rfl)) (Wk_seq ?_))));obtain ⟨x29,hb24,hx25,h⟩:=eA h;obtain rfl:=vQ hx23 hx25;obtain ⟨r30,hr26,h⟩:=Option.bind_eq_some_iff.1 h;refine ae fun Z hZ=>?_;simp (config := { maxSteps := 4000000 }) only [go_sem,seval,eX (row:=Client.row) _ hx23,hb24,hr26];refine hZ _ (pp (Wk_seq ?_));obtain ⟨r31,hr27,h⟩:=Option.bind_eq_some_iff.1 h;refine ae fun Z hZ=>?_;simp (config := { maxSteps := 4000000 }) only [go_sem,seval,eX (row:=Client.row) _ hx23,gU (row:=Client.row) hx23 rfl,hb24,hr27];refine hZ _ (pp (Ws fun Z hZ=>?_));simp (config := { maxSteps := 4000000 }) only [go_sem,seval];refine hZ _ (pp (fe (Aa (n:=76) (Client.mk a1 0 r31 []) [.val (.string a1),.val (.int .i64 0),.sl false none 1 none (r31.map (rowI .i64)),.sl false none 10 none []] (by simp only [go_sem,seval]; rfl) rfl) (Wk_ret (pp ?_))));cases h;simp (config := { maxSteps := 4000000 }) only [go_sem,seval];exact ⟨_,rfl,(by repeat' (first|exact ROk.refl _|exact ROk.nil _|((refine ROk.of _ ?_ ?_); (focus ((repeat' (first|exact Le.refl _|exact LeL.nil|exact Le.nils|exact LeLL.refl _|refine LeLL.mapAppend ?_ ?_|refine LeLL.cons ?_ ?_|refine Le.sl ?_|refine Le.tup ?_|refine Le.agg ?_|refine LeL.cons ?_ ?_)); done)); (focus ((repeat' (first|exact NoOwn.val _|exact NoOwn.sl _ _ _ _|refine NoOwn.tup ?_|refine NoOwn.agg ?_|exact j1|refine ju ?_ ?_)); done)))|((refine ROk.own ?_ ?_); (focus ((repeat' (first|exact Le.refl _|exact LeL.nil|exact Le.nils|exact LeLL.refl _|refine LeLL.mapAppend ?_ ?_|refine LeLL.cons ?_ ?_|refine Le.sl ?_|refine Le.tup ?_|refine Le.agg ?_|refine LeL.cons ?_ ?_)); done)); (focus ((first|exact RowOk.noOwn (dV .i64) _|exact RowOk.noOwn Answer.row_ok _|exact RowOk.noOwn Client.row_ok _|exact RowOk.noOwn gQ _); done)))|refine ROk.agg rfl ?_|refine ROk.tup rfl ?_|exact lf|refine jZ ?_ ?_))⟩
def jC (N:Nat):FnS:=⟨[],false,fn3 (decL 4 Client.dec) decS (decI .i64) fun q0 q1 q2=>(fR N q0 q1 q2).map fun r=>.tup [.sl false none 4 none (r.1.map Client.row),.val (.int .i64 r.2)],false⟩
attribute [go_sem] jC
theorem kP (N:Nat):FSOk Try.prog 10 (jC N):=ok3 (fun q0 q1 q2 r h=>by
 obtain ⟨r',hr,rfl⟩:=Option.map_eq_some_iff.1 h;exact (rL N q0 q1 q2 r' hr).res (by first|((try simp only [go_sem]); exact RokI.h)|(repeat' (first|exact ROk.refl _|exact ROk.nil _|((refine ROk.of _ ?_ ?_); (focus ((repeat' (first|exact Le.refl _|exact LeL.nil|exact Le.nils|exact LeLL.refl _|refine LeLL.mapAppend ?_ ?_|refine LeLL.cons ?_ ?_|refine Le.sl ?_|refine Le.tup ?_|refine Le.agg ?_|refine LeL.cons ?_ ?_)); done)); (focus ((repeat' (first|exact NoOwn.val _|exact NoOwn.sl _ _ _ _|refine NoOwn.tup ?_|refine NoOwn.agg ?_|exact j1|refine ju ?_ ?_)); done)))|((refine ROk.own ?_ ?_); (focus ((repeat' (first|exact Le.refl _|exact LeL.nil|exact Le.nils|exact LeLL.refl _|refine LeLL.mapAppend ?_ ?_|refine LeLL.cons ?_ ?_|refine Le.sl ?_|refine Le.tup ?_|refine Le.agg ?_|refine LeL.cons ?_ ?_)); done)); (focus ((first|exact RowOk.noOwn (dV .i64) _|exact RowOk.noOwn Answer.row_ok _|exact RowOk.noOwn Client.row_ok _|exact RowOk.noOwn gQ _); done)))|refine ROk.agg rfl ?_|refine ROk.tup rfl ?_|exact lf|refine jZ ?_ ?_)))) (fun h=>aF Client.dec_le h) (bw) (aj)

def qf (N:Nat):FnS:=⟨[],false,fn3 (decL 4 Client.dec) decS (decI .i64) fun q0 q1 q2=>(fR N q0 q1 q2).map fun r=>.tup [.sl true none 4 none (r.1.map Client.row),.val (.int .i64 r.2)],false⟩
attribute [go_sem] qf
theorem A9 (N:Nat):FSOk Try.prog 10 (qf N):=ok3 (fun q0 q1 q2 r h=>by
 obtain ⟨r',hr,rfl⟩:=Option.map_eq_some_iff.1 h;exact rL N q0 q1 q2 r' hr) (fun h=>aF Client.dec_le h) (bw) (aj)


theorem s4 (N:Nat) (a0:Int) (c0_0:ByteArray) (c0_1:Int) (c0_2:(List Int)) (c0_3:Int) (c0_4:Int) (c0_5:Int) (c0_6:ByteArray) (c0_7:(List Int)) (c0_8:(List ByteArray)) (r:Bool) (h:fI N a0 c0_0 c0_1 c0_2 c0_3 c0_4 c0_5 c0_6 c0_7 c0_8=some r):Con Try.prog 38 [] true [.val (.int .i64 a0),.iref 9 [[.val (.string c0_0),.val (.int .i64 c0_1),.sl false none 1 none (c0_2.map (rowI .i64)),.val (.int .i64 c0_3),.val (.int .i64 c0_4),.val (.int .i64 c0_5),.val (.string c0_6),.sl false none 1 none (c0_7.map (rowI .i64)),.sl false none 1 none (c0_8.map rowS)]] 0 0] (.val (.bool r)):=by
 refine aV (G:=(glist [])) Try.func38 rfl (by decide) (by kernel_rfl) gn [] mix (Nat.le_of_ble_eq_true rfl) ?_;simp only [Try.f38];unfold fI at h;refine Ws fun Z hZ=>?_;simp only [go_sem,seval];refine hZ _ (pp (Ws fun Z hZ=>?_));simp only [go_sem,seval];refine hZ _ (pp (Wk_ret (pp ?_)));cases h;simp only [go_sem,seval];exact ⟨_,rfl,RokI.h,PureI.h⟩
def gB (N:Nat):FnS:={ own:=[],pure:=true,fn:=fun cs=>match cs with
 | [c0,.iref 9 [[c1_0,c1_1,c1_2,c1_3,c1_4,c1_5,c1_6,c1_7,c1_8]] 0 0]=>((decI .i64) c0).bind fun qc0=>(decS c1_0).bind fun qc1_0=>((decI .i64) c1_1).bind fun qc1_1=>((decL 1 (dec1 (decI .i64))) c1_2).bind fun qc1_2=>((decI .i64) c1_3).bind fun qc1_3=>((decI .i64) c1_4).bind fun qc1_4=>((decI .i64) c1_5).bind fun qc1_5=>(decS c1_6).bind fun qc1_6=>((decL 1 (dec1 (decI .i64))) c1_7).bind fun qc1_7=>((decL 1 (dec1 decS)) c1_8).bind fun qc1_8=>(fI N qc0 qc1_0 qc1_1 qc1_2 qc1_3 qc1_4 qc1_5 qc1_6 qc1_7 qc1_8).map fun r=>.val (.bool r)
 | _=>none }
attribute [go_sem] gB
theorem lJ (N:Nat):FSOk Try.prog 38 (gB N):=by
 refine ⟨fun cs r h=>?_,fun h=>by cases h⟩;simp only [gB] at h;split at h
 ·simp only [Option.bind_eq_some_iff,Option.map_eq_some_iff] at h;obtain ⟨q0,h0,q1,h1,q2,h2,q3,h3,q4,h4,q5,h5,q6,h6,q7,h7,q8,h8,q9,h9,r',hr,rfl⟩:=h;exact ((s4 N q0 q1 q2 q3 q4 q5 q6 q7 q8 q9 r' hr).args (LeL.cons (aj h0) (LeL.cons (Le.iref1 (LeL.cons (bw h1) (LeL.cons (aj h2) (LeL.cons (aF (dy .i64) h3) (LeL.cons (aj h4) (LeL.cons (aj h5) (LeL.cons (aj h6) (LeL.cons (bw h7) (LeL.cons (aF (dy .i64) h8) (LeL.cons (aF jX h9) (LeL.nil))))))))))) (LeL.nil))))
 ·cases h


noncomputable def fQ (N d f:Nat):Option FnS:=glist [(16,38,gB N)] d f
attribute [go_sem] fQ
theorem jT (N:Nat) (a0:(List Int)) (k1_0_0:ByteArray) (k1_0_1:Int) (k1_0_2:(List Int)) (k1_0_3:Int) (k1_0_4:Int) (k1_0_5:Int) (k1_0_6:ByteArray) (k1_0_7:(List Int)) (k1_0_8:(List ByteArray)) (r:Int) (h:bN N a0 k1_0_0 k1_0_1 k1_0_2 k1_0_3 k1_0_4 k1_0_5 k1_0_6 k1_0_7 k1_0_8=some r):Con Try.prog 64 [] true [.sl false none 1 none (a0.map (rowI .i64)),.clo 38 [.iref 9 [[.val (.string k1_0_0),.val (.int .i64 k1_0_1),.sl false none 1 none (k1_0_2.map (rowI .i64)),.val (.int .i64 k1_0_3),.val (.int .i64 k1_0_4),.val (.int .i64 k1_0_5),.val (.string k1_0_6),.sl false none 1 none (k1_0_7.map (rowI .i64)),.sl false none 1 none (k1_0_8.map rowS)]] 0 0]] (.val (.int .i64 r)):=by
 refine aV (G:=(fQ N)) Try.func64 rfl (by decide) (by kernel_rfl) (gc 16 (lJ N) gn) [] mix (Nat.le_of_ble_eq_true rfl) ?_;simp only [Try.f64];unfold bN at h;refine Ws fun Z hZ=>?_;simp only [go_sem,seval];refine hZ _ (pp (Wk_seq (Ws fun Z hZ=>?_)));simp only [go_sem,seval];refine hZ _ (pp (aA (gp fun hreal2=>?_)));have hl1:=hreal2.lenT 0 (by decide) (by simp only [go_sem,seval]; rfl);first|rw [List.length_map] at hl1|rw [eD] at hl1|rw [<-List.map_append,List.length_map] at hl1
 refine gv (fun (v2:Nat) (b:Unit)=>⟨tab 19 (updT (updT (updT (updT deadT 0 (.sl false none 1 none (a0.map (rowI .i64)))) 1 (.clo 38 [.iref 9 [[.val (.string k1_0_0),.val (.int .i64 k1_0_1),.sl false none 1 none (k1_0_2.map (rowI .i64)),.val (.int .i64 k1_0_3),.val (.int .i64 k1_0_4),.val (.int .i64 k1_0_5),.val (.string k1_0_6),.sl false none 1 none (k1_0_7.map (rowI .i64)),.sl false none 1 none (k1_0_8.map rowS)]] 0 0])) 7 (.val (.int .i64 ((a0.length:Nat):Int)))) 8 (.val (.int .i64 ((v2:Nat):Int)))),RZ⟩) () h ?_ ?_
 ·refine wr ?_ ?_<;>repeat' first|rfl|constructor
 rintro v2 ⟨⟩ hi3 h -;rcases (eQ a0 v2 hi3).symm with ⟨hi3',_,hd6⟩|⟨x5,hi3',hx4,hd6⟩
 ·rw [hd6] at h;simp only [aU] at h;refine Ws fun Z hZ=>?_;simp only [go_sem,seval,hi3'];refine hZ _ (pp (Wk_seq ?_));try simp only [Int.ofNat_lt,hi3',if_true,if_false] at h
  refine dB rfl (dL (pp (Ws fun Z hZ=>?_)));simp only [go_sem,seval];refine hZ _ (pp (Wk_ret (pp ?_)));cases h;simp only [go_sem,seval];exact ⟨_,rfl,RokI.h,PureI.h⟩
 rw [hd6] at h;simp only [aU] at h;have hw5:=eI hi3' hl1;refine Ws fun Z hZ=>?_;simp only [go_sem,seval,hi3'];refine hZ _ (pp (Wk_seq ?_));try simp only [Int.ofNat_lt,hi3',if_true,if_false] at h
 refine dG rfl (ak (pp (Wk_seq (aA (Ws fun Z hZ=>?_)))));simp only [go_sem,seval];refine hZ _ (pp (Wk_seq ?_));try rw [gx_nat hx4] at h
 obtain ⟨r1,hr7,h⟩:=Option.bind_eq_some_iff.1 h;refine ae fun Z hZ=>?_;simp only [go_sem,seval,hx4,hi3',hr7];refine hZ _ (pp (aH rfl (fun hc8=>?_) (fun hc8=>?_)))
 ·rw [if_pos hc8] at h;refine Ws fun Z hZ=>?_;simp only [go_sem,seval,hc8];refine hZ _ (pp (Wk_ret (pp ?_)));cases h;simp only [go_sem,seval];exact ⟨_,rfl,RokI.h,PureI.h⟩
 rw [if_neg (ne_true_of_eq_false hc8)] at h;refine ak (pp (ae fun Z hZ=>?_));simp only [go_sem,seval,hw5,hc8];refine hZ _ (pp ?_);first|refine ⟨(),?_,h⟩|refine ⟨hi3',(),?_,h⟩
 refine wr ?_ ?_<;>repeat' first|rfl|constructor
def b9 (N:Nat):FnS:={ own:=[],pure:=true,fn:=fun cs=>match cs with
 | [c0,.clo 38 [.iref 9 [[k1_0_0,k1_0_1,k1_0_2,k1_0_3,k1_0_4,k1_0_5,k1_0_6,k1_0_7,k1_0_8]] 0 0]]=>((decL 1 (dec1 (decI .i64))) c0).bind fun qc0=>(decS k1_0_0).bind fun qk1_0_0=>((decI .i64) k1_0_1).bind fun qk1_0_1=>((decL 1 (dec1 (decI .i64))) k1_0_2).bind fun qk1_0_2=>((decI .i64) k1_0_3).bind fun qk1_0_3=>((decI .i64) k1_0_4).bind fun qk1_0_4=>((decI .i64) k1_0_5).bind fun qk1_0_5=>(decS k1_0_6).bind fun qk1_0_6=>((decL 1 (dec1 (decI .i64))) k1_0_7).bind fun qk1_0_7=>((decL 1 (dec1 decS)) k1_0_8).bind fun qk1_0_8=>(bN N qc0 qk1_0_0 qk1_0_1 qk1_0_2 qk1_0_3 qk1_0_4 qk1_0_5 qk1_0_6 qk1_0_7 qk1_0_8).map fun r=>.val (.int .i64 r)
 | _=>none }
attribute [go_sem] b9
theorem jq (N:Nat):FSOk Try.prog 64 (b9 N):=by
 refine ⟨fun cs r h=>?_,fun h=>by cases h⟩;simp only [b9] at h;split at h
 ·simp only [Option.bind_eq_some_iff,Option.map_eq_some_iff] at h;obtain ⟨q0,h0,q1,h1,q2,h2,q3,h3,q4,h4,q5,h5,q6,h6,q7,h7,q8,h8,q9,h9,r',hr,rfl⟩:=h;exact ((jT N q0 q1 q2 q3 q4 q5 q6 q7 q8 q9 r' hr).args (LeL.cons (aF (dy .i64) h0) (LeL.cons (Le.clo (LeL.cons (Le.iref1 (LeL.cons (bw h1) (LeL.cons (aj h2) (LeL.cons (aF (dy .i64) h3) (LeL.cons (aj h4) (LeL.cons (aj h5) (LeL.cons (aj h6) (LeL.cons (bw h7) (LeL.cons (aF (dy .i64) h8) (LeL.cons (aF jX h9) (LeL.nil))))))))))) (LeL.nil))) (LeL.nil))))
 ·cases h


noncomputable def fE (N d f:Nat):Option FnS:=glist [(10,64,b9 N),(28,38,gB N)] d f
attribute [go_sem] fE
theorem jJ (N:Nat) (a0:(List Int)) (k1_0_0:ByteArray) (k1_0_1:Int) (k1_0_2:(List Int)) (k1_0_3:Int) (k1_0_4:Int) (k1_0_5:Int) (k1_0_6:ByteArray) (k1_0_7:(List Int)) (k1_0_8:(List ByteArray)) (r:(List Int)) (h:bf N a0 k1_0_0 k1_0_1 k1_0_2 k1_0_3 k1_0_4 k1_0_5 k1_0_6 k1_0_7 k1_0_8=some r):Con Try.prog 37 [true,false] true [.sl true none 1 none (a0.map (rowI .i64)),.clo 38 [.iref 9 [[.val (.string k1_0_0),.val (.int .i64 k1_0_1),.sl false none 1 none (k1_0_2.map (rowI .i64)),.val (.int .i64 k1_0_3),.val (.int .i64 k1_0_4),.val (.int .i64 k1_0_5),.val (.string k1_0_6),.sl false none 1 none (k1_0_7.map (rowI .i64)),.sl false none 1 none (k1_0_8.map rowS)]] 0 0]] (.sl true none 1 none (r.map (rowI .i64))):=by
 refine vW (G:=(fE N)) (L:=noL) Try.func37 rfl (by decide) (by kernel_rfl) (gc 10 (jq N) (gc 28 (lJ N) gn)) (fun _ _ _ h=>by cases h) [] mix (Nat.le_of_ble_eq_true rfl) ?_;rw [show entryF [true,false] [.sl true none 1 none (a0.map (rowI .i64)),.clo 38 [.iref 9 [[.val (.string k1_0_0),.val (.int .i64 k1_0_1),.sl false none 1 none (k1_0_2.map (rowI .i64)),.val (.int .i64 k1_0_3),.val (.int .i64 k1_0_4),.val (.int .i64 k1_0_5),.val (.string k1_0_6),.sl false none 1 none (k1_0_7.map (rowI .i64)),.sl false none 1 none (k1_0_8.map rowS)]] 0 0]]=(updT (updT deadT 0 (.pal 0 [] 0 a0.length none)) 1 (.clo 38 [.iref 9 [[.val (.string k1_0_0),.val (.int .i64 k1_0_1),.sl false none 1 none (k1_0_2.map (rowI .i64)),.val (.int .i64 k1_0_3),.val (.int .i64 k1_0_4),.val (.int .i64 k1_0_5),.val (.string k1_0_6),.sl false none 1 none (k1_0_7.map (rowI .i64)),.sl false none 1 none (k1_0_8.map rowS)]] 0 0])) from by funext t; match t with|0=>simp [entryF,jc,viewD,updT]|1=>rfl|t+2=>rfl];rw [show R0 [true,false] [.sl true none 1 none (a0.map (rowI .i64)),.clo 38 [.iref 9 [[.val (.string k1_0_0),.val (.int .i64 k1_0_1),.sl false none 1 none (k1_0_2.map (rowI .i64)),.val (.int .i64 k1_0_3),.val (.int .i64 k1_0_4),.val (.int .i64 k1_0_5),.val (.string k1_0_6),.sl false none 1 none (k1_0_7.map (rowI .i64)),.sl false none 1 none (k1_0_8.map rowS)]] 0 0]]=upd RZ 0 (.sl true none 1 none (a0.map (rowI .i64))) from by funext t; match t with|0=>rfl|1=>rfl|t+2=>rfl];simp only [Try.f37];unfold bf at h;refine Ws fun Z hZ=>?_;simp only [go_sem,seval];refine hZ _ (pp (Wk_seq ?_));obtain ⟨r1,hr1,h⟩:=Option.bind_eq_some_iff.1 h;refine ae fun Z hZ=>?_;simp only [go_sem,seval,hr1];refine hZ _ (pp (Wk_seq (Ws fun Z hZ=>?_)));simp only [go_sem,seval];refine hZ _ (pp (bj rfl (fun hc2=>?_) (fun hc2=>?_)))
 ·have hc2d:=decide_eq_true hc2;rw [if_pos hc2] at h;refine Ws fun Z hZ=>?_;simp only [go_sem,seval,hc2d];refine hZ _ (pp (Wk_ret (pp ?_)));cases h;simp only [go_sem,seval,fG];exact ⟨_,rfl,RokI.h,KeepI.h,PureI.h⟩
 have hc2d:=decide_eq_false hc2;rw [if_neg hc2] at h;refine ak (pp (Wk_seq (Ws fun Z hZ=>?_)));simp only [go_sem,seval,hc2d];refine hZ _ (pp (aA (qa (fun (b:List Int × Int × Int)=>⟨tab 42 (updT (updT (updT (updT deadT 0 (.pal 0 [] 0 b.1.length none)) 1 (.clo 38 [.iref 9 [[.val (.string k1_0_0),.val (.int .i64 k1_0_1),.sl false none 1 none (k1_0_2.map (rowI .i64)),.val (.int .i64 k1_0_3),.val (.int .i64 k1_0_4),.val (.int .i64 k1_0_5),.val (.string k1_0_6),.sl false none 1 none (k1_0_7.map (rowI .i64)),.sl false none 1 none (k1_0_8.map rowS)]] 0 0])) 5 (.val (.int .i64 b.2.1))) 6 (.val (.int .i64 b.2.2))),(upd RZ 0 (.sl true none 1 none (b.1.map (rowI .i64))))⟩) (a0,r1,IntKind.i64.wrap (r1+1)) h ?_ ?_)))
 ·refine wr ?_ ?_<;>repeat' first|rfl|constructor|simp only [go_sem,seval,Bool.or_self,List.length_set,Int.natCast_zero,Int.cast_ofNat_Int,hr1,hc2d]
 rintro n ⟨l4,v5,v6⟩ h -;cases n with
 | zero=>simp [aM] at h
 | succ n=>
 simp only [aM] at h;refine Wk_seq (Ws fun Z hZ=>?_);simp only [go_sem,seval];refine hZ _ (pp (sw (bj rfl) (fun hc3=>?_) (fun hc3=>?_)))
 ·have hc3d:=decide_eq_false hc3;rw [if_neg hc3] at h;refine dL (pp ?_);unfold bu at h;refine Wk_seq ?_;obtain ⟨hs12,h⟩:=qC h;try simp only [Int.toNat_natCast] at hs12 h
  refine ae fun Z hZ=>?_;simp only [go_sem,seval,hc3d,hs12,Nat.zero_le,wS (row:=(rowI .i64)) (z:=0) (rz:=[.val (.int .i64 0)]) (k:=(v5).toNat) (l:=l4) (by have:=hs12; omega) rfl,altX,clearX,al,RowOk.allD (dV .i64)];refine hZ _ (pp (Wk_seq ?_));obtain ⟨hs13,h⟩:=qC h;try simp only [Int.toNat_zero] at hs13 h
  refine ae fun Z hZ=>?_;simp only [go_sem,seval,hs12,Nat.sub_zero,deepV,hs13];refine hZ _ (pp (Wk_ret (pp ?_)));cases h;simp only [go_sem,seval,fG];exact ⟨_,rfl,RokI.h,KeepI.h,PureI.h⟩
 have hc3d:=decide_eq_true hc3;rw [if_pos hc3] at h;refine ak (pp (Wk_seq (aA (Wk_seq ?_))));obtain ⟨x13,hb4,hx5,h⟩:=eA h;refine ae fun Z hZ=>?_;simp only [go_sem,seval,hb4,hx5];refine hZ _ (pp (Wk_seq ?_));obtain ⟨r14,hr6,h⟩:=Option.bind_eq_some_iff.1 h;refine ae fun Z hZ=>?_;simp only [go_sem,seval,hr6];refine hZ _ (pp (sw (eS rfl) (fun hc7=>?_) (fun hc7=>?_)))
 ·rw [if_pos hc7] at h;refine ak (pp (ae fun Z hZ=>?_));simp only [go_sem,seval,hc7];refine hZ _ (pp (⟨_,Nat.lt_succ_self _,(l4,v5,IntKind.i64.wrap (v6+1)),?_,h⟩));refine wr ?_ ?_<;>repeat' first|rfl|constructor|simp only [go_sem,seval,Bool.or_self,List.length_set,Int.natCast_zero,Int.cast_ofNat_Int,hr1,hc2d,hc3d,hb4,hx5,hr6,hc7]
 rw [if_neg (ne_true_of_eq_false hc7)] at h;refine Wk_seq ?_;obtain ⟨x15,hb8,hx9,h⟩:=eA h;have hx11:=uk (y:=x13) hx9;refine ae fun Z hZ=>?_;simp only [go_sem,seval,hc7,hb8,hx9,mv (row:=(rowI .i64)) (y:=x13) (rx:=[.val (.int .i64 x15)]) (ry:=[.val (.int .i64 x13)]) hx9 rfl rfl];refine hZ _ (pp (ae fun Z hZ=>?_));simp only [go_sem,seval];refine hZ _ (pp (ae fun Z hZ=>?_));simp only [go_sem,seval];refine hZ _ (pp (⟨_,Nat.lt_succ_self _,((l4.set ((v5).toNat) x13),IntKind.i64.wrap (v5+1),IntKind.i64.wrap (v6+1)),?_,h⟩));refine wr ?_ ?_<;>repeat' first|rfl|constructor|simp only [go_sem,seval,List.length_set]
def aL (N:Nat):FnS:={ own:=[true,false],pure:=true,fn:=fun cs=>match cs with
 | [c0,.clo 38 [.iref 9 [[k1_0_0,k1_0_1,k1_0_2,k1_0_3,k1_0_4,k1_0_5,k1_0_6,k1_0_7,k1_0_8]] 0 0]]=>((decO 1 (dec1 (decI .i64))) c0).bind fun q0=>(decS k1_0_0).bind fun q1=>((decI .i64) k1_0_1).bind fun q2=>((decL 1 (dec1 (decI .i64))) k1_0_2).bind fun q3=>((decI .i64) k1_0_3).bind fun q4=>((decI .i64) k1_0_4).bind fun q5=>((decI .i64) k1_0_5).bind fun q6=>(decS k1_0_6).bind fun q7=>((decL 1 (dec1 (decI .i64))) k1_0_7).bind fun q8=>((decL 1 (dec1 decS)) k1_0_8).bind fun q9=>(bf N q0 q1 q2 q3 q4 q5 q6 q7 q8 q9).map fun r=>.sl true none 1 none (r.map (rowI .i64))
 | _=>none }
theorem ja (N:Nat):(aL N).own=[true,false]:=rfl
theorem iU (N:Nat):(aL N).pure=true:=rfl
theorem iT (N:Nat):(aL N).peek=false:=rfl
attribute [go_sem] aL ja iU iT
theorem je (N:Nat):FSOk Try.prog 37 (aL N):=by
 refine ⟨fun cs r h=>?_,fun h=>by cases h⟩;simp only [aL] at h;split at h
 ·simp only [Option.bind_eq_some_iff,Option.map_eq_some_iff] at h;obtain ⟨q0,h0,q1,h1,q2,h2,q3,h3,q4,h4,q5,h5,q6,h6,q7,h7,q8,h8,q9,h9,r',hr,rfl⟩:=h;exact (jJ N q0 q1 q2 q3 q4 q5 q6 q7 q8 q9 r' hr).argsO rfl (gK (jI (dV .i64) (dy .i64) h0) (mj (Le.clo (LeL.cons (Le.iref1 (LeL.cons (bw h1) (LeL.cons (aj h2) (LeL.cons (aF (dy .i64) h3) (LeL.cons (aj h4) (LeL.cons (aj h5) (LeL.cons (aj h6) (LeL.cons (bw h7) (LeL.cons (aF (dy .i64) h8) (LeL.cons (aF jX h9) (LeL.nil))))))))))) (LeL.nil))) (lk)))
 ·cases h


def bE:FnS:={ own:=[true,true],pure:=false,fn:=fun _=>none,peek:=true }
theorem aD:bE.own=[true,true]:=rfl
theorem az:bE.peek=true:=rfl
theorem lM:PeekOk Try.prog 65:=
 uB (fn:=Try.f65) (tS:=54) (tR:=4) (e:=58) (size:=10) Try.func65 rfl rfl (by kernel_rfl) (by kernel_rfl) (by kernel_rfl) (by kernel_rfl)
theorem ki:FSOk Try.prog 65 bE:=⟨(fun cs r h=>by simp [bE] at h),fun _=>lM⟩
noncomputable def du:Env:={ T:=tiOf Try.prog,G:=fun d f=>if d=67/\f=65 then some bE else none }
theorem bp:du.T=tiOf Try.prog:=rfl
theorem bo (d:Nat):du.F d=none:=rfl
theorem bn (d f:Nat):du.L d f=none:=rfl
theorem bm:du.G 67 65=some bE:=rfl
theorem ot:GOk Try.prog { T:=tiOf Try.prog,G:=du.G }:=by
 refine ⟨?_,fun _ _ _ h=>by cases h⟩;intro d f fs hfs;simp only [du] at hfs;split at hfs
 ·rename_i hc; obtain ⟨rfl,rfl⟩:=hc; obtain rfl:=Option.some.inj hfs; exact ki
 cases hfs
theorem oW:FunOk Try.prog 39 Try.f39 Try.f39.body.get! := ⟨Try.func39,rfl,by decide,by kernel_rfl⟩
set_option maxHeartbeats 4000000 in
theorem oZ {α:Type} (row:α->List C) (ok:RowOk row) (l:List α) (i:Nat) (x:α) (k:Nat) (r:List α) (hr:r=l.take i++[x]++l.drop i) (hi:i<=l.length) (hsz:(l.length+1) * 144<=140737488355328) (hk1:l.length<=k) (hk2:k<=maxLen) :
  Con Try.prog 39 [true,false,true] false [.sl true none 10 (some k) (l.map row),.val (.int .i64 i),.sl true none 10 none ([x].map row)] (.sl true none 10 none (r.map row)):=by
 refine uJ (E:=du) (qk Try.prog _) ot mix oW (Nat.le_of_ble_eq_true rfl) ?_;intro _;rw [mH (by simp)];rw [show entryF [true,false,true] [C.sl true none 10 (some k) (l.map row),C.val (.int .i64 i),C.sl true none 10 none ([x].map row)]=(updT (updT (updT deadT 0 (.pal 0 [] 0 l.length none)) 1 (.val (.int .i64 i))) 2 (.pal 2 [] 0 1 none)) from by funext t; match t with|0=>simp [entryF,jc,viewD,updT]|1=>rfl|2=>rfl|t+3=>rfl];rw [show R0 [true,false,true] [C.sl true none 10 (some k) (l.map row),C.val (.int .i64 i),C.sl true none 10 none ([x].map row)]=upd (upd RZ 0 (C.sl true none 10 (some k) (l.map row))) 2 (C.sl true none 10 none ([x].map row)) from by funext t; match t with|0=>rfl|1=>rfl|2=>rfl|t+3=>rfl];apply ua;simp only [Try.f39,Option.get!];have hi1:(i:Int)<=(l.length:Int):=by omega
 have hi2:i<=l.length:=hi;have h10:(((1:Nat):Int)=0)=False:=by simp
 have hp:(row x).all Abs.plainCell=true:=ok.plain x;have hf:(row x).map C.frz=(row x):=ok.frz x;have hpD:(row x).all plainD=true:=by have:=(RowOk.allD ok [x]); simpa using this
 have hw1:IntKind.i64.wrap ((l.length:Int)+((1:Nat):Int))=((l.length+1:Nat):Int):=by rw [dY (by omega) (by omega)]; rfl
 have hlt0:(l.take i).length=i:=by simp; omega
 have hes:(10 != 0)=true:=rfl;have hm1:min 1 (l.length+1 - i)=1:=by omega
 have hm2:min (l.length - i) (l.length+1 - (i+1))=l.length - i:=by omega
 have hm3:(l.drop i).take (l.length - i)=l.drop i:=List.take_of_length_le (by simp);have hm4:i+1<=l.length+1:=by omega
 have hw2:IntKind.i64.wrap (((l.length+1:Nat):Int) - (i:Int))=((l.length+1 - i:Nat):Int):=by rw [dY (by omega) (by omega)]; omega
 have hw1b:IntKind.i64.wrap ((l.length:Int)+1)=((l.length+1:Nat):Int):=hw1;have hw3:IntKind.i64.wrap ((i:Int)+((1:Nat):Int))=((i+1:Nat):Int):=by rw [dY (by omega) (by omega)]; rfl
 have hw3b:IntKind.i64.wrap ((i:Int)+1)=((i+1:Nat):Int):=hw3;simp only [go_sem,seval,bp,bo,bn,bm,hi1,hi2,h10,Nat.le_refl,hp,hf,hpD,RowOk.frzRows ok,RowOk.all ok,RowOk.allPlain ok,RowOk.allD ok,al,RX_cap,bT,altX,roomS,roomC,cutC,copyX,bg,ai,extOf,Ext.all,peekX,aN,Option.map_some,hw1,hw2,hw3,hw1b,hw3b,Nat.min_self,Nat.zero_le,Nat.sub_zero,deepV,bne_self_eq_false,List.isEmpty_nil,decide_not,List.length_replicate,hlt0,hm1,hm2,hm3,hm4,aD,az,Nat.not_succ_le_self];refine tc rfl ?_;simp only [go_sem,seval,bp,bo,bn,bm,hi1,hi2,h10,Nat.le_refl,hp,hf,hpD,RowOk.frzRows ok,RowOk.all ok,RowOk.allPlain ok,RowOk.allD ok,al,RX_cap,bT,altX,roomS,roomC,cutC,copyX,bg,ai,extOf,Ext.all,peekX,aN,Option.map_some,hw1,hw2,hw3,hw1b,hw3b,Nat.min_self,Nat.zero_le,Nat.sub_zero,deepV,bne_self_eq_false,List.isEmpty_nil,decide_not,List.length_replicate,hlt0,hm1,hm2,hm3,hm4,aD,az,Nat.not_succ_le_self];refine j8 rfl (fun hc=>?_) (fun hc=>?_)
 ·have e:i=l.length:=by omega
  subst e;simp only [go_sem,seval,bp,bo,bn,bm,hi1,hi2,h10,Nat.le_refl,hp,hf,hpD,RowOk.frzRows ok,RowOk.all ok,RowOk.allPlain ok,RowOk.allD ok,al,RX_cap,bT,altX,roomS,roomC,cutC,copyX,bg,ai,extOf,Ext.all,peekX,aN,Option.map_some,hw1,hw2,hw3,hw1b,hw3b,Nat.min_self,Nat.zero_le,Nat.sub_zero,deepV,bne_self_eq_false,List.isEmpty_nil,decide_not,List.length_replicate,hlt0,hm1,hm2,hm3,hm4,aD,az,Nat.not_succ_le_self,fG,fS,hsz];refine j9 ok ?_;rw [hr];simp [List.take_of_length_le]
 ·have hc1:decide ((i:Int)=(l.length:Int))=false:=decide_eq_false hc;have hlt:i < l.length:=by omega
  simp only [go_sem,seval,bp,bo,bn,bm,hi1,hi2,h10,Nat.le_refl,hp,hf,hpD,RowOk.frzRows ok,RowOk.all ok,RowOk.allPlain ok,RowOk.allD ok,al,RX_cap,bT,altX,roomS,roomC,cutC,copyX,bg,ai,extOf,Ext.all,peekX,aN,Option.map_some,hw1,hw2,hw3,hw1b,hw3b,Nat.min_self,Nat.zero_le,Nat.sub_zero,deepV,bne_self_eq_false,List.isEmpty_nil,decide_not,List.length_replicate,hlt0,hm1,hm2,hm3,hm4,aD,az,Nat.not_succ_le_self,hc1];refine j8 rfl (fun hk=>?_) (fun hk=>?_)
  ·have hk1:decide (k < l.length+1)=true:=decide_eq_true hk;have hk2:k < i+(l.length+1 - i):=by omega
   have e1:i+(l.length+1 - i)=l.length+1:=by omega
   have hi3:(i:Int)<=((l.length+1:Nat):Int):=by omega
   have hi4:i<=l.length+1:=by omega
   obtain ⟨A,hA⟩:∃ A,List.map row (List.take i l)++List.replicate (l.length+1 - i) [C.val (Value.int .i64 0),C.val (Value.string ⟨#[]⟩),C.val (Value.int .i64 0),C.val (Value.slice none 0 0),C.val (Value.int .i64 0),C.val (Value.int .i64 0),C.val (Value.int .i64 0),C.val (Value.string ⟨#[]⟩),C.val (Value.slice none 0 0),C.val (Value.slice none 0 0)]=A:=⟨_,rfl⟩;have hAp:bh A:=by rw [<-hA]; exact fc (eu ok _) (oL _ [Value.int .i64 0,Value.string ⟨#[]⟩,Value.int .i64 0,Value.slice none 0 0,Value.int .i64 0,Value.int .i64 0,Value.int .i64 0,Value.string ⟨#[]⟩,Value.slice none 0 0,Value.slice none 0 0] (by simp [Value.oneCell']))
   have hAl:A.length=l.length+1:=by rw [<-hA,List.length_append,List.length_map,hlt0,List.length_replicate]; omega
   obtain ⟨B,hB⟩:∃ B,au A i [(row x)]=B:=⟨_,rfl⟩;have hBp:bh B:=by rw [<-hB]; exact et hAp ⟨by simp [frzRows,hf],by simp [hpD]⟩
   have hBl:B.length=l.length+1:=by rw [<-hB]; simp [au,hAl]; omega
   obtain ⟨D,hD⟩:∃ D,au B (i+1) (List.map row (List.drop i l))=D:=⟨_,rfl⟩;have hDp:bh D:=by rw [<-hD]; exact et hBp (eu ok _)
   have hDl:D.length=l.length+1:=by rw [<-hD]; simp [au,hBl]; omega
   have hDe:D=(l.take i++[x]++l.drop i).map row:=by
    rw [<-hD,<-hB,<-hA,List.map_take,List.map_drop,tZ (A:=l.map row) (n:=l.length) (by simp) hi2 (by simp)];simp
   simp only [go_sem,seval,bp,bo,bn,bm,hi1,hi2,h10,Nat.le_refl,hp,hf,hpD,RowOk.frzRows ok,RowOk.all ok,RowOk.allPlain ok,RowOk.allD ok,al,RX_cap,bT,altX,roomS,roomC,cutC,copyX,bg,ai,extOf,Ext.all,peekX,aN,Option.map_some,hw1,hw2,hw3,hw1b,hw3b,Nat.min_self,Nat.zero_le,Nat.sub_zero,deepV,bne_self_eq_false,List.isEmpty_nil,decide_not,List.length_replicate,hlt0,hm1,hm2,hm3,hm4,aD,az,Nat.not_succ_le_self,hc1,hk1,hk,hk2,e1,hi3,hi4,hA,hAl,hAp.1,hAp.2,hB,hBp.1,hBp.2,hBl,hD,hDp.1,hDp.2,hsz];repeat' ((with_reducible refine ek ?_ ?_); kernel_rfl)
   simp only [go_sem,seval,bp,bo,bn,bm,hi1,hi2,h10,Nat.le_refl,hp,hf,hpD,RowOk.frzRows ok,RowOk.all ok,RowOk.allPlain ok,RowOk.allD ok,al,RX_cap,bT,altX,roomS,roomC,cutC,copyX,bg,ai,extOf,Ext.all,peekX,aN,Option.map_some,hw1,hw2,hw3,hw1b,hw3b,Nat.min_self,Nat.zero_le,Nat.sub_zero,deepV,bne_self_eq_false,List.isEmpty_nil,decide_not,List.length_replicate,hlt0,hm1,hm2,hm3,hm4,aD,az,Nat.not_succ_le_self,fG,fS,hDp.1,hDp.2,hD];refine j9 ok ?_;rw [hr,<-hDe,<-hDl,List.take_length]
  ·have hk1:decide (k < l.length+1)=false:=decide_eq_false hk;have hk2:¬ k < i+(l.length+1 - i):=by omega
   have hk3:l.length+1<=k:=by omega
   have e2:l.length+1 - l.length=1:=by omega
   have e3:l.length<=l.length+1:=by omega
   have hi3:(i:Int)<=((l.length+1:Nat):Int):=by omega
   have hi4:i<=l.length+1:=by omega
   have hne:¬ l.length+1 - (i+1)=0:=by omega
   have hne2:¬ l.length - i=0:=by omega
   obtain ⟨A,hA⟩:∃ A,List.map row l++[[C.dead,C.dead,C.dead,C.dead,C.dead,C.dead,C.dead,C.dead,C.dead,C.dead]]=A:=⟨_,rfl⟩;have hAp:bh A:=by rw [<-hA]; exact fc (eu ok _) (oV 1 10)
   have hAl:A.length=l.length+1:=by rw [<-hA]; simp
   have hm5:min (l.length+1 - i) (l.length+1 - (i+1))=l.length - i:=by omega
   have hm5b:min (l.length+1 - i) (l.length - i)=l.length - i:=by omega
   obtain ⟨A2,hA2⟩:∃ A2,(A.drop i).take (l.length - i)=A2:=⟨_,rfl⟩;have hA2e:A2=List.map row (l.drop i):=by
    rw [<-hA2,<-hA,List.drop_append,List.length_map,show i - l.length=0 by omega,List.drop_zero,List.take_append,List.take_of_length_le (by simp),show l.length - i - (List.drop i (List.map row l)).length=0 by simp];simp [List.map_drop]
   have hA2p:(A2.all fun r=>r.all Abs.plainCell)=true:=by rw [hA2e]; exact ok.allPlain _
   have hA2f:frzRows A2=A2:=by rw [hA2e]; exact ok.frzRows _
   have hA2d:bh A2:=by rw [hA2e]; exact eu ok _
   obtain ⟨B,hB⟩:∃ B,au A (i+1) A2=B:=⟨_,rfl⟩;have hBp:bh B:=by rw [<-hB]; exact et hAp hA2d
   have hBl:B.length=l.length+1:=by rw [<-hB]; simp [au,hAl,hA2e]; omega
   obtain ⟨D,hD⟩:∃ D,au B i [(row x)]=D:=⟨_,rfl⟩;have hDp:bh D:=by rw [<-hD]; exact et hBp ⟨by simp [frzRows,hf],by simp [hpD]⟩
   have hDl:D.length=l.length+1:=by rw [<-hD]; simp [au,hBl]; omega
   have hDe:D=(l.take i++[x]++l.drop i).map row:=by
    rw [<-hD,<-hB,<-hA2,<-hA,s3 (A:=l.map row) (n:=l.length) (by simp) hi2];simp [List.map_take,List.map_drop]
   simp only [go_sem,seval,bp,bo,bn,bm,hi1,hi2,h10,Nat.le_refl,hp,hf,hpD,RowOk.frzRows ok,RowOk.all ok,RowOk.allPlain ok,RowOk.allD ok,al,RX_cap,bT,altX,roomS,roomC,cutC,copyX,bg,ai,extOf,Ext.all,peekX,aN,Option.map_some,hw1,hw2,hw3,hw1b,hw3b,Nat.min_self,Nat.zero_le,Nat.sub_zero,deepV,bne_self_eq_false,List.isEmpty_nil,decide_not,List.length_replicate,hlt0,hm1,hm2,hm3,hm4,aD,az,Nat.not_succ_le_self,hc1,hk1,hk,hk2,hk3,e2,e3,hi3,hi4,hne,hne2,hA,hAl,hAp.1,hAp.2,hes,hA2,hA2p,hA2f,hB,hBp.1,hBp.2,hBl,hD,hDp.1,hDp.2,hDl,hm5,hm5b];refine sY rfl ?_;simp only [go_sem,seval,bp,bo,bn,bm,hi1,hi2,h10,Nat.le_refl,hp,hf,hpD,RowOk.frzRows ok,RowOk.all ok,RowOk.allPlain ok,RowOk.allD ok,al,RX_cap,bT,altX,roomS,roomC,cutC,copyX,bg,ai,extOf,Ext.all,peekX,aN,Option.map_some,hw1,hw2,hw3,hw1b,hw3b,Nat.min_self,Nat.zero_le,Nat.sub_zero,deepV,bne_self_eq_false,List.isEmpty_nil,decide_not,List.length_replicate,hlt0,hm1,hm2,hm3,hm4,aD,az,Nat.not_succ_le_self,hc1,hk1,hk,hk2,hk3,e2,e3,hi3,hi4,hne,hne2,hA,hAl,hAp.1,hAp.2,hes,hA2,hA2p,hA2f,hB,hBp.1,hBp.2,hBl,hD,hDp.1,hDp.2,hDl,hm5,hm5b];repeat' ((with_reducible refine ek ?_ ?_); kernel_rfl)
   simp only [go_sem,seval,bp,bo,bn,bm,hi1,hi2,h10,Nat.le_refl,hp,hf,hpD,RowOk.frzRows ok,RowOk.all ok,RowOk.allPlain ok,RowOk.allD ok,al,RX_cap,bT,altX,roomS,roomC,cutC,copyX,bg,ai,extOf,Ext.all,peekX,aN,Option.map_some,hw1,hw2,hw3,hw1b,hw3b,Nat.min_self,Nat.zero_le,Nat.sub_zero,deepV,bne_self_eq_false,List.isEmpty_nil,decide_not,List.length_replicate,hlt0,hm1,hm2,hm3,hm4,aD,az,Nat.not_succ_le_self,fG,fS,hDp.1,hDp.2,hD,hDl];refine j9 ok ?_;rw [hr,<-hDe,<-hDl,List.take_length]
theorem py (N:Nat) (a0:List Answer) (a1:Int) (a2:List Answer) (r:List Answer) (h:eB N a0 a1 a2=some r) :
  Con Try.prog 39 [true,false,true] false [.sl true none 10 none (a0.map Answer.row),.val (.int .i64 a1),.sl true none 10 none (a2.map Answer.row)] (.sl true none 10 none (r.map Answer.row)):=by
 unfold eB at h;obtain ⟨n,x,rfl,rfl,h1,h2,h3⟩:=mJ h;exact su fun k hk1 hk2=>oZ Answer.row Answer.row_ok a0 n x k r (Option.some.inj h3).symm h1 h2 (by simpa using hk1) hk2
def bZ (N:Nat):FnS:={ own:=[true,false,true],pure:=false,fn:=fun cs=>match cs with
 | [c0,c1,c2]=>(decO 10 Answer.dec c0).bind fun q0=>(decI .i64 c1).bind fun q1=>(decO 10 Answer.dec c2).bind fun q2=>(eB N q0 q1 q2).map fun r=>.sl true none 10 none (r.map Answer.row)
 | _=>none }
theorem mi (N:Nat):(bZ N).own=[true,false,true]:=rfl
theorem lK (N:Nat):(bZ N).pure=false:=rfl
theorem lS (N:Nat):(bZ N).peek=false:=rfl
attribute [go_sem] bZ mi lK lS
theorem mN (N:Nat):FSOk Try.prog 39 (bZ N):=by
 refine ⟨fun cs r h=>?_,fun h=>by cases h⟩;simp only [bZ] at h;split at h
 ·simp only [Option.bind_eq_some_iff,Option.map_eq_some_iff] at h;obtain ⟨q0,h0,q1,h1,q2,h2,r',hr,rfl⟩:=h;exact (py N q0 q1 q2 r' hr).argsO rfl (gK (jI Answer.row_ok Answer.dec_le h0) (mj (aj h1) (gK (jI Answer.row_ok Answer.dec_le h2) lk)))
 ·cases h


noncomputable def p7 (N d f:Nat):Option FnS:=glist [(13,22,fP N),(17,24,ib N),(26,20,ei N),(29,29,iA N),(34,28,jB N),(46,37,aL N),(80,40,gZ N),(83,39,bZ N)] d f
attribute [go_sem] p7
theorem pT (N:Nat) (a0:(List Client)) (a1:Reply) (r:(List Client) × Int) (h:fw N a0 a1=some r):Con Try.prog 12 [] false [.sl false none 4 none (a0.map Client.row),.agg (Reply.row a1)] (.tup [.sl true none 4 none (r.1.map Client.row),.val (.int .i64 r.2)]):=by
 refine aV (G:=(p7 N)) Try.func12 rfl (by decide) (by kernel_rfl) (gc 13 (gC N) (gc 17 (kG N) (gc 26 (en N) (gc 29 (jV N) (gc 34 (kQ N) (gc 46 (je N) (gc 80 (kC N) (gc 83 (mN N) gn)))))))) [] mix (Nat.le_of_ble_eq_true rfl) ?_;simp only [Try.f12];unfold fw at h;refine Ws fun Z hZ=>?_;simp only [go_sem,seval];refine hZ _ (pp (Wk_seq (aA ?_)));apply dh (fun (c8:Bool)=>⟨tab 87 (updT (updT (updT deadT 0 (.sl false none 4 none (a0.map Client.row))) 3 (.pref 3 [] 0 0)) 11 (.val (.bool c8))),(upd RZ 3 (.sl true none 9 (some 1) [Reply.row a1]))⟩)
 ·intro hJ1;obtain ⟨r9,hr2,h⟩:=Option.bind_eq_some_iff.1 h;refine ae fun Z hZ=>?_;simp only [go_sem,seval,hr2];refine dp rfl (fun hc3=>?_) (fun hc3=>?_)
  ·rw [if_neg (ne_true_of_eq_false hc3)] at h;simp only [go_sem,seval,hc3];refine hZ _ (pp (hJ1 _ true ?_ h));refine wr ?_ ?_<;>repeat' first|rfl|constructor
  rw [if_pos hc3] at h;obtain ⟨r10,hr4,h⟩:=Option.bind_eq_some_iff.1 h;simp only [go_sem,seval,hc3,hr4];refine hZ _ (pp (hJ1 _ (!r10) ?_ h));refine wr ?_ ?_<;>repeat' first|rfl|constructor
 intro c8 h;unfold jM at h;refine aH rfl (fun hc5=>?_) (fun hc5=>?_)
 ·rw [if_pos hc5] at h;refine Ws fun Z hZ=>?_;simp only [go_sem,seval,hc5];refine hZ _ (pp (Wk_ret (pp ?_)));cases h;simp only [go_sem,seval];exact ⟨_,rfl,RokI.h⟩
 rw [if_neg (ne_true_of_eq_false hc5)] at h;refine Wk_seq ?_;obtain ⟨r11,hr6,h⟩:=Option.bind_eq_some_iff.1 h;refine ae fun Z hZ=>?_;simp only [go_sem,seval,hc5,hr6];refine hZ _ (pp (rM rfl (fun hc7=>?_) (fun hc7=>?_)))
 ·have hc7d:=decide_eq_false hc7;rw [if_neg hc7] at h;refine Ws fun Z hZ=>?_;simp only [go_sem,seval,hc7d];refine hZ _ (pp (Wk_ret (pp ?_)));cases h;simp only [go_sem,seval];exact ⟨_,rfl,RokI.h⟩
 have hc7d:=decide_eq_true hc7;rw [if_pos hc7] at h;refine ak (pp ?_);unfold jR at h;refine Wk_seq ?_;obtain ⟨r12,hr8,h⟩:=Option.bind_eq_some_iff.1 h;refine ae fun Z hZ=>?_;simp only [go_sem,seval,hc7d,hr8];refine hZ _ (pp (Wk_seq ?_));obtain ⟨r13,hr9,h⟩:=Option.bind_eq_some_iff.1 h;refine ae fun Z hZ=>?_;simp only [go_sem,seval,hr9];refine hZ _ (pp (Wk_seq ?_));obtain ⟨x14,hb10,hx11,h⟩:=eA h;refine ae fun Z hZ=>?_;simp only [go_sem,seval,hb10];refine hZ _ (pp (Wk_seq ?_));obtain ⟨r15,hr12,h⟩:=Option.bind_eq_some_iff.1 h;refine ae fun Z hZ=>?_;simp only [go_sem,seval,hx11,uD (row:=Client.rowD) (rx:=[.val (.string x14.Name),.val (.int .i64 x14.Low),.sl true none 1 none (x14.Open.map (rowI .i64)),.sl true none 10 none (x14.Done.map Answer.row)]) hx11 rfl rfl,eX (row:=Client.rowD) _ hx11,gU (row:=Client.rowD) hx11 rfl,hr12];refine hZ _ (pp (Ws fun Z hZ=>?_));simp only [go_sem,seval];refine hZ _ (pp ?_);apply dh (fun (v23:Int)=>⟨tab 87 (updT (updT (updT (updT deadT 3 (.pref 3 [] 0 0)) 6 (.pal 29 [] 0 r12.length none)) 9 (.pref 29 [] ((r13.1).toNat) 0)) 10 (.val (.int .i64 v23))),(upd (upd RZ 3 (.sl true none 9 (some 1) [Reply.row a1])) 29 (.sl true none 4 none ((r12.map Client.rowD).set ((r13.1).toNat) [.val (.string x14.Name),.val (.int .i64 x14.Low),.sl true none 1 none (r15.map (rowI .i64)),.sl true none 10 none (x14.Done.map Answer.row)])))⟩)
 ·intro hJ13;refine aA (gp fun hreal15=>?_);have hl14:=hreal15.lenAt 29 [((r13.1).toNat,3)] (by simp only [go_sem,seval,eX (row:=Client.rowD) _ hx11]; rfl);first|rw [List.length_map] at hl14|rw [eD] at hl14|rw [<-List.map_append,List.length_map] at hl14
  refine gv (fun (v12:Nat) (b:Unit)=>⟨tab 87 (updT (updT (updT (updT deadT 3 (.pref 3 [] 0 0)) 6 (.pal 29 [] 0 r12.length none)) 9 (.pref 29 [] ((r13.1).toNat) 0)) 10 (.val (.int .i64 ((v12:Nat):Int)))),(upd (upd RZ 3 (.sl true none 9 (some 1) [Reply.row a1])) 29 (.sl true none 4 none ((r12.map Client.rowD).set ((r13.1).toNat) [.val (.string x14.Name),.val (.int .i64 x14.Low),.sl true none 1 none (r15.map (rowI .i64)),.sl true none 10 none (x14.Done.map Answer.row)])))⟩) () h ?_ ?_
  ·refine wr ?_ ?_<;>repeat' first|rfl|constructor
  rintro v12 ⟨⟩ hi16 h -;rcases (eQ x14.Done v12 hi16).symm with ⟨hi16',_,hd19⟩|⟨x16,hi16',hx17,hd19⟩
  ·rw [hd19] at h;simp only [gj] at h;refine Wk_seq (Wk_seq ?_);try simp only [Int.ofNat_lt,hi16',if_true,if_false] at h
   refine fv fun Z hZ=>?_;simp only [go_sem,seval,eX (row:=Client.rowD) _ hx11,hi16'];repeat with_reducible refine ek (by kernel_rfl) ?_
   refine hZ _ (by kernel_rfl) (pp (dB rfl ?_));first|rw [if_pos (rfl:true=true)] at h|rw [if_neg Bool.false_ne_true] at h|skip
   refine dL (pp (hJ13 _ ((v12:Nat):Int) ?_ h));refine wr ?_ ?_<;>repeat' first|rfl|constructor
  rw [hd19] at h;simp only [gj] at h;have hw18:=eI hi16' hl14;refine Wk_seq (Wk_seq ?_);try simp only [Int.ofNat_lt,hi16',if_true,if_false] at h
  try rw [gx_nat hx17] at h
  refine fv fun Z hZ=>?_;simp only [go_sem,seval,eX (row:=Client.rowD) _ hx11,hx17,hi16'];repeat with_reducible refine ek (by kernel_rfl) ?_
  refine hZ _ (by kernel_rfl) (pp (sw (bj rfl) (fun hc20=>?_) (fun hc20=>?_)))
  ·have hc20d:=decide_eq_false hc20;rw [if_neg hc20] at h;refine dL (pp (hJ13 _ ((v12:Nat):Int) ?_ h));refine wr ?_ ?_<;>repeat' first|rfl|constructor
  have hc20d:=decide_eq_true hc20;rw [if_pos hc20] at h;refine ak (pp (aA (ae fun Z hZ=>?_)));simp only [go_sem,seval,hw18,hc20d];refine hZ _ (pp ?_);first|refine ⟨(),?_,h⟩|refine ⟨hi16',(),?_,h⟩
  refine wr ?_ ?_<;>repeat' first|rfl|constructor
 intro v23 h;unfold lC at h;refine Wk_seq (zD [0,1,2,3,4,5,6,7,8] [9,10,11] [] [12,13,14,15] [29,3] (by kernel_rfl) fun Z hZ Y hY=>?_);simp only [go_sem,seval,eX (row:=Client.rowD) _ hx11];refine hY _ (by kernel_rfl) (qU (by simp only [go_sem,seval,chkA,Option.isNone,Bool.and_true]; try rfl) fun Y hY=>?_);obtain ⟨r24,hr21,h⟩:=Option.bind_eq_some_iff.1 h;simp only [go_sem,seval,hr21];refine hY _ (by kernel_rfl) (qU (by kernel_rfl) fun Y hY=>?_);simp only [go_sem,seval];refine hY _ (by kernel_rfl) (qU (by kernel_rfl) fun Y hY=>?_);simp only [go_sem,seval];refine hY _ (by kernel_rfl) (y7 ?_);obtain ⟨r25,hr22,h⟩:=Option.bind_eq_some_iff.1 h;simp only [go_sem,seval,eX (row:=Client.rowD) _ hx11,gU (row:=Client.rowD) hx11 rfl,hr22];refine hZ _ (pp (Ws fun Z hZ=>?_));simp only [go_sem,seval];refine hZ _ (pp (fe (qI (n:=29) (Client.mk x14.Name x14.Low r15 r25) (by simp only [go_sem,seval]; rfl) rfl rfl) (fe (om (row:=Client.row) (n:=29) (by simp only [go_sem,seval]; rfl) (by simp only [pn,oe,go_sem,seval]; rfl)) (Wk_ret (pp ?_)))));cases h;simp only [go_sem,seval];exact ⟨_,rfl,RokI.h⟩
def jP (N:Nat):FnS:=⟨[],false,fn2 (decL 4 Client.dec) Reply.decA fun q0 q1=>(fw N q0 q1).map fun r=>.tup [.sl false none 4 none (r.1.map Client.row),.val (.int .i64 r.2)],false⟩
attribute [go_sem] jP
theorem mB (N:Nat):FSOk Try.prog 12 (jP N):=ok2 (fun q0 q1 r h=>by
 obtain ⟨r',hr,rfl⟩:=Option.map_eq_some_iff.1 h;exact (pT N q0 q1 r' hr).res (by (try simp only [go_sem]); exact RokI.h)) (fun h=>aF Client.dec_le h) (Reply.decA_le)

def oI (N:Nat):FnS:=⟨[],false,fn2 (decL 4 Client.dec) Reply.decA fun q0 q1=>(fw N q0 q1).map fun r=>.tup [.sl true none 4 none (r.1.map Client.row),.val (.int .i64 r.2)],false⟩
attribute [go_sem] oI
theorem zZ (N:Nat):FSOk Try.prog 12 (oI N):=ok2 (fun q0 q1 r h=>by
 obtain ⟨r',hr,rfl⟩:=Option.map_eq_some_iff.1 h;exact pT N q0 q1 r' hr) (fun h=>aF Client.dec_le h) (Reply.decA_le)


noncomputable def re (N d f:Nat):Option FnS:=glist [(14,44,jQ N)] d f
attribute [go_sem] re
theorem vD (N:Nat) (a0:(List Client)) (a1:ByteArray) (a2:Int) (r:Reply × Bool) (h:iZ N a0 a1 a2=some r):Con Try.prog 16 [] false [.sl false none 4 none (a0.map Client.row),.val (.string a1),.val (.int .i64 a2)] (.tup [.agg (Reply.row r.1),.val (.bool r.2)]):=by
 refine aV (G:=(re N)) Try.func16 rfl (by decide) (by kernel_rfl) (gc 14 (mR N) gn) [] mix (Nat.le_of_ble_eq_true rfl) ?_;simp only [Try.f16];unfold iZ at h;refine Ws fun Z hZ=>?_;simp only [go_sem,seval];refine hZ _ (pp (Wk_seq ?_));obtain ⟨r1,hr1,h⟩:=Option.bind_eq_some_iff.1 h;refine ae fun Z hZ=>?_;simp only [go_sem,seval,hr1];refine hZ _ (pp (Ws fun Z hZ=>?_));simp only [go_sem,seval];refine hZ _ (pp (Wk_ret (pp ?_)));cases h;simp only [go_sem,seval];exact ⟨_,rfl,RokI.h⟩
def kg (N:Nat):FnS:=⟨[],false,fn3 (decL 4 Client.dec) decS (decI .i64) fun q0 q1 q2=>(iZ N q0 q1 q2).map fun r=>.tup [.agg (Reply.row r.1),.val (.bool r.2)],false⟩
attribute [go_sem] kg
theorem m5 (N:Nat):FSOk Try.prog 16 (kg N):=ok3 (fun q0 q1 q2 r h=>by
 obtain ⟨r',hr,rfl⟩:=Option.map_eq_some_iff.1 h;exact vD N q0 q1 q2 r' hr) (fun h=>aF Client.dec_le h) (bw) (aj)


noncomputable def lT (N d f:Nat):Option FnS:=glist [(13,22,fP N),(17,26,iv N),(22,27,iL N),(28,28,jB N),(54,29,iA N),(73,42,qQ N)] d f
attribute [go_sem] lT
theorem lU (N:Nat) (a0:(List Client)) (a1:ByteArray) (a2:Int) (r:(List Client) × Int) (h:dC N a0 a1 a2=some r):Con Try.prog 14 [] false [.sl false none 4 none (a0.map Client.row),.val (.string a1),.val (.int .i64 a2)] (.tup [.sl true none 4 none (r.1.map Client.row),.val (.int .i64 r.2)]):=by
 refine aV (G:=(lT N)) Try.func14 rfl (by decide) (by kernel_rfl) (gc 13 (gC N) (gc 17 (jt N) (gc 22 (j6 N) (gc 28 (kQ N) (gc 54 (jV N) (gc 73 (vE N) gn)))))) [] mix (Nat.le_of_ble_eq_true rfl) ?_;simp only [Try.f14];unfold dC at h;refine Ws fun Z hZ=>?_;simp only [go_sem,seval];refine hZ _ (pp (Wk_seq ?_));apply dh (fun (c9:Bool)=>⟨tab 77 (updT (updT (updT (updT deadT 0 (.sl false none 4 none (a0.map Client.row))) 1 (.val (.string a1))) 2 (.val (.int .i64 a2))) 24 (.val (.bool c9))),RZ⟩)
 ·intro hJ1;obtain ⟨r10,hr2,h⟩:=Option.bind_eq_some_iff.1 h;refine ae fun Z hZ=>?_;simp only [go_sem,seval,hr2];refine dp rfl (fun hc3=>?_) (fun hc3=>?_)
  ·rw [if_neg (ne_true_of_eq_false hc3)] at h;simp only [go_sem,seval,hc3];refine hZ _ (pp (hJ1 _ true ?_ h));refine wr ?_ ?_<;>repeat' first|rfl|constructor
  rw [if_pos hc3] at h;obtain ⟨r11,hr4,h⟩:=Option.bind_eq_some_iff.1 h;simp only [go_sem,seval,hc3,hr4];refine dp rfl (fun hc5=>?_) (fun hc5=>?_)
  ·rw [if_neg (ne_true_of_eq_false hc5)] at h;simp only [go_sem,seval,hc5];refine hZ _ (pp (hJ1 _ true ?_ h));refine wr ?_ ?_<;>repeat' first|rfl|constructor
  rw [if_pos hc5] at h;obtain ⟨r12,hr6,h⟩:=Option.bind_eq_some_iff.1 h;simp only [go_sem,seval,hc5,hr6];refine hZ _ (pp (hJ1 _ (!r12) ?_ h));refine wr ?_ ?_<;>repeat' first|rfl|constructor
 intro c9 h;unfold dQ at h;refine aH rfl (fun hc7=>?_) (fun hc7=>?_)
 ·rw [if_pos hc7] at h;refine Ws fun Z hZ=>?_;simp only [go_sem,seval,hc7];refine hZ _ (pp (Wk_ret (pp ?_)));cases h;simp only [go_sem,seval];exact ⟨_,rfl,RokI.h⟩
 rw [if_neg (ne_true_of_eq_false hc7)] at h;refine ak (pp ?_);unfold fp at h;refine Wk_seq ?_;obtain ⟨r13,hr8,h⟩:=Option.bind_eq_some_iff.1 h;refine ae fun Z hZ=>?_;simp only [go_sem,seval,hc7,hr8];refine hZ _ (pp (Wk_seq (aA (Ws fun Z hZ=>?_))));simp only [go_sem,seval];refine hZ _ (pp (eS rfl (fun hc9=>?_) (fun hc9=>?_)))
 ·rw [if_neg (ne_true_of_eq_false hc9)] at h;refine Ws fun Z hZ=>?_;simp only [go_sem,seval,hc9];refine hZ _ (pp (Wk_ret (pp ?_)));cases h;simp only [go_sem,seval];exact ⟨_,rfl,RokI.h⟩
 rw [if_pos hc9] at h;apply dh (fun (c20:Bool)=>⟨tab 77 (updT (updT (updT (updT deadT 0 (.sl false none 4 none (a0.map Client.row))) 2 (.val (.int .i64 a2))) 8 (.val (.int .i64 r13.1))) 34 (.val (.bool c20))),RZ⟩)
 ·intro hJ10;obtain ⟨x21,hb11,hx12,h⟩:=eA h;refine ae fun Z hZ=>?_;simp only [go_sem,seval,hc9,hb11,hx12];refine sw (ar rfl) (fun hc13=>?_) (fun hc13=>?_)
  ·have hc13d:=decide_eq_false hc13;rw [if_neg hc13] at h;simp only [go_sem,seval,hc13d];refine hZ _ (pp (hJ10 _ false ?_ h));refine wr ?_ ?_<;>repeat' first|rfl|constructor
  have hc13d:=decide_eq_true hc13;rw [if_pos hc13] at h;obtain ⟨x22,hb14,hx15,h⟩:=eA h;try simp only [Int.toNat_zero] at hx15
  try simp only [Int.ofNat_lt,Int.natCast_nonneg,true_and] at hb14
  simp only [go_sem,seval,hb11,hx12,hb14,hx15];refine hZ _ (pp (hJ10 _ (decide (x22<=a2)) ?_ h));refine wr ?_ ?_<;>repeat' first|rfl|constructor
 intro c20 h;unfold eE at h;refine aH rfl (fun hc16=>?_) (fun hc16=>?_)
 ·rw [if_pos hc16] at h;refine Ws fun Z hZ=>?_;simp only [go_sem,seval,hc16];refine hZ _ (pp (Wk_ret (pp ?_)));cases h;simp only [go_sem,seval];exact ⟨_,rfl,RokI.h⟩
 rw [if_neg (ne_true_of_eq_false hc16)] at h;refine ak (pp ?_);unfold fx at h;refine Wk_seq ?_;obtain ⟨r23,hr17,h⟩:=Option.bind_eq_some_iff.1 h;refine ae fun Z hZ=>?_;simp only [go_sem,seval,hc16,hr17];refine hZ _ (pp ?_);obtain ⟨x24,hb18,hx19,h⟩:=eA h;refine AM 3 10 57 [0,1,2] [3,4] (Nat.le_of_ble_eq_true rfl) rfl rfl (by kernel_rfl) fun Y hY=>?_;simp only [go_sem,seval,hb18];refine hY _ ⟨54,r23.length,((r13.1).toNat),_,_,_,_,(by simp only [go_sem,seval]<;>rfl),(by have:=hb18; omega),(by simp only [go_sem,seval]<;>rfl),(by simp only [go_sem,seval]<;>rfl),by decide,fun b0 off0 k0 Z hZ=>?_⟩
 simp only [go_sem,seval];refine hZ _ ?_;refine yn [0,1] [2,3,4,5] [6] [7,8,9] 71 11 11 54 ((r13.1).toNat) (by kernel_rfl) (by kernel_rfl) (by kernel_rfl) (by simp only [go_sem]<;>rfl) (by simp only [go_sem,seval]<;>rfl) (by have:=hb18; omega) (by simp only [go_sem,seval]<;>rfl) (by simp only [go_sem,seval]<;>rfl) (by simp only [go_sem,seval]<;>rfl) rfl fun Z hZ Y hY=>?_
 simp only [go_sem,seval,hx19];refine hY _ (by kernel_rfl) (qU (by kernel_rfl) fun Y hY=>?_);simp only [go_sem,seval];refine hY _ (by kernel_rfl) (y7 ?_);simp only [go_sem,seval,hx19,uD (row:=Client.rowD) (rx:=[.val (.string x24.Name),.val (.int .i64 x24.Low),.sl true none 1 none (x24.Open.map (rowI .i64)),.sl true none 10 none (x24.Done.map Answer.row)]) hx19 rfl rfl];refine hZ _ ?_;refine yj [0,1] [2,3,4,5] [7,8,9] 6 71 11 11 54 ((r13.1).toNat) (by kernel_rfl) (by kernel_rfl) (by kernel_rfl) (by simp only [go_sem]<;>rfl) (by simp only [go_sem,seval]<;>rfl) (by have:=hb18; omega) (by simp only [go_sem,seval]<;>rfl) (by simp only [go_sem,seval]<;>rfl) (by simp only [go_sem,seval]<;>rfl) rfl fun Z hZ Y hY=>?_
 simp only [go_sem,seval,eX (row:=Client.rowD) _ hx19];obtain ⟨r25,hr20,h⟩:=Option.bind_eq_some_iff.1 h;obtain ⟨hd21,rfl⟩:=yp hr20;refine hY _ (by kernel_rfl) (CE 73 42 43 x24.Done.length [(((r13.1).toNat),3)] (qQ N) (x24.Done.map Answer.row) 10 ((r23.map Client.rowD).set ((r13.1).toNat) [.val (.string x24.Name),.val (.int .i64 (if a2 > x24.Low then a2 else x24.Low)),.sl true none 1 none (x24.Open.map (rowI .i64)),.dead]) [.val (.string x24.Name),.val (.int .i64 (if a2 > x24.Low then a2 else x24.Low)),.sl true none 1 none (x24.Open.map (rowI .i64)),.dead] [.dead,.val (.int .i64 (if a2 > x24.Low then a2 else x24.Low)),.dead,.dead] (V.fIdx (fun a:Answer=>V.kq (if a2 > x24.Low then a2 else x24.Low) a.Seq) x24.Done) ⟨rfl,rfl,rfl,rfl,?_,?_,rfl,rfl,by decide,by decide,by decide,by decide,?_,?_,?_,?_,?_,?_,rfl,V.less_low,V.fIdx_nodup _ _,?_,V.answer_one _,V.del_raw N _ _ hd21.2 hd21.1,?_,?_⟩)
 ·simp only [go_sem,seval]<;>rfl
 ·rfl
 ·simp only [go_sem,seval,Bool.or_self,eX (row:=Client.rowD) _ hx19,gU (row:=Client.rowD) hx19 rfl]<;>rfl
 ·simp only [go_sem,seval,gU (row:=Client.rowD) hx19 rfl]<;>rfl
 ·simp only [go_sem,seval,gU (row:=Client.rowD) hx19 rfl]<;>rfl
 ·simp only [go_sem,seval,gU (row:=Client.rowD) hx19 rfl]<;>rfl
 ·simp only [List.length_set,List.length_map]
 ·simp only [go_sem,seval,eX (row:=Client.rowD) _ hx19]
 ·intro k hk; simpa using V.fIdx_lt _ _ k hk
 ·kernel_rfl
 rw [V.fIdx_pick];simp only [go_sem,seval,eX (row:=Client.rowD) _ hx19,gU (row:=Client.rowD) hx19 rfl];refine hZ _ ?_;refine Wk.pinned (Ws fun Z hZ=>?_);simp only [go_sem,seval];refine hZ _ (pp (fe (qI (n:=54) (Client.mk x24.Name (if a2 > x24.Low then a2 else x24.Low) x24.Open (x24.Done.filter fun a=>V.kq (if a2 > x24.Low then a2 else x24.Low) a.Seq)) (by simp only [go_sem,seval]; rfl) rfl rfl) ?_));refine fe (om (row:=Client.row) (n:=54) (by simp only [go_sem,seval]; rfl) (by simp only [pn,oe,go_sem,seval]; rfl)) (Wk_ret (pp ?_));cases h;simp only [go_sem,seval];exact ⟨_,rfl,RokI.h⟩
def gE (N:Nat):FnS:=⟨[],false,fn3 (decL 4 Client.dec) decS (decI .i64) fun q0 q1 q2=>(dC N q0 q1 q2).map fun r=>.tup [.sl false none 4 none (r.1.map Client.row),.val (.int .i64 r.2)],false⟩
attribute [go_sem] gE
theorem kA (N:Nat):FSOk Try.prog 14 (gE N):=ok3 (fun q0 q1 q2 r h=>by
 obtain ⟨r',hr,rfl⟩:=Option.map_eq_some_iff.1 h;exact (lU N q0 q1 q2 r' hr).res (by (try simp only [go_sem]); exact RokI.h)) (fun h=>aF Client.dec_le h) (bw) (aj)

def lh (N:Nat):FnS:=⟨[],false,fn3 (decL 4 Client.dec) decS (decI .i64) fun q0 q1 q2=>(dC N q0 q1 q2).map fun r=>.tup [.sl true none 4 none (r.1.map Client.row),.val (.int .i64 r.2)],false⟩
attribute [go_sem] lh
theorem vT (N:Nat):FSOk Try.prog 14 (lh N):=ok3 (fun q0 q1 q2 r h=>by
 obtain ⟨r',hr,rfl⟩:=Option.map_eq_some_iff.1 h;exact lU N q0 q1 q2 r' hr) (fun h=>aF Client.dec_le h) (bw) (aj)


noncomputable def qY (N d f:Nat):Option FnS:=glist [(12,10,jC N),(17,10,jC N),(24,12,jP N),(29,16,kg N),(34,14,gE N),(62,20,ei N),(67,20,ei N),(72,20,ei N),(77,20,ei N)] d f
attribute [go_sem] qY
theorem vM (N:Nat)  (r:Bool) (h:kD N  = some r):Con Try.prog 7 [] true [] (.val (.bool r)):=by
 refine aV (G:=(qY N)) Try.func7 rfl (by decide) (by kernel_rfl) (gc 12 (kP N) (gc 17 (kP N) (gc 24 (mB N) (gc 29 (m5 N) (gc 34 (kA N) (gc 62 (en N) (gc 67 (en N) (gc 72 (en N) (gc 77 (en N) gn))))))))) [] mix (Nat.le_of_ble_eq_true rfl) ?_;simp only [Try.f7];unfold kD at h;refine Ws fun Z hZ=>?_;simp only [go_sem,seval];refine hZ _ (pp (Wk_seq ?_));obtain ⟨r1,hr1,h⟩:=Option.bind_eq_some_iff.1 h;refine ae fun Z hZ=>?_;simp only [go_sem,seval,hr1];refine hZ _ (pp (Wk_seq ?_));obtain ⟨r2,hr2,h⟩:=Option.bind_eq_some_iff.1 h;refine ae fun Z hZ=>?_;simp only [go_sem,seval,hr2];refine hZ _ (pp (Wk_seq ?_));obtain ⟨r3,hr3,h⟩:=Option.bind_eq_some_iff.1 h;refine ae fun Z hZ=>?_;simp only [go_sem,seval,hr3];refine hZ _ (pp (Wk_seq ?_));obtain ⟨r4,hr4,h⟩:=Option.bind_eq_some_iff.1 h;refine ae fun Z hZ=>?_;simp only [go_sem,seval,hr4];refine hZ _ (pp (Wk_seq ?_));obtain ⟨r5,hr5,h⟩:=Option.bind_eq_some_iff.1 h;refine ae fun Z hZ=>?_;simp only [go_sem,seval,hr5];refine hZ _ (pp (Ws fun Z hZ=>?_));simp only [go_sem,seval];refine sw (ar rfl) (fun hc6=>?_) (fun hc6=>?_)
 ·have hc6d:=decide_eq_false hc6;rw [if_neg hc6] at h;simp only [go_sem,seval,hc6d];refine hZ _ (pp (Wk_ret (pp ?_)));cases h;simp only [go_sem,seval];exact ⟨_,rfl,RokI.h,PureI.h⟩
 have hc6d:=decide_eq_true hc6;rw [if_pos hc6] at h;simp only [go_sem,seval,hc6d];refine sw (ar rfl) (fun hc7=>?_) (fun hc7=>?_)
 ·have hc7d:=decide_eq_false hc7;rw [if_neg hc7] at h;simp only [go_sem,seval,hc7d];refine hZ _ (pp (Wk_ret (pp ?_)));cases h;simp only [go_sem,seval];exact ⟨_,rfl,RokI.h,PureI.h⟩
 have hc7d:=decide_eq_true hc7;rw [if_pos hc7] at h;simp only [go_sem,seval,hc7d];refine sw (ar rfl) (fun hc8=>?_) (fun hc8=>?_)
 ·have hc8d:=decide_eq_false hc8;rw [if_neg hc8] at h;simp only [go_sem,seval,hc8d];refine hZ _ (pp (Wk_ret (pp ?_)));cases h;simp only [go_sem,seval];exact ⟨_,rfl,RokI.h,PureI.h⟩
 have hc8d:=decide_eq_true hc8;rw [if_pos hc8] at h;simp only [go_sem,seval,hc8d];refine sw (bX rfl) (fun hc9=>?_) (fun hc9=>?_)
 ·rw [if_neg (ne_true_of_eq_false hc9)] at h;simp only [go_sem,seval,hc9];refine hZ _ (pp (Wk_ret (pp ?_)));cases h;simp only [go_sem,seval];exact ⟨_,rfl,RokI.h,PureI.h⟩
 rw [if_pos hc9] at h;simp only [go_sem,seval,hc9];refine sw (ar rfl) (fun hc10=>?_) (fun hc10=>?_)
 ·have hc10d:=decide_eq_false hc10;rw [if_neg hc10] at h;simp only [go_sem,seval,hc10d];refine hZ _ (pp (Wk_ret (pp ?_)));cases h;simp only [go_sem,seval];exact ⟨_,rfl,RokI.h,PureI.h⟩
 have hc10d:=decide_eq_true hc10;rw [if_pos hc10] at h;simp only [go_sem,seval,hc10d];refine sw (ar rfl) (fun hc11=>?_) (fun hc11=>?_)
 ·have hc11d:=decide_eq_false hc11;rw [if_neg hc11] at h;simp only [go_sem,seval,hc11d];refine hZ _ (pp (Wk_ret (pp ?_)));cases h;simp only [go_sem,seval];exact ⟨_,rfl,RokI.h,PureI.h⟩
 have hc11d:=decide_eq_true hc11;rw [if_pos hc11] at h;obtain ⟨r6,hr12,h⟩:=Option.bind_eq_some_iff.1 h;simp only [go_sem,seval,hc11d,hr12];refine sw (ar rfl) (fun hc13=>?_) (fun hc13=>?_)
 ·have hc13d:=decide_eq_false hc13;rw [if_neg hc13] at h;simp only [go_sem,seval,hc13d];refine hZ _ (pp (Wk_ret (pp ?_)));cases h;simp only [go_sem,seval];exact ⟨_,rfl,RokI.h,PureI.h⟩
 have hc13d:=decide_eq_true hc13;rw [if_pos hc13] at h;obtain ⟨r7,hr14,h⟩:=Option.bind_eq_some_iff.1 h;simp only [go_sem,seval,hc13d,hr14];refine sw (ar rfl) (fun hc15=>?_) (fun hc15=>?_)
 ·have hc15d:=decide_eq_false hc15;rw [if_neg hc15] at h;simp only [go_sem,seval,hc15d];refine hZ _ (pp (Wk_ret (pp ?_)));cases h;simp only [go_sem,seval];exact ⟨_,rfl,RokI.h,PureI.h⟩
 have hc15d:=decide_eq_true hc15;rw [if_pos hc15] at h;obtain ⟨r8,hr16,h⟩:=Option.bind_eq_some_iff.1 h;simp only [go_sem,seval,hc15d,hr16];refine ar rfl (fun hc17=>?_) (fun hc17=>?_)
 ·have hc17d:=decide_eq_true hc17;rw [if_pos hc17] at h;obtain ⟨r9,hr18,h⟩:=Option.bind_eq_some_iff.1 h;simp only [go_sem,seval,hc17d,hr18];refine hZ _ (pp (Wk_ret (pp ?_)));cases h;simp only [go_sem,seval];exact ⟨_,rfl,RokI.h,PureI.h⟩
 have hc17d:=decide_eq_false hc17;rw [if_neg hc17] at h;simp only [go_sem,seval,hc17d];refine hZ _ (pp (Wk_ret (pp ?_)));cases h;simp only [go_sem,seval];exact ⟨_,rfl,RokI.h,PureI.h⟩
def ky (N:Nat):FnS:={ own:=[],pure:=true,fn:=fun cs=>match cs with
 | [] =>  (kD N ).map fun r=>.val (.bool r)
 | _=>none }
attribute [go_sem] ky
theorem sI (N:Nat):FSOk Try.prog 7 (ky N):=by
 refine ⟨fun cs r h=>?_,fun h=>by cases h⟩;simp only [ky] at h;split at h
 ·simp only [Option.map_eq_some_iff] at h;obtain ⟨r',hr,rfl⟩:=h;exact ((vM N  r' hr).args (LeL.nil))
 ·cases h


noncomputable def m4 (N d f:Nat):Option FnS:=glist [(18,7,ky N),(82,10,jC N),(127,12,jP N),(60,14,gE N),(173,22,fP N),(179,16,kg N),(232,20,ei N)] d f
attribute [go_sem] m4
theorem m6 (N:Nat) (a0:(List aa)) (r:Bool) (h:gl N a0=some r):Con Try.prog 4 [] true [.sl false none 4 none (a0.map aa.row)] (.val (.bool r)):=by
 refine aV (G:=(m4 N)) Try.func4 rfl (by decide) (by kernel_rfl) (gc 18 (sI N) (gc 82 (kP N) (gc 127 (mB N) (gc 60 (kA N) (gc 173 (gC N) (gc 179 (m5 N) (gc 232 (en N) gn))))))) [] mix (Nat.le_of_ble_eq_true rfl) ?_;simp only [Try.f4];unfold gl at h;refine Ws fun Z hZ=>?_;simp only [go_sem,seval];refine hZ _ (pp (Wk_seq (Wk_seq ?_)));obtain ⟨r1,hr1,h⟩:=Option.bind_eq_some_iff.1 h;refine ae fun Z hZ=>?_;simp only [go_sem,seval,hr1];refine hZ _ (pp (eS rfl (fun hc2=>?_) (fun hc2=>?_)))
 ·rw [if_neg (ne_true_of_eq_false hc2)] at h;refine Ws fun Z hZ=>?_;simp only [go_sem,seval,hc2];refine hZ _ (pp (Wk_ret (pp ?_)));cases h;simp only [go_sem,seval];exact ⟨_,rfl,RokI.h,PureI.h⟩
 rw [if_pos hc2] at h;refine ak (pp (Wk_seq (Ws fun Z hZ=>?_)));simp only [go_sem,seval,hc2];refine hZ _ (pp (bj rfl (fun hc3=>?_) (fun hc3=>?_)))
 ·have hc3d:=decide_eq_true hc3;rw [if_pos hc3] at h;refine Ws fun Z hZ=>?_;simp only [go_sem,seval,hc3d];refine hZ _ (pp (Wk_ret (pp ?_)));cases h;simp only [go_sem,seval];exact ⟨_,rfl,RokI.h,PureI.h⟩
 have hc3d:=decide_eq_false hc3;rw [if_neg hc3] at h;refine ak (pp (Ws fun Z hZ=>?_));simp only [go_sem,seval,hc3d];refine hZ _ (pp (Ws fun Z hZ=>?_));simp only [go_sem,seval];refine hZ _ (pp (fe (pa (n:=4) (c':=.sl true none 96 (some 1) [(List.replicate 96 false).map bC]) (by simp only [go_sem,seval]; rfl) (by rfl)) (fe (pa (n:=5) (c':=.sl true none 96 (some 1) [(List.replicate 96 false).map bC]) (by simp only [go_sem,seval]; rfl) (by rfl)) (fe (pa (n:=6) (c':=.sl true none 96 (some 1) [(List.replicate 96 false).map bC]) (by simp only [go_sem,seval]; rfl) (by rfl)) (Ws fun Z hZ=>?_)))));simp only [go_sem,seval];refine hZ _ (pp (fe (pa (n:=7) (c':=.sl true none 96 (some 1) [(List.replicate 96 (0:Int)).map (iC .i64)]) (by simp only [go_sem,seval]; rfl) (by rfl)) (Wk_seq (Ws fun Z hZ=>?_))));simp only [go_sem,seval];refine hZ _ (pp (aA (gp fun hreal5=>?_)));have hl4:=hreal5.lenT 0 (by decide) (by simp only [go_sem,seval]; rfl);first|rw [List.length_map] at hl4|rw [eD] at hl4|rw [<-List.map_append,List.length_map] at hl4
 refine gv (fun (v10:Nat) (b:List Bool × List Bool × List Bool × List Int × List Client)=>⟨tab 235 (updT (updT (updT (updT (updT (updT (updT deadT 0 (.sl false none 4 none (a0.map aa.row))) 3 (.sl false none 4 none (b.2.2.2.2.map Client.row))) 4 (.pref 4 [] 0 0)) 5 (.pref 5 [] 0 0)) 6 (.pref 6 [] 0 0)) 7 (.pref 7 [] 0 0)) 8 (.val (.int .i64 ((v10:Nat):Int)))),(upd (upd (upd (upd RZ 4 (.sl true none 96 (some 1) [b.1.map bC])) 5 (.sl true none 96 (some 1) [b.2.1.map bC])) 6 (.sl true none 96 (some 1) [b.2.2.1.map bC])) 7 (.sl true none 96 (some 1) [b.2.2.2.1.map (iC .i64)]))⟩) ((List.replicate 96 false),(List.replicate 96 false),(List.replicate 96 false),(List.replicate 96 (0:Int)),[]) h ?_ ?_
 ·refine Weak.trans (z6 3 4 (by simp only [go_sem,seval])) ?_;refine wr ?_ ?_<;>repeat' first|rfl|constructor
 rintro v10 ⟨l5,l6,l7,l8,l9⟩ hi6 h -;rcases (eQ a0 v10 hi6).symm with ⟨hi6',_,hd9⟩|⟨x13,hi6',hx7,hd9⟩
 ·rw [hd9] at h;simp only [aJ] at h;refine Wk_seq (Ws fun Z hZ=>?_);simp only [go_sem,seval,hi6'];refine hZ _ (pp ?_);try simp only [Int.ofNat_lt,hi6',if_true,if_false] at h
  refine dB rfl (dL (pp (Ws fun Z hZ=>?_)));simp only [go_sem,seval];refine hZ _ (pp (Wk_ret (pp ?_)));cases h;simp only [go_sem,seval];exact ⟨_,rfl,RokI.h,PureI.h⟩
 rw [hd9] at h;simp only [aJ] at h;have hw8:=eI hi6' hl4;refine Wk_seq (Ws fun Z hZ=>?_);simp only [go_sem,seval,hi6'];refine hZ _ (pp ?_);try simp only [Int.ofNat_lt,hi6',if_true,if_false] at h
 refine dG rfl (ak (pp (Wk_seq (aA (Wk_seq ?_)))));try rw [gx_nat hx7] at h
 try rw [gx_nat hx7] at h
 refine fv fun Z hZ=>?_;simp only [go_sem,seval,hx7,hi6'];refine hZ _ (by kernel_rfl) (pp (Ws fun Z hZ=>?_));simp only [go_sem,seval];refine hZ _ (pp (Ws fun Z hZ=>?_));simp only [go_sem,seval];refine hZ _ (pp ?_);apply BP (fun (l28:List Bool) (l29:List Bool) (l30:List Bool) (l31:List Int) (l32:List Client) (v33:Int)=>⟨tab 235 (updT (updT (updT (updT (updT (updT (updT (updT (updT (updT (updT (updT deadT 0 (.sl false none 4 none (a0.map aa.row))) 3 (.sl false none 4 none (l9.map Client.row))) 4 (.pref 4 [] 0 0)) 5 (.pref 5 [] 0 0)) 6 (.pref 6 [] 0 0)) 7 (.pref 7 [] 0 0)) 8 (.val (.int .i64 ((v10:Nat):Int)))) 9 (.val (.int .i64 (IntKind.i64.wrap (Int.tmod x13.Client_ 3))))) 10 (.val (.int .i64 (IntKind.i64.wrap (1+(IntKind.i64.wrap (Int.tmod x13.Seq 31))))))) 11 (.val (.string (bstr [IntKind.u8.wrap (97+(IntKind.u8.wrap (IntKind.i64.wrap (Int.tmod x13.Client_ 3))))])))) 12 (.sl false none 4 none (l32.map Client.row))) 13 (.val (.int .i64 v33))),(upd (upd (upd (upd RZ 4 (.sl true none 96 (some 1) [l28.map bC])) 5 (.sl true none 96 (some 1) [l29.map bC])) 6 (.sl true none 96 (some 1) [l30.map bC])) 7 (.sl true none 96 (some 1) [l31.map (iC .i64)]))⟩)
 ·intro hJ10;refine Wk_seq ?_;try rw [gx_nat hx7] at h
  refine ae fun Z hZ=>?_;simp only [go_sem,seval,hx7,hi6'];refine hZ _ (pp (aA (Ws fun Z hZ=>?_)));simp only [go_sem,seval];refine hZ _ (pp (bj rfl (fun hc11=>?_) (fun hc11=>?_)))
  ·have hc11d:=decide_eq_true hc11;rw [if_pos hc11] at h;refine Wk_seq ?_;obtain ⟨r34,hr12,h⟩:=Option.bind_eq_some_iff.1 h;refine ae fun Z hZ=>?_;simp only [go_sem,seval,hc11d,hr12];refine hZ _ (pp (Wk_seq ?_));apply dh (fun (c41:Bool)=>⟨tab 235 (updT (updT (updT (updT (updT (updT (updT (updT (updT (updT (updT (updT (updT deadT 0 (.sl false none 4 none (a0.map aa.row))) 3 (.sl false none 4 none (l9.map Client.row))) 4 (.pref 4 [] 0 0)) 5 (.pref 5 [] 0 0)) 6 (.pref 6 [] 0 0)) 7 (.pref 7 [] 0 0)) 8 (.val (.int .i64 ((v10:Nat):Int)))) 9 (.val (.int .i64 (IntKind.i64.wrap (Int.tmod x13.Client_ 3))))) 10 (.val (.int .i64 (IntKind.i64.wrap (1+(IntKind.i64.wrap (Int.tmod x13.Seq 31))))))) 11 (.val (.string (bstr [IntKind.u8.wrap (97+(IntKind.u8.wrap (IntKind.i64.wrap (Int.tmod x13.Client_ 3))))])))) 12 (.sl false none 4 none (r34.1.map Client.row))) 13 (.val (.int .i64 r34.2))) 100 (.val (.bool c41))),(upd (upd (upd (upd RZ 4 (.sl true none 96 (some 1) [l5.map bC])) 5 (.sl true none 96 (some 1) [l6.map bC])) 6 (.sl true none 96 (some 1) [l7.map bC])) 7 (.sl true none 96 (some 1) [l8.map (iC .i64)]))⟩)
   ·intro hJ13;refine ae fun Z hZ=>?_;simp only [go_sem,seval];refine sw (ar rfl) (fun hc14=>?_) (fun hc14=>?_)
    ·have hc14d:=decide_eq_false hc14;rw [if_neg hc14] at h;simp only [go_sem,seval,hc14d];refine hZ _ (pp (hJ13 _ false ?_ h));refine wr ?_ ?_<;>repeat' first|rfl|constructor
    have hc14d:=decide_eq_true hc14;rw [if_pos hc14] at h;obtain ⟨hg15,h⟩:=aO h;obtain ⟨hg16,h⟩:=aO h;obtain ⟨x42,hx17,h⟩:=fA h;simp only [go_sem,seval,hc14d,hg15,hg16,fH (f:=bC) hx17,arr_le hx17];refine bX rfl (fun hc18=>?_) (fun hc18=>?_)
    ·rw [if_pos hc18] at h;simp only [go_sem,seval,hc18];refine hZ _ (pp (hJ13 _ true ?_ h));refine wr ?_ ?_<;>repeat' first|rfl|constructor
    rw [if_neg (ne_true_of_eq_false hc18)] at h;obtain ⟨hg19,h⟩:=aO h;obtain ⟨hg20,h⟩:=aO h;obtain ⟨x43,hx21,h⟩:=fA h;simp only [go_sem,seval,hg15,hg16,hc18,fH (f:=bC) hx21,arr_le hx21];refine hZ _ (pp (hJ13 _ x43 ?_ h));refine wr ?_ ?_<;>repeat' first|rfl|constructor
   intro c41 h;unfold eZ at h;refine aH rfl (fun hc22=>?_) (fun hc22=>?_)
   ·rw [if_pos hc22] at h;refine Ws fun Z hZ=>?_;simp only [go_sem,seval,hc22];refine hZ _ (pp (Wk_ret (pp ?_)));cases h;simp only [go_sem,seval];exact ⟨_,rfl,RokI.h,PureI.h⟩
   rw [if_neg (ne_true_of_eq_false hc22)] at h;refine ak (pp ?_);unfold fb at h;obtain ⟨hg23,h⟩:=aO h;obtain ⟨hg24,h⟩:=aO h;obtain ⟨x44,hx25,h⟩:=fA h;refine fv fun Z hZ=>?_;simp only [go_sem,seval,hc22,hg23,hg24,fH (f:=bC) hx25,arr_le hx25];refine bX rfl (fun hc26=>?_) (fun hc26=>?_)
   ·rw [if_pos hc26] at h;obtain ⟨hg27,h⟩:=aO h;obtain ⟨hg28,h⟩:=aO h;simp only [go_sem,seval,hg23,hg24,arr_lt hx25,arr_at (f:=bC) hx25,hc26];repeat with_reducible refine ek (by kernel_rfl) ?_
    refine hZ _ (by kernel_rfl) (pp (hJ10 _ (l5.set (((IntKind.i64.wrap (Int.tmod x13.Client_ 3)).toNat * 32)+(IntKind.i64.wrap (1+(IntKind.i64.wrap (Int.tmod x13.Seq 31)))).toNat * 1) true) l6 l7 l8 r34.1 r34.2 ?_ h));refine wr ?_ ?_<;>repeat' first|rfl|constructor
   rw [if_neg (ne_true_of_eq_false hc26)] at h;obtain ⟨hg29,h⟩:=aO h;obtain ⟨hg30,h⟩:=aO h;simp only [go_sem,seval,hg23,hg24,arr_lt hx25,arr_at (f:=bC) hx25,hc26];repeat with_reducible refine ek (by kernel_rfl) ?_
   refine hZ _ (by kernel_rfl) (pp (hJ10 _ (l5.set (((IntKind.i64.wrap (Int.tmod x13.Client_ 3)).toNat * 32)+(IntKind.i64.wrap (1+(IntKind.i64.wrap (Int.tmod x13.Seq 31)))).toNat * 1) (decide (r34.2=0))) l6 l7 l8 r34.1 r34.2 ?_ h));refine wr ?_ ?_<;>repeat' first|rfl|constructor
  have hc11d:=decide_eq_false hc11;rw [if_neg hc11] at h;refine Ws fun Z hZ=>?_;simp only [go_sem,seval,hc11d];refine hZ _ (pp (sw (bj rfl) (fun hc31=>?_) (fun hc31=>?_)))
  ·have hc31d:=decide_eq_false hc31;rw [if_neg hc31] at h;refine Wk_seq ?_;obtain ⟨r60,hr53,h⟩:=Option.bind_eq_some_iff.1 h;refine ae fun Z hZ=>?_;simp only [go_sem,seval,hc31d,hr53];refine hZ _ (pp (Ws fun Z hZ=>?_));simp only [go_sem,seval];refine hZ _ (pp (aA (qa (fun (b:List Bool × Int)=>⟨tab 235 (updT (updT (updT (updT (updT (updT (updT (updT (updT (updT (updT (updT (updT deadT 0 (.sl false none 4 none (a0.map aa.row))) 3 (.sl false none 4 none (l9.map Client.row))) 4 (.pref 4 [] 0 0)) 5 (.pref 5 [] 0 0)) 6 (.pref 6 [] 0 0)) 7 (.pref 7 [] 0 0)) 8 (.val (.int .i64 ((v10:Nat):Int)))) 9 (.val (.int .i64 (IntKind.i64.wrap (Int.tmod x13.Client_ 3))))) 10 (.val (.int .i64 (IntKind.i64.wrap (1+(IntKind.i64.wrap (Int.tmod x13.Seq 31))))))) 11 (.val (.string (bstr [IntKind.u8.wrap (97+(IntKind.u8.wrap (IntKind.i64.wrap (Int.tmod x13.Client_ 3))))])))) 12 (.sl false none 4 none (r60.1.map Client.row))) 13 (.val (.int .i64 r60.2))) 14 (.val (.int .i64 b.2))),(upd (upd (upd (upd RZ 4 (.sl true none 96 (some 1) [l5.map bC])) 5 (.sl true none 96 (some 1) [l6.map bC])) 6 (.sl true none 96 (some 1) [b.1.map bC])) 7 (.sl true none 96 (some 1) [l8.map (iC .i64)]))⟩) (l7,1) h ?_ ?_)))
   ·refine wr ?_ ?_<;>repeat' first|rfl|constructor
   rintro n ⟨l34,v35⟩ h -;cases n with
   | zero=>simp [dt] at h
   | succ n=>
   simp only [dt] at h;refine Wk_seq ?_;apply dh (fun (c63:Bool)=>⟨tab 235 (updT (updT (updT (updT (updT (updT (updT (updT (updT (updT (updT (updT (updT (updT deadT 0 (.sl false none 4 none (a0.map aa.row))) 3 (.sl false none 4 none (l9.map Client.row))) 4 (.pref 4 [] 0 0)) 5 (.pref 5 [] 0 0)) 6 (.pref 6 [] 0 0)) 7 (.pref 7 [] 0 0)) 8 (.val (.int .i64 ((v10:Nat):Int)))) 9 (.val (.int .i64 (IntKind.i64.wrap (Int.tmod x13.Client_ 3))))) 10 (.val (.int .i64 (IntKind.i64.wrap (1+(IntKind.i64.wrap (Int.tmod x13.Seq 31))))))) 11 (.val (.string (bstr [IntKind.u8.wrap (97+(IntKind.u8.wrap (IntKind.i64.wrap (Int.tmod x13.Client_ 3))))])))) 12 (.sl false none 4 none (r60.1.map Client.row))) 13 (.val (.int .i64 r60.2))) 14 (.val (.int .i64 v35))) 69 (.val (.bool c63))),(upd (upd (upd (upd RZ 4 (.sl true none 96 (some 1) [l5.map bC])) 5 (.sl true none 96 (some 1) [l6.map bC])) 6 (.sl true none 96 (some 1) [l34.map bC])) 7 (.sl true none 96 (some 1) [l8.map (iC .i64)]))⟩)
   ·intro hJ54;refine ae fun Z hZ=>?_;simp only [go_sem,seval];refine ar rfl (fun hc55=>?_) (fun hc55=>?_)
    ·have hc55d:=decide_eq_true hc55;rw [if_pos hc55] at h;simp only [go_sem,seval,hc55d];refine hZ _ (pp (hJ54 _ (decide (r60.2=0)) ?_ h));refine wr ?_ ?_<;>repeat' first|rfl|constructor
    have hc55d:=decide_eq_false hc55;rw [if_neg hc55] at h;simp only [go_sem,seval,hc55d];refine hZ _ (pp (hJ54 _ false ?_ h));refine wr ?_ ?_<;>repeat' first|rfl|constructor
   intro c63 h;unfold fV at h;refine sw (aH rfl) (fun hc56=>?_) (fun hc56=>?_)
   ·rw [if_neg (ne_true_of_eq_false hc56)] at h;refine dL (pp (hJ10 _ l5 l6 l34 l8 r60.1 r60.2 ?_ h));refine wr ?_ ?_<;>repeat' first|rfl|constructor
   rw [if_pos hc56] at h;refine ak (pp ?_);unfold iS at h;refine Wk_seq (aA ?_);obtain ⟨hg57,h⟩:=aO h;obtain ⟨hg58,h⟩:=aO h;obtain ⟨x64,hx59,h⟩:=fA h;refine ae fun Z hZ=>?_;simp only [go_sem,seval,hc56,hg57,hg58,arr_lt hx59,arr_at (f:=bC) hx59];refine hZ _ (pp (ae fun Z hZ=>?_));simp only [go_sem,seval];refine hZ _ (pp (⟨_,Nat.lt_succ_self _,((l34.set (((IntKind.i64.wrap (Int.tmod x13.Client_ 3)).toNat * 32)+(v35).toNat * 1) true),IntKind.i64.wrap (v35+1)),?_,h⟩));refine wr ?_ ?_<;>repeat' first|rfl|constructor
  have hc31d:=decide_eq_true hc31;rw [if_pos hc31] at h;refine Wk_seq ?_;try rw [gx_nat hx7] at h
  obtain ⟨r45,hr32,h⟩:=Option.bind_eq_some_iff.1 h;refine ae fun Z hZ=>?_;simp only [go_sem,seval,hx7,hi6',hc31d,hr32];refine hZ _ (pp (Wk_seq ?_));apply dh (fun (c54:Bool)=>⟨tab 235 (updT (updT (updT (updT (updT (updT (updT (updT (updT (updT (updT (updT (updT deadT 0 (.sl false none 4 none (a0.map aa.row))) 3 (.sl false none 4 none (l9.map Client.row))) 4 (.pref 4 [] 0 0)) 5 (.pref 5 [] 0 0)) 6 (.pref 6 [] 0 0)) 7 (.pref 7 [] 0 0)) 8 (.val (.int .i64 ((v10:Nat):Int)))) 9 (.val (.int .i64 (IntKind.i64.wrap (Int.tmod x13.Client_ 3))))) 10 (.val (.int .i64 (IntKind.i64.wrap (1+(IntKind.i64.wrap (Int.tmod x13.Seq 31))))))) 11 (.val (.string (bstr [IntKind.u8.wrap (97+(IntKind.u8.wrap (IntKind.i64.wrap (Int.tmod x13.Client_ 3))))])))) 12 (.sl false none 4 none (r45.1.map Client.row))) 13 (.val (.int .i64 r45.2))) 153 (.val (.bool c54))),(upd (upd (upd (upd RZ 4 (.sl true none 96 (some 1) [l5.map bC])) 5 (.sl true none 96 (some 1) [l6.map bC])) 6 (.sl true none 96 (some 1) [l7.map bC])) 7 (.sl true none 96 (some 1) [l8.map (iC .i64)]))⟩)
  ·intro hJ33;obtain ⟨hg34,h⟩:=aO h;obtain ⟨hg35,h⟩:=aO h;obtain ⟨x55,hx36,h⟩:=fA h;refine ae fun Z hZ=>?_;simp only [go_sem,seval,hg34,hg35,fH (f:=bC) hx36,arr_le hx36];refine sw (bX rfl) (fun hc37=>?_) (fun hc37=>?_)
   ·rw [if_neg (ne_true_of_eq_false hc37)] at h;simp only [go_sem,seval,hc37];refine hZ _ (pp (hJ33 _ (!decide ((decide (r45.2=0))=false)) ?_ h));refine wr ?_ ?_<;>repeat' first|rfl|constructor
   rw [if_pos hc37] at h;obtain ⟨hg38,h⟩:=aO h;obtain ⟨hg39,h⟩:=aO h;obtain ⟨x56,hx40,h⟩:=fA h;simp only [go_sem,seval,hg34,hg35,hc37,fH (f:=bC) hx40,arr_le hx40];refine sw (dp rfl) (fun hc41=>?_) (fun hc41=>?_)
   ·rw [if_pos hc41] at h;simp only [go_sem,seval,hc41];refine hZ _ (pp (hJ33 _ (!decide ((decide (r45.2=0))=false)) ?_ h));refine wr ?_ ?_<;>repeat' first|rfl|constructor
   rw [if_neg (ne_true_of_eq_false hc41)] at h;obtain ⟨hg42,h⟩:=aO h;obtain ⟨hg43,h⟩:=aO h;obtain ⟨x57,hx44,h⟩:=fA h;simp only [go_sem,seval,hg34,hg35,hc41,fH (f:=bC) hx44,arr_le hx44];refine hZ _ (pp (hJ33 _ (!decide ((decide (r45.2=0))=(!x57))) ?_ h));refine wr ?_ ?_<;>repeat' first|rfl|constructor
  intro c54 h;unfold fg at h;refine aH rfl (fun hc45=>?_) (fun hc45=>?_)
  ·rw [if_pos hc45] at h;refine Ws fun Z hZ=>?_;simp only [go_sem,seval,hc45];refine hZ _ (pp (Wk_ret (pp ?_)));cases h;simp only [go_sem,seval];exact ⟨_,rfl,RokI.h,PureI.h⟩
  rw [if_neg (ne_true_of_eq_false hc45)] at h;refine ak (pp ?_);unfold eo at h;refine Ws fun Z hZ=>?_;simp only [go_sem,seval,hc45];refine hZ _ (pp (sw (bj rfl) (fun hc46=>?_) (fun hc46=>?_)))
  ·have hc46d:=decide_eq_false hc46;rw [if_neg hc46] at h;refine ak (pp (hJ10 _ l5 l6 l7 l8 r45.1 r45.2 ?_ h));refine wr ?_ ?_<;>repeat' first|rfl|constructor
  have hc46d:=decide_eq_true hc46;rw [if_pos hc46] at h;try rw [gx_nat hx7] at h
  obtain ⟨hg47,h⟩:=aO h;obtain ⟨hg48,h⟩:=aO h;obtain ⟨x58,hx49,h⟩:=fA h;obtain ⟨hg50,h⟩:=aO h;obtain ⟨hg51,h⟩:=aO h;obtain ⟨x59,hx52,h⟩:=fA h;refine zx fun Y hY=>?_;refine RX2_s rfl rfl fun Z hZ=>?_;simp only [go_sem,seval,hc46d];repeat with_reducible refine ek (by kernel_rfl) ?_
  refine hZ _ ?_;refine RX2_s rfl rfl fun Z hZ=>?_;simp only [go_sem,seval];refine hZ _ ?_;refine RX2_s rfl rfl fun Z hZ=>?_;simp only [go_sem,seval];refine hZ _ ?_;refine RX2_s rfl rfl fun Z hZ=>?_;simp only [go_sem,seval];refine hZ _ ?_;refine RX2_s rfl rfl fun Z hZ=>?_;simp only [go_sem,seval];refine hZ _ ?_;refine RX2_s rfl rfl fun Z hZ=>?_;simp only [go_sem,seval];refine hZ _ ?_;refine RX2_s rfl rfl fun Z hZ=>?_;simp only [go_sem,seval,hi6'];refine hZ _ ?_;refine RX2_s rfl rfl fun Z hZ=>?_;simp only [go_sem,seval];refine hZ _ ?_;refine RX2_s rfl rfl fun Z hZ=>?_;simp only [go_sem,seval,hx7];refine hZ _ ?_;refine RX2_s rfl rfl fun Z hZ=>?_;simp only [go_sem,seval,hg47];refine hZ _ ?_;refine RX2_s rfl rfl fun Z hZ=>?_;simp only [go_sem,seval,hg48];refine hZ _ ?_;refine RX2_w fun Z hZ=>?_;simp only [go_sem,seval,arr_lt hx49,arr_at (f:=bC) hx49];refine hZ _ ?_;refine RX2_s rfl rfl fun Z hZ=>?_;simp only [go_sem,seval,hg47];refine hZ _ ?_;refine RX2_s rfl rfl fun Z hZ=>?_;simp only [go_sem,seval,hg48];refine hZ _ ?_;refine RX2_w fun Z hZ=>?_;simp only [go_sem,seval,arr_lt hx52,arr_at (f:=(iC .i64)) hx52];refine hZ _ ?_;refine CI (by kernel_rfl) (hY _ (pp (hJ10 _ l5 (l6.set (((IntKind.i64.wrap (Int.tmod x13.Client_ 3)).toNat * 32)+(IntKind.i64.wrap (1+(IntKind.i64.wrap (Int.tmod x13.Seq 31)))).toNat * 1) true) l7 (l8.set (((IntKind.i64.wrap (Int.tmod x13.Client_ 3)).toNat * 32)+(IntKind.i64.wrap (1+(IntKind.i64.wrap (Int.tmod x13.Seq 31)))).toNat * 1) x13.Value_) r45.1 r45.2 ?_ h)));refine wr ?_ ?_<;>repeat' first|rfl|constructor
 intro l28 l29 l30 l31 l32 v33 h;unfold aR at h;apply dh (fun (l65:List Client)=>⟨tab 235 (updT (updT (updT (updT (updT (updT (updT (updT (updT (updT deadT 0 (.sl false none 4 none (a0.map aa.row))) 3 (.sl false none 4 none (l65.map Client.row))) 4 (.pref 4 [] 0 0)) 5 (.pref 5 [] 0 0)) 6 (.pref 6 [] 0 0)) 7 (.pref 7 [] 0 0)) 8 (.val (.int .i64 ((v10:Nat):Int)))) 9 (.val (.int .i64 (IntKind.i64.wrap (Int.tmod x13.Client_ 3))))) 10 (.val (.int .i64 (IntKind.i64.wrap (1+(IntKind.i64.wrap (Int.tmod x13.Seq 31))))))) 11 (.val (.string (bstr [IntKind.u8.wrap (97+(IntKind.u8.wrap (IntKind.i64.wrap (Int.tmod x13.Client_ 3))))])))),(upd (upd (upd (upd RZ 4 (.sl true none 96 (some 1) [l28.map bC])) 5 (.sl true none 96 (some 1) [l29.map bC])) 6 (.sl true none 96 (some 1) [l30.map bC])) 7 (.sl true none 96 (some 1) [l31.map (iC .i64)]))⟩)
 ·intro hJ60;refine Ws fun Z hZ=>?_;simp only [go_sem,seval];refine hZ _ (pp (bj rfl (fun hc61=>?_) (fun hc61=>?_)))
  ·have hc61d:=decide_eq_true hc61;rw [if_pos hc61] at h;refine ae fun Z hZ=>?_;simp only [go_sem,seval,hc61d];refine hZ _ (pp (hJ60 _ l32 ?_ h));refine wr ?_ ?_<;>repeat' first|rfl|constructor
  have hc61d:=decide_eq_false hc61;rw [if_neg hc61] at h;refine ak (pp (hJ60 _ l9 ?_ h));refine wr ?_ ?_<;>repeat' first|rfl|constructor
 intro l65 h;unfold eh at h;refine Wk_seq (Wk_seq ?_);obtain ⟨r66,hr62,h⟩:=Option.bind_eq_some_iff.1 h;refine ae fun Z hZ=>?_;simp only [go_sem,seval,hr62];refine hZ _ (pp (eS rfl (fun hc63=>?_) (fun hc63=>?_)))
 ·rw [if_neg (ne_true_of_eq_false hc63)] at h;refine Ws fun Z hZ=>?_;simp only [go_sem,seval,hc63];refine hZ _ (pp (Wk_ret (pp ?_)));cases h;simp only [go_sem,seval];exact ⟨_,rfl,RokI.h,PureI.h⟩
 rw [if_pos hc63] at h;refine ak (pp (Wk_seq ?_));obtain ⟨r67,hr64,h⟩:=Option.bind_eq_some_iff.1 h;refine ae fun Z hZ=>?_;simp only [go_sem,seval,hc63,hr64];refine hZ _ (pp (Wk_seq ?_));apply dh (fun (c78:Bool)=>⟨tab 235 (updT (updT (updT (updT (updT (updT (updT (updT (updT (updT (updT deadT 0 (.sl false none 4 none (a0.map aa.row))) 3 (.sl false none 4 none (l65.map Client.row))) 4 (.pref 4 [] 0 0)) 5 (.pref 5 [] 0 0)) 6 (.pref 6 [] 0 0)) 7 (.pref 7 [] 0 0)) 8 (.val (.int .i64 ((v10:Nat):Int)))) 9 (.val (.int .i64 (IntKind.i64.wrap (Int.tmod x13.Client_ 3))))) 10 (.val (.int .i64 (IntKind.i64.wrap (1+(IntKind.i64.wrap (Int.tmod x13.Seq 31))))))) 11 (.val (.string (bstr [IntKind.u8.wrap (97+(IntKind.u8.wrap (IntKind.i64.wrap (Int.tmod x13.Client_ 3))))])))) 210 (.val (.bool c78))),(upd (upd (upd (upd RZ 4 (.sl true none 96 (some 1) [l28.map bC])) 5 (.sl true none 96 (some 1) [l29.map bC])) 6 (.sl true none 96 (some 1) [l30.map bC])) 7 (.sl true none 96 (some 1) [l31.map (iC .i64)]))⟩)
 ·intro hJ65;obtain ⟨hg66,h⟩:=aO h;obtain ⟨hg67,h⟩:=aO h;obtain ⟨x79,hx68,h⟩:=fA h;refine fv fun Z hZ=>?_;simp only [go_sem,seval,hg66,hg67,fH (f:=bC) hx68,arr_le hx68];refine sw (bX rfl) (fun hc69=>?_) (fun hc69=>?_)
  ·rw [if_neg (ne_true_of_eq_false hc69)] at h;simp only [go_sem,seval,hc69];refine jD rfl (fun hc78=>?_) (fun hc78=>?_)
   ·have hc78d:=decide_eq_false hc78;rw [if_neg hc78] at h;simp only [go_sem,seval,hc78d];refine hZ _ (by kernel_rfl) (pp (hJ65 _ true ?_ h));refine wr ?_ ?_<;>repeat' first|rfl|constructor
   have hc78d:=decide_eq_true hc78;rw [if_pos hc78] at h;simp only [go_sem,seval,hc78d];refine sw (bX rfl) (fun hc79=>?_) (fun hc79=>?_)
   ·rw [if_neg (ne_true_of_eq_false hc79)] at h;simp only [go_sem,seval,hc79];refine hZ _ (by kernel_rfl) (pp (hJ65 _ false ?_ h));refine wr ?_ ?_<;>repeat' first|rfl|constructor
   rw [if_pos hc79] at h;obtain ⟨hg80,h⟩:=aO h;obtain ⟨hg81,h⟩:=aO h;obtain ⟨x82,hx82,h⟩:=fA h;simp only [go_sem,seval,hg66,hg67,hc79,fH (f:=(iC .i64)) hx82,arr_le hx82];refine hZ _ (by kernel_rfl) (pp (hJ65 _ (!decide (r67.1.Value_.N=x82)) ?_ h));refine wr ?_ ?_<;>repeat' first|rfl|constructor
  rw [if_pos hc69] at h;obtain ⟨hg70,h⟩:=aO h;obtain ⟨hg71,h⟩:=aO h;obtain ⟨x80,hx72,h⟩:=fA h;simp only [go_sem,seval,hg66,hg67,hc69,fH (f:=bC) hx72,arr_le hx72];refine jD rfl (fun hc73=>?_) (fun hc73=>?_)
  ·have hc73d:=decide_eq_false hc73;rw [if_neg hc73] at h;simp only [go_sem,seval,hc73d];refine hZ _ (by kernel_rfl) (pp (hJ65 _ true ?_ h));refine wr ?_ ?_<;>repeat' first|rfl|constructor
  have hc73d:=decide_eq_true hc73;rw [if_pos hc73] at h;simp only [go_sem,seval,hc73d];refine sw (bX rfl) (fun hc74=>?_) (fun hc74=>?_)
  ·rw [if_neg (ne_true_of_eq_false hc74)] at h;simp only [go_sem,seval,hc74];refine hZ _ (by kernel_rfl) (pp (hJ65 _ false ?_ h));refine wr ?_ ?_<;>repeat' first|rfl|constructor
  rw [if_pos hc74] at h;obtain ⟨hg75,h⟩:=aO h;obtain ⟨hg76,h⟩:=aO h;obtain ⟨x81,hx77,h⟩:=fA h;simp only [go_sem,seval,hg66,hg67,hc74,fH (f:=(iC .i64)) hx77,arr_le hx77];refine hZ _ (by kernel_rfl) (pp (hJ65 _ (!decide (r67.1.Value_.N=x81)) ?_ h));refine wr ?_ ?_<;>repeat' first|rfl|constructor
 intro c78 h;unfold dK at h;refine aH rfl (fun hc83=>?_) (fun hc83=>?_)
 ·rw [if_pos hc83] at h;refine Ws fun Z hZ=>?_;simp only [go_sem,seval,hc83];refine hZ _ (pp (Wk_ret (pp ?_)));cases h;simp only [go_sem,seval];exact ⟨_,rfl,RokI.h,PureI.h⟩
 rw [if_neg (ne_true_of_eq_false hc83)] at h;refine ak (pp ?_);unfold dJ at h;refine Ws fun Z hZ=>?_;simp only [go_sem,seval,hc83];refine hZ _ (pp ?_);apply dh (fun (v86:Int)=>⟨tab 235 (updT (updT (updT (updT (updT (updT (updT (updT (updT (updT deadT 0 (.sl false none 4 none (a0.map aa.row))) 3 (.sl false none 4 none (l65.map Client.row))) 4 (.pref 4 [] 0 0)) 5 (.pref 5 [] 0 0)) 6 (.pref 6 [] 0 0)) 7 (.pref 7 [] 0 0)) 8 (.val (.int .i64 ((v10:Nat):Int)))) 10 (.val (.int .i64 (IntKind.i64.wrap (1+(IntKind.i64.wrap (Int.tmod x13.Seq 31))))))) 11 (.val (.string (bstr [IntKind.u8.wrap (97+(IntKind.u8.wrap (IntKind.i64.wrap (Int.tmod x13.Client_ 3))))])))) 17 (.val (.int .i64 v86))),(upd (upd (upd (upd RZ 4 (.sl true none 96 (some 1) [l28.map bC])) 5 (.sl true none 96 (some 1) [l29.map bC])) 6 (.sl true none 96 (some 1) [l30.map bC])) 7 (.sl true none 96 (some 1) [l31.map (iC .i64)]))⟩)
 ·intro hJ84;refine aA (Wk_seq ?_);obtain ⟨hg85,h⟩:=aO h;obtain ⟨hg86,h⟩:=aO h;obtain ⟨x87,hx87,h⟩:=fA h;refine ae fun Z hZ=>?_;simp only [go_sem,seval,hg85,hg86,fH (f:=bC) hx87,arr_le hx87];refine hZ _ (pp (aH rfl (fun hc88=>?_) (fun hc88=>?_)))
  ·rw [if_pos hc88] at h;refine ae fun Z hZ=>?_;simp only [go_sem,seval,hc88];refine hZ _ (pp (hJ84 _ 3 ?_ h));refine wr ?_ ?_<;>repeat' first|rfl|constructor
  rw [if_neg (ne_true_of_eq_false hc88)] at h;refine Wk_seq ?_;obtain ⟨hg89,h⟩:=aO h;obtain ⟨hg90,h⟩:=aO h;obtain ⟨x88,hx91,h⟩:=fA h;refine ae fun Z hZ=>?_;simp only [go_sem,seval,hg85,hg86,hc88,fH (f:=bC) hx91,arr_le hx91];refine hZ _ (pp (aH rfl (fun hc92=>?_) (fun hc92=>?_)))
  ·rw [if_pos hc92] at h;refine ae fun Z hZ=>?_;simp only [go_sem,seval,hc92];refine hZ _ (pp (hJ84 _ 2 ?_ h));refine wr ?_ ?_<;>repeat' first|rfl|constructor
  rw [if_neg (ne_true_of_eq_false hc92)] at h;refine Wk_seq ?_;obtain ⟨hg93,h⟩:=aO h;obtain ⟨hg94,h⟩:=aO h;obtain ⟨x89,hx95,h⟩:=fA h;refine ae fun Z hZ=>?_;simp only [go_sem,seval,hg85,hg86,hc92,fH (f:=bC) hx95,arr_le hx95];refine hZ _ (pp (sw (aH rfl) (fun hc96=>?_) (fun hc96=>?_)))
  ·rw [if_neg (ne_true_of_eq_false hc96)] at h;refine ak (pp (hJ84 _ 0 ?_ h));refine wr ?_ ?_<;>repeat' first|rfl|constructor
  rw [if_pos hc96] at h;refine ae fun Z hZ=>?_;simp only [go_sem,seval,hc96];refine hZ _ (pp (hJ84 _ 1 ?_ h));refine wr ?_ ?_<;>repeat' first|rfl|constructor
 intro v86 h;unfold eY at h;refine Wk_seq ?_;obtain ⟨r90,hr97,h⟩:=Option.bind_eq_some_iff.1 h;refine ae fun Z hZ=>?_;simp only [go_sem,seval,hr97];refine hZ _ (pp (rM rfl (fun hc98=>?_) (fun hc98=>?_)))
 ·have hc98d:=decide_eq_false hc98;rw [if_neg hc98] at h;refine Ws fun Z hZ=>?_;simp only [go_sem,seval,hc98d];refine hZ _ (pp (Wk_ret (pp ?_)));cases h;simp only [go_sem,seval];exact ⟨_,rfl,RokI.h,PureI.h⟩
 have hc98d:=decide_eq_true hc98;rw [if_pos hc98] at h;refine ak (pp (ae fun Z hZ=>?_));simp only [go_sem,seval,hw8,hc98d];refine hZ _ (pp ?_);first|refine ⟨(l28,l29,l30,l31,l65),?_,h⟩|refine ⟨hi6',(l28,l29,l30,l31,l65),?_,h⟩
 refine wr ?_ ?_<;>repeat' first|rfl|constructor
def mF (N:Nat):FnS:=⟨[],true,fn1 (decL 4 aa.dec) fun q0=>(gl N q0).map fun r=>.val (.bool r),false⟩
attribute [go_sem] mF
theorem zd (N:Nat):FSOk Try.prog 4 (mF N):=ok1 (fun q0 r h=>by
 obtain ⟨r',hr,rfl⟩:=Option.map_eq_some_iff.1 h;exact m6 N q0 r' hr) (fun h=>aF aa.dec_le h)

end Go.Proofs.Yteldkhmcgloafaa
