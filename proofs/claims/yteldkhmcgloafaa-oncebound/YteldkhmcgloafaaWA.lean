/- Walks: each function computes its model. No condition. -/
import Derived.Test.YteldkhmcgloafaaV
/- Each Go function computes its model: proofs laid by a program of ours. -/
set_option maxHeartbeats 40000000
set_option synthInstance.maxHeartbeats 2000000
set_option synthInstance.maxSize 4000
set_option linter.unusedSimpArgs false
set_option linter.unusedVariables false
set_option maxRecDepth 100000
namespace Go.Proofs.Yteldkhmcgloafaa
open Go Go.Proofs Go.Abs
theorem uy (N:Nat) (a0:ByteArray) (r:Bool) (h:fS N a0=some r):Con Try.prog 26 [] true [.val (.string a0)] (.val (.bool r)):=by
 refine aO (G:=(glist [])) Try.func26 rfl (by decide) (by kernel_rfl) gn [] mix (Nat.le_of_ble_eq_true rfl) ?_;simp only [Try.f26];unfold fS at h;refine Ws fun Z hZ=>?_;simp only [go_sem,seval];refine hZ _ (pp (Ws fun Z hZ=>?_));simp only [go_sem,seval];refine ai rfl (fun hc1=>?_) (fun hc1=>?_)
 ·have hc1d:=decide_eq_true hc1;rw [if_pos hc1] at h;simp only [go_sem,seval,hc1d];refine hZ _ (pp (Wk_ret (pp ?_)));cases h;simp only [go_sem,seval];exact ⟨_,rfl,RokI.h,PureI.h⟩
 have hc1d:=decide_eq_false hc1;rw [if_neg hc1] at h;simp only [go_sem,seval,hc1d];refine hZ _ (pp (Wk_ret (pp ?_)));cases h;simp only [go_sem,seval];exact ⟨_,rfl,RokI.h,PureI.h⟩
def gJ (N:Nat):FnS:=⟨[],true,fn1 decS fun q0=>(fS N q0).map fun r=>.val (.bool r),false⟩
attribute [go_sem] gJ
theorem iT (N:Nat):FSOk Try.prog 26 (gJ N):=ok1 (fun q0 r h=>by
 obtain ⟨r',hr,rfl⟩:=Option.map_eq_some_iff.1 h;exact uy N q0 r' hr) (bn)


theorem p8 (N:Nat) (a0:(List Int)) (a1:Int) (r:Int) (h:gj N a0 a1=some r):Con Try.prog 76 [] true [.sl false none 1 none (a0.map (rowI .i64)),.val (.int .i64 a1)] (.val (.int .i64 r)):=by
 refine aO (G:=(glist [])) Try.func76 rfl (by decide) (by kernel_rfl) gn [] mix (Nat.le_of_ble_eq_true rfl) ?_;simp only [Try.f76];unfold gj at h;refine Ws fun Z hZ=>?_;simp only [go_sem,seval];refine hZ _ (pp (Wk_seq (Ws fun Z hZ=>?_)));simp only [go_sem,seval];refine hZ _ (pp (aA (fY fun hreal2=>?_)));have hl1:=hreal2.lenT 0 (by decide) (by simp only [go_sem,seval]; rfl);first|rw [List.length_map] at hl1|rw [ee] at hl1|rw [<-List.map_append,List.length_map] at hl1
 refine gh (fun (v2:Nat) (b:Unit)=>⟨tab 19 (updT (updT (updT (updT deadT 0 (.sl false none 1 none (a0.map (rowI .i64)))) 1 (.val (.int .i64 a1))) 7 (.val (.int .i64 ((a0.length:Nat):Int)))) 8 (.val (.int .i64 ((v2:Nat):Int)))),RZ⟩) () h ?_ ?_
 ·refine wr ?_ ?_<;>repeat' first|rfl|constructor
 rintro v2 ⟨⟩ hi3 h -;rcases (eP a0 v2 hi3).symm with ⟨hi3',_,hd6⟩|⟨x5,hi3',hx4,hd6⟩
 ·rw [hd6] at h;simp only [eb] at h;refine Ws fun Z hZ=>?_;simp only [go_sem,seval,hi3'];refine hZ _ (pp (Wk_seq ?_));try simp only [Int.ofNat_lt,hi3',if_true,if_false] at h
  refine dg rfl (dj (pp (Ws fun Z hZ=>?_)));simp only [go_sem,seval];refine hZ _ (pp (Wk_ret (pp ?_)));cases h;simp only [go_sem,seval];exact ⟨_,rfl,RokI.h,PureI.h⟩
 rw [hd6] at h;simp only [eb] at h;have hw5:=eA hi3' hl1;refine Ws fun Z hZ=>?_;simp only [go_sem,seval,hi3'];refine hZ _ (pp (Wk_seq ?_));try simp only [Int.ofNat_lt,hi3',if_true,if_false] at h
 refine dC rfl (ah (pp (Wk_seq (aA (Ws fun Z hZ=>?_)))));simp only [go_sem,seval];refine hZ _ (pp (Wk_seq ?_));try rw [gx_nat hx4] at h
 refine aa fun Z hZ=>?_;simp only [go_sem,seval,hx4,hi3'];refine hZ _ (pp (bG rfl (fun hc7=>?_) (fun hc7=>?_)))
 ·have hc7d:=decide_eq_true hc7;rw [if_pos hc7] at h;refine Ws fun Z hZ=>?_;simp only [go_sem,seval,hc7d];refine hZ _ (pp (Wk_ret (pp ?_)));cases h;simp only [go_sem,seval];exact ⟨_,rfl,RokI.h,PureI.h⟩
 have hc7d:=decide_eq_false hc7;rw [if_neg hc7] at h;refine ah (pp (aa fun Z hZ=>?_));simp only [go_sem,seval,hw5,hc7d];refine hZ _ (pp ?_);first|refine ⟨(),?_,h⟩|refine ⟨hi3',(),?_,h⟩
 refine wr ?_ ?_<;>repeat' first|rfl|constructor
def jc (N:Nat):FnS:=⟨[],true,fn2 (decL 1 (dec1 (decI .i64))) (decI .i64) fun q0 q1=>(gj N q0 q1).map fun r=>.val (.int .i64 r),false⟩
attribute [go_sem] jc
theorem oB (N:Nat):FSOk Try.prog 76 (jc N):=ok2 (fun q0 q1 r h=>by
 obtain ⟨r',hr,rfl⟩:=Option.map_eq_some_iff.1 h;exact p8 N q0 q1 r' hr) (fun h=>aB (bZ .i64) h) (ag)


noncomputable def kf (N d f:Nat):Option FnS:=glist [(7,76,jc N)] d f
attribute [go_sem] kf
theorem oU (N:Nat) (a0:(List Int)) (a1:Int) (r:Bool) (h:ed N a0 a1=some r):Con Try.prog 71 [] true [.sl false none 1 none (a0.map (rowI .i64)),.val (.int .i64 a1)] (.val (.bool r)):=by
 refine aO (G:=(kf N)) Try.func71 rfl (by decide) (by kernel_rfl) (gc 7 (oB N) gn) [] mix (Nat.le_of_ble_eq_true rfl) ?_;simp only [Try.f71];unfold ed at h;refine Ws fun Z hZ=>?_;simp only [go_sem,seval];refine hZ _ (pp (Wk_seq ?_));obtain ⟨r1,hr1,h⟩:=Option.bind_eq_some_iff.1 h;refine aa fun Z hZ=>?_;simp only [go_sem,seval,hr1];refine hZ _ (pp (Wk_ret (pp ?_)));cases h;simp only [go_sem,seval];exact ⟨_,rfl,RokI.h,PureI.h⟩
def iA (N:Nat):FnS:=⟨[],true,fn2 (decL 1 (dec1 (decI .i64))) (decI .i64) fun q0 q1=>(ed N q0 q1).map fun r=>.val (.bool r),false⟩
attribute [go_sem] iA
theorem mg (N:Nat):FSOk Try.prog 71 (iA N):=ok2 (fun q0 q1 r h=>by
 obtain ⟨r',hr,rfl⟩:=Option.map_eq_some_iff.1 h;exact oU N q0 q1 r' hr) (fun h=>aB (bZ .i64) h) (ag)


theorem sn (N:Nat) (a0:Int) (r:Bool) (h:fq N a0=some r):Con Try.prog 27 [] true [.val (.int .i64 a0)] (.val (.bool r)):=by
 refine aO (G:=(glist [])) Try.func27 rfl (by decide) (by kernel_rfl) gn [] mix (Nat.le_of_ble_eq_true rfl) ?_;simp only [Try.f27];unfold fq at h;refine Ws fun Z hZ=>?_;simp only [go_sem,seval];refine hZ _ (pp (Ws fun Z hZ=>?_));simp only [go_sem,seval];refine ai rfl (fun hc1=>?_) (fun hc1=>?_)
 ·have hc1d:=decide_eq_true hc1;rw [if_pos hc1] at h;simp only [go_sem,seval,hc1d];refine hZ _ (pp (Wk_ret (pp ?_)));cases h;simp only [go_sem,seval];exact ⟨_,rfl,RokI.h,PureI.h⟩
 have hc1d:=decide_eq_false hc1;rw [if_neg hc1] at h;simp only [go_sem,seval,hc1d];refine hZ _ (pp (Wk_ret (pp ?_)));cases h;simp only [go_sem,seval];exact ⟨_,rfl,RokI.h,PureI.h⟩
def im (N:Nat):FnS:=⟨[],true,fn1 (decI .i64) fun q0=>(fq N q0).map fun r=>.val (.bool r),false⟩
attribute [go_sem] im
theorem jx (N:Nat):FSOk Try.prog 27 (im N):=ok1 (fun q0 r h=>by
 obtain ⟨r',hr,rfl⟩:=Option.map_eq_some_iff.1 h;exact sn N q0 r' hr) (ag)


theorem qN (N:Nat) (a0:Value) (r:Bool) (h:fF N a0=some r):Con Try.prog 51 [] true [.agg (Value.row a0)] (.val (.bool r)):=by
 refine aO (G:=(glist [])) Try.func51 rfl (by decide) (by kernel_rfl) gn [] mix (Nat.le_of_ble_eq_true rfl) ?_;simp only [Try.f51];unfold fF at h;refine Ws fun Z hZ=>?_;simp only [go_sem,seval];refine hZ _ (pp (Wk_seq ?_));apply dE (fun (c3:Bool)=>⟨tab 86 (updT (updT deadT 1 (.pref 1 [] 0 0)) 12 (.val (.bool c3))),(upd RZ 1 (.sl true none 5 (some 1) [Value.row a0]))⟩)
 ·intro hJ1;refine aa fun Z hZ=>?_;simp only [go_sem,seval];refine ai rfl (fun hc2=>?_) (fun hc2=>?_)
  ·have hc2d:=decide_eq_true hc2;rw [if_pos hc2] at h;simp only [go_sem,seval,hc2d];refine hZ _ (pp (hJ1 _ true ?_ h));refine wr ?_ ?_<;>repeat' first|rfl|constructor|simp only [go_sem,seval,Bool.or_self,List.length_set,Int.natCast_zero,Int.cast_ofNat_Int,hc2d]
  have hc2d:=decide_eq_false hc2;rw [if_neg hc2] at h;simp only [go_sem,seval,hc2d];refine hZ _ (pp (hJ1 _ (decide (5 < a0.Kind)) ?_ h));refine wr ?_ ?_<;>repeat' first|rfl|constructor|simp only [go_sem,seval,Bool.or_self,List.length_set,Int.natCast_zero,Int.cast_ofNat_Int,hc2d]
 intro c3 h;unfold gV at h;refine aN rfl (fun hc3=>?_) (fun hc3=>?_)
 ·rw [if_pos hc3] at h;refine Ws fun Z hZ=>?_;simp only [go_sem,seval,hc3];refine hZ _ (pp (Wk_ret (pp ?_)));cases h;simp only [go_sem,seval];exact ⟨_,rfl,RokI.h,PureI.h⟩
 rw [if_neg (ne_true_of_eq_false hc3)] at h;refine ah (pp ?_);unfold ij at h;refine Wk_seq (aA ?_);apply dE (fun (c12:Bool)=>⟨tab 86 (updT (updT deadT 1 (.pref 1 [] 0 0)) 13 (.val (.bool c12))),(upd RZ 1 (.sl true none 5 (some 1) [Value.row a0]))⟩)
 ·intro hJ4;refine aa fun Z hZ=>?_;simp only [go_sem,seval,hc3];refine sw (iW rfl) (fun hc5=>?_) (fun hc5=>?_)
  ·have hc5d:=decide_eq_true hc5;rw [if_pos hc5] at h;simp only [go_sem,seval,hc5d];refine hZ _ (pp (hJ4 _ false ?_ h));refine wr ?_ ?_<;>repeat' first|rfl|constructor|simp only [go_sem,seval,Bool.or_self,List.length_set,Int.natCast_zero,Int.cast_ofNat_Int,hc3,hc5d]
  have hc5d:=decide_eq_false hc5;rw [if_neg hc5] at h;simp only [go_sem,seval,hc5d];refine sw (iW rfl) (fun hc6=>?_) (fun hc6=>?_)
  ·have hc6d:=decide_eq_true hc6;rw [if_pos hc6] at h;simp only [go_sem,seval,hc6d];refine hZ _ (pp (hJ4 _ false ?_ h));refine wr ?_ ?_<;>repeat' first|rfl|constructor|simp only [go_sem,seval,Bool.or_self,List.length_set,Int.natCast_zero,Int.cast_ofNat_Int,hc3,hc5d,hc6d]
  have hc6d:=decide_eq_false hc6;rw [if_neg hc6] at h;simp only [go_sem,seval,hc6d];refine iW rfl (fun hc7=>?_) (fun hc7=>?_)
  ·have hc7d:=decide_eq_false hc7;rw [if_neg hc7] at h;simp only [go_sem,seval,hc7d];refine hZ _ (pp (hJ4 _ true ?_ h));refine wr ?_ ?_<;>repeat' first|rfl|constructor|simp only [go_sem,seval,Bool.or_self,List.length_set,Int.natCast_zero,Int.cast_ofNat_Int,hc3,hc5d,hc6d,hc7d]
  have hc7d:=decide_eq_true hc7;rw [if_pos hc7] at h;simp only [go_sem,seval,hc7d];refine hZ _ (pp (hJ4 _ (!decide (a0.N=1)) ?_ h));refine wr ?_ ?_<;>repeat' first|rfl|constructor|simp only [go_sem,seval,Bool.or_self,List.length_set,Int.natCast_zero,Int.cast_ofNat_Int,hc3,hc5d,hc6d,hc7d]
 intro c12 h;unfold eu at h;refine aN rfl (fun hc8=>?_) (fun hc8=>?_)
 ·rw [if_pos hc8] at h;refine Ws fun Z hZ=>?_;simp only [go_sem,seval,hc8];refine hZ _ (pp (Wk_ret (pp ?_)));cases h;simp only [go_sem,seval];exact ⟨_,rfl,RokI.h,PureI.h⟩
 rw [if_neg (ne_true_of_eq_false hc8)] at h;apply dE (fun (c17:Bool)=>⟨tab 86 (updT (updT deadT 1 (.pref 1 [] 0 0)) 32 (.val (.bool c17))),(upd RZ 1 (.sl true none 5 (some 1) [Value.row a0]))⟩)
 ·intro hJ9;apply dE (fun (c18:Bool)=>⟨tab 86 (updT (updT deadT 1 (.pref 1 [] 0 0)) 32 (.val (.bool c18))),(upd RZ 1 (.sl true none 5 (some 1) [Value.row a0]))⟩)
  ·intro hJ10;refine aa fun Z hZ=>?_;simp only [go_sem,seval,hc8];refine da rfl (fun hc11=>?_) (fun hc11=>?_)
   ·rw [if_neg (ne_true_of_eq_false hc11)] at h;simp only [go_sem,seval,hc11];refine hZ _ (pp (hJ10 _ (!decide (a0.Kind=3)) ?_ h));refine wr ?_ ?_<;>repeat' first|rfl|constructor|simp only [go_sem,seval,Bool.or_self,List.length_set,Int.natCast_zero,Int.cast_ofNat_Int,hc3,hc8,hc11]
   rw [if_pos hc11] at h;simp only [go_sem,seval,hc11];refine hZ _ (pp (hJ10 _ false ?_ h));refine wr ?_ ?_<;>repeat' first|rfl|constructor|simp only [go_sem,seval,Bool.or_self,List.length_set,Int.natCast_zero,Int.cast_ofNat_Int,hc3,hc8,hc11]
  intro c18 h;unfold il at h;refine aN rfl (fun hc12=>?_) (fun hc12=>?_)
  ·rw [if_pos hc12] at h;refine ah (pp (hJ9 _ true ?_ h));refine wr ?_ ?_<;>repeat' first|rfl|constructor|simp only [go_sem,seval,hc12]
  rw [if_neg (ne_true_of_eq_false hc12)] at h;apply dE (fun (c19:Bool)=>⟨tab 86 (updT (updT deadT 1 (.pref 1 [] 0 0)) 32 (.val (.bool c19))),(upd RZ 1 (.sl true none 5 (some 1) [Value.row a0]))⟩)
  ·intro hJ13;refine aa fun Z hZ=>?_;simp only [go_sem,seval,hc12];refine ai rfl (fun hc14=>?_) (fun hc14=>?_)
   ·have hc14d:=decide_eq_true hc14;rw [if_pos hc14] at h;simp only [go_sem,seval,hc14d];refine hZ _ (pp (hJ13 _ (!decide (a0.Kind=4)) ?_ h));refine wr ?_ ?_<;>repeat' first|rfl|constructor|simp only [go_sem,seval,Bool.or_self,List.length_set,Int.natCast_zero,Int.cast_ofNat_Int,hc3,hc8,hc12,hc14d]
   have hc14d:=decide_eq_false hc14;rw [if_neg hc14] at h;simp only [go_sem,seval,hc14d];refine hZ _ (pp (hJ13 _ false ?_ h));refine wr ?_ ?_<;>repeat' first|rfl|constructor|simp only [go_sem,seval,Bool.or_self,List.length_set,Int.natCast_zero,Int.cast_ofNat_Int,hc3,hc8,hc12,hc14d]
  intro c19 h;unfold gM at h;refine aN rfl (fun hc15=>?_) (fun hc15=>?_)
  ·rw [if_pos hc15] at h;refine ah (pp (hJ9 _ true ?_ h));refine wr ?_ ?_<;>repeat' first|rfl|constructor|simp only [go_sem,seval,hc15]
  rw [if_neg (ne_true_of_eq_false hc15)] at h;refine aa fun Z hZ=>?_;simp only [go_sem,seval,hc15];refine ai rfl (fun hc16=>?_) (fun hc16=>?_)
  ·have hc16d:=decide_eq_true hc16;rw [if_pos hc16] at h;simp only [go_sem,seval,hc16d];refine hZ _ (pp (hJ9 _ (!decide (a0.Kind=5)) ?_ h));refine wr ?_ ?_<;>repeat' first|rfl|constructor|simp only [go_sem,seval,Bool.or_self,List.length_set,Int.natCast_zero,Int.cast_ofNat_Int,hc3,hc8,hc12,hc15,hc16d]
  have hc16d:=decide_eq_false hc16;rw [if_neg hc16] at h;simp only [go_sem,seval,hc16d];refine hZ _ (pp (hJ9 _ false ?_ h));refine wr ?_ ?_<;>repeat' first|rfl|constructor|simp only [go_sem,seval,Bool.or_self,List.length_set,Int.natCast_zero,Int.cast_ofNat_Int,hc3,hc8,hc12,hc15,hc16d]
 intro c17 h;unfold gN at h;refine aN rfl (fun hc17=>?_) (fun hc17=>?_)
 ·rw [if_pos hc17] at h;refine Ws fun Z hZ=>?_;simp only [go_sem,seval,hc17];refine hZ _ (pp (Wk_ret (pp ?_)));cases h;simp only [go_sem,seval];exact ⟨_,rfl,RokI.h,PureI.h⟩
 rw [if_neg (ne_true_of_eq_false hc17)] at h;refine ah (pp ?_);unfold eE at h;refine Wk_seq ?_;apply dE (fun (c22:Bool)=>⟨tab 86 (updT (updT deadT 1 (.pref 1 [] 0 0)) 74 (.val (.bool c22))),(upd RZ 1 (.sl true none 5 (some 1) [Value.row a0]))⟩)
 ·intro hJ18;refine aa fun Z hZ=>?_;simp only [go_sem,seval,hc17];refine ai rfl (fun hc19=>?_) (fun hc19=>?_)
  ·have hc19d:=decide_eq_true hc19;rw [if_pos hc19] at h;simp only [go_sem,seval,hc19d];refine hZ _ (pp (hJ18 _ true ?_ h));refine wr ?_ ?_<;>repeat' first|rfl|constructor|simp only [go_sem,seval,Bool.or_self,List.length_set,Int.natCast_zero,Int.cast_ofNat_Int,hc3,hc8,hc17,hc19d]
  have hc19d:=decide_eq_false hc19;rw [if_neg hc19] at h;simp only [go_sem,seval,hc19d];refine ai rfl (fun hc20=>?_) (fun hc20=>?_)
  ·have hc20d:=decide_eq_true hc20;rw [if_pos hc20] at h;simp only [go_sem,seval,hc20d];refine hZ _ (pp (hJ18 _ true ?_ h));refine wr ?_ ?_<;>repeat' first|rfl|constructor|simp only [go_sem,seval,Bool.or_self,List.length_set,Int.natCast_zero,Int.cast_ofNat_Int,hc3,hc8,hc17,hc19d,hc20d]
  have hc20d:=decide_eq_false hc20;rw [if_neg hc20] at h;simp only [go_sem,seval,hc20d];refine hZ _ (pp (hJ18 _ (decide (16 < ((a0.L.length:Nat):Int))) ?_ h));refine wr ?_ ?_<;>repeat' first|rfl|constructor|simp only [go_sem,seval,Bool.or_self,List.length_set,Int.natCast_zero,Int.cast_ofNat_Int,hc3,hc8,hc17,hc19d,hc20d]
 intro c22 h;unfold fu at h;refine aN rfl (fun hc21=>?_) (fun hc21=>?_)
 ·rw [if_pos hc21] at h;refine Ws fun Z hZ=>?_;simp only [go_sem,seval,hc21];refine hZ _ (pp (Wk_ret (pp ?_)));cases h;simp only [go_sem,seval];exact ⟨_,rfl,RokI.h,PureI.h⟩
 rw [if_neg (ne_true_of_eq_false hc21)] at h;refine ah (pp ?_);unfold fw at h;refine Wk_seq (Ws fun Z hZ=>?_);simp only [go_sem,seval,hc21];refine hZ _ (pp (aA (fY fun hreal23=>?_)));have hl22:=hreal23.lenT 76 (by decide) (by simp only [go_sem,seval]; rfl);first|rw [List.length_map] at hl22|rw [ee] at hl22|rw [<-List.map_append,List.length_map] at hl22
 refine gh (fun (v17:Nat) (b:Unit)=>⟨tab 86 (updT (updT (updT deadT 76 (.sl false none 1 none (a0.L.map rowS))) 77 (.val (.int .i64 ((a0.L.length:Nat):Int)))) 78 (.val (.int .i64 ((v17:Nat):Int)))),RZ⟩) () h ?_ ?_
 ·refine wr ?_ ?_<;>repeat' first|rfl|constructor|simp only [go_sem,seval,Bool.or_self,List.length_set,Int.natCast_zero,Int.cast_ofNat_Int,hc3,hc8,hc17,hc21]
 rintro v17 ⟨⟩ hi24 h -;rcases (eP a0.L v17 hi24).symm with ⟨hi24',_,hd27⟩|⟨x20,hi24',hx25,hd27⟩
 ·rw [hd27] at h;simp only [ew] at h;refine Ws fun Z hZ=>?_;simp only [go_sem,seval,hi24'];refine hZ _ (pp (Wk_seq ?_));try simp only [Int.ofNat_lt,hi24',if_true,if_false] at h
  refine dg rfl (dj (pp (Ws fun Z hZ=>?_)));simp only [go_sem,seval];refine hZ _ (pp (Wk_ret (pp ?_)));cases h;simp only [go_sem,seval];exact ⟨_,rfl,RokI.h,PureI.h⟩
 rw [hd27] at h;simp only [ew] at h;have hw26:=eA hi24' hl22;refine Ws fun Z hZ=>?_;simp only [go_sem,seval,hi24'];refine hZ _ (pp (Wk_seq ?_));try simp only [Int.ofNat_lt,hi24',if_true,if_false] at h
 refine dC rfl (ah (pp (Wk_seq (aA (Wk_seq ?_)))));try rw [gx_nat hx25] at h
 refine aa fun Z hZ=>?_;simp only [go_sem,seval,hx25,hi24'];refine hZ _ (pp (Ws fun Z hZ=>?_));simp only [go_sem,seval];refine hZ _ (pp (bG rfl (fun hc28=>?_) (fun hc28=>?_)))
 ·have hc28d:=decide_eq_true hc28;rw [if_pos hc28] at h;refine Ws fun Z hZ=>?_;simp only [go_sem,seval,hc28d];refine hZ _ (pp (Wk_ret (pp ?_)));cases h;simp only [go_sem,seval];exact ⟨_,rfl,RokI.h,PureI.h⟩
 have hc28d:=decide_eq_false hc28;rw [if_neg hc28] at h;refine ah (pp (aa fun Z hZ=>?_));simp only [go_sem,seval,hw26,hc28d];refine hZ _ (pp ?_);first|refine ⟨(),?_,h⟩|refine ⟨hi24',(),?_,h⟩
 refine wr ?_ ?_<;>repeat' first|rfl|constructor|simp only [go_sem,seval,Bool.or_self,List.length_set,Int.natCast_zero,Int.cast_ofNat_Int,hc3,hc8,hc17,hc21,hx25,hi24',hw26,hc28d]
def ju (N:Nat):FnS:=⟨[],true,fn1 Value.decA fun q0=>(fF N q0).map fun r=>.val (.bool r),false⟩
attribute [go_sem] ju
theorem o7 (N:Nat):FSOk Try.prog 51 (ju N):=ok1 (fun q0 r h=>by
 obtain ⟨r',hr,rfl⟩:=Option.map_eq_some_iff.1 h;exact qN N q0 r' hr) (Value.decA_le)


noncomputable def lI (N d f:Nat):Option FnS:=glist [(5,26,gJ N),(9,27,im N),(30,51,ju N)] d f
attribute [go_sem] lI
theorem qi (N:Nat) (a0:Reply) (r:Bool) (h:ej N a0=some r):Con Try.prog 24 [] true [.agg (Reply.row a0)] (.val (.bool r)):=by
 refine aO (G:=(lI N)) Try.func24 rfl (by decide) (by kernel_rfl) (gc 5 (iT N) (gc 9 (jx N) (gc 30 (o7 N) gn))) [] mix (Nat.le_of_ble_eq_true rfl) ?_;simp only [Try.f24];unfold ej at h;refine Ws fun Z hZ=>?_;simp only [go_sem,seval];refine hZ _ (pp (Wk_seq ?_));obtain ⟨r1,hr1,h⟩:=Option.bind_eq_some_iff.1 h;refine aa fun Z hZ=>?_;simp only [go_sem,seval,hr1];refine sw (eV rfl) (fun hc2=>?_) (fun hc2=>?_)
 ·rw [if_neg (ne_true_of_eq_false hc2)] at h;simp only [go_sem,seval,hc2];refine hZ _ (pp (Wk_ret (pp ?_)));cases h;simp only [go_sem,seval];exact ⟨_,rfl,RokI.h,PureI.h⟩
 rw [if_pos hc2] at h;obtain ⟨r2,hr3,h⟩:=Option.bind_eq_some_iff.1 h;simp only [go_sem,seval,hc2,hr3];refine sw (eV rfl) (fun hc4=>?_) (fun hc4=>?_)
 ·rw [if_neg (ne_true_of_eq_false hc4)] at h;simp only [go_sem,seval,hc4];refine hZ _ (pp (Wk_ret (pp ?_)));cases h;simp only [go_sem,seval];exact ⟨_,rfl,RokI.h,PureI.h⟩
 rw [if_pos hc4] at h;simp only [go_sem,seval,hc4];refine sw (ai rfl) (fun hc5=>?_) (fun hc5=>?_)
 ·have hc5d:=decide_eq_false hc5;rw [if_neg hc5] at h;simp only [go_sem,seval,hc5d];refine hZ _ (pp (Wk_ret (pp ?_)));cases h;simp only [go_sem,seval];exact ⟨_,rfl,RokI.h,PureI.h⟩
 have hc5d:=decide_eq_true hc5;rw [if_pos hc5] at h;simp only [go_sem,seval,hc5d];refine sw (ai rfl) (fun hc6=>?_) (fun hc6=>?_)
 ·have hc6d:=decide_eq_false hc6;rw [if_neg hc6] at h;simp only [go_sem,seval,hc6d];refine hZ _ (pp (Wk_ret (pp ?_)));cases h;simp only [go_sem,seval];exact ⟨_,rfl,RokI.h,PureI.h⟩
 have hc6d:=decide_eq_true hc6;rw [if_pos hc6] at h;simp only [go_sem,seval,hc6d];refine sw (ai rfl) (fun hc7=>?_) (fun hc7=>?_)
 ·have hc7d:=decide_eq_false hc7;rw [if_neg hc7] at h;simp only [go_sem,seval,hc7d];refine hZ _ (pp (Wk_ret (pp ?_)));cases h;simp only [go_sem,seval];exact ⟨_,rfl,RokI.h,PureI.h⟩
 have hc7d:=decide_eq_true hc7;rw [if_pos hc7] at h;obtain ⟨r3,hr8,h⟩:=Option.bind_eq_some_iff.1 h;simp only [go_sem,seval,hc7d,hr8];refine sw (eV rfl) (fun hc9=>?_) (fun hc9=>?_)
 ·rw [if_neg (ne_true_of_eq_false hc9)] at h;simp only [go_sem,seval,hc9];refine hZ _ (pp (Wk_ret (pp ?_)));cases h;simp only [go_sem,seval];exact ⟨_,rfl,RokI.h,PureI.h⟩
 rw [if_pos hc9] at h;simp only [go_sem,seval,hc9];refine ai rfl (fun hc10=>?_) (fun hc10=>?_)
 ·have hc10d:=decide_eq_true hc10;rw [if_pos hc10] at h;simp only [go_sem,seval,hc10d];refine hZ _ (pp (Wk_ret (pp ?_)));cases h;simp only [go_sem,seval];exact ⟨_,rfl,RokI.h,PureI.h⟩
 have hc10d:=decide_eq_false hc10;rw [if_neg hc10] at h;simp only [go_sem,seval,hc10d];refine hZ _ (pp (Wk_ret (pp ?_)));cases h;simp only [go_sem,seval];exact ⟨_,rfl,RokI.h,PureI.h⟩
def gr (N:Nat):FnS:=⟨[],true,fn1 Reply.decA fun q0=>(ej N q0).map fun r=>.val (.bool r),false⟩
attribute [go_sem] gr
theorem jR (N:Nat):FSOk Try.prog 24 (gr N):=ok1 (fun q0 r h=>by
 obtain ⟨r',hr,rfl⟩:=Option.map_eq_some_iff.1 h;exact qi N q0 r' hr) (Reply.decA_le)


noncomputable def kT (N d f:Nat):Option FnS:=glist [(10,26,gJ N),(68,71,iA N),(73,24,gr N)] d f
attribute [go_sem] kT
theorem pX (N:Nat) (a0:Client) (r:Bool) (h:eQ N a0=some r):Con Try.prog 49 [] true [.agg (Client.row a0)] (.val (.bool r)):=by
 refine aO (G:=(kT N)) Try.func49 rfl (by decide) (by kernel_rfl) (gc 10 (iT N) (gc 68 (mg N) (gc 73 (jR N) gn))) [] mix (Nat.le_of_ble_eq_true rfl) ?_;simp only [Try.f49];unfold eQ at h;refine Ws fun Z hZ=>?_;simp only [go_sem,seval];refine hZ _ (pp (Wk_seq ?_));apply dE (fun (c5:Bool)=>⟨tab 95 (updT (updT deadT 1 (.pref 1 [] 0 0)) 31 (.val (.bool c5))),(upd RZ 1 (.sl true none 4 (some 1) [Client.row a0]))⟩)
 ·intro hJ1;obtain ⟨r6,hr2,h⟩:=Option.bind_eq_some_iff.1 h;refine aa fun Z hZ=>?_;simp only [go_sem,seval,hr2];refine da rfl (fun hc3=>?_) (fun hc3=>?_)
  ·rw [if_neg (ne_true_of_eq_false hc3)] at h;simp only [go_sem,seval,hc3];refine hZ _ (pp (hJ1 _ true ?_ h));refine wr ?_ ?_<;>repeat' first|rfl|constructor
  rw [if_pos hc3] at h;simp only [go_sem,seval,hc3];refine ai rfl (fun hc4=>?_) (fun hc4=>?_)
  ·have hc4d:=decide_eq_true hc4;rw [if_pos hc4] at h;simp only [go_sem,seval,hc4d];refine hZ _ (pp (hJ1 _ true ?_ h));refine wr ?_ ?_<;>repeat' first|rfl|constructor
  have hc4d:=decide_eq_false hc4;rw [if_neg hc4] at h;simp only [go_sem,seval,hc4d];refine ai rfl (fun hc5=>?_) (fun hc5=>?_)
  ·have hc5d:=decide_eq_true hc5;rw [if_pos hc5] at h;simp only [go_sem,seval,hc5d];refine hZ _ (pp (hJ1 _ true ?_ h));refine wr ?_ ?_<;>repeat' first|rfl|constructor
  have hc5d:=decide_eq_false hc5;rw [if_neg hc5] at h;simp only [go_sem,seval,hc5d];refine hZ _ (pp (hJ1 _ (decide (16 < (IntKind.i64.wrap (((a0.Open.length:Nat):Int)+((a0.Done.length:Nat):Int))))) ?_ h));refine wr ?_ ?_<;>repeat' first|rfl|constructor
 intro c5 h;unfold dR at h;refine aN rfl (fun hc6=>?_) (fun hc6=>?_)
 ·rw [if_pos hc6] at h;refine Ws fun Z hZ=>?_;simp only [go_sem,seval,hc6];refine hZ _ (pp (Wk_ret (pp ?_)));cases h;simp only [go_sem,seval];exact ⟨_,rfl,RokI.h,PureI.h⟩
 rw [if_neg (ne_true_of_eq_false hc6)] at h;refine ah (pp ?_);unfold dT at h;refine Ws fun Z hZ=>?_;simp only [go_sem,seval,hc6];refine hZ _ (pp (Wk_seq (Ws fun Z hZ=>?_)));simp only [go_sem,seval];refine hZ _ (pp (aA (fY fun hreal8=>?_)));have hl7:=hreal8.lenT 35 (by decide) (by simp only [go_sem,seval]; rfl);first|rw [List.length_map] at hl7|rw [ee] at hl7|rw [<-List.map_append,List.length_map] at hl7
 refine gh (fun (v7:Nat) (b:Int)=>⟨tab 95 (updT (updT (updT (updT (updT deadT 1 (.pref 1 [] 0 0)) 3 (.val (.int .i64 b))) 35 (.sl false none 1 none (a0.Open.map (rowI .i64)))) 36 (.val (.int .i64 ((a0.Open.length:Nat):Int)))) 37 (.val (.int .i64 ((v7:Nat):Int)))),(upd RZ 1 (.sl true none 4 (some 1) [Client.row a0]))⟩) a0.Low h ?_ ?_
 ·refine wr ?_ ?_<;>repeat' first|rfl|constructor
 rintro v7 v6 hi9 h -;rcases (eP a0.Open v7 hi9) with ⟨x10,hi9',hx10,hd12⟩|⟨hi9',_,hd12⟩
 ·rw [hd12] at h;simp only [dw] at h;have hw11:=eA hi9' hl7;refine Ws fun Z hZ=>?_;simp only [go_sem,seval,hi9'];refine hZ _ (pp (Wk_seq ?_));try simp only [Int.ofNat_lt,hi9',if_true,if_false] at h
  refine dC rfl (ah (pp (Wk_seq (aA (Wk_seq ?_)))));try rw [gx_nat hx10] at h
  refine aa fun Z hZ=>?_;simp only [go_sem,seval,hx10,hi9'];refine hZ _ (pp (Wk_seq ?_));apply dE (fun (c20:Bool)=>⟨tab 95 (updT (updT (updT (updT (updT (updT deadT 1 (.pref 1 [] 0 0)) 5 (.val (.int .i64 x10))) 35 (.sl false none 1 none (a0.Open.map (rowI .i64)))) 36 (.val (.int .i64 ((a0.Open.length:Nat):Int)))) 37 (.val (.int .i64 ((v7:Nat):Int)))) 47 (.val (.bool c20))),(upd RZ 1 (.sl true none 4 (some 1) [Client.row a0]))⟩)
  ·intro hJ13;refine aa fun Z hZ=>?_;simp only [go_sem,seval];refine ai rfl (fun hc14=>?_) (fun hc14=>?_)
   ·have hc14d:=decide_eq_true hc14;rw [if_pos hc14] at h;simp only [go_sem,seval,hc14d];refine hZ _ (pp (hJ13 _ true ?_ h));refine wr ?_ ?_<;>repeat' first|rfl|constructor
   have hc14d:=decide_eq_false hc14;rw [if_neg hc14] at h;simp only [go_sem,seval,hc14d];refine hZ _ (pp (hJ13 _ (decide (1099511627776 < x10)) ?_ h));refine wr ?_ ?_<;>repeat' first|rfl|constructor
  intro c20 h;unfold fR at h;refine aN rfl (fun hc15=>?_) (fun hc15=>?_)
  ·rw [if_pos hc15] at h;refine Ws fun Z hZ=>?_;simp only [go_sem,seval,hc15];refine hZ _ (pp (Wk_ret (pp ?_)));cases h;simp only [go_sem,seval];exact ⟨_,rfl,RokI.h,PureI.h⟩
  rw [if_neg (ne_true_of_eq_false hc15)] at h;refine ah (pp ?_);unfold fT at h;refine aa fun Z hZ=>?_;simp only [go_sem,seval,hc15];refine hZ _ (pp (aa fun Z hZ=>?_));simp only [go_sem,seval,hw11];refine hZ _ (pp ?_);first|refine ⟨x10,?_,h⟩|refine ⟨hi9',x10,?_,h⟩
  refine wr ?_ ?_<;>repeat' first|rfl|constructor
 rw [hd12] at h;simp only [dw] at h;refine Ws fun Z hZ=>?_;simp only [go_sem,seval,hi9'];refine hZ _ (pp (Wk_seq ?_));try simp only [Int.ofNat_lt,hi9',if_true,if_false] at h
 refine dg rfl (dj (pp ?_));unfold iQ at h;refine Ws fun Z hZ=>?_;simp only [go_sem,seval];refine hZ _ (pp (Wk_seq (Ws fun Z hZ=>?_)));simp only [go_sem,seval];refine hZ _ (pp (aA (fY fun hreal17=>?_)));have hl16:=hreal17.lenT 53 (by decide) (by simp only [go_sem,seval]; rfl);first|rw [List.length_map] at hl16|rw [ee] at hl16|rw [<-List.map_append,List.length_map] at hl16
 refine gh (fun (v18:Nat) (b:Int)=>⟨tab 95 (updT (updT (updT (updT (updT deadT 1 (.pref 1 [] 0 0)) 3 (.val (.int .i64 b))) 53 (.sl false none 10 none (a0.Done.map Answer.row))) 54 (.val (.int .i64 ((a0.Done.length:Nat):Int)))) 55 (.val (.int .i64 ((v18:Nat):Int)))),(upd RZ 1 (.sl true none 4 (some 1) [Client.row a0]))⟩) a0.Low h ?_ ?_
 ·refine wr ?_ ?_<;>repeat' first|rfl|constructor
 rintro v18 v17 hi18 h -;rcases (eP a0.Done v18 hi18).symm with ⟨hi18',_,hd21⟩|⟨x21,hi18',hx19,hd21⟩
 ·rw [hd21] at h;simp only [bz] at h;refine Ws fun Z hZ=>?_;simp only [go_sem,seval,hi18'];refine hZ _ (pp (Wk_seq ?_));try simp only [Int.ofNat_lt,hi9',hi18',if_true,if_false] at h
  refine dg rfl (dj (pp (Ws fun Z hZ=>?_)));simp only [go_sem,seval];refine hZ _ (pp (Wk_ret (pp ?_)));cases h;simp only [go_sem,seval];exact ⟨_,rfl,RokI.h,PureI.h⟩
 rw [hd21] at h;simp only [bz] at h;have hw20:=eA hi18' hl16;refine Ws fun Z hZ=>?_;simp only [go_sem,seval,hi18'];refine hZ _ (pp (Wk_seq ?_));try simp only [Int.ofNat_lt,hi9',hi18',if_true,if_false] at h
 refine dC rfl (ah (pp (Wk_seq (aA (Wk_seq ?_)))));try rw [gx_nat hx19] at h
 refine aa fun Z hZ=>?_;simp only [go_sem,seval,hx19,hi18'];refine hZ _ (pp (Wk_seq ?_));apply dE (fun (c27:Bool)=>⟨tab 95 (updT (updT (updT (updT (updT (updT deadT 1 (.pref 1 [] 0 0)) 7 (.pref 7 [] 0 0)) 53 (.sl false none 10 none (a0.Done.map Answer.row))) 54 (.val (.int .i64 ((a0.Done.length:Nat):Int)))) 55 (.val (.int .i64 ((v18:Nat):Int)))) 91 (.val (.bool c27))),(upd (upd RZ 1 (.sl true none 4 (some 1) [Client.row a0])) 7 (.sl true none 10 (some 1) [Answer.row x21]))⟩)
 ·intro hJ22;refine aa fun Z hZ=>?_;simp only [go_sem,seval];refine ai rfl (fun hc23=>?_) (fun hc23=>?_)
  ·have hc23d:=decide_eq_true hc23;rw [if_pos hc23] at h;simp only [go_sem,seval,hc23d];refine hZ _ (pp (hJ22 _ true ?_ h));refine wr ?_ ?_<;>repeat' first|rfl|constructor
  have hc23d:=decide_eq_false hc23;rw [if_neg hc23] at h;obtain ⟨r28,hr24,h⟩:=Option.bind_eq_some_iff.1 h;simp only [go_sem,seval,hc23d,hr24];refine eV rfl (fun hc25=>?_) (fun hc25=>?_)
  ·rw [if_pos hc25] at h;simp only [go_sem,seval,hc25];refine hZ _ (pp (hJ22 _ true ?_ h));refine wr ?_ ?_<;>repeat' first|rfl|constructor
  rw [if_neg (ne_true_of_eq_false hc25)] at h;obtain ⟨r29,hr26,h⟩:=Option.bind_eq_some_iff.1 h;simp only [go_sem,seval,hc25,hr26];refine da rfl (fun hc27=>?_) (fun hc27=>?_)
  ·rw [if_neg (ne_true_of_eq_false hc27)] at h;simp only [go_sem,seval,hc27];refine hZ _ (pp (hJ22 _ true ?_ h));refine wr ?_ ?_<;>repeat' first|rfl|constructor
  rw [if_pos hc27] at h;simp only [go_sem,seval,hc27];refine da rfl (fun hc28=>?_) (fun hc28=>?_)
  ·rw [if_neg (ne_true_of_eq_false hc28)] at h;simp only [go_sem,seval,hc28];refine hZ _ (pp (hJ22 _ true ?_ h));refine wr ?_ ?_<;>repeat' first|rfl|constructor
  rw [if_pos hc28] at h;simp only [go_sem,seval,hc28];refine hZ _ (pp (hJ22 _ (!decide (x21.Reply_.Seq=x21.Seq)) ?_ h));refine wr ?_ ?_<;>repeat' first|rfl|constructor
 intro c27 h;unfold du at h;refine aN rfl (fun hc29=>?_) (fun hc29=>?_)
 ·rw [if_pos hc29] at h;refine Ws fun Z hZ=>?_;simp only [go_sem,seval,hc29];refine hZ _ (pp (Wk_ret (pp ?_)));cases h;simp only [go_sem,seval];exact ⟨_,rfl,RokI.h,PureI.h⟩
 rw [if_neg (ne_true_of_eq_false hc29)] at h;refine ah (pp ?_);unfold dz at h;refine aa fun Z hZ=>?_;simp only [go_sem,seval,hc29];refine hZ _ (pp (aa fun Z hZ=>?_));simp only [go_sem,seval,hw20];refine hZ _ (pp ?_);first|refine ⟨x21.Seq,?_,h⟩|refine ⟨hi18',x21.Seq,?_,h⟩
 refine wr ?_ ?_<;>repeat' first|rfl|constructor
def iS (N:Nat):FnS:=⟨[],true,fn1 Client.decA fun q0=>(eQ N q0).map fun r=>.val (.bool r),false⟩
attribute [go_sem] iS
theorem mU (N:Nat):FSOk Try.prog 49 (iS N):=ok1 (fun q0 r h=>by
 obtain ⟨r',hr,rfl⟩:=Option.map_eq_some_iff.1 h;exact pX N q0 r' hr) (Client.decA_le)


noncomputable def pS (N d f:Nat):Option FnS:=glist [(16,49,iS N)] d f
attribute [go_sem] pS
theorem tI (N:Nat) (a0:(List Client)) (r:Bool) (h:eG N a0=some r):Con Try.prog 22 [] true [.sl false none 4 none (a0.map Client.row)] (.val (.bool r)):=by
 refine aO (G:=(pS N)) Try.func22 rfl (by decide) (by kernel_rfl) (gc 16 (mU N) gn) [] mix (Nat.le_of_ble_eq_true rfl) ?_;simp only [Try.f22];unfold eG at h;refine Ws fun Z hZ=>?_;simp only [go_sem,seval];refine hZ _ (pp (Wk_seq (Ws fun Z hZ=>?_)));simp only [go_sem,seval];refine hZ _ (pp (bG rfl (fun hc1=>?_) (fun hc1=>?_)))
 ·have hc1d:=decide_eq_true hc1;rw [if_pos hc1] at h;refine Ws fun Z hZ=>?_;simp only [go_sem,seval,hc1d];refine hZ _ (pp (Wk_ret (pp ?_)));cases h;simp only [go_sem,seval];exact ⟨_,rfl,RokI.h,PureI.h⟩
 have hc1d:=decide_eq_false hc1;rw [if_neg hc1] at h;refine ah (pp (Wk_seq (Ws fun Z hZ=>?_)));simp only [go_sem,seval,hc1d];refine hZ _ (pp (aA (fY fun hreal3=>?_)));have hl2:=hreal3.lenT 0 (by decide) (by simp only [go_sem,seval]; rfl);first|rw [List.length_map] at hl2|rw [ee] at hl2|rw [<-List.map_append,List.length_map] at hl2
 refine gh (fun (v3:Nat) (b:Unit)=>⟨tab 34 (updT (updT (updT (updT deadT 0 (.sl false none 4 none (a0.map Client.row))) 8 (.sl false none 4 none (a0.map Client.row))) 9 (.val (.int .i64 ((a0.length:Nat):Int)))) 10 (.val (.int .i64 ((v3:Nat):Int)))),RZ⟩) () h ?_ ?_
 ·refine wr ?_ ?_<;>repeat' first|rfl|constructor
 rintro v3 ⟨⟩ hi4 h -;rcases (eP a0 v3 hi4).symm with ⟨hi4',_,hd7⟩|⟨x6,hi4',hx5,hd7⟩
 ·rw [hd7] at h;simp only [eo] at h;refine Ws fun Z hZ=>?_;simp only [go_sem,seval,hi4'];refine hZ _ (pp (Wk_seq ?_));try simp only [Int.ofNat_lt,hi4',if_true,if_false] at h
  refine dg rfl (dj (pp (Ws fun Z hZ=>?_)));simp only [go_sem,seval];refine hZ _ (pp (Wk_ret (pp ?_)));cases h;simp only [go_sem,seval];exact ⟨_,rfl,RokI.h,PureI.h⟩
 rw [hd7] at h;simp only [eo] at h;have hw6:=eA hi4' hl2;refine Ws fun Z hZ=>?_;simp only [go_sem,seval,hi4'];refine hZ _ (pp (Wk_seq ?_));try simp only [Int.ofNat_lt,hi4',if_true,if_false] at h
 refine dC rfl (ah (pp (Wk_seq (aA (Wk_seq ?_)))));try rw [gx_nat hx5] at h
 refine aa fun Z hZ=>?_;simp only [go_sem,seval,hx5,hi4'];refine hZ _ (pp ?_);apply dE (fun (c3:Bool)=>⟨tab 34 (updT (updT (updT (updT (updT deadT 0 (.sl false none 4 none (a0.map Client.row))) 8 (.sl false none 4 none (a0.map Client.row))) 9 (.val (.int .i64 ((a0.length:Nat):Int)))) 10 (.val (.int .i64 ((v3:Nat):Int)))) 32 (.val (.bool c3))),RZ⟩)
 ·intro hJ8;obtain ⟨r4,hr9,h⟩:=Option.bind_eq_some_iff.1 h;refine gY fun Z hZ=>?_;simp only [go_sem,seval,hr9];repeat with_reducible refine eB (by kernel_rfl) ?_
  refine da rfl (fun hc10=>?_) (fun hc10=>?_)
  ·rw [if_neg (ne_true_of_eq_false hc10)] at h;simp only [go_sem,seval,hc10];refine hZ _ (by kernel_rfl) (pp (hJ8 _ true ?_ h));refine wr ?_ ?_<;>repeat' first|rfl|constructor
  rw [if_pos hc10] at h;simp only [go_sem,seval,hc10];refine ai rfl (fun hc11=>?_) (fun hc11=>?_)
  ·have hc11d:=decide_eq_true hc11;rw [if_pos hc11] at h;obtain ⟨x5,hb12,hx13,h⟩:=dQ h;simp only [go_sem,seval,hc11d,hb12,hx13];refine hZ _ (by kernel_rfl) (pp (hJ8 _ (!(sLt x5.Name x6.Name)) ?_ h));refine wr ?_ ?_<;>repeat' first|rfl|constructor
  have hc11d:=decide_eq_false hc11;rw [if_neg hc11] at h;simp only [go_sem,seval,hc11d];refine hZ _ (by kernel_rfl) (pp (hJ8 _ false ?_ h));refine wr ?_ ?_<;>repeat' first|rfl|constructor
 intro c3 h;unfold iJ at h;refine aN rfl (fun hc14=>?_) (fun hc14=>?_)
 ·rw [if_pos hc14] at h;refine Ws fun Z hZ=>?_;simp only [go_sem,seval,hc14];refine hZ _ (pp (Wk_ret (pp ?_)));cases h;simp only [go_sem,seval];exact ⟨_,rfl,RokI.h,PureI.h⟩
 rw [if_neg (ne_true_of_eq_false hc14)] at h;refine ah (pp (aa fun Z hZ=>?_));simp only [go_sem,seval,hw6,hc14];refine hZ _ (pp ?_);first|refine ⟨(),?_,h⟩|refine ⟨hi4',(),?_,h⟩
 refine wr ?_ ?_<;>repeat' first|rfl|constructor
def gf (N:Nat):FnS:=⟨[],true,fn1 (decL 4 Client.dec) fun q0=>(eG N q0).map fun r=>.val (.bool r),false⟩
attribute [go_sem] gf
theorem iF (N:Nat):FSOk Try.prog 22 (gf N):=ok1 (fun q0 r h=>by
 obtain ⟨r',hr,rfl⟩:=Option.map_eq_some_iff.1 h;exact tI N q0 r' hr) (fun h=>aB Client.dec_le h)


theorem pc (N:Nat) (a0:(List Int)) (r:(List Int)) (h:bQ N a0=some r):Con Try.prog 56 [] true [.sl false (some false) 1 none (a0.map (rowI .i64))] (.sl true none 1 none (r.map (rowI .i64))):=by
 refine aO (G:=(glist [])) Try.func56 rfl (by decide) (by kernel_rfl) gn [] mix (Nat.le_of_ble_eq_true rfl) ?_;simp only [Try.f56];unfold bQ at h;refine Ws fun Z hZ=>?_;simp only [go_sem,seval];refine hZ _ (pp (Wk_seq (Ws fun Z hZ=>?_)));simp only [go_sem,seval];refine hZ _ (pp (dg rfl ?_));first|rw [if_pos (rfl:true=true)] at h|rw [if_neg Bool.false_ne_true] at h|skip
 refine ah (pp (Wk_seq ?_));first|obtain ⟨ha1,h⟩:=pB h|(obtain ⟨ha1,h⟩:=pf h; rw [List.nil_append] at h)
 simp only [Nat.reduceAdd] at ha1;refine aa fun Z hZ=>?_;simp only [go_sem,seval,ha1];refine hZ _ (pp (Wk_ret (pp ?_)));cases h;simp only [go_sem,seval];exact ⟨_,rfl,RokI.h,PureI.h⟩
theorem ou (N:Nat)  (r:(List Int)) (h:bQ N []=some r):Con Try.prog 56 [] true [.val (.slice none 0 0)] (.sl true none 1 none (r.map (rowI .i64))):=by
 refine aO (G:=(glist [])) Try.func56 rfl (by decide) (by kernel_rfl) gn [] mix (Nat.le_of_ble_eq_true rfl) ?_;simp only [Try.f56];unfold bQ at h;refine Ws fun Z hZ=>?_;simp only [go_sem,seval];refine hZ _ (pp (Wk_seq (Ws fun Z hZ=>?_)));simp only [go_sem,seval];refine hZ _ (pp (dC rfl ?_));first|rw [if_pos (rfl:true=true)] at h|rw [if_neg Bool.false_ne_true] at h|skip
 refine Ws fun Z hZ=>?_;simp only [go_sem,seval];refine hZ _ (pp (Wk_ret (pp ?_)));obtain rfl:r=[]:=by simpa [apn] using h.symm
 simp only [go_sem,seval];exact ⟨_,rfl,RokI.h,PureI.h⟩
theorem lL (N:Nat) (a0:(List Int)) (r:(List Int)) (h:bQ N a0=some r):Con Try.prog 56 [] true [.sl false none 1 none (a0.map (rowI .i64))] (.sl true none 1 none (r.map (rowI .i64))):=
 Con_nl (fun e=>by obtain rfl:a0=[]:=List.map_eq_nil_iff.1 e; exact ou N r h) (pc N a0 r h)
def kX (N:Nat):FnS:=⟨[],true,fn1 (decL 1 (dec1 (decI .i64))) fun q0=>(bQ N q0).map fun r=>.sl false none 1 none (r.map (rowI .i64)),false⟩
attribute [go_sem] kX
theorem vx (N:Nat):FSOk Try.prog 56 (kX N):=ok1 (fun q0 r h=>by
 obtain ⟨r',hr,rfl⟩:=Option.map_eq_some_iff.1 h;exact (lL N q0 r' hr).res (by (try simp only [go_sem]); exact RokI.h)) (fun h=>aB (bZ .i64) h)

def fQ (N:Nat):FnS:=⟨[],true,fn1 (decL 1 (dec1 (decI .i64))) fun q0=>(bQ N q0).map fun r=>.sl true none 1 none (r.map (rowI .i64)),false⟩
attribute [go_sem] fQ
theorem jP (N:Nat):FSOk Try.prog 56 (fQ N):=ok1 (fun q0 r h=>by
 obtain ⟨r',hr,rfl⟩:=Option.map_eq_some_iff.1 h;exact lL N q0 r' hr) (fun h=>aB (bZ .i64) h)


theorem mS (N:Nat) (a0:(List ByteArray)) (r:(List ByteArray)) (h:bR N a0=some r):Con Try.prog 67 [] true [.sl false (some false) 1 none (a0.map rowS)] (.sl true none 1 none (r.map rowS)):=by
 refine aO (G:=(glist [])) Try.func67 rfl (by decide) (by kernel_rfl) gn [] mix (Nat.le_of_ble_eq_true rfl) ?_;simp only [Try.f67];unfold bR at h;refine Ws fun Z hZ=>?_;simp only [go_sem,seval];refine hZ _ (pp (Wk_seq (Ws fun Z hZ=>?_)));simp only [go_sem,seval];refine hZ _ (pp (dg rfl ?_));first|rw [if_pos (rfl:true=true)] at h|rw [if_neg Bool.false_ne_true] at h|skip
 refine ah (pp (Wk_seq ?_));first|obtain ⟨ha1,h⟩:=pB h|(obtain ⟨ha1,h⟩:=pf h; rw [List.nil_append] at h)
 simp only [Nat.reduceAdd] at ha1;refine aa fun Z hZ=>?_;simp only [go_sem,seval,ha1];refine hZ _ (pp (Wk_ret (pp ?_)));cases h;simp only [go_sem,seval];exact ⟨_,rfl,RokI.h,PureI.h⟩
theorem mb (N:Nat)  (r:(List ByteArray)) (h:bR N []=some r):Con Try.prog 67 [] true [.val (.slice none 0 0)] (.sl true none 1 none (r.map rowS)):=by
 refine aO (G:=(glist [])) Try.func67 rfl (by decide) (by kernel_rfl) gn [] mix (Nat.le_of_ble_eq_true rfl) ?_;simp only [Try.f67];unfold bR at h;refine Ws fun Z hZ=>?_;simp only [go_sem,seval];refine hZ _ (pp (Wk_seq (Ws fun Z hZ=>?_)));simp only [go_sem,seval];refine hZ _ (pp (dC rfl ?_));first|rw [if_pos (rfl:true=true)] at h|rw [if_neg Bool.false_ne_true] at h|skip
 refine Ws fun Z hZ=>?_;simp only [go_sem,seval];refine hZ _ (pp (Wk_ret (pp ?_)));obtain rfl:r=[]:=by simpa [apn] using h.symm
 simp only [go_sem,seval];exact ⟨_,rfl,RokI.h,PureI.h⟩
theorem ki (N:Nat) (a0:(List ByteArray)) (r:(List ByteArray)) (h:bR N a0=some r):Con Try.prog 67 [] true [.sl false none 1 none (a0.map rowS)] (.sl true none 1 none (r.map rowS)):=
 Con_nl (fun e=>by obtain rfl:a0=[]:=List.map_eq_nil_iff.1 e; exact mb N r h) (mS N a0 r h)
def jQ (N:Nat):FnS:=⟨[],true,fn1 (decL 1 (dec1 decS)) fun q0=>(bR N q0).map fun r=>.sl false none 1 none (r.map rowS),false⟩
attribute [go_sem] jQ
theorem tN (N:Nat):FSOk Try.prog 67 (jQ N):=ok1 (fun q0 r h=>by
 obtain ⟨r',hr,rfl⟩:=Option.map_eq_some_iff.1 h;exact (ki N q0 r' hr).res (by (try simp only [go_sem]); exact RokI.h)) (fun h=>aB js h)

def gw (N:Nat):FnS:=⟨[],true,fn1 (decL 1 (dec1 decS)) fun q0=>(bR N q0).map fun r=>.sl true none 1 none (r.map rowS),false⟩
attribute [go_sem] gw
theorem l6 (N:Nat):FSOk Try.prog 67 (gw N):=ok1 (fun q0 r h=>by
 obtain ⟨r',hr,rfl⟩:=Option.map_eq_some_iff.1 h;exact ki N q0 r' hr) (fun h=>aB js h)


noncomputable def lJ (N d f:Nat):Option FnS:=glist [(7,56,fQ N),(11,67,gw N)] d f
attribute [go_sem] lJ
theorem lK (N:Nat) (a0:Reply) (r:Reply) (h:dt N a0=some r):Con Try.prog 40 [] true [.agg (Reply.row a0)] (.agg [.val (.string r.Client_),.val (.int .i64 r.Seq),.sl false none 1 none (r.Path.map (rowI .i64)),.val (.int .i64 r.Err),.val (.int .i64 r.Value_.Kind),.val (.int .i64 r.Value_.N),.val (.string r.Value_.S),.sl true none 1 none (r.Value_.I.map (rowI .i64)),.sl true none 1 none (r.Value_.L.map rowS)]):=by
 refine aO (G:=(lJ N)) Try.func40 rfl (by decide) (by kernel_rfl) (gc 7 (jP N) (gc 11 (l6 N) gn)) [] mix (Nat.le_of_ble_eq_true rfl) ?_;simp only [Try.f40];unfold dt at h;refine Ws fun Z hZ=>?_;simp only [go_sem,seval];refine hZ _ (pp (Ws fun Z hZ=>?_));simp only [go_sem,seval];refine hZ _ (pp (Wk_seq ?_));obtain ⟨r1,hr1,h⟩:=Option.bind_eq_some_iff.1 h;obtain ⟨r2,hr2,h⟩:=Option.bind_eq_some_iff.1 h;refine gY fun Z hZ=>?_;simp only [go_sem,seval,hr1,hr2];repeat with_reducible refine eB (by kernel_rfl) ?_
 refine hZ _ (by kernel_rfl) (pp (Ws fun Z hZ=>?_));simp only [go_sem,seval];refine hZ _ (pp (Wk_ret (pp ?_)));cases h;simp only [go_sem,seval];exact ⟨_,rfl,RokI.h,PureI.h⟩
def gp (N:Nat):FnS:=⟨[],true,fn1 Reply.decA fun q0=>(dt N q0).map fun r=>.agg (Reply.row r),false⟩
attribute [go_sem] gp
theorem jT (N:Nat):FSOk Try.prog 40 (gp N):=ok1 (fun q0 r h=>by
 obtain ⟨r',hr,rfl⟩:=Option.map_eq_some_iff.1 h;exact (lK N q0 r' hr).res (by (try simp only [go_sem]); exact RokI.h)) (Reply.decA_le)

def iU (N:Nat):FnS:=⟨[],true,fn1 Reply.decA fun q0=>(dt N q0).map fun r=>.agg [.val (.string r.Client_),.val (.int .i64 r.Seq),.sl false none 1 none (r.Path.map (rowI .i64)),.val (.int .i64 r.Err),.val (.int .i64 r.Value_.Kind),.val (.int .i64 r.Value_.N),.val (.string r.Value_.S),.sl true none 1 none (r.Value_.I.map (rowI .i64)),.sl true none 1 none (r.Value_.L.map rowS)],false⟩
attribute [go_sem] iU
theorem mW (N:Nat):FSOk Try.prog 40 (iU N):=ok1 (fun q0 r h=>by
 obtain ⟨r',hr,rfl⟩:=Option.map_eq_some_iff.1 h;exact lK N q0 r' hr) (Reply.decA_le)


noncomputable def pa (N d f:Nat):Option FnS:=glist [(15,22,gf N),(58,40,iU N)] d f
attribute [go_sem] pa
theorem pb (N:Nat) (a0:(List Client)) (a1:ByteArray) (a2:Int) (r:Int × Reply) (h:fx N a0 a1 a2=some r):Con Try.prog 44 [] false [.sl false none 4 none (a0.map Client.row),.val (.string a1),.val (.int .i64 a2)] (.tup [.val (.int .i64 r.1),.agg [.val (.string r.2.Client_),.val (.int .i64 r.2.Seq),.sl false none 1 none (r.2.Path.map (rowI .i64)),.val (.int .i64 r.2.Err),.val (.int .i64 r.2.Value_.Kind),.val (.int .i64 r.2.Value_.N),.val (.string r.2.Value_.S),.sl true none 1 none (r.2.Value_.I.map (rowI .i64)),.sl true none 1 none (r.2.Value_.L.map rowS)]]):=by
 refine aO (G:=(pa N)) Try.func44 rfl (by decide) (by kernel_rfl) (gc 15 (iF N) (gc 58 (mW N) gn)) [] mix (Nat.le_of_ble_eq_true rfl) ?_;simp only [Try.f44];unfold fx at h;refine Ws fun Z hZ=>?_;simp only [go_sem,seval];refine hZ _ (pp (zw (Wk_seq (Wk_seq ?_))));obtain ⟨r1,hr1,h⟩:=Option.bind_eq_some_iff.1 h;refine aa fun Z hZ=>?_;simp only [go_sem,seval,hr1];refine hZ _ (pp (eW rfl (fun hc2=>?_) (fun hc2=>?_)))
 ·rw [if_neg (ne_true_of_eq_false hc2)] at h;refine Ws fun Z hZ=>?_;simp only [go_sem,seval,hc2];refine hZ _ (pp (Wk_ret (pp ?_)));cases h;simp only [go_sem,seval];exact ⟨_,rfl,RokI.h⟩
 rw [if_pos hc2] at h;refine ah (pp (Wk_seq (zy (pp (Wk_seq (Ws fun Z hZ=>?_))))));simp only [go_sem,seval,hc2];refine hZ _ (pp (aA (fY fun hreal4=>?_)));have hl3:=hreal4.lenT 0 (by decide) (by simp only [go_sem,seval]; rfl);first|rw [List.length_map] at hl3|rw [ee] at hl3|rw [<-List.map_append,List.length_map] at hl3
 refine gh (fun (v4:Nat) (b:Unit)=>⟨tab 62 (updT (updT (updT (updT (updT (updT deadT 1 (.val (.string a1))) 2 (.val (.int .i64 a2))) 7 (.pref 7 [] 0 0)) 18 (.sl false none 4 none (a0.map Client.row))) 19 (.val (.int .i64 ((a0.length:Nat):Int)))) 20 (.val (.int .i64 ((v4:Nat):Int)))),(upd RZ 7 (.sl true none 9 (some 1) [[.val (.string (⟨#[]⟩)),.val (.int .i64 0),.val (.slice none 0 0),.val (.int .i64 0),.val (.int .i64 0),.val (.int .i64 0),.val (.string (⟨#[]⟩)),.val (.slice none 0 0),.val (.slice none 0 0)]]))⟩) () h ?_ ?_
 ·refine wr ?_ ?_<;>repeat' first|rfl|constructor
 rintro v4 ⟨⟩ hi5 h -;rcases (eP a0 v4 hi5).symm with ⟨hi5',_,hd8⟩|⟨x7,hi5',hx6,hd8⟩
 ·rw [hd8] at h;simp only [fC] at h;refine Ws fun Z hZ=>?_;simp only [go_sem,seval,hi5'];refine hZ _ (pp (Wk_seq ?_));try simp only [Int.ofNat_lt,hi5',if_true,if_false] at h
  refine dg rfl (dj (pp (Ws fun Z hZ=>?_)));simp only [go_sem,seval];refine hZ _ (pp (Wk_ret (pp ?_)));cases h;simp only [go_sem,seval];exact ⟨_,rfl,RokI.h⟩
 rw [hd8] at h;simp only [fC] at h;have hw7:=eA hi5' hl3;refine Ws fun Z hZ=>?_;simp only [go_sem,seval,hi5'];refine hZ _ (pp (Wk_seq ?_));try simp only [Int.ofNat_lt,hi5',if_true,if_false] at h
 refine dC rfl (ah (pp (Wk_seq (aA (Wk_seq ?_)))));try rw [gx_nat hx6] at h
 refine aa fun Z hZ=>?_;simp only [go_sem,seval,hx6,hi5'];refine hZ _ (pp (Wk_seq (Ws fun Z hZ=>?_)));simp only [go_sem,seval];refine hZ _ (pp (eW rfl (fun hc9=>?_) (fun hc9=>?_)))
 ·rw [if_neg (ne_true_of_eq_false hc9)] at h;refine dj (pp (aa fun Z hZ=>?_));simp only [go_sem,seval,hw7,hc9];refine hZ _ (pp ?_);first|refine ⟨(),?_,h⟩|refine ⟨hi5',(),?_,h⟩
  refine wr ?_ ?_<;>repeat' first|rfl|constructor
 rw [if_pos hc9] at h;refine ah (pp (Wk_seq (Ws fun Z hZ=>?_)));simp only [go_sem,seval,hc9];refine hZ _ (pp (bG rfl (fun hc10=>?_) (fun hc10=>?_)))
 ·have hc10d:=decide_eq_true hc10;rw [if_pos hc10] at h;refine Ws fun Z hZ=>?_;simp only [go_sem,seval,hc10d];refine hZ _ (pp (Wk_ret (pp ?_)));cases h;simp only [go_sem,seval];exact ⟨_,rfl,RokI.h⟩
 have hc10d:=decide_eq_false hc10;rw [if_neg hc10] at h;refine ah (pp (Wk_seq (Ws fun Z hZ=>?_)));simp only [go_sem,seval,hc10d];refine hZ _ (pp (aA (fY fun hreal12=>?_)));have hl11:=hreal12.lenT 34 (by decide) (by simp only [go_sem,seval]; rfl);first|rw [List.length_map] at hl11|rw [ee] at hl11|rw [<-List.map_append,List.length_map] at hl11
 refine gh (fun (v13:Nat) (b:Unit)=>⟨tab 62 (updT (updT (updT (updT (updT (updT deadT 2 (.val (.int .i64 a2))) 7 (.pref 7 [] 0 0)) 9 (.pref 9 [] 0 0)) 34 (.sl false none 1 none (x7.Open.map (rowI .i64)))) 35 (.val (.int .i64 ((x7.Open.length:Nat):Int)))) 36 (.val (.int .i64 ((v13:Nat):Int)))),(upd (upd RZ 7 (.sl true none 9 (some 1) [[.val (.string (⟨#[]⟩)),.val (.int .i64 0),.val (.slice none 0 0),.val (.int .i64 0),.val (.int .i64 0),.val (.int .i64 0),.val (.string (⟨#[]⟩)),.val (.slice none 0 0),.val (.slice none 0 0)]])) 9 (.sl true none 4 (some 1) [Client.row x7]))⟩) () h ?_ ?_
 ·refine wr ?_ ?_<;>repeat' first|rfl|constructor
 rintro v13 ⟨⟩ hi13 h -;rcases (eP x7.Open v13 hi13) with ⟨x16,hi13',hx14,hd16⟩|⟨hi13',_,hd16⟩
 ·rw [hd16] at h;simp only [eK] at h;have hw15:=eA hi13' hl11;refine Ws fun Z hZ=>?_;simp only [go_sem,seval,hi13'];refine hZ _ (pp (Wk_seq ?_));try simp only [Int.ofNat_lt,hi5',hi13',if_true,if_false] at h
  refine dC rfl (ah (pp (Wk_seq (aA (Wk_seq ?_)))));try rw [gx_nat hx14] at h
  refine aa fun Z hZ=>?_;simp only [go_sem,seval,hx14,hi13'];refine hZ _ (pp (Ws fun Z hZ=>?_));simp only [go_sem,seval];refine hZ _ (pp (bG rfl (fun hc17=>?_) (fun hc17=>?_)))
  ·have hc17d:=decide_eq_true hc17;rw [if_pos hc17] at h;refine Ws fun Z hZ=>?_;simp only [go_sem,seval,hc17d];refine hZ _ (pp (Wk_ret (pp ?_)));cases h;simp only [go_sem,seval];exact ⟨_,rfl,RokI.h⟩
  have hc17d:=decide_eq_false hc17;rw [if_neg hc17] at h;refine ah (pp (aa fun Z hZ=>?_));simp only [go_sem,seval,hw15,hc17d];refine hZ _ (pp ?_);first|refine ⟨(),?_,h⟩|refine ⟨hi13',(),?_,h⟩
  refine wr ?_ ?_<;>repeat' first|rfl|constructor
 rw [hd16] at h;simp only [eK] at h;refine Ws fun Z hZ=>?_;simp only [go_sem,seval,hi13'];refine hZ _ (pp (Wk_seq ?_));try simp only [Int.ofNat_lt,hi5',hi13',if_true,if_false] at h
 refine dg rfl (dj (pp ?_));unfold kF at h;refine Wk_seq (Ws fun Z hZ=>?_);simp only [go_sem,seval];refine hZ _ (pp (aA (fY fun hreal19=>?_)));have hl18:=hreal19.lenT 46 (by decide) (by simp only [go_sem,seval]; rfl);first|rw [List.length_map] at hl18|rw [ee] at hl18|rw [<-List.map_append,List.length_map] at hl18
 refine gh (fun (v20:Nat) (b:Unit)=>⟨tab 62 (updT (updT (updT (updT (updT deadT 2 (.val (.int .i64 a2))) 7 (.pref 7 [] 0 0)) 46 (.sl false none 10 none (x7.Done.map Answer.row))) 47 (.val (.int .i64 ((x7.Done.length:Nat):Int)))) 48 (.val (.int .i64 ((v20:Nat):Int)))),(upd RZ 7 (.sl true none 9 (some 1) [[.val (.string (⟨#[]⟩)),.val (.int .i64 0),.val (.slice none 0 0),.val (.int .i64 0),.val (.int .i64 0),.val (.int .i64 0),.val (.string (⟨#[]⟩)),.val (.slice none 0 0),.val (.slice none 0 0)]]))⟩) () h ?_ ?_
 ·refine wr ?_ ?_<;>repeat' first|rfl|constructor
 rintro v20 ⟨⟩ hi20 h -;rcases (eP x7.Done v20 hi20).symm with ⟨hi20',_,hd23⟩|⟨x23,hi20',hx21,hd23⟩
 ·rw [hd23] at h;simp only [fG] at h;refine Ws fun Z hZ=>?_;simp only [go_sem,seval,hi20'];refine hZ _ (pp (Wk_seq ?_));try simp only [Int.ofNat_lt,hi5',hi13',hi20',if_true,if_false] at h
  refine dg rfl (dj (pp ?_));unfold ky at h;refine dj (pp (Ws fun Z hZ=>?_));simp only [go_sem,seval];refine hZ _ (pp (Wk_ret (pp ?_)));cases h;simp only [go_sem,seval];exact ⟨_,rfl,RokI.h⟩
 rw [hd23] at h;simp only [fG] at h;have hw22:=eA hi20' hl18;refine Ws fun Z hZ=>?_;simp only [go_sem,seval,hi20'];refine hZ _ (pp (Wk_seq ?_));try simp only [Int.ofNat_lt,hi5',hi13',hi20',if_true,if_false] at h
 refine dC rfl (ah (pp (Wk_seq (aA (Wk_seq ?_)))));try rw [gx_nat hx21] at h
 refine aa fun Z hZ=>?_;simp only [go_sem,seval,hx21,hi20'];refine hZ _ (pp (Ws fun Z hZ=>?_));simp only [go_sem,seval];refine hZ _ (pp (bG rfl (fun hc24=>?_) (fun hc24=>?_)))
 ·have hc24d:=decide_eq_true hc24;rw [if_pos hc24] at h;refine Wk_seq ?_;obtain ⟨r15,hr25,h⟩:=Option.bind_eq_some_iff.1 h;refine aa fun Z hZ=>?_;simp only [go_sem,seval,hc24d,hr25];refine hZ _ (pp (Wk_ret (pp ?_)));cases h;simp only [go_sem,seval];exact ⟨_,rfl,RokI.h⟩
 have hc24d:=decide_eq_false hc24;rw [if_neg hc24] at h;refine ah (pp (aa fun Z hZ=>?_));simp only [go_sem,seval,hw22,hc24d];refine hZ _ (pp ?_);first|refine ⟨(),?_,h⟩|refine ⟨hi20',(),?_,h⟩
 refine wr ?_ ?_<;>repeat' first|rfl|constructor
def jm (N:Nat):FnS:=⟨[],false,fn3 (decL 4 Client.dec) decS (decI .i64) fun q0 q1 q2=>(fx N q0 q1 q2).map fun r=>.tup [.val (.int .i64 r.1),.agg (Reply.row r.2)],false⟩
attribute [go_sem] jm
theorem lM (N:Nat):FSOk Try.prog 44 (jm N):=ok3 (fun q0 q1 q2 r h=>by
 obtain ⟨r',hr,rfl⟩:=Option.map_eq_some_iff.1 h;exact (pb N q0 q1 q2 r' hr).res (by (try simp only [go_sem]); exact RokI.h)) (fun h=>aB Client.dec_le h) (bn) (ag)

def mN (N:Nat):FnS:=⟨[],false,fn3 (decL 4 Client.dec) decS (decI .i64) fun q0 q1 q2=>(fx N q0 q1 q2).map fun r=>.tup [.val (.int .i64 r.1),.agg [.val (.string r.2.Client_),.val (.int .i64 r.2.Seq),.sl false none 1 none (r.2.Path.map (rowI .i64)),.val (.int .i64 r.2.Err),.val (.int .i64 r.2.Value_.Kind),.val (.int .i64 r.2.Value_.N),.val (.string r.2.Value_.S),.sl true none 1 none (r.2.Value_.I.map (rowI .i64)),.sl true none 1 none (r.2.Value_.L.map rowS)]],false⟩
attribute [go_sem] mN
theorem w7 (N:Nat):FSOk Try.prog 44 (mN N):=ok3 (fun q0 q1 q2 r h=>by
 obtain ⟨r',hr,rfl⟩:=Option.map_eq_some_iff.1 h;exact pb N q0 q1 q2 r' hr) (fun h=>aB Client.dec_le h) (bn) (ag)


noncomputable def oJ (N d f:Nat):Option FnS:=glist [(13,44,jm N)] d f
attribute [go_sem] oJ
theorem sK (N:Nat) (a0:(List Client)) (a1:ByteArray) (a2:Int) (r:Int) (h:bJ N a0 a1 a2=some r):Con Try.prog 20 [] true [.sl false none 4 none (a0.map Client.row),.val (.string a1),.val (.int .i64 a2)] (.val (.int .i64 r)):=by
 refine aO (G:=(oJ N)) Try.func20 rfl (by decide) (by kernel_rfl) (gc 13 (lM N) gn) [] mix (Nat.le_of_ble_eq_true rfl) ?_;simp only [Try.f20];unfold bJ at h;refine Ws fun Z hZ=>?_;simp only [go_sem,seval];refine hZ _ (pp (Wk_seq ?_));obtain ⟨r1,hr1,h⟩:=Option.bind_eq_some_iff.1 h;refine aa fun Z hZ=>?_;simp only [go_sem,seval,hr1];refine hZ _ (pp (Ws fun Z hZ=>?_));simp only [go_sem,seval];refine hZ _ (pp (Wk_ret (pp ?_)));cases h;simp only [go_sem,seval];exact ⟨_,rfl,RokI.h,PureI.h⟩
def de (N:Nat):FnS:=⟨[],true,fn3 (decL 4 Client.dec) decS (decI .i64) fun q0 q1 q2=>(bJ N q0 q1 q2).map fun r=>.val (.int .i64 r),false⟩
attribute [go_sem] de
theorem dh (N:Nat):FSOk Try.prog 20 (de N):=ok3 (fun q0 q1 q2 r h=>by
 obtain ⟨r',hr,rfl⟩:=Option.map_eq_some_iff.1 h;exact sK N q0 q1 q2 r' hr) (fun h=>aB Client.dec_le h) (bn) (ag)


theorem sI (N:Nat) (a0:Client) (a1:ByteArray) (r:Int) (h:gi N a0 a1=some r):Con Try.prog 54 [] true [.agg (Client.row a0),.val (.string a1)] (.val (.int .i64 r)):=by
 refine aO (G:=(glist [])) Try.func54 rfl (by decide) (by kernel_rfl) gn [] mix (Nat.le_of_ble_eq_true rfl) ?_;simp only [Try.f54];unfold gi at h;refine Ws fun Z hZ=>?_;simp only [go_sem,seval];refine hZ _ (pp (Wk_seq (aA (Ws fun Z hZ=>?_))));simp only [go_sem,seval];refine hZ _ (pp (aN rfl (fun hc1=>?_) (fun hc1=>?_)))
 ·first|rw [if_pos hc1] at h|simp only [hc1,Bool.or_false,Bool.or_true,Bool.false_or,Bool.true_or,Bool.and_true,Bool.true_and,Bool.and_false,Bool.false_and,Bool.not_true,Bool.not_false,Bool.false_eq_true,if_true,if_false] at h
  refine Ws fun Z hZ=>?_;simp only [go_sem,seval,hc1];refine hZ _ (pp (Wk_ret (pp ?_)));cases h;simp only [go_sem,seval];exact ⟨_,rfl,RokI.h,PureI.h⟩
 first|rw [if_neg (ne_true_of_eq_false hc1)] at h|simp only [hc1,Bool.or_false,Bool.or_true,Bool.false_or,Bool.true_or,Bool.and_true,Bool.true_and,Bool.and_false,Bool.false_and,Bool.not_true,Bool.not_false,Bool.false_eq_true,if_true,if_false] at h
 refine Ws fun Z hZ=>?_;simp only [go_sem,seval,hc1];refine hZ _ (pp (eW rfl (fun hc2=>?_) (fun hc2=>?_)))
 ·first|rw [if_neg (ne_true_of_eq_false hc2)] at h|simp only [hc2,hc1,Bool.or_false,Bool.false_eq_true,if_false] at h
  refine Ws fun Z hZ=>?_;simp only [go_sem,seval,hc2];refine hZ _ (pp (Wk_ret (pp ?_)));cases h;simp only [go_sem,seval];exact ⟨_,rfl,RokI.h,PureI.h⟩
 first|rw [if_pos hc2] at h|simp only [hc2,hc1,Bool.or_true,if_true] at h
 refine ah (pp (Ws fun Z hZ=>?_));simp only [go_sem,seval,hc2];refine hZ _ (pp (Wk_ret (pp ?_)));cases h;simp only [go_sem,seval];exact ⟨_,rfl,RokI.h,PureI.h⟩
def jg (N:Nat):FnS:=⟨[],true,fn2 Client.decA decS fun q0 q1=>(gi N q0 q1).map fun r=>.val (.int .i64 r),false⟩
attribute [go_sem] jg
theorem lN (N:Nat):FSOk Try.prog 54 (jg N):=ok2 (fun q0 q1 r h=>by
 obtain ⟨r',hr,rfl⟩:=Option.map_eq_some_iff.1 h;exact sI N q0 q1 r' hr) (Client.decA_le) (bn)


noncomputable def dY (N d f:Nat):Option FnS:=glist [(30,54,jg N),(46,54,jg N)] d f
attribute [go_sem] dY
theorem gZ (N:Nat) (a0:(List Client)) (a1:ByteArray) (r:Int × Bool) (h:aS N a0 a1=some r):Con Try.prog 53 [] true [.sl false none 4 none (a0.map Client.row),.val (.string a1),.clo 54 []] (.tup [.val (.int .i64 r.1),.val (.bool r.2)]):=by
 refine aO (G:=(dY N)) Try.func53 rfl (by decide) (by kernel_rfl) (gc 30 (lN N) (gc 46 (lN N) gn)) [] mix (Nat.le_of_ble_eq_true rfl) ?_;simp only [Try.f53];unfold aS at h;refine Ws fun Z hZ=>?_;simp only [go_sem,seval];refine hZ _ (pp (Ws fun Z hZ=>?_));simp only [go_sem,seval];refine hZ _ (pp (Ws fun Z hZ=>?_));simp only [go_sem,seval];refine hZ _ (pp (Wk_seq (aA (mw (fun (b:Int × Int)=>⟨tab 49 (updT (updT (updT (updT (updT (updT deadT 0 (.sl false none 4 none (a0.map Client.row))) 1 (.val (.string a1))) 2 (.clo 54 [])) 8 (.val (.int .i64 ((a0.length:Nat):Int)))) 9 (.val (.int .i64 b.1))) 10 (.val (.int .i64 b.2))),RZ⟩) (0,((a0.length:Nat):Int)) h ?_ ?_))))
 ·refine wr ?_ ?_<;>repeat' first|rfl|constructor
 rintro n ⟨v2,v3⟩ h -;cases n with
 | zero=>simp [aw] at h
 | succ n=>
 simp only [aw] at h;refine Wk_seq (Ws fun Z hZ=>?_);simp only [go_sem,seval];refine hZ _ (pp (sw (bG rfl) (fun hc1=>?_) (fun hc1=>?_)))
 ·have hc1d:=decide_eq_false hc1;rw [if_neg hc1] at h;refine dj (pp ?_);unfold bp at h;refine Ws fun Z hZ=>?_;simp only [go_sem,seval,hc1d];refine ai rfl (fun hc6=>?_) (fun hc6=>?_)
  ·have hc6d:=decide_eq_true hc6;rw [if_pos hc6] at h;obtain ⟨x11,hb7,hx8,h⟩:=dQ h;obtain ⟨r12,hr9,h⟩:=Option.bind_eq_some_iff.1 h;simp only [go_sem,seval,hb7,hx8,hr9];refine hZ _ (pp (Wk_ret (pp ?_)));cases h;simp only [go_sem,seval];exact ⟨_,rfl,RokI.h,PureI.h⟩
  have hc6d:=decide_eq_false hc6;rw [if_neg hc6] at h;simp only [go_sem,seval,hc6d];refine hZ _ (pp (Wk_ret (pp ?_)));cases h;simp only [go_sem,seval];exact ⟨_,rfl,RokI.h,PureI.h⟩
 have hc1d:=decide_eq_true hc1;rw [if_pos hc1] at h;refine ah (pp (aA (Ws fun Z hZ=>?_)));simp only [go_sem,seval,hc1d];refine hZ _ (pp (Wk_seq ?_));obtain ⟨x9,hb2,hx3,h⟩:=dQ h;obtain ⟨r10,hr4,h⟩:=Option.bind_eq_some_iff.1 h;refine aa fun Z hZ=>?_;simp only [go_sem,seval,hb2,hx3,hr4];refine hZ _ (pp (bG rfl (fun hc5=>?_) (fun hc5=>?_)))
 ·have hc5d:=decide_eq_true hc5;rw [if_pos hc5] at h;refine aa fun Z hZ=>?_;simp only [go_sem,seval,hc5d];refine hZ _ (pp (⟨_,Nat.lt_succ_self _,(IntKind.i64.wrap ((IntKind.i64.wrap (shrI .u64 (IntKind.u64.wrap (IntKind.i64.wrap (v2+v3))) 1))+1),v3),?_,h⟩));refine wr ?_ ?_<;>repeat' first|rfl|constructor
 have hc5d:=decide_eq_false hc5;rw [if_neg hc5] at h;refine aa fun Z hZ=>?_;simp only [go_sem,seval,hc5d];refine hZ _ (pp (⟨_,Nat.lt_succ_self _,(v2,IntKind.i64.wrap (shrI .u64 (IntKind.u64.wrap (IntKind.i64.wrap (v2+v3))) 1)),?_,h⟩));refine wr ?_ ?_<;>repeat' first|rfl|constructor
def br (N:Nat):FnS:={ own:=[],pure:=true,fn:=fun cs=>match cs with
 | [c0,c1,.clo 54 []]=>((decL 4 Client.dec) c0).bind fun qc0=>(decS c1).bind fun qc1=>(aS N qc0 qc1).map fun r=>.tup [.val (.int .i64 r.1),.val (.bool r.2)]
 | _=>none }
attribute [go_sem] br
theorem ga (N:Nat):FSOk Try.prog 53 (br N):=by
 refine ⟨fun cs r h=>?_,fun h=>by cases h⟩;simp only [br] at h;split at h
 ·simp only [Option.bind_eq_some_iff,Option.map_eq_some_iff] at h;obtain ⟨q0,h0,q1,h1,r',hr,rfl⟩:=h;exact ((gZ N q0 q1 r' hr).args (LeL.cons (aB Client.dec_le h0) (LeL.cons (bn h1) (LeL.cons (Le.clo (LeL.nil)) (LeL.nil)))))
 ·cases h


noncomputable def p9 (N d f:Nat):Option FnS:=glist [(8,53,br N)] d f
attribute [go_sem] p9
theorem uZ (N:Nat) (a0:(List Client)) (a1:ByteArray) (r:Int × Bool) (h:iq N a0 a1=some r):Con Try.prog 28 [] true [.sl false none 4 none (a0.map Client.row),.val (.string a1)] (.tup [.val (.int .i64 r.1),.val (.bool r.2)]):=by
 refine aO (G:=(p9 N)) Try.func28 rfl (by decide) (by kernel_rfl) (gc 8 (ga N) gn) [] mix (Nat.le_of_ble_eq_true rfl) ?_;simp only [Try.f28];unfold iq at h;refine Ws fun Z hZ=>?_;simp only [go_sem,seval];refine hZ _ (pp (Wk_seq ?_));obtain ⟨r1,hr1,h⟩:=Option.bind_eq_some_iff.1 h;refine aa fun Z hZ=>?_;simp only [go_sem,seval,hr1];refine hZ _ (pp (Wk_ret (pp ?_)));cases h;simp only [go_sem,seval];exact ⟨_,rfl,RokI.h,PureI.h⟩
def iV (N:Nat):FnS:=⟨[],true,fn2 (decL 4 Client.dec) decS fun q0 q1=>(iq N q0 q1).map fun r=>.tup [.val (.int .i64 r.1),.val (.bool r.2)],false⟩
attribute [go_sem] iV
theorem j3 (N:Nat):FSOk Try.prog 28 (iV N):=ok2 (fun q0 q1 r h=>by
 obtain ⟨r',hr,rfl⟩:=Option.map_eq_some_iff.1 h;exact uZ N q0 q1 r' hr) (fun h=>aB Client.dec_le h) (bn)


theorem mQ (N:Nat) (a0:(List Client)) (r:(List Client)) (h:bT N a0=some r):Con Try.prog 55 [] false [.sl false (some false) 4 none (a0.map Client.row)] (.sl true none 4 none (r.map Client.row)):=by
 refine aO (G:=(glist [])) Try.func55 rfl (by decide) (by kernel_rfl) gn [] mix (Nat.le_of_ble_eq_true rfl) ?_;simp only [Try.f55];unfold bT at h;refine Ws fun Z hZ=>?_;simp only [go_sem,seval];refine hZ _ (pp (Wk_seq (Ws fun Z hZ=>?_)));simp only [go_sem,seval];refine hZ _ (pp (dg rfl ?_));first|rw [if_pos (rfl:true=true)] at h|rw [if_neg Bool.false_ne_true] at h|skip
 refine ah (pp (Wk_seq ?_));first|obtain ⟨ha1,h⟩:=pB h|(obtain ⟨ha1,h⟩:=pf h; rw [List.nil_append] at h)
 simp only [Nat.reduceAdd] at ha1;refine aa fun Z hZ=>?_;simp only [go_sem,seval,ha1];refine hZ _ (pp (Wk_ret (pp ?_)));cases h;simp only [go_sem,seval];exact ⟨_,rfl,RokI.h⟩
theorem mf (N:Nat)  (r:(List Client)) (h:bT N []=some r):Con Try.prog 55 [] false [.val (.slice none 0 0)] (.sl true none 4 none (r.map Client.row)):=by
 refine aO (G:=(glist [])) Try.func55 rfl (by decide) (by kernel_rfl) gn [] mix (Nat.le_of_ble_eq_true rfl) ?_;simp only [Try.f55];unfold bT at h;refine Ws fun Z hZ=>?_;simp only [go_sem,seval];refine hZ _ (pp (Wk_seq (Ws fun Z hZ=>?_)));simp only [go_sem,seval];refine hZ _ (pp (dC rfl ?_));first|rw [if_pos (rfl:true=true)] at h|rw [if_neg Bool.false_ne_true] at h|skip
 refine Ws fun Z hZ=>?_;simp only [go_sem,seval];refine hZ _ (pp (Wk_ret (pp ?_)));obtain rfl:r=[]:=by simpa [apn] using h.symm
 simp only [go_sem,seval];exact ⟨_,rfl,RokI.h⟩
theorem j8 (N:Nat) (a0:(List Client)) (r:(List Client)) (h:bT N a0=some r):Con Try.prog 55 [] false [.sl false none 4 none (a0.map Client.row)] (.sl true none 4 none (r.map Client.row)):=
 Con_nl (fun e=>by obtain rfl:a0=[]:=List.map_eq_nil_iff.1 e; exact mf N r h) (mQ N a0 r h)
def jU (N:Nat):FnS:=⟨[],false,fn1 (decL 4 Client.dec) fun q0=>(bT N q0).map fun r=>.sl false none 4 none (r.map Client.row),false⟩
attribute [go_sem] jU
theorem tL (N:Nat):FSOk Try.prog 55 (jU N):=ok1 (fun q0 r h=>by
 obtain ⟨r',hr,rfl⟩:=Option.map_eq_some_iff.1 h;exact (j8 N q0 r' hr).res (by (try simp only [go_sem]); exact RokI.h)) (fun h=>aB Client.dec_le h)

def gy (N:Nat):FnS:=⟨[],false,fn1 (decL 4 Client.dec) fun q0=>(bT N q0).map fun r=>.sl true none 4 none (r.map Client.row),false⟩
attribute [go_sem] gy
theorem lZ (N:Nat):FSOk Try.prog 55 (gy N):=ok1 (fun q0 r h=>by
 obtain ⟨r',hr,rfl⟩:=Option.map_eq_some_iff.1 h;exact j8 N q0 r' hr) (fun h=>aB Client.dec_le h)


theorem mK (N:Nat) (a0:(List Answer)) (r:(List Answer)) (h:bU N a0=some r):Con Try.prog 57 [] false [.sl false (some false) 10 none (a0.map Answer.row)] (.sl true none 10 none (r.map Answer.row)):=by
 refine aO (G:=(glist [])) Try.func57 rfl (by decide) (by kernel_rfl) gn [] mix (Nat.le_of_ble_eq_true rfl) ?_;simp only [Try.f57];unfold bU at h;refine Ws fun Z hZ=>?_;simp only [go_sem,seval];refine hZ _ (pp (Wk_seq (Ws fun Z hZ=>?_)));simp only [go_sem,seval];refine hZ _ (pp (dg rfl ?_));first|rw [if_pos (rfl:true=true)] at h|rw [if_neg Bool.false_ne_true] at h|skip
 refine ah (pp (Wk_seq ?_));first|obtain ⟨ha1,h⟩:=pB h|(obtain ⟨ha1,h⟩:=pf h; rw [List.nil_append] at h)
 simp only [Nat.reduceAdd] at ha1;refine aa fun Z hZ=>?_;simp only [go_sem,seval,ha1];refine hZ _ (pp (Wk_ret (pp ?_)));cases h;simp only [go_sem,seval];exact ⟨_,rfl,RokI.h⟩
theorem mn (N:Nat)  (r:(List Answer)) (h:bU N []=some r):Con Try.prog 57 [] false [.val (.slice none 0 0)] (.sl true none 10 none (r.map Answer.row)):=by
 refine aO (G:=(glist [])) Try.func57 rfl (by decide) (by kernel_rfl) gn [] mix (Nat.le_of_ble_eq_true rfl) ?_;simp only [Try.f57];unfold bU at h;refine Ws fun Z hZ=>?_;simp only [go_sem,seval];refine hZ _ (pp (Wk_seq (Ws fun Z hZ=>?_)));simp only [go_sem,seval];refine hZ _ (pp (dC rfl ?_));first|rw [if_pos (rfl:true=true)] at h|rw [if_neg Bool.false_ne_true] at h|skip
 refine Ws fun Z hZ=>?_;simp only [go_sem,seval];refine hZ _ (pp (Wk_ret (pp ?_)));obtain rfl:r=[]:=by simpa [apn] using h.symm
 simp only [go_sem,seval];exact ⟨_,rfl,RokI.h⟩
theorem kd (N:Nat) (a0:(List Answer)) (r:(List Answer)) (h:bU N a0=some r):Con Try.prog 57 [] false [.sl false none 10 none (a0.map Answer.row)] (.sl true none 10 none (r.map Answer.row)):=
 Con_nl (fun e=>by obtain rfl:a0=[]:=List.map_eq_nil_iff.1 e; exact mn N r h) (mK N a0 r h)
def jV (N:Nat):FnS:=⟨[],false,fn1 (decL 10 Answer.dec) fun q0=>(bU N q0).map fun r=>.sl false none 10 none (r.map Answer.row),false⟩
attribute [go_sem] jV
theorem tM (N:Nat):FSOk Try.prog 57 (jV N):=ok1 (fun q0 r h=>by
 obtain ⟨r',hr,rfl⟩:=Option.map_eq_some_iff.1 h;exact (kd N q0 r' hr).res (by (try simp only [go_sem]); exact RokI.h)) (fun h=>aB Answer.dec_le h)

def gA (N:Nat):FnS:=⟨[],false,fn1 (decL 10 Answer.dec) fun q0=>(bU N q0).map fun r=>.sl true none 10 none (r.map Answer.row),false⟩
attribute [go_sem] gA
theorem lW (N:Nat):FSOk Try.prog 57 (gA N):=ok1 (fun q0 r h=>by
 obtain ⟨r',hr,rfl⟩:=Option.map_eq_some_iff.1 h;exact kd N q0 r' hr) (fun h=>aB Answer.dec_le h)


noncomputable def pN (N d f:Nat):Option FnS:=glist [(7,55,gy N),(22,56,fQ N),(28,57,gA N),(57,40,gp N)] d f
attribute [go_sem] pN
theorem l7 (N:Nat) (a0:(List Client)) (r:(List Client)) (h:eI N a0=some r):Con Try.prog 29 [] false [.sl false none 4 none (a0.map Client.row)] (.sl true none 4 none (r.map Client.rowD)):=by
 refine aO (G:=(pN N)) Try.func29 rfl (by decide) (by kernel_rfl) (gc 7 (lZ N) (gc 22 (jP N) (gc 28 (lW N) (gc 57 (jT N) gn)))) [] mix (Nat.le_of_ble_eq_true rfl) ?_;simp only [Try.f29];unfold eI at h;refine Ws fun Z hZ=>?_;simp only [go_sem,seval];refine hZ _ (pp (Wk_seq ?_));obtain ⟨r1,hr1,h⟩:=Option.bind_eq_some_iff.1 h;refine aa fun Z hZ=>?_;simp only [go_sem,seval,hr1];refine hZ _ (pp (Wk_seq (Ws fun Z hZ=>?_)));simp only [go_sem,seval];refine hZ _ (pp (aA (fY fun hreal3=>?_)));have hl2:=hreal3.lenX 7 (by simp only [go_sem,seval]; rfl);first|rw [List.length_map] at hl2|rw [ee] at hl2|rw [<-List.map_append,List.length_map] at hl2
 refine uS (fun (v4:Nat) (b:List Client)=>⟨tab 63 (updT (updT (updT deadT 3 (.pal 7 [] 0 b.length none)) 9 (.val (.int .i64 ((r1.length:Nat):Int)))) 10 (.val (.int .i64 ((v4:Nat):Int)))),(upd RZ 7 (.sl true none 4 none (mxR Client.rowD Client.row v4 b)))⟩) r1 h ?_ ?_
 ·refine wr ?_ ?_<;>repeat' first|rfl|constructor|simp only [go_sem,seval,Bool.or_self,List.length_set,Int.natCast_zero,Int.cast_ofNat_Int,hr1]
 rintro v4 l3 _ h -;rcases (qS r1.length v4).symm with ⟨hi4',hd7⟩|⟨hi4',hd7⟩
 ·rw [hd7] at h;simp only [fg] at h;obtain ⟨hg25,h⟩:=yw h;refine Ws fun Z hZ=>?_;simp only [go_sem,seval,hi4',Ao hg25];refine hZ _ (pp (Wk_seq ?_));try simp only [Int.ofNat_lt,hi4',if_true,if_false] at h
  refine dg rfl (dj (pp (Ws fun Z hZ=>?_)));simp only [go_sem,seval];refine hZ _ (pp (Wk_ret (pp ?_)));cases h;simp only [go_sem,seval];exact ⟨_,rfl,RokI.h⟩
 rw [hd7] at h;simp only [fg] at h;have hw6:=eA hi4' hl2;refine Ws fun Z hZ=>?_;simp only [go_sem,seval,hi4'];refine hZ _ (pp (Wk_seq ?_));try simp only [Int.ofNat_lt,hi4',if_true,if_false] at h
 refine dC rfl (ah (pp (Wk_seq (aA (Ws fun Z hZ=>?_)))));simp only [go_sem,seval];refine hZ _ (pp (Wk_seq ?_));obtain ⟨x2,hb8,hx9,h⟩:=dQ h;try simp only [Int.toNat_natCast] at hx9
 try simp only [Int.ofNat_lt,Int.natCast_nonneg,true_and] at hb8
 obtain ⟨r3,hr10,h⟩:=Option.bind_eq_some_iff.1 h;obtain ⟨r4,hr11,h⟩:=Option.bind_eq_some_iff.1 h;refine gY fun Z hZ=>?_;simp only [go_sem,seval,hb8,qH (f:=Client.rowD) (g:=Client.row) hx9,hr10,hr11,mix_of (f:=Client.rowD) (g:=Client.row) (rx:=[.val (.string x2.Name),.val (.int .i64 x2.Low),.sl false none 1 none (x2.Open.map (rowI .i64)),.sl false none 10 none (x2.Done.map Answer.row)]) hx9 rfl rfl,lk (f:=Client.rowD) (g:=Client.row) _ hx9,qL (f:=Client.rowD) (g:=Client.row) hx9 rfl];repeat with_reducible refine eB (by kernel_rfl) ?_
 refine hZ _ (by kernel_rfl) (pp (Ws fun Z hZ=>?_));simp only [go_sem,seval,hb8,lk (f:=Client.rowD) (g:=Client.row) _ hx9];refine hZ _ (pp (aA (fY fun hreal13=>?_)));have hl12:=hreal13.lenAt 7 [(v4,3)] (by simp only [go_sem,seval,lk (f:=Client.rowD) (g:=Client.row) _ hx9]; rfl);first|rw [List.length_map] at hl12|rw [ee] at hl12|rw [<-List.map_append,List.length_map] at hl12
 refine uS (fun (v13:Nat) (b:List Answer)=>⟨tab 63 (updT (updT (updT (updT (updT (updT deadT 3 (.pal 7 [] 0 l3.length none)) 4 (.val (.int .i64 ((v4:Nat):Int)))) 9 (.val (.int .i64 ((r1.length:Nat):Int)))) 10 (.val (.int .i64 ((v4:Nat):Int)))) 38 (.val (.int .i64 ((r4.length:Nat):Int)))) 39 (.val (.int .i64 ((v13:Nat):Int)))),(upd RZ 7 (.sl true none 4 none ((mxR Client.rowD Client.row v4 l3).set v4 [.val (.string x2.Name),.val (.int .i64 x2.Low),.sl true none 1 none (r3.map (rowI .i64)),.sl true none 10 none (b.map Answer.row)])))⟩) r4 h ?_ ?_
 ·refine wr ?_ ?_<;>repeat' first|rfl|constructor|simp only [go_sem,seval,Bool.or_self,List.length_set,Int.natCast_zero,Int.cast_ofNat_Int,hr1,hi4',hw6,hb8,hx9,qH (f:=Client.rowD) (g:=Client.row) hx9,ee,hr10,hr11,mix_of (f:=Client.rowD) (g:=Client.row) (rx:=[.val (.string x2.Name),.val (.int .i64 x2.Low),.sl false none 1 none (x2.Open.map (rowI .i64)),.sl false none 10 none (x2.Done.map Answer.row)]) hx9 rfl rfl,lk (f:=Client.rowD) (g:=Client.row) _ hx9,qL (f:=Client.rowD) (g:=Client.row) hx9 rfl]
 rintro v13 l12 _ h -;rcases (qS r4.length v13).symm with ⟨hi14',hd17⟩|⟨hi14',hd17⟩
 ·rw [hd17] at h;simp only [fb] at h;refine Ws fun Z hZ=>?_;simp only [go_sem,seval,hi14'];refine hZ _ (pp (Wk_seq ?_));try simp only [Int.ofNat_lt,hi4',hi14',if_true,if_false] at h
  refine dg rfl (dj (pp (aa fun Z hZ=>?_)));simp only [go_sem,seval,hw6];refine hZ _ (pp ?_);first|refine ⟨(l3.set v4 (Client.mk x2.Name x2.Low r3 l12)),?_,h⟩|refine ⟨hi4',(l3.set v4 (Client.mk x2.Name x2.Low r3 l12)),?_,h⟩
  refine Weak.trans (wg (n:=7) (Client.mk x2.Name x2.Low r3 l12) hx9 (by simp only [go_sem,seval]; rfl) rfl rfl) ?_;refine wr ?_ ?_<;>repeat' first|rfl|constructor|simp only [go_sem,seval,List.length_set]
 rw [hd17] at h;simp only [fb] at h;have hw16:=eA hi14' hl12;refine Ws fun Z hZ=>?_;simp only [go_sem,seval,hi14'];refine hZ _ (pp (Wk_seq ?_));try simp only [Int.ofNat_lt,hi4',hi14',if_true,if_false] at h
 refine dC rfl (ah (pp (Wk_seq (aA (Ws fun Z hZ=>?_)))));simp only [go_sem,seval];refine hZ _ (pp ?_);obtain ⟨x5,hb18,hx19,h⟩:=dQ h;try simp only [Int.toNat_natCast] at hx19
 try simp only [Int.ofNat_lt,Int.natCast_nonneg,true_and] at hb18
 obtain rfl:=uT hx9 hx19;obtain ⟨x6,hb20,hx21,h⟩:=dQ h;try simp only [Int.toNat_natCast] at hx21
 try simp only [Int.ofNat_lt,Int.natCast_nonneg,true_and] at hb20
 obtain ⟨r7,hr22,h⟩:=Option.bind_eq_some_iff.1 h;have hx24:=sy (y:=(Answer.mk x6.Seq r7)) hx21;refine gY fun Z hZ=>?_;simp only [go_sem,seval,hb8,lk (f:=Client.rowD) (g:=Client.row) _ hx9,qL (f:=Client.rowD) (g:=Client.row) hx9 rfl,hb20,hx21,hr22,lD (row:=Answer.row) (y:=(Answer.mk x6.Seq r7)) (rx:=[.val (.int .i64 x6.Seq),.val (.string x6.Reply_.Client_),.val (.int .i64 x6.Reply_.Seq),.sl false none 1 none (x6.Reply_.Path.map (rowI .i64)),.val (.int .i64 x6.Reply_.Err),.val (.int .i64 x6.Reply_.Value_.Kind),.val (.int .i64 x6.Reply_.Value_.N),.val (.string x6.Reply_.Value_.S),.sl false none 1 none (x6.Reply_.Value_.I.map (rowI .i64)),.sl false none 1 none (x6.Reply_.Value_.L.map rowS)]) (ry:=[.val (.int .i64 x6.Seq),.val (.string r7.Client_),.val (.int .i64 r7.Seq),.sl false none 1 none (r7.Path.map (rowI .i64)),.val (.int .i64 r7.Err),.val (.int .i64 r7.Value_.Kind),.val (.int .i64 r7.Value_.N),.val (.string r7.Value_.S),.sl false none 1 none (r7.Value_.I.map (rowI .i64)),.sl false none 1 none (r7.Value_.L.map rowS)]) hx21 rfl rfl];repeat with_reducible refine eB (by kernel_rfl) ?_
 refine hZ _ (by kernel_rfl) (pp (aa fun Z hZ=>?_));simp only [go_sem,seval,hw16];refine hZ _ (pp ?_);first|refine ⟨(l12.set v13 (Answer.mk x6.Seq r7)),?_,h⟩|refine ⟨hi14',(l12.set v13 (Answer.mk x6.Seq r7)),?_,h⟩
 refine wr ?_ ?_<;>repeat' first|rfl|constructor|simp only [go_sem,seval,Bool.or_self,List.length_set,Int.natCast_zero,Int.cast_ofNat_Int,hr1,hi4',hw6,hb8,hx9,qH (f:=Client.rowD) (g:=Client.row) hx9,ee,hr10,hr11,mix_of (f:=Client.rowD) (g:=Client.row) (rx:=[.val (.string x2.Name),.val (.int .i64 x2.Low),.sl false none 1 none (x2.Open.map (rowI .i64)),.sl false none 10 none (x2.Done.map Answer.row)]) hx9 rfl rfl,lk (f:=Client.rowD) (g:=Client.row) _ hx9,qL (f:=Client.rowD) (g:=Client.row) hx9 rfl,hi14',hw16,hb18,hb20,hx21,hr22,lD (row:=Answer.row) (y:=(Answer.mk x6.Seq r7)) (rx:=[.val (.int .i64 x6.Seq),.val (.string x6.Reply_.Client_),.val (.int .i64 x6.Reply_.Seq),.sl false none 1 none (x6.Reply_.Path.map (rowI .i64)),.val (.int .i64 x6.Reply_.Err),.val (.int .i64 x6.Reply_.Value_.Kind),.val (.int .i64 x6.Reply_.Value_.N),.val (.string x6.Reply_.Value_.S),.sl false none 1 none (x6.Reply_.Value_.I.map (rowI .i64)),.sl false none 1 none (x6.Reply_.Value_.L.map rowS)]) (ry:=[.val (.int .i64 x6.Seq),.val (.string r7.Client_),.val (.int .i64 r7.Seq),.sl false none 1 none (r7.Path.map (rowI .i64)),.val (.int .i64 r7.Err),.val (.int .i64 r7.Value_.Kind),.val (.int .i64 r7.Value_.N),.val (.string r7.Value_.S),.sl false none 1 none (r7.Value_.I.map (rowI .i64)),.sl false none 1 none (r7.Value_.L.map rowS)]) hx21 rfl rfl,hx24]
def oN (N:Nat):FnS:=⟨[],false,fn1 (decL 4 Client.dec) fun q0=>(eI N q0).map fun r=>.sl false none 4 none (r.map Client.row),false⟩
attribute [go_sem] oN
theorem y4 (N:Nat):FSOk Try.prog 29 (oN N):=ok1 (fun q0 r h=>by
 obtain ⟨r',hr,rfl⟩:=Option.map_eq_some_iff.1 h;exact (l7 N q0 r' hr).res (by (try simp only [go_sem]); exact RokI.h)) (fun h=>aB Client.dec_le h)

def m7 (N:Nat):FnS:=⟨[],false,fn1 (decL 4 Client.dec) fun q0=>(eI N q0).map fun r=>.sl true none 4 none (r.map Client.row),false⟩
attribute [go_sem] m7
theorem yh (N:Nat):FSOk Try.prog 29 (m7 N):=ok1 (fun q0 r h=>by
 obtain ⟨r',hr,rfl⟩:=Option.map_eq_some_iff.1 h;exact (l7 N q0 r' hr).res (by (try simp only [go_sem]); exact RokI.h)) (fun h=>aB Client.dec_le h)

def ib (N:Nat):FnS:=⟨[],false,fn1 (decL 4 Client.dec) fun q0=>(eI N q0).map fun r=>.sl true none 4 none (r.map Client.rowD),false⟩
attribute [go_sem] ib
theorem jy (N:Nat):FSOk Try.prog 29 (ib N):=ok1 (fun q0 r h=>by
 obtain ⟨r',hr,rfl⟩:=Option.map_eq_some_iff.1 h;exact l7 N q0 r' hr) (fun h=>aB Client.dec_le h)


def bt:FnS:={ own:=[true,true],pure:=false,fn:=fun _=>none,peek:=true }
theorem ay:bt.own=[true,true]:=rfl
theorem av:bt.peek=true:=rfl
theorem kN:PeekOk Try.prog 58:=
 sm (fn:=Try.f58) (tS:=22) (tR:=4) (e:=56) (size:=4) Try.func58 rfl rfl (by kernel_rfl) (by kernel_rfl) (by kernel_rfl) (by kernel_rfl)
theorem jM:FSOk Try.prog 58 bt:=⟨(fun cs r h=>by simp [bt] at h),fun _=>kN⟩
noncomputable def b8:Env:={ T:=tiOf Try.prog,G:=fun d f=>if d=67/\f=58 then some bt else none }
theorem bg:b8.T=tiOf Try.prog:=rfl
theorem bh (d:Nat):b8.F d=none:=rfl
theorem aZ (d f:Nat):b8.L d f=none:=rfl
theorem bf:b8.G 67 58=some bt:=rfl
theorem me:GOk Try.prog { T:=tiOf Try.prog,G:=b8.G }:=by
 refine ⟨?_,fun _ _ _ h=>by cases h⟩;intro d f fs hfs;simp only [b8] at hfs;split at hfs
 ·rename_i hc; obtain ⟨rfl,rfl⟩:=hc; obtain rfl:=Option.some.inj hfs; exact jM
 cases hfs
theorem mY:FunOk Try.prog 30 Try.f30 Try.f30.body.get! := ⟨Try.func30,rfl,by decide,by kernel_rfl⟩
set_option maxHeartbeats 4000000 in
theorem jO {α:Type} (row:α->List C) (ok:RowOk row) (l:List α) (i:Nat) (x:α) (k:Nat) (r:List α) (hr:r=l.take i++[x]++l.drop i) (hi:i<=l.length) (hsz:(l.length+1) * 72<=140737488355328) (hk1:l.length<=k) (hk2:k<=maxLen) :
  Con Try.prog 30 [true,false,true] false [.sl true none 4 (some k) (l.map row),.val (.int .i64 i),.sl true none 4 none ([x].map row)] (.sl true none 4 none (r.map row)):=by
 refine sH (E:=b8) (oI Try.prog _) me mix mY (Nat.le_of_ble_eq_true rfl) ?_;intro _;rw [lG (by simp)];rw [show entryF [true,false,true] [C.sl true none 4 (some k) (l.map row),C.val (.int .i64 i),C.sl true none 4 none ([x].map row)]=(updT (updT (updT deadT 0 (.pal 0 [] 0 l.length none)) 1 (.val (.int .i64 i))) 2 (.pal 2 [] 0 1 none)) from by funext t; match t with|0=>simp [entryF,iu,viewD,updT]|1=>rfl|2=>rfl|t+3=>rfl];rw [show R0 [true,false,true] [C.sl true none 4 (some k) (l.map row),C.val (.int .i64 i),C.sl true none 4 none ([x].map row)]=upd (upd RZ 0 (C.sl true none 4 (some k) (l.map row))) 2 (C.sl true none 4 none ([x].map row)) from by funext t; match t with|0=>rfl|1=>rfl|2=>rfl|t+3=>rfl];apply se;simp only [Try.f30,Option.get!];have hi1:(i:Int)<=(l.length:Int):=by omega
 have hi2:i<=l.length:=hi;have h10:(((1:Nat):Int)=0)=False:=by simp
 have hp:(row x).all Abs.plainCell=true:=ok.plain x;have hf:(row x).map C.frz=(row x):=ok.frz x;have hpD:(row x).all plainD=true:=by have:=(RowOk.allD ok [x]); simpa using this
 have hw1:IntKind.i64.wrap ((l.length:Int)+((1:Nat):Int))=((l.length+1:Nat):Int):=by rw [dD (by omega) (by omega)]; rfl
 have hlt0:(l.take i).length=i:=by simp; omega
 have hes:(4 != 0)=true:=rfl;have hm1:min 1 (l.length+1 - i)=1:=by omega
 have hm2:min (l.length - i) (l.length+1 - (i+1))=l.length - i:=by omega
 have hm3:(l.drop i).take (l.length - i)=l.drop i:=List.take_of_length_le (by simp);have hm4:i+1<=l.length+1:=by omega
 have hw2:IntKind.i64.wrap (((l.length+1:Nat):Int) - (i:Int))=((l.length+1 - i:Nat):Int):=by rw [dD (by omega) (by omega)]; omega
 have hw1b:IntKind.i64.wrap ((l.length:Int)+1)=((l.length+1:Nat):Int):=hw1;have hw3:IntKind.i64.wrap ((i:Int)+((1:Nat):Int))=((i+1:Nat):Int):=by rw [dD (by omega) (by omega)]; rfl
 have hw3b:IntKind.i64.wrap ((i:Int)+1)=((i+1:Nat):Int):=hw3;simp only [go_sem,seval,bg,bh,aZ,bf,hi1,hi2,h10,Nat.le_refl,hp,hf,hpD,RowOk.frzRows ok,RowOk.all ok,RowOk.allPlain ok,RowOk.allD ok,al,RX_cap,bM,altX,roomS,roomC,cutC,copyX,aX,aj,extOf,Ext.all,peekX,aI,Option.map_some,hw1,hw2,hw3,hw1b,hw3b,Nat.min_self,Nat.zero_le,Nat.sub_zero,deepV,bne_self_eq_false,List.isEmpty_nil,decide_not,List.length_replicate,hlt0,hm1,hm2,hm3,hm4,ay,av,Nat.not_succ_le_self];refine rD rfl ?_;simp only [go_sem,seval,bg,bh,aZ,bf,hi1,hi2,h10,Nat.le_refl,hp,hf,hpD,RowOk.frzRows ok,RowOk.all ok,RowOk.allPlain ok,RowOk.allD ok,al,RX_cap,bM,altX,roomS,roomC,cutC,copyX,aX,aj,extOf,Ext.all,peekX,aI,Option.map_some,hw1,hw2,hw3,hw1b,hw3b,Nat.min_self,Nat.zero_le,Nat.sub_zero,deepV,bne_self_eq_false,List.isEmpty_nil,decide_not,List.length_replicate,hlt0,hm1,hm2,hm3,hm4,ay,av,Nat.not_succ_le_self];refine jK rfl (fun hc=>?_) (fun hc=>?_)
 ·have e:i=l.length:=by omega
  subst e;simp only [go_sem,seval,bg,bh,aZ,bf,hi1,hi2,h10,Nat.le_refl,hp,hf,hpD,RowOk.frzRows ok,RowOk.all ok,RowOk.allPlain ok,RowOk.allD ok,al,RX_cap,bM,altX,roomS,roomC,cutC,copyX,aX,aj,extOf,Ext.all,peekX,aI,Option.map_some,hw1,hw2,hw3,hw1b,hw3b,Nat.min_self,Nat.zero_le,Nat.sub_zero,deepV,bne_self_eq_false,List.isEmpty_nil,decide_not,List.length_replicate,hlt0,hm1,hm2,hm3,hm4,ay,av,Nat.not_succ_le_self,eY,fp,hsz];refine jA ok ?_;rw [hr];simp [List.take_of_length_le]
 ·have hc1:decide ((i:Int)=(l.length:Int))=false:=decide_eq_false hc;have hlt:i < l.length:=by omega
  simp only [go_sem,seval,bg,bh,aZ,bf,hi1,hi2,h10,Nat.le_refl,hp,hf,hpD,RowOk.frzRows ok,RowOk.all ok,RowOk.allPlain ok,RowOk.allD ok,al,RX_cap,bM,altX,roomS,roomC,cutC,copyX,aX,aj,extOf,Ext.all,peekX,aI,Option.map_some,hw1,hw2,hw3,hw1b,hw3b,Nat.min_self,Nat.zero_le,Nat.sub_zero,deepV,bne_self_eq_false,List.isEmpty_nil,decide_not,List.length_replicate,hlt0,hm1,hm2,hm3,hm4,ay,av,Nat.not_succ_le_self,hc1];refine jK rfl (fun hk=>?_) (fun hk=>?_)
  ·have hk1:decide (k < l.length+1)=true:=decide_eq_true hk;have hk2:k < i+(l.length+1 - i):=by omega
   have e1:i+(l.length+1 - i)=l.length+1:=by omega
   have hi3:(i:Int)<=((l.length+1:Nat):Int):=by omega
   have hi4:i<=l.length+1:=by omega
   obtain ⟨A,hA⟩:∃ A,List.map row (List.take i l)++List.replicate (l.length+1 - i) [C.val (Value.string ⟨#[]⟩),C.val (Value.int .i64 0),C.val (Value.slice none 0 0),C.val (Value.slice none 0 0)]=A:=⟨_,rfl⟩;have hAp:aY A:=by rw [<-hA]; exact eD (dO ok _) (mR _ [Value.string ⟨#[]⟩,Value.int .i64 0,Value.slice none 0 0,Value.slice none 0 0] (by simp [Value.oneCell']))
   have hAl:A.length=l.length+1:=by rw [<-hA,List.length_append,List.length_map,hlt0,List.length_replicate]; omega
   obtain ⟨B,hB⟩:∃ B,ar A i [(row x)]=B:=⟨_,rfl⟩;have hBp:aY B:=by rw [<-hB]; exact dN hAp ⟨by simp [frzRows,hf],by simp [hpD]⟩
   have hBl:B.length=l.length+1:=by rw [<-hB]; simp [ar,hAl]; omega
   obtain ⟨D,hD⟩:∃ D,ar B (i+1) (List.map row (List.drop i l))=D:=⟨_,rfl⟩;have hDp:aY D:=by rw [<-hD]; exact dN hBp (dO ok _)
   have hDl:D.length=l.length+1:=by rw [<-hD]; simp [ar,hBl]; omega
   have hDe:D=(l.take i++[x]++l.drop i).map row:=by
    rw [<-hD,<-hB,<-hA,List.map_take,List.map_drop,si (A:=l.map row) (n:=l.length) (by simp) hi2 (by simp)];simp
   simp only [go_sem,seval,bg,bh,aZ,bf,hi1,hi2,h10,Nat.le_refl,hp,hf,hpD,RowOk.frzRows ok,RowOk.all ok,RowOk.allPlain ok,RowOk.allD ok,al,RX_cap,bM,altX,roomS,roomC,cutC,copyX,aX,aj,extOf,Ext.all,peekX,aI,Option.map_some,hw1,hw2,hw3,hw1b,hw3b,Nat.min_self,Nat.zero_le,Nat.sub_zero,deepV,bne_self_eq_false,List.isEmpty_nil,decide_not,List.length_replicate,hlt0,hm1,hm2,hm3,hm4,ay,av,Nat.not_succ_le_self,hc1,hk1,hk,hk2,e1,hi3,hi4,hA,hAl,hAp.1,hAp.2,hB,hBp.1,hBp.2,hBl,hD,hDp.1,hDp.2,hsz];repeat' ((with_reducible refine eB ?_ ?_); kernel_rfl)
   simp only [go_sem,seval,bg,bh,aZ,bf,hi1,hi2,h10,Nat.le_refl,hp,hf,hpD,RowOk.frzRows ok,RowOk.all ok,RowOk.allPlain ok,RowOk.allD ok,al,RX_cap,bM,altX,roomS,roomC,cutC,copyX,aX,aj,extOf,Ext.all,peekX,aI,Option.map_some,hw1,hw2,hw3,hw1b,hw3b,Nat.min_self,Nat.zero_le,Nat.sub_zero,deepV,bne_self_eq_false,List.isEmpty_nil,decide_not,List.length_replicate,hlt0,hm1,hm2,hm3,hm4,ay,av,Nat.not_succ_le_self,eY,fp,hDp.1,hDp.2,hD];refine jA ok ?_;rw [hr,<-hDe,<-hDl,List.take_length]
  ·have hk1:decide (k < l.length+1)=false:=decide_eq_false hk;have hk2:¬ k < i+(l.length+1 - i):=by omega
   have hk3:l.length+1<=k:=by omega
   have e2:l.length+1 - l.length=1:=by omega
   have e3:l.length<=l.length+1:=by omega
   have hi3:(i:Int)<=((l.length+1:Nat):Int):=by omega
   have hi4:i<=l.length+1:=by omega
   have hne:¬ l.length+1 - (i+1)=0:=by omega
   have hne2:¬ l.length - i=0:=by omega
   obtain ⟨A,hA⟩:∃ A,List.map row l++[[C.dead,C.dead,C.dead,C.dead]]=A:=⟨_,rfl⟩;have hAp:aY A:=by rw [<-hA]; exact eD (dO ok _) (mO 1 4)
   have hAl:A.length=l.length+1:=by rw [<-hA]; simp
   have hm5:min (l.length+1 - i) (l.length+1 - (i+1))=l.length - i:=by omega
   have hm5b:min (l.length+1 - i) (l.length - i)=l.length - i:=by omega
   obtain ⟨A2,hA2⟩:∃ A2,(A.drop i).take (l.length - i)=A2:=⟨_,rfl⟩;have hA2e:A2=List.map row (l.drop i):=by
    rw [<-hA2,<-hA,List.drop_append,List.length_map,show i - l.length=0 by omega,List.drop_zero,List.take_append,List.take_of_length_le (by simp),show l.length - i - (List.drop i (List.map row l)).length=0 by simp];simp [List.map_drop]
   have hA2p:(A2.all fun r=>r.all Abs.plainCell)=true:=by rw [hA2e]; exact ok.allPlain _
   have hA2f:frzRows A2=A2:=by rw [hA2e]; exact ok.frzRows _
   have hA2d:aY A2:=by rw [hA2e]; exact dO ok _
   obtain ⟨B,hB⟩:∃ B,ar A (i+1) A2=B:=⟨_,rfl⟩;have hBp:aY B:=by rw [<-hB]; exact dN hAp hA2d
   have hBl:B.length=l.length+1:=by rw [<-hB]; simp [ar,hAl,hA2e]; omega
   obtain ⟨D,hD⟩:∃ D,ar B i [(row x)]=D:=⟨_,rfl⟩;have hDp:aY D:=by rw [<-hD]; exact dN hBp ⟨by simp [frzRows,hf],by simp [hpD]⟩
   have hDl:D.length=l.length+1:=by rw [<-hD]; simp [ar,hBl]; omega
   have hDe:D=(l.take i++[x]++l.drop i).map row:=by
    rw [<-hD,<-hB,<-hA2,<-hA,rv (A:=l.map row) (n:=l.length) (by simp) hi2];simp [List.map_take,List.map_drop]
   simp only [go_sem,seval,bg,bh,aZ,bf,hi1,hi2,h10,Nat.le_refl,hp,hf,hpD,RowOk.frzRows ok,RowOk.all ok,RowOk.allPlain ok,RowOk.allD ok,al,RX_cap,bM,altX,roomS,roomC,cutC,copyX,aX,aj,extOf,Ext.all,peekX,aI,Option.map_some,hw1,hw2,hw3,hw1b,hw3b,Nat.min_self,Nat.zero_le,Nat.sub_zero,deepV,bne_self_eq_false,List.isEmpty_nil,decide_not,List.length_replicate,hlt0,hm1,hm2,hm3,hm4,ay,av,Nat.not_succ_le_self,hc1,hk1,hk,hk2,hk3,e2,e3,hi3,hi4,hne,hne2,hA,hAl,hAp.1,hAp.2,hes,hA2,hA2p,hA2f,hB,hBp.1,hBp.2,hBl,hD,hDp.1,hDp.2,hDl,hm5,hm5b];refine rr rfl ?_;simp only [go_sem,seval,bg,bh,aZ,bf,hi1,hi2,h10,Nat.le_refl,hp,hf,hpD,RowOk.frzRows ok,RowOk.all ok,RowOk.allPlain ok,RowOk.allD ok,al,RX_cap,bM,altX,roomS,roomC,cutC,copyX,aX,aj,extOf,Ext.all,peekX,aI,Option.map_some,hw1,hw2,hw3,hw1b,hw3b,Nat.min_self,Nat.zero_le,Nat.sub_zero,deepV,bne_self_eq_false,List.isEmpty_nil,decide_not,List.length_replicate,hlt0,hm1,hm2,hm3,hm4,ay,av,Nat.not_succ_le_self,hc1,hk1,hk,hk2,hk3,e2,e3,hi3,hi4,hne,hne2,hA,hAl,hAp.1,hAp.2,hes,hA2,hA2p,hA2f,hB,hBp.1,hBp.2,hBl,hD,hDp.1,hDp.2,hDl,hm5,hm5b];repeat' ((with_reducible refine eB ?_ ?_); kernel_rfl)
   simp only [go_sem,seval,bg,bh,aZ,bf,hi1,hi2,h10,Nat.le_refl,hp,hf,hpD,RowOk.frzRows ok,RowOk.all ok,RowOk.allPlain ok,RowOk.allD ok,al,RX_cap,bM,altX,roomS,roomC,cutC,copyX,aX,aj,extOf,Ext.all,peekX,aI,Option.map_some,hw1,hw2,hw3,hw1b,hw3b,Nat.min_self,Nat.zero_le,Nat.sub_zero,deepV,bne_self_eq_false,List.isEmpty_nil,decide_not,List.length_replicate,hlt0,hm1,hm2,hm3,hm4,ay,av,Nat.not_succ_le_self,eY,fp,hDp.1,hDp.2,hD,hDl];refine jA ok ?_;rw [hr,<-hDe,<-hDl,List.take_length]
theorem oq (N:Nat) (a0:List Client) (a1:Int) (a2:List Client) (r:List Client) (h:bx N a0 a1 a2=some r) :
  Con Try.prog 30 [true,false,true] false [.sl true none 4 none (a0.map Client.row),.val (.int .i64 a1),.sl true none 4 none (a2.map Client.row)] (.sl true none 4 none (r.map Client.row)):=by
 unfold bx at h;obtain ⟨n,x,rfl,rfl,h1,h2,h3⟩:=lS h;exact qI fun k hk1 hk2=>jO Client.row Client.row_ok a0 n x k r (Option.some.inj h3).symm h1 h2 (by simpa using hk1) hk2
def db (N:Nat):FnS:={ own:=[true,false,true],pure:=false,fn:=fun cs=>match cs with
 | [c0,c1,c2]=>(decO 4 Client.dec c0).bind fun q0=>(decI .i64 c1).bind fun q1=>(decO 4 Client.dec c2).bind fun q2=>(bx N q0 q1 q2).map fun r=>.sl true none 4 none (r.map Client.row)
 | _=>none }
theorem lq (N:Nat):(db N).own=[true,false,true]:=rfl
theorem kL (N:Nat):(db N).pure=false:=rfl
theorem kQ (N:Nat):(db N).peek=false:=rfl
attribute [go_sem] db lq kL kQ
theorem th (N:Nat):FSOk Try.prog 30 (db N):=by
 refine ⟨fun cs r h=>?_,fun h=>by cases h⟩;simp only [db] at h;split at h
 ·simp only [Option.bind_eq_some_iff,Option.map_eq_some_iff] at h;obtain ⟨q0,h0,q1,h1,q2,h2,r',hr,rfl⟩:=h;exact (oq N q0 q1 q2 r' hr).argsO rfl (fW (iZ Client.row_ok Client.dec_le h0) (kY (ag h1) (fW (iZ Client.row_ok Client.dec_le h2) j5)))
 ·cases h
def RawRow:Type:={r:List C // r.map C.frz=r/\r.all C.cellOk=true/\r.all Go.Abs.plainCell=true}
def RawRow.row (x:RawRow):List C:=x.1
theorem RawRow.ok:RowOk RawRow.row:=⟨fun x=>x.2.1,fun x=>x.2.2.1,fun x=>x.2.2.2⟩
theorem lg {N:Nat} {a0:List Client} {a1:Int} {x:Client} {r:List Client} (h:bx N a0 a1 [x]=some r):r[a1.toNat]?=some x:=by
 unfold bx at h;obtain ⟨n,y,rfl,hy,h1,h2,h3⟩:=lS h;obtain rfl:x=y:=by simpa using hy
 obtain rfl:=Option.some.inj h3;rw [Int.toNat_natCast,List.append_assoc,List.getElem?_append_right (by simp only [List.length_take]; omega)];simp only [List.length_take,Nat.min_eq_left h1,Nat.sub_self,List.cons_append,List.getElem?_cons_zero]
theorem mT (N:Nat) (a0:List Client) (a1:Int) (a2:List Client) (r:List Client) (h:bx N a0 a1 a2=some r) :
  Con Try.prog 30 [true,false,true] false [.sl true none 4 none (a0.map Client.row),.val (.int .i64 a1),.sl true none 4 none (a2.map Client.rowN)] (.sl true none 4 none ((r.map Client.row).set a1.toNat ((a2.map Client.rowN).headD []))):=by
 unfold bx at h;obtain ⟨n,x,rfl,rfl,h1,h2,h3⟩:=lS h;obtain rfl:=Option.some.inj h3;have ok:=Client.row_ok
 let f:Client->RawRow:=fun y=>⟨Client.row y,ok.frz y,ok.ok y,ok.plain y⟩
 let g:RawRow:=⟨Client.rowN x,rfl,rfl,rfl⟩
 have e1:(a0.map f).map RawRow.row=a0.map Client.row:=by rw [List.map_map]; rfl
 have e2:((a0.map f).take n++[g]++(a0.map f).drop n).map RawRow.row=((a0.take n++[x]++a0.drop n).map Client.row).set n (Client.rowN x):=by
  simp only [List.map_append,List.map_cons,List.map_nil,List.append_assoc];rw [<-List.map_take,<-List.map_drop,List.map_map,List.map_map,List.set_append_right _ _ (by simp only [List.length_map,List.length_take]; omega)];simp only [List.length_map,List.length_take,Nat.min_eq_left h1,Nat.sub_self,List.cons_append,List.nil_append,List.set_cons_zero];rfl
 refine qI fun k hk1 hk2=>?_;have:=jO RawRow.row RawRow.ok (a0.map f) n g k _ rfl (by simpa using h1) (by simpa using h2) (by simpa using hk1) hk2;rw [e1,e2] at this;exact this
def bO (N:Nat):FnS:={ own:=[true,false,true],pure:=false,fn:=fun cs=>match cs with
 | [c0,c1,c2]=>(decO 4 Client.dec c0).bind fun q0=>(decI .i64 c1).bind fun q1=>(decO 4 Client.decN c2).bind fun q2=>(bx N q0 q1 q2).map fun r=>.sl true none 4 none ((r.map Client.row).set q1.toNat ((q2.map Client.rowN).headD []))
 | _=>none }
theorem lA (N:Nat):(bO N).own=[true,false,true]:=rfl
theorem kK (N:Nat):(bO N).pure=false:=rfl
theorem kO (N:Nat):(bO N).peek=false:=rfl
attribute [go_sem] bO lA kK kO List.headD_cons Client.rowN Client.decN
theorem lQ (N:Nat):FSOk Try.prog 30 (bO N):=by
 refine ⟨fun cs r h=>?_,fun h=>by cases h⟩;simp only [bO] at h;split at h
 ·simp only [Option.bind_eq_some_iff,Option.map_eq_some_iff] at h;obtain ⟨q0,h0,q1,h1,q2,h2,r',hr,rfl⟩:=h;exact (mT N q0 q1 q2 r' hr).argsO rfl (fW (iZ Client.row_ok Client.dec_le h0) (kY (ag h1) (fW (iZ Client.rowN_ok Client.decN_le h2) j5)))
 ·cases h


theorem rO (N:Nat) (a0:Int) (r:Bool) (h:gK N a0=some r):Con Try.prog 73 [] true [.val (.int .i64 a0)] (.val (.bool r)):=by
 refine aO (G:=(glist [])) Try.func73 rfl (by decide) (by kernel_rfl) gn [] mix (Nat.le_of_ble_eq_true rfl) ?_;simp only [Try.f73];unfold gK at h;refine Ws fun Z hZ=>?_;simp only [go_sem,seval];refine hZ _ (pp (Ws fun Z hZ=>?_));simp only [go_sem,seval];refine hZ _ (pp (Wk_ret (pp ?_)));cases h;simp only [go_sem,seval];exact ⟨_,rfl,RokI.h,PureI.h⟩
def iP (N:Nat):FnS:=⟨[],true,fn1 (decI .i64) fun q0=>(gK N q0).map fun r=>.val (.bool r),false⟩
attribute [go_sem] iP
theorem kU (N:Nat):FSOk Try.prog 73 (iP N):=ok1 (fun q0 r h=>by
 obtain ⟨r',hr,rfl⟩:=Option.map_eq_some_iff.1 h;exact rO N q0 r' hr) (ag)


noncomputable def oY (N d f:Nat):Option FnS:=glist [(6,73,iP N),(9,73,iP N)] d f
attribute [go_sem] oY
theorem sO (N:Nat) (a0:Int) (a1:Int) (r:Bool) (h:iK N a0 a1=some r):Con Try.prog 60 [] true [.val (.int .i64 a0),.val (.int .i64 a1)] (.val (.bool r)):=by
 refine aO (G:=(oY N)) Try.func60 rfl (by decide) (by kernel_rfl) (gc 6 (kU N) (gc 9 (kU N) gn)) [] mix (Nat.le_of_ble_eq_true rfl) ?_;simp only [Try.f60];unfold iK at h;refine Ws fun Z hZ=>?_;simp only [go_sem,seval];refine hZ _ (pp (Wk_seq ?_));obtain ⟨r1,hr1,h⟩:=Option.bind_eq_some_iff.1 h;refine aa fun Z hZ=>?_;simp only [go_sem,seval,hr1];refine sw (eV rfl) (fun hc2=>?_) (fun hc2=>?_)
 ·rw [if_neg (ne_true_of_eq_false hc2)] at h;simp only [go_sem,seval,hc2];refine hZ _ (pp (Wk_ret (pp ?_)));cases h;simp only [go_sem,seval];exact ⟨_,rfl,RokI.h,PureI.h⟩
 rw [if_pos hc2] at h;obtain ⟨r2,hr3,h⟩:=Option.bind_eq_some_iff.1 h;simp only [go_sem,seval,hc2,hr3];refine da rfl (fun hc4=>?_) (fun hc4=>?_)
 ·rw [if_neg (ne_true_of_eq_false hc4)] at h;simp only [go_sem,seval,hc4];refine hZ _ (pp (Wk_ret (pp ?_)));cases h;simp only [go_sem,seval];exact ⟨_,rfl,RokI.h,PureI.h⟩
 rw [if_pos hc4] at h;simp only [go_sem,seval,hc4];refine hZ _ (pp (Wk_ret (pp ?_)));cases h;simp only [go_sem,seval];exact ⟨_,rfl,RokI.h,PureI.h⟩
def kt (N:Nat):FnS:=⟨[],true,fn2 (decI .i64) (decI .i64) fun q0 q1=>(iK N q0 q1).map fun r=>.val (.bool r),false⟩
attribute [go_sem] kt
theorem qu (N:Nat):FSOk Try.prog 60 (kt N):=ok2 (fun q0 q1 r h=>by
 obtain ⟨r',hr,rfl⟩:=Option.map_eq_some_iff.1 h;exact sO N q0 q1 r' hr) (ag) (ag)


theorem qv (N:Nat) (a0:Int) (r:Bool) (h:fh N a0=some r):Con Try.prog 61 [] true [.val (.int .i64 a0)] (.val (.bool r)):=by
 refine aO (G:=(glist [])) Try.func61 rfl (by decide) (by kernel_rfl) gn [] mix (Nat.le_of_ble_eq_true rfl) ?_;simp only [Try.f61];unfold fh at h;refine Ws fun Z hZ=>?_;simp only [go_sem,seval];refine hZ _ (pp (Ws fun Z hZ=>?_));simp only [go_sem,seval];refine hZ _ (pp (Wk_ret (pp ?_)));cases h;simp only [go_sem,seval];exact ⟨_,rfl,RokI.h,PureI.h⟩
def gu (N:Nat):FnS:=⟨[],true,fn1 (decI .i64) fun q0=>(fh N q0).map fun r=>.val (.bool r),false⟩
attribute [go_sem] gu
theorem jW (N:Nat):FSOk Try.prog 61 (gu N):=ok1 (fun q0 r h=>by
 obtain ⟨r',hr,rfl⟩:=Option.map_eq_some_iff.1 h;exact qv N q0 r' hr) (ag)


noncomputable def ji (N d f:Nat):Option FnS:=glist [(27,60,kt N),(47,61,gu N),(50,61,gu N)] d f
attribute [go_sem] ji
theorem mv (N:Nat) (a0:(List Int)) (a1:Int) (r:Int × Bool) (h:bW N a0 a1=some r):Con Try.prog 31 [] true [.sl false none 1 none (a0.map (rowI .i64)),.val (.int .i64 a1)] (.tup [.val (.int .i64 r.1),.val (.bool r.2)]):=by
 refine aO (G:=(ji N)) Try.func31 rfl (by decide) (by kernel_rfl) (gc 27 (qu N) (gc 47 (jW N) (gc 50 (jW N) gn))) [] mix (Nat.le_of_ble_eq_true rfl) ?_;simp only [Try.f31];unfold bW at h;refine Ws fun Z hZ=>?_;simp only [go_sem,seval];refine hZ _ (pp (Ws fun Z hZ=>?_));simp only [go_sem,seval];refine hZ _ (pp (Ws fun Z hZ=>?_));simp only [go_sem,seval];refine hZ _ (pp (Wk_seq (aA (mw (fun (b:Int × Int)=>⟨tab 54 (updT (updT (updT (updT (updT deadT 0 (.sl false none 1 none (a0.map (rowI .i64)))) 1 (.val (.int .i64 a1))) 6 (.val (.int .i64 ((a0.length:Nat):Int)))) 7 (.val (.int .i64 b.1))) 8 (.val (.int .i64 b.2))),RZ⟩) (0,((a0.length:Nat):Int)) h ?_ ?_))))
 ·refine wr ?_ ?_<;>repeat' first|rfl|constructor
 rintro n ⟨v2,v3⟩ h -;cases n with
 | zero=>simp [bH] at h
 | succ n=>
 simp only [bH] at h;refine Wk_seq (Ws fun Z hZ=>?_);simp only [go_sem,seval];refine hZ _ (pp (bG rfl (fun hc1=>?_) (fun hc1=>?_)))
 ·have hc1d:=decide_eq_true hc1;rw [if_pos hc1] at h;refine ah (pp (aA (Ws fun Z hZ=>?_)));simp only [go_sem,seval,hc1d];refine hZ _ (pp (Wk_seq ?_));obtain ⟨x9,hb2,hx3,h⟩:=dQ h;obtain ⟨r10,hr4,h⟩:=Option.bind_eq_some_iff.1 h;refine aa fun Z hZ=>?_;simp only [go_sem,seval,hb2,hx3,hr4];refine hZ _ (pp (aN rfl (fun hc5=>?_) (fun hc5=>?_)))
  ·rw [if_pos hc5] at h;refine aa fun Z hZ=>?_;simp only [go_sem,seval,hc5];refine hZ _ (pp (⟨_,Nat.lt_succ_self _,(IntKind.i64.wrap ((IntKind.i64.wrap (shrI .u64 (IntKind.u64.wrap (IntKind.i64.wrap (v2+v3))) 1))+1),v3),?_,h⟩));refine wr ?_ ?_<;>repeat' first|rfl|constructor
  rw [if_neg (ne_true_of_eq_false hc5)] at h;refine aa fun Z hZ=>?_;simp only [go_sem,seval,hc5];refine hZ _ (pp (⟨_,Nat.lt_succ_self _,(v2,IntKind.i64.wrap (shrI .u64 (IntKind.u64.wrap (IntKind.i64.wrap (v2+v3))) 1)),?_,h⟩));refine wr ?_ ?_<;>repeat' first|rfl|constructor
 have hc1d:=decide_eq_false hc1;rw [if_neg hc1] at h;refine dj (pp ?_);unfold ei at h;refine Ws fun Z hZ=>?_;simp only [go_sem,seval,hc1d];refine sw (ai rfl) (fun hc6=>?_) (fun hc6=>?_)
 ·have hc6d:=decide_eq_false hc6;rw [if_neg hc6] at h;simp only [go_sem,seval,hc6d];refine hZ _ (pp (Wk_ret (pp ?_)));cases h;simp only [go_sem,seval];exact ⟨_,rfl,RokI.h,PureI.h⟩
 have hc6d:=decide_eq_true hc6;rw [if_pos hc6] at h;obtain ⟨x11,hb7,hx8,h⟩:=dQ h;simp only [go_sem,seval,hb7,hx8];refine ai rfl (fun hc9=>?_) (fun hc9=>?_)
 ·have hc9d:=decide_eq_true hc9;rw [if_pos hc9] at h;simp only [go_sem,seval,hc9d];refine hZ _ (pp (Wk_ret (pp ?_)));cases h;simp only [go_sem,seval];exact ⟨_,rfl,RokI.h,PureI.h⟩
 have hc9d:=decide_eq_false hc9;rw [if_neg hc9] at h;obtain ⟨r12,hr10,h⟩:=Option.bind_eq_some_iff.1 h;simp only [go_sem,seval,hb7,hx8,hc9d,hr10];refine eV rfl (fun hc11=>?_) (fun hc11=>?_)
 ·rw [if_pos hc11] at h;obtain ⟨r13,hr12,h⟩:=Option.bind_eq_some_iff.1 h;simp only [go_sem,seval,hc11,hr12];refine hZ _ (pp (Wk_ret (pp ?_)));cases h;simp only [go_sem,seval];exact ⟨_,rfl,RokI.h,PureI.h⟩
 rw [if_neg (ne_true_of_eq_false hc11)] at h;simp only [go_sem,seval,hc11];refine hZ _ (pp (Wk_ret (pp ?_)));cases h;simp only [go_sem,seval];exact ⟨_,rfl,RokI.h,PureI.h⟩
def fM (N:Nat):FnS:=⟨[],true,fn2 (decL 1 (dec1 (decI .i64))) (decI .i64) fun q0 q1=>(bW N q0 q1).map fun r=>.tup [.val (.int .i64 r.1),.val (.bool r.2)],false⟩
attribute [go_sem] fM
theorem kM (N:Nat):FSOk Try.prog 31 (fM N):=ok2 (fun q0 q1 r h=>by
 obtain ⟨r',hr,rfl⟩:=Option.map_eq_some_iff.1 h;exact mv N q0 q1 r' hr) (fun h=>aB (bZ .i64) h) (ag)


def bK:FnS:={ own:=[true,true],pure:=false,fn:=fun _=>none,peek:=true }
theorem aE:bK.own=[true,true]:=rfl
theorem aC:bK.peek=true:=rfl
theorem lV:PeekOk Try.prog 62:=
 sm (fn:=Try.f62) (tS:=23) (tR:=4) (e:=3) (size:=1) Try.func62 rfl rfl (by kernel_rfl) (by kernel_rfl) (by kernel_rfl) (by kernel_rfl)
theorem j4:FSOk Try.prog 62 bK:=⟨(fun cs r h=>by simp [bK] at h),fun _=>lV⟩
noncomputable def dI:Env:={ T:=tiOf Try.prog,G:=fun d f=>if d=67/\f=62 then some bK else none }
theorem bB:dI.T=tiOf Try.prog:=rfl
theorem bA (d:Nat):dI.F d=none:=rfl
theorem bE (d f:Nat):dI.L d f=none:=rfl
theorem bF:dI.G 67 62=some bK:=rfl
theorem ow:GOk Try.prog { T:=tiOf Try.prog,G:=dI.G }:=by
 refine ⟨?_,fun _ _ _ h=>by cases h⟩;intro d f fs hfs;simp only [dI] at hfs;split at hfs
 ·rename_i hc; obtain ⟨rfl,rfl⟩:=hc; obtain rfl:=Option.some.inj hfs; exact j4
 cases hfs
theorem pn:FunOk Try.prog 32 Try.f32 Try.f32.body.get! := ⟨Try.func32,rfl,by decide,by kernel_rfl⟩
set_option maxHeartbeats 4000000 in
theorem pE {α:Type} (row:α->List C) (ok:RowOk row) (l:List α) (i:Nat) (x:α) (k:Nat) (r:List α) (hr:r=l.take i++[x]++l.drop i) (hi:i<=l.length) (hsz:(l.length+1) * 8<=140737488355328) (hk1:l.length<=k) (hk2:k<=maxLen) :
  Con Try.prog 32 [true,false,true] false [.sl true none 1 (some k) (l.map row),.val (.int .i64 i),.sl true none 1 none ([x].map row)] (.sl true none 1 none (r.map row)):=by
 refine sH (E:=dI) (oI Try.prog _) ow mix pn (Nat.le_of_ble_eq_true rfl) ?_;intro _;rw [lG (by simp)];rw [show entryF [true,false,true] [C.sl true none 1 (some k) (l.map row),C.val (.int .i64 i),C.sl true none 1 none ([x].map row)]=(updT (updT (updT deadT 0 (.pal 0 [] 0 l.length none)) 1 (.val (.int .i64 i))) 2 (.pal 2 [] 0 1 none)) from by funext t; match t with|0=>simp [entryF,iu,viewD,updT]|1=>rfl|2=>rfl|t+3=>rfl];rw [show R0 [true,false,true] [C.sl true none 1 (some k) (l.map row),C.val (.int .i64 i),C.sl true none 1 none ([x].map row)]=upd (upd RZ 0 (C.sl true none 1 (some k) (l.map row))) 2 (C.sl true none 1 none ([x].map row)) from by funext t; match t with|0=>rfl|1=>rfl|2=>rfl|t+3=>rfl];apply se;simp only [Try.f32,Option.get!];have hi1:(i:Int)<=(l.length:Int):=by omega
 have hi2:i<=l.length:=hi;have h10:(((1:Nat):Int)=0)=False:=by simp
 have hp:(row x).all Abs.plainCell=true:=ok.plain x;have hf:(row x).map C.frz=(row x):=ok.frz x;have hpD:(row x).all plainD=true:=by have:=(RowOk.allD ok [x]); simpa using this
 have hw1:IntKind.i64.wrap ((l.length:Int)+((1:Nat):Int))=((l.length+1:Nat):Int):=by rw [dD (by omega) (by omega)]; rfl
 have hlt0:(l.take i).length=i:=by simp; omega
 have hes:(1 != 0)=true:=rfl;have hm1:min 1 (l.length+1 - i)=1:=by omega
 have hm2:min (l.length - i) (l.length+1 - (i+1))=l.length - i:=by omega
 have hm3:(l.drop i).take (l.length - i)=l.drop i:=List.take_of_length_le (by simp);have hm4:i+1<=l.length+1:=by omega
 have hw2:IntKind.i64.wrap (((l.length+1:Nat):Int) - (i:Int))=((l.length+1 - i:Nat):Int):=by rw [dD (by omega) (by omega)]; omega
 have hw1b:IntKind.i64.wrap ((l.length:Int)+1)=((l.length+1:Nat):Int):=hw1;have hw3:IntKind.i64.wrap ((i:Int)+((1:Nat):Int))=((i+1:Nat):Int):=by rw [dD (by omega) (by omega)]; rfl
 have hw3b:IntKind.i64.wrap ((i:Int)+1)=((i+1:Nat):Int):=hw3;simp only [go_sem,seval,bB,bA,bE,bF,hi1,hi2,h10,Nat.le_refl,hp,hf,hpD,RowOk.frzRows ok,RowOk.all ok,RowOk.allPlain ok,RowOk.allD ok,al,RX_cap,bM,altX,roomS,roomC,cutC,copyX,aX,aj,extOf,Ext.all,peekX,aI,Option.map_some,hw1,hw2,hw3,hw1b,hw3b,Nat.min_self,Nat.zero_le,Nat.sub_zero,deepV,bne_self_eq_false,List.isEmpty_nil,decide_not,List.length_replicate,hlt0,hm1,hm2,hm3,hm4,aE,aC,Nat.not_succ_le_self];refine rD rfl ?_;simp only [go_sem,seval,bB,bA,bE,bF,hi1,hi2,h10,Nat.le_refl,hp,hf,hpD,RowOk.frzRows ok,RowOk.all ok,RowOk.allPlain ok,RowOk.allD ok,al,RX_cap,bM,altX,roomS,roomC,cutC,copyX,aX,aj,extOf,Ext.all,peekX,aI,Option.map_some,hw1,hw2,hw3,hw1b,hw3b,Nat.min_self,Nat.zero_le,Nat.sub_zero,deepV,bne_self_eq_false,List.isEmpty_nil,decide_not,List.length_replicate,hlt0,hm1,hm2,hm3,hm4,aE,aC,Nat.not_succ_le_self];refine jK rfl (fun hc=>?_) (fun hc=>?_)
 ·have e:i=l.length:=by omega
  subst e;simp only [go_sem,seval,bB,bA,bE,bF,hi1,hi2,h10,Nat.le_refl,hp,hf,hpD,RowOk.frzRows ok,RowOk.all ok,RowOk.allPlain ok,RowOk.allD ok,al,RX_cap,bM,altX,roomS,roomC,cutC,copyX,aX,aj,extOf,Ext.all,peekX,aI,Option.map_some,hw1,hw2,hw3,hw1b,hw3b,Nat.min_self,Nat.zero_le,Nat.sub_zero,deepV,bne_self_eq_false,List.isEmpty_nil,decide_not,List.length_replicate,hlt0,hm1,hm2,hm3,hm4,aE,aC,Nat.not_succ_le_self,eY,fp,hsz];refine jA ok ?_;rw [hr];simp [List.take_of_length_le]
 ·have hc1:decide ((i:Int)=(l.length:Int))=false:=decide_eq_false hc;have hlt:i < l.length:=by omega
  simp only [go_sem,seval,bB,bA,bE,bF,hi1,hi2,h10,Nat.le_refl,hp,hf,hpD,RowOk.frzRows ok,RowOk.all ok,RowOk.allPlain ok,RowOk.allD ok,al,RX_cap,bM,altX,roomS,roomC,cutC,copyX,aX,aj,extOf,Ext.all,peekX,aI,Option.map_some,hw1,hw2,hw3,hw1b,hw3b,Nat.min_self,Nat.zero_le,Nat.sub_zero,deepV,bne_self_eq_false,List.isEmpty_nil,decide_not,List.length_replicate,hlt0,hm1,hm2,hm3,hm4,aE,aC,Nat.not_succ_le_self,hc1];refine jK rfl (fun hk=>?_) (fun hk=>?_)
  ·have hk1:decide (k < l.length+1)=true:=decide_eq_true hk;have hk2:k < i+(l.length+1 - i):=by omega
   have e1:i+(l.length+1 - i)=l.length+1:=by omega
   have hi3:(i:Int)<=((l.length+1:Nat):Int):=by omega
   have hi4:i<=l.length+1:=by omega
   obtain ⟨A,hA⟩:∃ A,List.map row (List.take i l)++List.replicate (l.length+1 - i) [C.val (Value.int .i64 0)]=A:=⟨_,rfl⟩;have hAp:aY A:=by rw [<-hA]; exact eD (dO ok _) (mR _ [Value.int .i64 0] (by simp [Value.oneCell']))
   have hAl:A.length=l.length+1:=by rw [<-hA,List.length_append,List.length_map,hlt0,List.length_replicate]; omega
   obtain ⟨B,hB⟩:∃ B,ar A i [(row x)]=B:=⟨_,rfl⟩;have hBp:aY B:=by rw [<-hB]; exact dN hAp ⟨by simp [frzRows,hf],by simp [hpD]⟩
   have hBl:B.length=l.length+1:=by rw [<-hB]; simp [ar,hAl]; omega
   obtain ⟨D,hD⟩:∃ D,ar B (i+1) (List.map row (List.drop i l))=D:=⟨_,rfl⟩;have hDp:aY D:=by rw [<-hD]; exact dN hBp (dO ok _)
   have hDl:D.length=l.length+1:=by rw [<-hD]; simp [ar,hBl]; omega
   have hDe:D=(l.take i++[x]++l.drop i).map row:=by
    rw [<-hD,<-hB,<-hA,List.map_take,List.map_drop,si (A:=l.map row) (n:=l.length) (by simp) hi2 (by simp)];simp
   simp only [go_sem,seval,bB,bA,bE,bF,hi1,hi2,h10,Nat.le_refl,hp,hf,hpD,RowOk.frzRows ok,RowOk.all ok,RowOk.allPlain ok,RowOk.allD ok,al,RX_cap,bM,altX,roomS,roomC,cutC,copyX,aX,aj,extOf,Ext.all,peekX,aI,Option.map_some,hw1,hw2,hw3,hw1b,hw3b,Nat.min_self,Nat.zero_le,Nat.sub_zero,deepV,bne_self_eq_false,List.isEmpty_nil,decide_not,List.length_replicate,hlt0,hm1,hm2,hm3,hm4,aE,aC,Nat.not_succ_le_self,hc1,hk1,hk,hk2,e1,hi3,hi4,hA,hAl,hAp.1,hAp.2,hB,hBp.1,hBp.2,hBl,hD,hDp.1,hDp.2,hsz];repeat' ((with_reducible refine eB ?_ ?_); kernel_rfl)
   simp only [go_sem,seval,bB,bA,bE,bF,hi1,hi2,h10,Nat.le_refl,hp,hf,hpD,RowOk.frzRows ok,RowOk.all ok,RowOk.allPlain ok,RowOk.allD ok,al,RX_cap,bM,altX,roomS,roomC,cutC,copyX,aX,aj,extOf,Ext.all,peekX,aI,Option.map_some,hw1,hw2,hw3,hw1b,hw3b,Nat.min_self,Nat.zero_le,Nat.sub_zero,deepV,bne_self_eq_false,List.isEmpty_nil,decide_not,List.length_replicate,hlt0,hm1,hm2,hm3,hm4,aE,aC,Nat.not_succ_le_self,eY,fp,hDp.1,hDp.2,hD];refine jA ok ?_;rw [hr,<-hDe,<-hDl,List.take_length]
  ·have hk1:decide (k < l.length+1)=false:=decide_eq_false hk;have hk2:¬ k < i+(l.length+1 - i):=by omega
   have hk3:l.length+1<=k:=by omega
   have e2:l.length+1 - l.length=1:=by omega
   have e3:l.length<=l.length+1:=by omega
   have hi3:(i:Int)<=((l.length+1:Nat):Int):=by omega
   have hi4:i<=l.length+1:=by omega
   have hne:¬ l.length+1 - (i+1)=0:=by omega
   have hne2:¬ l.length - i=0:=by omega
   obtain ⟨A,hA⟩:∃ A,List.map row l++[[C.dead]]=A:=⟨_,rfl⟩;have hAp:aY A:=by rw [<-hA]; exact eD (dO ok _) (mO 1 1)
   have hAl:A.length=l.length+1:=by rw [<-hA]; simp
   have hm5:min (l.length+1 - i) (l.length+1 - (i+1))=l.length - i:=by omega
   have hm5b:min (l.length+1 - i) (l.length - i)=l.length - i:=by omega
   obtain ⟨A2,hA2⟩:∃ A2,(A.drop i).take (l.length - i)=A2:=⟨_,rfl⟩;have hA2e:A2=List.map row (l.drop i):=by
    rw [<-hA2,<-hA,List.drop_append,List.length_map,show i - l.length=0 by omega,List.drop_zero,List.take_append,List.take_of_length_le (by simp),show l.length - i - (List.drop i (List.map row l)).length=0 by simp];simp [List.map_drop]
   have hA2p:(A2.all fun r=>r.all Abs.plainCell)=true:=by rw [hA2e]; exact ok.allPlain _
   have hA2f:frzRows A2=A2:=by rw [hA2e]; exact ok.frzRows _
   have hA2d:aY A2:=by rw [hA2e]; exact dO ok _
   obtain ⟨B,hB⟩:∃ B,ar A (i+1) A2=B:=⟨_,rfl⟩;have hBp:aY B:=by rw [<-hB]; exact dN hAp hA2d
   have hBl:B.length=l.length+1:=by rw [<-hB]; simp [ar,hAl,hA2e]; omega
   obtain ⟨D,hD⟩:∃ D,ar B i [(row x)]=D:=⟨_,rfl⟩;have hDp:aY D:=by rw [<-hD]; exact dN hBp ⟨by simp [frzRows,hf],by simp [hpD]⟩
   have hDl:D.length=l.length+1:=by rw [<-hD]; simp [ar,hBl]; omega
   have hDe:D=(l.take i++[x]++l.drop i).map row:=by
    rw [<-hD,<-hB,<-hA2,<-hA,rv (A:=l.map row) (n:=l.length) (by simp) hi2];simp [List.map_take,List.map_drop]
   simp only [go_sem,seval,bB,bA,bE,bF,hi1,hi2,h10,Nat.le_refl,hp,hf,hpD,RowOk.frzRows ok,RowOk.all ok,RowOk.allPlain ok,RowOk.allD ok,al,RX_cap,bM,altX,roomS,roomC,cutC,copyX,aX,aj,extOf,Ext.all,peekX,aI,Option.map_some,hw1,hw2,hw3,hw1b,hw3b,Nat.min_self,Nat.zero_le,Nat.sub_zero,deepV,bne_self_eq_false,List.isEmpty_nil,decide_not,List.length_replicate,hlt0,hm1,hm2,hm3,hm4,aE,aC,Nat.not_succ_le_self,hc1,hk1,hk,hk2,hk3,e2,e3,hi3,hi4,hne,hne2,hA,hAl,hAp.1,hAp.2,hes,hA2,hA2p,hA2f,hB,hBp.1,hBp.2,hBl,hD,hDp.1,hDp.2,hDl,hm5,hm5b];refine rr rfl ?_;simp only [go_sem,seval,bB,bA,bE,bF,hi1,hi2,h10,Nat.le_refl,hp,hf,hpD,RowOk.frzRows ok,RowOk.all ok,RowOk.allPlain ok,RowOk.allD ok,al,RX_cap,bM,altX,roomS,roomC,cutC,copyX,aX,aj,extOf,Ext.all,peekX,aI,Option.map_some,hw1,hw2,hw3,hw1b,hw3b,Nat.min_self,Nat.zero_le,Nat.sub_zero,deepV,bne_self_eq_false,List.isEmpty_nil,decide_not,List.length_replicate,hlt0,hm1,hm2,hm3,hm4,aE,aC,Nat.not_succ_le_self,hc1,hk1,hk,hk2,hk3,e2,e3,hi3,hi4,hne,hne2,hA,hAl,hAp.1,hAp.2,hes,hA2,hA2p,hA2f,hB,hBp.1,hBp.2,hBl,hD,hDp.1,hDp.2,hDl,hm5,hm5b];repeat' ((with_reducible refine eB ?_ ?_); kernel_rfl)
   simp only [go_sem,seval,bB,bA,bE,bF,hi1,hi2,h10,Nat.le_refl,hp,hf,hpD,RowOk.frzRows ok,RowOk.all ok,RowOk.allPlain ok,RowOk.allD ok,al,RX_cap,bM,altX,roomS,roomC,cutC,copyX,aX,aj,extOf,Ext.all,peekX,aI,Option.map_some,hw1,hw2,hw3,hw1b,hw3b,Nat.min_self,Nat.zero_le,Nat.sub_zero,deepV,bne_self_eq_false,List.isEmpty_nil,decide_not,List.length_replicate,hlt0,hm1,hm2,hm3,hm4,aE,aC,Nat.not_succ_le_self,eY,fp,hDp.1,hDp.2,hD,hDl];refine jA ok ?_;rw [hr,<-hDe,<-hDl,List.take_length]
theorem pW (N:Nat) (a0:List Int) (a1:Int) (a2:List Int) (r:List Int) (h:dV N a0 a1 a2=some r) :
  Con Try.prog 32 [true,false,true] false [.sl true none 1 none (a0.map (rowI .i64)),.val (.int .i64 a1),.sl true none 1 none (a2.map (rowI .i64))] (.sl true none 1 none (r.map (rowI .i64))):=by
 unfold dV at h;obtain ⟨n,x,rfl,rfl,h1,h2,h3⟩:=lS h;exact qI fun k hk1 hk2=>pE (rowI .i64) (ef .i64) a0 n x k r (Option.some.inj h3).symm h1 h2 (by simpa using hk1) hk2
def dc (N:Nat):FnS:={ own:=[true,false,true],pure:=false,fn:=fun cs=>match cs with
 | [c0,c1,c2]=>(decO 1 (dec1 (decI .i64)) c0).bind fun q0=>(decI .i64 c1).bind fun q1=>(decO 1 (dec1 (decI .i64)) c2).bind fun q2=>(dV N q0 q1 q2).map fun r=>.sl true none 1 none (r.map (rowI .i64))
 | _=>none }
theorem mh (N:Nat):(dc N).own=[true,false,true]:=rfl
theorem lX (N:Nat):(dc N).pure=false:=rfl
theorem lY (N:Nat):(dc N).peek=false:=rfl
attribute [go_sem] dc mh lX lY
theorem mP (N:Nat):FSOk Try.prog 32 (dc N):=by
 refine ⟨fun cs r h=>?_,fun h=>by cases h⟩;simp only [dc] at h;split at h
 ·simp only [Option.bind_eq_some_iff,Option.map_eq_some_iff] at h;obtain ⟨q0,h0,q1,h1,q2,h2,r',hr,rfl⟩:=h;exact (pW N q0 q1 q2 r' hr).argsO rfl (fW (iZ (ef .i64) (bZ .i64) h0) (kY (ag h1) (fW (iZ (ef .i64) (bZ .i64) h2) j5)))
 ·cases h


noncomputable def qp (N d f:Nat):Option FnS:=glist [(14,22,gf N),(18,26,gJ N),(23,27,im N),(29,20,de N),(38,28,iV N),(68,29,ib N),(76,30,bO N),(84,31,fM N),(97,32,dc N)] d f
attribute [go_sem] qp
theorem qt (N:Nat) (a0:(List Client)) (a1:ByteArray) (a2:Int) (r:(List Client) × Int) (h:dJ N a0 a1 a2=some r):Con Try.prog 10 [] false [.sl false none 4 none (a0.map Client.row),.val (.string a1),.val (.int .i64 a2)] (.tup [.sl true none 4 none (r.1.map Client.row),.val (.int .i64 r.2)]):=by
 refine aO (G:=(qp N)) Try.func10 rfl (by decide) (by kernel_rfl) (gc 14 (iF N) (gc 18 (iT N) (gc 23 (jx N) (gc 29 (dh N) (gc 38 (j3 N) (gc 68 (jy N) (gc 76 (lQ N) (gc 84 (kM N) (gc 97 (mP N) gn))))))))) [] mix (Nat.le_of_ble_eq_true rfl) ?_;simp only [Try.f10];unfold dJ at h;refine Ws fun Z hZ=>?_;simp (config := { maxSteps := 4000000 }) only [go_sem,seval];refine hZ _ (pp (Wk_seq ?_));apply dE (fun (c9:Bool)=>⟨tab 101 (updT (updT (updT (updT deadT 0 (.sl false none 4 none (a0.map Client.row))) 1 (.val (.string a1))) 2 (.val (.int .i64 a2))) 25 (.val (.bool c9))),RZ⟩)
 ·intro hJ1;obtain ⟨r10,hr2,h⟩:=Option.bind_eq_some_iff.1 h;refine aa fun Z hZ=>?_;simp (config := { maxSteps := 4000000 }) only [go_sem,seval,hr2];refine da rfl (fun hc3=>?_) (fun hc3=>?_)
  ·first|rw [if_neg (ne_true_of_eq_false hc3)] at h|simp only [hc3,Bool.or_false,Bool.or_true,Bool.false_or,Bool.true_or,Bool.and_true,Bool.true_and,Bool.and_false,Bool.false_and,Bool.not_true,Bool.not_false,Bool.false_eq_true,if_true,if_false] at h
   simp (config := { maxSteps := 4000000 }) only [go_sem,seval,hc3];refine hZ _ (pp (hJ1 _ true ?_ h));refine wr ?_ ?_<;>repeat' first|rfl|constructor|simp only [go_sem,seval,Bool.or_self,List.length_set,Int.natCast_zero,Int.cast_ofNat_Int,hr2,hc3]
  first|rw [if_pos hc3] at h|simp only [hc3,Bool.or_false,Bool.or_true,Bool.false_or,Bool.true_or,Bool.and_true,Bool.true_and,Bool.and_false,Bool.false_and,Bool.not_true,Bool.not_false,Bool.false_eq_true,if_true,if_false] at h
  obtain ⟨r11,hr4,h⟩:=Option.bind_eq_some_iff.1 h;simp (config := { maxSteps := 4000000 }) only [go_sem,seval,hc3,hr4];refine da rfl (fun hc5=>?_) (fun hc5=>?_)
  ·first|rw [if_neg (ne_true_of_eq_false hc5)] at h|simp only [hc5,hc3,Bool.or_false,Bool.or_true,Bool.false_or,Bool.true_or,Bool.and_true,Bool.true_and,Bool.and_false,Bool.false_and,Bool.not_true,Bool.not_false,Bool.false_eq_true,if_true,if_false] at h
   simp (config := { maxSteps := 4000000 }) only [go_sem,seval,hc5];refine hZ _ (pp (hJ1 _ true ?_ h));refine wr ?_ ?_<;>repeat' first|rfl|constructor|simp only [go_sem,seval,Bool.or_self,List.length_set,Int.natCast_zero,Int.cast_ofNat_Int,hr2,hc3,hr4,hc5]
  first|rw [if_pos hc5] at h|simp only [hc5,hc3,Bool.or_false,Bool.or_true,Bool.false_or,Bool.true_or,Bool.and_true,Bool.true_and,Bool.and_false,Bool.false_and,Bool.not_true,Bool.not_false,Bool.false_eq_true,if_true,if_false] at h
  obtain ⟨r12,hr6,h⟩:=Option.bind_eq_some_iff.1 h;simp (config := { maxSteps := 4000000 }) only [go_sem,seval,hc5,hr6];refine hZ _ (pp (hJ1 _ (!r12) ?_ h));refine wr ?_ ?_<;>repeat' first|rfl|constructor|simp only [go_sem,seval,Bool.or_self,List.length_set,Int.natCast_zero,Int.cast_ofNat_Int,hr2,hc3,hr4,hc5,hr6]
 intro c9 h;unfold fL at h;refine aN rfl (fun hc7=>?_) (fun hc7=>?_)
 ·first|rw [if_pos hc7] at h|simp only [hc7,Bool.or_false,Bool.or_true,Bool.false_or,Bool.true_or,Bool.and_true,Bool.true_and,Bool.and_false,Bool.false_and,Bool.not_true,Bool.not_false,Bool.false_eq_true,if_true,if_false] at h
  refine Ws fun Z hZ=>?_;simp (config := { maxSteps := 4000000 }) only [go_sem,seval,hc7];refine hZ _ (pp (Wk_ret (pp ?_)));cases h;simp (config := { maxSteps := 4000000 }) only [go_sem,seval];exact ⟨_,rfl,(by repeat' (first|exact ROk.refl _|exact ROk.nil _|((refine ROk.of _ ?_ ?_); (focus ((repeat' (first|exact Le.refl _|exact LeL.nil|exact Le.nils|exact LeLL.refl _|refine LeLL.mapAppend ?_ ?_|refine LeLL.cons ?_ ?_|refine Le.sl ?_|refine Le.tup ?_|refine Le.agg ?_|refine LeL.cons ?_ ?_)); done)); (focus ((repeat' (first|exact NoOwn.val _|exact NoOwn.sl _ _ _ _|refine NoOwn.tup ?_|refine NoOwn.agg ?_|exact jo|refine iR ?_ ?_)); done)))|((refine ROk.own ?_ ?_); (focus ((repeat' (first|exact Le.refl _|exact LeL.nil|exact Le.nils|exact LeLL.refl _|refine LeLL.mapAppend ?_ ?_|refine LeLL.cons ?_ ?_|refine Le.sl ?_|refine Le.tup ?_|refine Le.agg ?_|refine LeL.cons ?_ ?_)); done)); (focus ((first|exact RowOk.noOwn (ef .i64) _|exact RowOk.noOwn Answer.row_ok _|exact RowOk.noOwn Client.row_ok _|exact RowOk.noOwn fX _); done)))|refine ROk.agg rfl ?_|refine ROk.tup rfl ?_|exact kj|refine jw ?_ ?_))⟩
 first|rw [if_neg (ne_true_of_eq_false hc7)] at h|simp only [hc7,Bool.or_false,Bool.or_true,Bool.false_or,Bool.true_or,Bool.and_true,Bool.true_and,Bool.and_false,Bool.false_and,Bool.not_true,Bool.not_false,Bool.false_eq_true,if_true,if_false] at h
 refine ah (pp ?_);unfold iX at h;refine Wk_seq (Wk_seq ?_);obtain ⟨r16,hr8,h⟩:=Option.bind_eq_some_iff.1 h;refine aa fun Z hZ=>?_;simp (config := { maxSteps := 4000000 }) only [go_sem,seval,hc7,hr8];refine hZ _ (pp (aA (Ws fun Z hZ=>?_)));simp (config := { maxSteps := 4000000 }) only [go_sem,seval];refine hZ _ (pp (bG rfl (fun hc9=>?_) (fun hc9=>?_)))
 ·have hc9d:=decide_eq_true hc9;first|rw [if_pos hc9] at h|rw [if_pos hc9d] at h|simp only [hc9d,Bool.not_true,Bool.not_false,Bool.false_eq_true,if_true,if_false] at h
  refine Ws fun Z hZ=>?_;simp (config := { maxSteps := 4000000 }) only [go_sem,seval,hc9d];refine hZ _ (pp (Wk_ret (pp ?_)));cases h;simp (config := { maxSteps := 4000000 }) only [go_sem,seval];exact ⟨_,rfl,(by repeat' (first|exact ROk.refl _|exact ROk.nil _|((refine ROk.of _ ?_ ?_); (focus ((repeat' (first|exact Le.refl _|exact LeL.nil|exact Le.nils|exact LeLL.refl _|refine LeLL.mapAppend ?_ ?_|refine LeLL.cons ?_ ?_|refine Le.sl ?_|refine Le.tup ?_|refine Le.agg ?_|refine LeL.cons ?_ ?_)); done)); (focus ((repeat' (first|exact NoOwn.val _|exact NoOwn.sl _ _ _ _|refine NoOwn.tup ?_|refine NoOwn.agg ?_|exact jo|refine iR ?_ ?_)); done)))|((refine ROk.own ?_ ?_); (focus ((repeat' (first|exact Le.refl _|exact LeL.nil|exact Le.nils|exact LeLL.refl _|refine LeLL.mapAppend ?_ ?_|refine LeLL.cons ?_ ?_|refine Le.sl ?_|refine Le.tup ?_|refine Le.agg ?_|refine LeL.cons ?_ ?_)); done)); (focus ((first|exact RowOk.noOwn (ef .i64) _|exact RowOk.noOwn Answer.row_ok _|exact RowOk.noOwn Client.row_ok _|exact RowOk.noOwn fX _); done)))|refine ROk.agg rfl ?_|refine ROk.tup rfl ?_|exact kj|refine jw ?_ ?_))⟩
 have hc9d:=decide_eq_false hc9;first|rw [if_neg hc9] at h|rw [if_neg (ne_true_of_eq_false hc9d)] at h|simp only [hc9d,Bool.not_true,Bool.not_false,Bool.false_eq_true,if_true,if_false] at h
 apply dE (fun (c17:Bool)=>⟨tab 101 (updT (updT (updT (updT deadT 0 (.sl false none 4 none (a0.map Client.row))) 1 (.val (.string a1))) 2 (.val (.int .i64 a2))) 32 (.val (.bool c17))),RZ⟩)
 ·intro hJ10;refine Ws fun Z hZ=>?_;simp (config := { maxSteps := 4000000 }) only [go_sem,seval,hc9d];refine hZ _ (pp (bG rfl (fun hc11=>?_) (fun hc11=>?_)))
  ·have hc11d:=decide_eq_true hc11;first|rw [if_pos hc11] at h|rw [if_pos hc11d] at h|simp only [hc11d,Bool.not_true,Bool.not_false,Bool.false_eq_true,if_true,if_false] at h
   refine ah (pp (hJ10 _ true ?_ h));refine wr ?_ ?_<;>repeat' first|rfl|constructor|simp only [go_sem,seval,hc11d]
  have hc11d:=decide_eq_false hc11;first|rw [if_neg hc11] at h|rw [if_neg (ne_true_of_eq_false hc11d)] at h|simp only [hc11d,Bool.not_true,Bool.not_false,Bool.false_eq_true,if_true,if_false] at h
  refine aa fun Z hZ=>?_;simp (config := { maxSteps := 4000000 }) only [go_sem,seval,hc11d];refine hZ _ (pp (hJ10 _ (decide (r16=2)) ?_ h));refine wr ?_ ?_<;>repeat' first|rfl|constructor|simp only [go_sem,seval,Bool.or_self,List.length_set,Int.natCast_zero,Int.cast_ofNat_Int,hc7,hr8,hc9d,hc11d]
 intro c17 h;unfold gH at h;refine aN rfl (fun hc12=>?_) (fun hc12=>?_)
 ·first|rw [if_pos hc12] at h|simp only [hc12,hc7,Bool.or_false,Bool.or_true,Bool.false_or,Bool.true_or,Bool.and_true,Bool.true_and,Bool.and_false,Bool.false_and,Bool.not_true,Bool.not_false,Bool.false_eq_true,if_true,if_false] at h
  refine Ws fun Z hZ=>?_;simp (config := { maxSteps := 4000000 }) only [go_sem,seval,hc12];refine hZ _ (pp (Wk_ret (pp ?_)));cases h;simp (config := { maxSteps := 4000000 }) only [go_sem,seval];exact ⟨_,rfl,(by repeat' (first|exact ROk.refl _|exact ROk.nil _|((refine ROk.of _ ?_ ?_); (focus ((repeat' (first|exact Le.refl _|exact LeL.nil|exact Le.nils|exact LeLL.refl _|refine LeLL.mapAppend ?_ ?_|refine LeLL.cons ?_ ?_|refine Le.sl ?_|refine Le.tup ?_|refine Le.agg ?_|refine LeL.cons ?_ ?_)); done)); (focus ((repeat' (first|exact NoOwn.val _|exact NoOwn.sl _ _ _ _|refine NoOwn.tup ?_|refine NoOwn.agg ?_|exact jo|refine iR ?_ ?_)); done)))|((refine ROk.own ?_ ?_); (focus ((repeat' (first|exact Le.refl _|exact LeL.nil|exact Le.nils|exact LeLL.refl _|refine LeLL.mapAppend ?_ ?_|refine LeLL.cons ?_ ?_|refine Le.sl ?_|refine Le.tup ?_|refine Le.agg ?_|refine LeL.cons ?_ ?_)); done)); (focus ((first|exact RowOk.noOwn (ef .i64) _|exact RowOk.noOwn Answer.row_ok _|exact RowOk.noOwn Client.row_ok _|exact RowOk.noOwn fX _); done)))|refine ROk.agg rfl ?_|refine ROk.tup rfl ?_|exact kj|refine jw ?_ ?_))⟩
 first|rw [if_neg (ne_true_of_eq_false hc12)] at h|simp only [hc12,hc7,Bool.or_false,Bool.or_true,Bool.false_or,Bool.true_or,Bool.and_true,Bool.true_and,Bool.and_false,Bool.false_and,Bool.not_true,Bool.not_false,Bool.false_eq_true,if_true,if_false] at h
 refine ah (pp ?_);unfold jZ at h;refine Wk_seq ?_;obtain ⟨r18,hr13,h⟩:=Option.bind_eq_some_iff.1 h;refine aa fun Z hZ=>?_;simp (config := { maxSteps := 4000000 }) only [go_sem,seval,hc12,hr13];refine hZ _ (pp (Wk_seq ?_));apply zV (fun (c24:Bool) (c25:Bool)=>⟨tab 101 (updT (updT (updT (updT (updT (updT deadT 0 (.sl false none 4 none (a0.map Client.row))) 1 (.val (.string a1))) 2 (.val (.int .i64 a2))) 8 (.val (.int .i64 r18.1))) 9 (.val (.bool c24))) 66 (.val (.bool c25))),RZ⟩)
 ·intro hJ14;refine gY fun Z hZ=>?_;simp (config := { maxSteps := 4000000 }) only [go_sem,seval];repeat with_reducible refine eB (by kernel_rfl) ?_
  refine sw (eV rfl) (fun hc15=>?_) (fun hc15=>?_)
  ·first|rw [if_neg (ne_true_of_eq_false hc15)] at h|simp only [hc15,hc7,hc12,Bool.or_false,Bool.or_true,Bool.false_or,Bool.true_or,Bool.and_true,Bool.true_and,Bool.and_false,Bool.false_and,Bool.not_true,Bool.not_false,Bool.false_eq_true,if_true,if_false] at h
   simp (config := { maxSteps := 4000000 }) only [go_sem,seval,hc15];repeat with_reducible refine eB (by kernel_rfl) ?_
   refine hZ _ (by kernel_rfl) (pp (hJ14 _ false (decide (((a0.length:Nat):Int)=32)) ?_ h));refine wr ?_ ?_<;>repeat' first|rfl|constructor|simp only [go_sem,seval,Bool.or_self,List.length_set,Int.natCast_zero,Int.cast_ofNat_Int,hc7,hr8,hc9d,hc12,hr13,hc15]
  first|rw [if_pos hc15] at h|simp only [hc15,hc7,hc12,Bool.or_false,Bool.or_true,Bool.false_or,Bool.true_or,Bool.and_true,Bool.true_and,Bool.and_false,Bool.false_and,Bool.not_true,Bool.not_false,Bool.false_eq_true,if_true,if_false] at h
  obtain ⟨x26,hb16,hx17,h⟩:=dQ h;simp (config := { maxSteps := 4000000 }) only [go_sem,seval,hc15,hb16,hx17];repeat with_reducible refine eB (by kernel_rfl) ?_
  refine ai rfl (fun hc18=>?_) (fun hc18=>?_)
  ·have hc18d:=decide_eq_true hc18;first|rw [if_pos hc18] at h|rw [if_pos hc18d] at h|simp only [hc18d,Bool.not_true,Bool.not_false,Bool.false_eq_true,if_true,if_false] at h
   simp (config := { maxSteps := 4000000 }) only [go_sem,seval,hc18d];repeat with_reducible refine eB (by kernel_rfl) ?_
   refine hZ _ (by kernel_rfl) (pp (hJ14 _ true true ?_ h));refine wr ?_ ?_<;>repeat' first|rfl|constructor|simp only [go_sem,seval,Bool.or_self,List.length_set,Int.natCast_zero,Int.cast_ofNat_Int,hc7,hr8,hc9d,hc12,hr13,hc15,hb16,hx17,hc18d]
  have hc18d:=decide_eq_false hc18;first|rw [if_neg hc18] at h|rw [if_neg (ne_true_of_eq_false hc18d)] at h|simp only [hc18d,Bool.not_true,Bool.not_false,Bool.false_eq_true,if_true,if_false] at h
  simp (config := { maxSteps := 4000000 }) only [go_sem,seval,hc18d];repeat with_reducible refine eB (by kernel_rfl) ?_
  refine hZ _ (by kernel_rfl) (pp (hJ14 _ true false ?_ h));refine wr ?_ ?_<;>repeat' first|rfl|constructor|simp only [go_sem,seval,Bool.or_self,List.length_set,Int.natCast_zero,Int.cast_ofNat_Int,hc7,hr8,hc9d,hc12,hr13,hc15,hb16,hx17,hc18d]
 intro c24 c25 h;unfold gI at h;refine aN rfl (fun hc19=>?_) (fun hc19=>?_)
 ·first|rw [if_pos hc19] at h|simp only [hc19,hc7,hc12,Bool.or_false,Bool.or_true,Bool.false_or,Bool.true_or,Bool.and_true,Bool.true_and,Bool.and_false,Bool.false_and,Bool.not_true,Bool.not_false,Bool.false_eq_true,if_true,if_false] at h
  refine Ws fun Z hZ=>?_;simp (config := { maxSteps := 4000000 }) only [go_sem,seval,hc19];refine hZ _ (pp (Wk_ret (pp ?_)));cases h;simp (config := { maxSteps := 4000000 }) only [go_sem,seval];exact ⟨_,rfl,(by repeat' (first|exact ROk.refl _|exact ROk.nil _|((refine ROk.of _ ?_ ?_); (focus ((repeat' (first|exact Le.refl _|exact LeL.nil|exact Le.nils|exact LeLL.refl _|refine LeLL.mapAppend ?_ ?_|refine LeLL.cons ?_ ?_|refine Le.sl ?_|refine Le.tup ?_|refine Le.agg ?_|refine LeL.cons ?_ ?_)); done)); (focus ((repeat' (first|exact NoOwn.val _|exact NoOwn.sl _ _ _ _|refine NoOwn.tup ?_|refine NoOwn.agg ?_|exact jo|refine iR ?_ ?_)); done)))|((refine ROk.own ?_ ?_); (focus ((repeat' (first|exact Le.refl _|exact LeL.nil|exact Le.nils|exact LeLL.refl _|refine LeLL.mapAppend ?_ ?_|refine LeLL.cons ?_ ?_|refine Le.sl ?_|refine Le.tup ?_|refine Le.agg ?_|refine LeL.cons ?_ ?_)); done)); (focus ((first|exact RowOk.noOwn (ef .i64) _|exact RowOk.noOwn Answer.row_ok _|exact RowOk.noOwn Client.row_ok _|exact RowOk.noOwn fX _); done)))|refine ROk.agg rfl ?_|refine ROk.tup rfl ?_|exact kj|refine jw ?_ ?_))⟩
 first|rw [if_neg (ne_true_of_eq_false hc19)] at h|simp only [hc19,hc7,hc12,Bool.or_false,Bool.or_true,Bool.false_or,Bool.true_or,Bool.and_true,Bool.true_and,Bool.and_false,Bool.false_and,Bool.not_true,Bool.not_false,Bool.false_eq_true,if_true,if_false] at h
 refine ah (pp ?_);unfold gG at h;refine Wk_seq ?_;obtain ⟨r27,hr20,h⟩:=Option.bind_eq_some_iff.1 h;refine aa fun Z hZ=>?_;simp (config := { maxSteps := 4000000 }) only [go_sem,seval,hc19,hr20];refine hZ _ (pp (Wk_seq (Ws fun Z hZ=>?_)));simp (config := { maxSteps := 4000000 }) only [go_sem,seval];refine hZ _ (pp (sw (eW rfl) (fun hc21=>?_) (fun hc21=>?_)))
 ·first|rw [if_pos hc21] at h|simp only [hc21,hc7,hc12,hc19,Bool.or_false,Bool.or_true,Bool.false_or,Bool.true_or,Bool.and_true,Bool.true_and,Bool.and_false,Bool.false_and,Bool.not_true,Bool.not_false,Bool.false_eq_true,if_true,if_false] at h
  refine ah (pp (Wk_seq ?_));obtain ⟨x32,hb28,hx29,h⟩:=dQ h;obtain ⟨r33,hr30,h⟩:=Option.bind_eq_some_iff.1 h;refine aa fun Z hZ=>?_;simp (config := { maxSteps := 4000000 }) only [go_sem,seval,hc21,hb28,hx29,hr30];refine hZ _ (pp (Wk_seq ?_));obtain ⟨r34,hr31,h⟩:=Option.bind_eq_some_iff.1 h;refine aa fun Z hZ=>?_;simp (config := { maxSteps := 4000000 }) only [go_sem,seval,hb28,hx29,sN (row:=Client.rowD) (rx:=[.val (.string x32.Name),.val (.int .i64 x32.Low),.sl true none 1 none (x32.Open.map (rowI .i64)),.sl true none 10 none (x32.Done.map Answer.row)]) hx29 rfl rfl,en (row:=Client.rowD) _ hx29,gg (row:=Client.rowD) hx29 rfl,hr31];refine hZ _ (pp (Ws fun Z hZ=>?_));simp (config := { maxSteps := 4000000 }) only [go_sem,seval];refine hZ _ (pp (gE (ph (n:=68) (Client.mk x32.Name x32.Low r34 x32.Done) (by simp only [go_sem,seval]; rfl) rfl rfl) (gE (ma (row:=Client.row) (n:=68) (by simp only [go_sem,seval]; rfl) (by simp only [oh,ml,go_sem,seval]; rfl)) (Wk_ret (pp ?_)))));cases h;simp (config := { maxSteps := 4000000 }) only [go_sem,seval];exact ⟨_,rfl,(by repeat' (first|exact ROk.refl _|exact ROk.nil _|((refine ROk.of _ ?_ ?_); (focus ((repeat' (first|exact Le.refl _|exact LeL.nil|exact Le.nils|exact LeLL.refl _|refine LeLL.mapAppend ?_ ?_|refine LeLL.cons ?_ ?_|refine Le.sl ?_|refine Le.tup ?_|refine Le.agg ?_|refine LeL.cons ?_ ?_)); done)); (focus ((repeat' (first|exact NoOwn.val _|exact NoOwn.sl _ _ _ _|refine NoOwn.tup ?_|refine NoOwn.agg ?_|exact jo|refine iR ?_ ?_)); done)))|((refine ROk.own ?_ ?_); (focus ((repeat' (first|exact Le.refl _|exact LeL.nil|exact Le.nils|exact LeLL.refl _|refine LeLL.mapAppend ?_ ?_|refine LeLL.cons ?_ ?_|refine Le.sl ?_|refine Le.tup ?_|refine Le.agg ?_|refine LeL.cons ?_ ?_)); done)); (focus ((first|exact RowOk.noOwn (ef .i64) _|exact RowOk.noOwn Answer.row_ok _|exact RowOk.noOwn Client.row_ok _|exact RowOk.noOwn fX _); done)))|refine ROk.agg rfl ?_|refine ROk.tup rfl ?_|exact kj|refine jw ?_ ?_))⟩
 first|rw [if_neg (ne_true_of_eq_false hc21)] at h|simp only [hc21,hc7,hc12,hc19,Bool.or_false,Bool.or_true,Bool.false_or,Bool.true_or,Bool.and_true,Bool.true_and,Bool.and_false,Bool.false_and,Bool.not_true,Bool.not_false,Bool.false_eq_true,if_true,if_false] at h
 refine gE (ma (row:=Client.row) (n:=68) (by simp only [go_sem,seval]; rfl) (by simp only [oh,ml,go_sem,seval]; rfl)) ?_;obtain ⟨r28,hr22,h⟩:=Option.bind_eq_some_iff.1 h;have hx23:=lg hr22;refine aa fun Z hZ=>?_;simp (config := { maxSteps := 4000000 }) only [go_sem,seval,hc21,hr22];refine hZ _ (pp (gE (sR 76 [((r18.1).toNat,2)] 1 (by simp only [go_sem,seval,en (row:=Client.row) _ hx23]) (by simp only [go_sem,seval,gg (row:=Client.row) hx23 rfl]; try rfl)) (gE (sR 76 [((r18.1).toNat,3)] 10 (by simp only [go_sem,seval,en (row:=Client.row) _ hx23]) (by simp only [go_sem,seval,gg (row:=Client.row) hx23 rfl]; try rfl)) (Wk_seq ?_))));obtain ⟨x29,hb24,hx25,h⟩:=dQ h;obtain rfl:=uT hx23 hx25;obtain ⟨r30,hr26,h⟩:=Option.bind_eq_some_iff.1 h;refine aa fun Z hZ=>?_;simp (config := { maxSteps := 4000000 }) only [go_sem,seval,en (row:=Client.row) _ hx23,hb24,hr26];refine hZ _ (pp (Wk_seq ?_));obtain ⟨r31,hr27,h⟩:=Option.bind_eq_some_iff.1 h;refine aa fun Z hZ=>?_;simp (config := { maxSteps := 4000000 }) only [go_sem,seval,en (row:=Client.row) _ hx23,gg (row:=Client.row) hx23 rfl,hb24,hr27];refine hZ _ (pp (Ws fun Z hZ=>?_));simp (config := { maxSteps := 4000000 }) only [go_sem,seval];refine hZ _ (pp (gE (yP (n:=76) (Client.mk a1 0 r31 []) [.val (.string a1),.val (.int .i64 0),.sl false none 1 none (r31.map (rowI .i64)),.sl false none 10 none []] (by simp only [go_sem,seval]; rfl) rfl) (Wk_ret (pp ?_))));cases h;simp (config := { maxSteps := 4000000 }) only [go_sem,seval];exact ⟨_,rfl,(by repeat' (first|exact ROk.refl _|exact ROk.nil _|((refine ROk.of _ ?_ ?_); (focus ((repeat' (first|exact Le.refl _|exact LeL.nil|exact Le.nils|exact LeLL.refl _|refine LeLL.mapAppend ?_ ?_|refine LeLL.cons ?_ ?_|refine Le.sl ?_|refine Le.tup ?_|refine Le.agg ?_|refine LeL.cons ?_ ?_)); done)); (focus ((repeat' (first|exact NoOwn.val _|exact NoOwn.sl _ _ _ _|refine NoOwn.tup ?_|refine NoOwn.agg ?_|exact jo|refine iR ?_ ?_)); done)))|((refine ROk.own ?_ ?_); (focus ((repeat' (first|exact Le.refl _|exact LeL.nil|exact Le.nils|exact LeLL.refl _|refine LeLL.mapAppend ?_ ?_|refine LeLL.cons ?_ ?_|refine Le.sl ?_|refine Le.tup ?_|refine Le.agg ?_|refine LeL.cons ?_ ?_)); done)); (focus ((first|exact RowOk.noOwn (ef .i64) _|exact RowOk.noOwn Answer.row_ok _|exact RowOk.noOwn Client.row_ok _|exact RowOk.noOwn fX _); done)))|refine ROk.agg rfl ?_|refine ROk.tup rfl ?_|exact kj|refine jw ?_ ?_))⟩
def eU (N:Nat):FnS:=⟨[],false,fn3 (decL 4 Client.dec) decS (decI .i64) fun q0 q1 q2=>(dJ N q0 q1 q2).map fun r=>.tup [.sl false none 4 none (r.1.map Client.row),.val (.int .i64 r.2)],false⟩
attribute [go_sem] eU
theorem fi (N:Nat):FSOk Try.prog 10 (eU N):=ok3 (fun q0 q1 q2 r h=>by
 obtain ⟨r',hr,rfl⟩:=Option.map_eq_some_iff.1 h;exact (qt N q0 q1 q2 r' hr).res (by first|((try simp only [go_sem]); exact RokI.h)|(repeat' (first|exact ROk.refl _|exact ROk.nil _|((refine ROk.of _ ?_ ?_); (focus ((repeat' (first|exact Le.refl _|exact LeL.nil|exact Le.nils|exact LeLL.refl _|refine LeLL.mapAppend ?_ ?_|refine LeLL.cons ?_ ?_|refine Le.sl ?_|refine Le.tup ?_|refine Le.agg ?_|refine LeL.cons ?_ ?_)); done)); (focus ((repeat' (first|exact NoOwn.val _|exact NoOwn.sl _ _ _ _|refine NoOwn.tup ?_|refine NoOwn.agg ?_|exact jo|refine iR ?_ ?_)); done)))|((refine ROk.own ?_ ?_); (focus ((repeat' (first|exact Le.refl _|exact LeL.nil|exact Le.nils|exact LeLL.refl _|refine LeLL.mapAppend ?_ ?_|refine LeLL.cons ?_ ?_|refine Le.sl ?_|refine Le.tup ?_|refine Le.agg ?_|refine LeL.cons ?_ ?_)); done)); (focus ((first|exact RowOk.noOwn (ef .i64) _|exact RowOk.noOwn Answer.row_ok _|exact RowOk.noOwn Client.row_ok _|exact RowOk.noOwn fX _); done)))|refine ROk.agg rfl ?_|refine ROk.tup rfl ?_|exact kj|refine jw ?_ ?_)))) (fun h=>aB Client.dec_le h) (bn) (ag)

def o5 (N:Nat):FnS:=⟨[],false,fn3 (decL 4 Client.dec) decS (decI .i64) fun q0 q1 q2=>(dJ N q0 q1 q2).map fun r=>.tup [.sl true none 4 none (r.1.map Client.row),.val (.int .i64 r.2)],false⟩
attribute [go_sem] o5
theorem yZ (N:Nat):FSOk Try.prog 10 (o5 N):=ok3 (fun q0 q1 q2 r h=>by
 obtain ⟨r',hr,rfl⟩:=Option.map_eq_some_iff.1 h;exact qt N q0 q1 q2 r' hr) (fun h=>aB Client.dec_le h) (bn) (ag)


theorem rA (N:Nat) (a0:Int) (c0_0:ByteArray) (c0_1:Int) (c0_2:(List Int)) (c0_3:Int) (c0_4:Int) (c0_5:Int) (c0_6:ByteArray) (c0_7:(List Int)) (c0_8:(List ByteArray)) (r:Bool) (h:ff N a0 c0_0 c0_1 c0_2 c0_3 c0_4 c0_5 c0_6 c0_7 c0_8=some r):Con Try.prog 38 [] true [.val (.int .i64 a0),.iref 9 [[.val (.string c0_0),.val (.int .i64 c0_1),.sl false none 1 none (c0_2.map (rowI .i64)),.val (.int .i64 c0_3),.val (.int .i64 c0_4),.val (.int .i64 c0_5),.val (.string c0_6),.sl false none 1 none (c0_7.map (rowI .i64)),.sl false none 1 none (c0_8.map rowS)]] 0 0] (.val (.bool r)):=by
 refine aO (G:=(glist [])) Try.func38 rfl (by decide) (by kernel_rfl) gn [] mix (Nat.le_of_ble_eq_true rfl) ?_;simp only [Try.f38];unfold ff at h;refine Ws fun Z hZ=>?_;simp only [go_sem,seval];refine hZ _ (pp (Ws fun Z hZ=>?_));simp only [go_sem,seval];refine hZ _ (pp (Wk_ret (pp ?_)));cases h;simp only [go_sem,seval];exact ⟨_,rfl,RokI.h,PureI.h⟩
def fN (N:Nat):FnS:={ own:=[],pure:=true,fn:=fun cs=>match cs with
 | [c0,.iref 9 [[c1_0,c1_1,c1_2,c1_3,c1_4,c1_5,c1_6,c1_7,c1_8]] 0 0]=>((decI .i64) c0).bind fun qc0=>(decS c1_0).bind fun qc1_0=>((decI .i64) c1_1).bind fun qc1_1=>((decL 1 (dec1 (decI .i64))) c1_2).bind fun qc1_2=>((decI .i64) c1_3).bind fun qc1_3=>((decI .i64) c1_4).bind fun qc1_4=>((decI .i64) c1_5).bind fun qc1_5=>(decS c1_6).bind fun qc1_6=>((decL 1 (dec1 (decI .i64))) c1_7).bind fun qc1_7=>((decL 1 (dec1 decS)) c1_8).bind fun qc1_8=>(ff N qc0 qc1_0 qc1_1 qc1_2 qc1_3 qc1_4 qc1_5 qc1_6 qc1_7 qc1_8).map fun r=>.val (.bool r)
 | _=>none }
attribute [go_sem] fN
theorem kz (N:Nat):FSOk Try.prog 38 (fN N):=by
 refine ⟨fun cs r h=>?_,fun h=>by cases h⟩;simp only [fN] at h;split at h
 ·simp only [Option.bind_eq_some_iff,Option.map_eq_some_iff] at h;obtain ⟨q0,h0,q1,h1,q2,h2,q3,h3,q4,h4,q5,h5,q6,h6,q7,h7,q8,h8,q9,h9,r',hr,rfl⟩:=h;exact ((rA N q0 q1 q2 q3 q4 q5 q6 q7 q8 q9 r' hr).args (LeL.cons (ag h0) (LeL.cons (Le.iref1 (LeL.cons (bn h1) (LeL.cons (ag h2) (LeL.cons (aB (bZ .i64) h3) (LeL.cons (ag h4) (LeL.cons (ag h5) (LeL.cons (ag h6) (LeL.cons (bn h7) (LeL.cons (aB (bZ .i64) h8) (LeL.cons (aB js h9) (LeL.nil))))))))))) (LeL.nil))))
 ·cases h


noncomputable def fj (N d f:Nat):Option FnS:=glist [(16,38,fN N)] d f
attribute [go_sem] fj
theorem jn (N:Nat) (a0:(List Int)) (k1_0_0:ByteArray) (k1_0_1:Int) (k1_0_2:(List Int)) (k1_0_3:Int) (k1_0_4:Int) (k1_0_5:Int) (k1_0_6:ByteArray) (k1_0_7:(List Int)) (k1_0_8:(List ByteArray)) (r:Int) (h:bD N a0 k1_0_0 k1_0_1 k1_0_2 k1_0_3 k1_0_4 k1_0_5 k1_0_6 k1_0_7 k1_0_8=some r):Con Try.prog 64 [] true [.sl false none 1 none (a0.map (rowI .i64)),.clo 38 [.iref 9 [[.val (.string k1_0_0),.val (.int .i64 k1_0_1),.sl false none 1 none (k1_0_2.map (rowI .i64)),.val (.int .i64 k1_0_3),.val (.int .i64 k1_0_4),.val (.int .i64 k1_0_5),.val (.string k1_0_6),.sl false none 1 none (k1_0_7.map (rowI .i64)),.sl false none 1 none (k1_0_8.map rowS)]] 0 0]] (.val (.int .i64 r)):=by
 refine aO (G:=(fj N)) Try.func64 rfl (by decide) (by kernel_rfl) (gc 16 (kz N) gn) [] mix (Nat.le_of_ble_eq_true rfl) ?_;simp only [Try.f64];unfold bD at h;refine Ws fun Z hZ=>?_;simp only [go_sem,seval];refine hZ _ (pp (Wk_seq (Ws fun Z hZ=>?_)));simp only [go_sem,seval];refine hZ _ (pp (aA (fY fun hreal2=>?_)));have hl1:=hreal2.lenT 0 (by decide) (by simp only [go_sem,seval]; rfl);first|rw [List.length_map] at hl1|rw [ee] at hl1|rw [<-List.map_append,List.length_map] at hl1
 refine gh (fun (v2:Nat) (b:Unit)=>⟨tab 19 (updT (updT (updT (updT deadT 0 (.sl false none 1 none (a0.map (rowI .i64)))) 1 (.clo 38 [.iref 9 [[.val (.string k1_0_0),.val (.int .i64 k1_0_1),.sl false none 1 none (k1_0_2.map (rowI .i64)),.val (.int .i64 k1_0_3),.val (.int .i64 k1_0_4),.val (.int .i64 k1_0_5),.val (.string k1_0_6),.sl false none 1 none (k1_0_7.map (rowI .i64)),.sl false none 1 none (k1_0_8.map rowS)]] 0 0])) 7 (.val (.int .i64 ((a0.length:Nat):Int)))) 8 (.val (.int .i64 ((v2:Nat):Int)))),RZ⟩) () h ?_ ?_
 ·refine wr ?_ ?_<;>repeat' first|rfl|constructor
 rintro v2 ⟨⟩ hi3 h -;rcases (eP a0 v2 hi3).symm with ⟨hi3',_,hd6⟩|⟨x5,hi3',hx4,hd6⟩
 ·rw [hd6] at h;simp only [aP] at h;refine Ws fun Z hZ=>?_;simp only [go_sem,seval,hi3'];refine hZ _ (pp (Wk_seq ?_));try simp only [Int.ofNat_lt,hi3',if_true,if_false] at h
  refine dg rfl (dj (pp (Ws fun Z hZ=>?_)));simp only [go_sem,seval];refine hZ _ (pp (Wk_ret (pp ?_)));cases h;simp only [go_sem,seval];exact ⟨_,rfl,RokI.h,PureI.h⟩
 rw [hd6] at h;simp only [aP] at h;have hw5:=eA hi3' hl1;refine Ws fun Z hZ=>?_;simp only [go_sem,seval,hi3'];refine hZ _ (pp (Wk_seq ?_));try simp only [Int.ofNat_lt,hi3',if_true,if_false] at h
 refine dC rfl (ah (pp (Wk_seq (aA (Ws fun Z hZ=>?_)))));simp only [go_sem,seval];refine hZ _ (pp (Wk_seq ?_));try rw [gx_nat hx4] at h
 obtain ⟨r1,hr7,h⟩:=Option.bind_eq_some_iff.1 h;refine aa fun Z hZ=>?_;simp only [go_sem,seval,hx4,hi3',hr7];refine hZ _ (pp (aN rfl (fun hc8=>?_) (fun hc8=>?_)))
 ·rw [if_pos hc8] at h;refine Ws fun Z hZ=>?_;simp only [go_sem,seval,hc8];refine hZ _ (pp (Wk_ret (pp ?_)));cases h;simp only [go_sem,seval];exact ⟨_,rfl,RokI.h,PureI.h⟩
 rw [if_neg (ne_true_of_eq_false hc8)] at h;refine ah (pp (aa fun Z hZ=>?_));simp only [go_sem,seval,hw5,hc8];refine hZ _ (pp ?_);first|refine ⟨(),?_,h⟩|refine ⟨hi3',(),?_,h⟩
 refine wr ?_ ?_<;>repeat' first|rfl|constructor
def bS (N:Nat):FnS:={ own:=[],pure:=true,fn:=fun cs=>match cs with
 | [c0,.clo 38 [.iref 9 [[k1_0_0,k1_0_1,k1_0_2,k1_0_3,k1_0_4,k1_0_5,k1_0_6,k1_0_7,k1_0_8]] 0 0]]=>((decL 1 (dec1 (decI .i64))) c0).bind fun qc0=>(decS k1_0_0).bind fun qk1_0_0=>((decI .i64) k1_0_1).bind fun qk1_0_1=>((decL 1 (dec1 (decI .i64))) k1_0_2).bind fun qk1_0_2=>((decI .i64) k1_0_3).bind fun qk1_0_3=>((decI .i64) k1_0_4).bind fun qk1_0_4=>((decI .i64) k1_0_5).bind fun qk1_0_5=>(decS k1_0_6).bind fun qk1_0_6=>((decL 1 (dec1 (decI .i64))) k1_0_7).bind fun qk1_0_7=>((decL 1 (dec1 decS)) k1_0_8).bind fun qk1_0_8=>(bD N qc0 qk1_0_0 qk1_0_1 qk1_0_2 qk1_0_3 qk1_0_4 qk1_0_5 qk1_0_6 qk1_0_7 qk1_0_8).map fun r=>.val (.int .i64 r)
 | _=>none }
attribute [go_sem] bS
theorem iO (N:Nat):FSOk Try.prog 64 (bS N):=by
 refine ⟨fun cs r h=>?_,fun h=>by cases h⟩;simp only [bS] at h;split at h
 ·simp only [Option.bind_eq_some_iff,Option.map_eq_some_iff] at h;obtain ⟨q0,h0,q1,h1,q2,h2,q3,h3,q4,h4,q5,h5,q6,h6,q7,h7,q8,h8,q9,h9,r',hr,rfl⟩:=h;exact ((jn N q0 q1 q2 q3 q4 q5 q6 q7 q8 q9 r' hr).args (LeL.cons (aB (bZ .i64) h0) (LeL.cons (Le.clo (LeL.cons (Le.iref1 (LeL.cons (bn h1) (LeL.cons (ag h2) (LeL.cons (aB (bZ .i64) h3) (LeL.cons (ag h4) (LeL.cons (ag h5) (LeL.cons (ag h6) (LeL.cons (bn h7) (LeL.cons (aB (bZ .i64) h8) (LeL.cons (aB js h9) (LeL.nil))))))))))) (LeL.nil))) (LeL.nil))))
 ·cases h


noncomputable def eX (N d f:Nat):Option FnS:=glist [(10,64,bS N),(28,38,fN N)] d f
attribute [go_sem] eX
theorem jd (N:Nat) (a0:(List Int)) (k1_0_0:ByteArray) (k1_0_1:Int) (k1_0_2:(List Int)) (k1_0_3:Int) (k1_0_4:Int) (k1_0_5:Int) (k1_0_6:ByteArray) (k1_0_7:(List Int)) (k1_0_8:(List ByteArray)) (r:(List Int)) (h:aU N a0 k1_0_0 k1_0_1 k1_0_2 k1_0_3 k1_0_4 k1_0_5 k1_0_6 k1_0_7 k1_0_8=some r):Con Try.prog 37 [true,false] true [.sl true none 1 none (a0.map (rowI .i64)),.clo 38 [.iref 9 [[.val (.string k1_0_0),.val (.int .i64 k1_0_1),.sl false none 1 none (k1_0_2.map (rowI .i64)),.val (.int .i64 k1_0_3),.val (.int .i64 k1_0_4),.val (.int .i64 k1_0_5),.val (.string k1_0_6),.sl false none 1 none (k1_0_7.map (rowI .i64)),.sl false none 1 none (k1_0_8.map rowS)]] 0 0]] (.sl true none 1 none (r.map (rowI .i64))):=by
 refine uz (G:=(eX N)) (L:=noL) Try.func37 rfl (by decide) (by kernel_rfl) (gc 10 (iO N) (gc 28 (kz N) gn)) (fun _ _ _ h=>by cases h) [] mix (Nat.le_of_ble_eq_true rfl) ?_;rw [show entryF [true,false] [.sl true none 1 none (a0.map (rowI .i64)),.clo 38 [.iref 9 [[.val (.string k1_0_0),.val (.int .i64 k1_0_1),.sl false none 1 none (k1_0_2.map (rowI .i64)),.val (.int .i64 k1_0_3),.val (.int .i64 k1_0_4),.val (.int .i64 k1_0_5),.val (.string k1_0_6),.sl false none 1 none (k1_0_7.map (rowI .i64)),.sl false none 1 none (k1_0_8.map rowS)]] 0 0]]=(updT (updT deadT 0 (.pal 0 [] 0 a0.length none)) 1 (.clo 38 [.iref 9 [[.val (.string k1_0_0),.val (.int .i64 k1_0_1),.sl false none 1 none (k1_0_2.map (rowI .i64)),.val (.int .i64 k1_0_3),.val (.int .i64 k1_0_4),.val (.int .i64 k1_0_5),.val (.string k1_0_6),.sl false none 1 none (k1_0_7.map (rowI .i64)),.sl false none 1 none (k1_0_8.map rowS)]] 0 0])) from by funext t; match t with|0=>simp [entryF,iu,viewD,updT]|1=>rfl|t+2=>rfl];rw [show R0 [true,false] [.sl true none 1 none (a0.map (rowI .i64)),.clo 38 [.iref 9 [[.val (.string k1_0_0),.val (.int .i64 k1_0_1),.sl false none 1 none (k1_0_2.map (rowI .i64)),.val (.int .i64 k1_0_3),.val (.int .i64 k1_0_4),.val (.int .i64 k1_0_5),.val (.string k1_0_6),.sl false none 1 none (k1_0_7.map (rowI .i64)),.sl false none 1 none (k1_0_8.map rowS)]] 0 0]]=upd RZ 0 (.sl true none 1 none (a0.map (rowI .i64))) from by funext t; match t with|0=>rfl|1=>rfl|t+2=>rfl];simp only [Try.f37];unfold aU at h;refine Ws fun Z hZ=>?_;simp only [go_sem,seval];refine hZ _ (pp (Wk_seq ?_));obtain ⟨r1,hr1,h⟩:=Option.bind_eq_some_iff.1 h;refine aa fun Z hZ=>?_;simp only [go_sem,seval,hr1];refine hZ _ (pp (Wk_seq (Ws fun Z hZ=>?_)));simp only [go_sem,seval];refine hZ _ (pp (bG rfl (fun hc2=>?_) (fun hc2=>?_)))
 ·have hc2d:=decide_eq_true hc2;rw [if_pos hc2] at h;refine Ws fun Z hZ=>?_;simp only [go_sem,seval,hc2d];refine hZ _ (pp (Wk_ret (pp ?_)));cases h;simp only [go_sem,seval,eY];exact ⟨_,rfl,RokI.h,KeepI.h,PureI.h⟩
 have hc2d:=decide_eq_false hc2;rw [if_neg hc2] at h;refine ah (pp (Wk_seq (Ws fun Z hZ=>?_)));simp only [go_sem,seval,hc2d];refine hZ _ (pp (aA (mw (fun (b:List Int × Int × Int)=>⟨tab 42 (updT (updT (updT (updT deadT 0 (.pal 0 [] 0 b.1.length none)) 1 (.clo 38 [.iref 9 [[.val (.string k1_0_0),.val (.int .i64 k1_0_1),.sl false none 1 none (k1_0_2.map (rowI .i64)),.val (.int .i64 k1_0_3),.val (.int .i64 k1_0_4),.val (.int .i64 k1_0_5),.val (.string k1_0_6),.sl false none 1 none (k1_0_7.map (rowI .i64)),.sl false none 1 none (k1_0_8.map rowS)]] 0 0])) 5 (.val (.int .i64 b.2.1))) 6 (.val (.int .i64 b.2.2))),(upd RZ 0 (.sl true none 1 none (b.1.map (rowI .i64))))⟩) (a0,r1,IntKind.i64.wrap (r1+1)) h ?_ ?_)))
 ·refine wr ?_ ?_<;>repeat' first|rfl|constructor|simp only [go_sem,seval,Bool.or_self,List.length_set,Int.natCast_zero,Int.cast_ofNat_Int,hr1,hc2d]
 rintro n ⟨l4,v5,v6⟩ h -;cases n with
 | zero=>simp [aH] at h
 | succ n=>
 simp only [aH] at h;refine Wk_seq (Ws fun Z hZ=>?_);simp only [go_sem,seval];refine hZ _ (pp (sw (bG rfl) (fun hc3=>?_) (fun hc3=>?_)))
 ·have hc3d:=decide_eq_false hc3;rw [if_neg hc3] at h;refine dj (pp ?_);unfold bm at h;refine Wk_seq ?_;obtain ⟨hs12,h⟩:=pw h;try simp only [Int.toNat_natCast] at hs12 h
  refine aa fun Z hZ=>?_;simp only [go_sem,seval,hc3d,hs12,Nat.zero_le,uN (row:=(rowI .i64)) (z:=0) (rz:=[.val (.int .i64 0)]) (k:=(v5).toNat) (l:=l4) (by have:=hs12; omega) rfl,altX,clearX,al,RowOk.allD (ef .i64)];refine hZ _ (pp (Wk_seq ?_));obtain ⟨hs13,h⟩:=pw h;try simp only [Int.toNat_zero] at hs13 h
  refine aa fun Z hZ=>?_;simp only [go_sem,seval,hs12,Nat.sub_zero,deepV,hs13];refine hZ _ (pp (Wk_ret (pp ?_)));cases h;simp only [go_sem,seval,eY];exact ⟨_,rfl,RokI.h,KeepI.h,PureI.h⟩
 have hc3d:=decide_eq_true hc3;rw [if_pos hc3] at h;refine ah (pp (Wk_seq (aA (Wk_seq ?_))));obtain ⟨x13,hb4,hx5,h⟩:=dQ h;refine aa fun Z hZ=>?_;simp only [go_sem,seval,hb4,hx5];refine hZ _ (pp (Wk_seq ?_));obtain ⟨r14,hr6,h⟩:=Option.bind_eq_some_iff.1 h;refine aa fun Z hZ=>?_;simp only [go_sem,seval,hr6];refine hZ _ (pp (sw (eW rfl) (fun hc7=>?_) (fun hc7=>?_)))
 ·rw [if_pos hc7] at h;refine ah (pp (aa fun Z hZ=>?_));simp only [go_sem,seval,hc7];refine hZ _ (pp (⟨_,Nat.lt_succ_self _,(l4,v5,IntKind.i64.wrap (v6+1)),?_,h⟩));refine wr ?_ ?_<;>repeat' first|rfl|constructor|simp only [go_sem,seval,Bool.or_self,List.length_set,Int.natCast_zero,Int.cast_ofNat_Int,hr1,hc2d,hc3d,hb4,hx5,hr6,hc7]
 rw [if_neg (ne_true_of_eq_false hc7)] at h;refine Wk_seq ?_;obtain ⟨x15,hb8,hx9,h⟩:=dQ h;have hx11:=sy (y:=x13) hx9;refine aa fun Z hZ=>?_;simp only [go_sem,seval,hc7,hb8,hx9,lD (row:=(rowI .i64)) (y:=x13) (rx:=[.val (.int .i64 x15)]) (ry:=[.val (.int .i64 x13)]) hx9 rfl rfl];refine hZ _ (pp (aa fun Z hZ=>?_));simp only [go_sem,seval];refine hZ _ (pp (aa fun Z hZ=>?_));simp only [go_sem,seval];refine hZ _ (pp (⟨_,Nat.lt_succ_self _,((l4.set ((v5).toNat) x13),IntKind.i64.wrap (v5+1),IntKind.i64.wrap (v6+1)),?_,h⟩));refine wr ?_ ?_<;>repeat' first|rfl|constructor|simp only [go_sem,seval,List.length_set]
def aG (N:Nat):FnS:={ own:=[true,false],pure:=true,fn:=fun cs=>match cs with
 | [c0,.clo 38 [.iref 9 [[k1_0_0,k1_0_1,k1_0_2,k1_0_3,k1_0_4,k1_0_5,k1_0_6,k1_0_7,k1_0_8]] 0 0]]=>((decO 1 (dec1 (decI .i64))) c0).bind fun q0=>(decS k1_0_0).bind fun q1=>((decI .i64) k1_0_1).bind fun q2=>((decL 1 (dec1 (decI .i64))) k1_0_2).bind fun q3=>((decI .i64) k1_0_3).bind fun q4=>((decI .i64) k1_0_4).bind fun q5=>((decI .i64) k1_0_5).bind fun q6=>(decS k1_0_6).bind fun q7=>((decL 1 (dec1 (decI .i64))) k1_0_7).bind fun q8=>((decL 1 (dec1 decS)) k1_0_8).bind fun q9=>(aU N q0 q1 q2 q3 q4 q5 q6 q7 q8 q9).map fun r=>.sl true none 1 none (r.map (rowI .i64))
 | _=>none }
theorem iD (N:Nat):(aG N).own=[true,false]:=rfl
theorem ia (N:Nat):(aG N).pure=true:=rfl
theorem gX (N:Nat):(aG N).peek=false:=rfl
attribute [go_sem] aG iD ia gX
theorem iE (N:Nat):FSOk Try.prog 37 (aG N):=by
 refine ⟨fun cs r h=>?_,fun h=>by cases h⟩;simp only [aG] at h;split at h
 ·simp only [Option.bind_eq_some_iff,Option.map_eq_some_iff] at h;obtain ⟨q0,h0,q1,h1,q2,h2,q3,h3,q4,h4,q5,h5,q6,h6,q7,h7,q8,h8,q9,h9,r',hr,rfl⟩:=h;exact (jd N q0 q1 q2 q3 q4 q5 q6 q7 q8 q9 r' hr).argsO rfl (fW (iZ (ef .i64) (bZ .i64) h0) (kY (Le.clo (LeL.cons (Le.iref1 (LeL.cons (bn h1) (LeL.cons (ag h2) (LeL.cons (aB (bZ .i64) h3) (LeL.cons (ag h4) (LeL.cons (ag h5) (LeL.cons (ag h6) (LeL.cons (bn h7) (LeL.cons (aB (bZ .i64) h8) (LeL.cons (aB js h9) (LeL.nil))))))))))) (LeL.nil))) (j5)))
 ·cases h


def bu:FnS:={ own:=[true,true],pure:=false,fn:=fun _=>none,peek:=true }
theorem az:bu.own=[true,true]:=rfl
theorem au:bu.peek=true:=rfl
theorem kI:PeekOk Try.prog 65:=
 sm (fn:=Try.f65) (tS:=54) (tR:=4) (e:=58) (size:=10) Try.func65 rfl rfl (by kernel_rfl) (by kernel_rfl) (by kernel_rfl) (by kernel_rfl)
theorem jN:FSOk Try.prog 65 bu:=⟨(fun cs r h=>by simp [bu] at h),fun _=>kI⟩
noncomputable def bX:Env:={ T:=tiOf Try.prog,G:=fun d f=>if d=67/\f=65 then some bu else none }
theorem bj:bX.T=tiOf Try.prog:=rfl
theorem ba (d:Nat):bX.F d=none:=rfl
theorem be (d f:Nat):bX.L d f=none:=rfl
theorem bk:bX.G 67 65=some bu:=rfl
theorem mi:GOk Try.prog { T:=tiOf Try.prog,G:=bX.G }:=by
 refine ⟨?_,fun _ _ _ h=>by cases h⟩;intro d f fs hfs;simp only [bX] at hfs;split at hfs
 ·rename_i hc; obtain ⟨rfl,rfl⟩:=hc; obtain rfl:=Option.some.inj hfs; exact jN
 cases hfs
theorem mV:FunOk Try.prog 39 Try.f39 Try.f39.body.get! := ⟨Try.func39,rfl,by decide,by kernel_rfl⟩
set_option maxHeartbeats 4000000 in
theorem mX {α:Type} (row:α->List C) (ok:RowOk row) (l:List α) (i:Nat) (x:α) (k:Nat) (r:List α) (hr:r=l.take i++[x]++l.drop i) (hi:i<=l.length) (hsz:(l.length+1) * 144<=140737488355328) (hk1:l.length<=k) (hk2:k<=maxLen) :
  Con Try.prog 39 [true,false,true] false [.sl true none 10 (some k) (l.map row),.val (.int .i64 i),.sl true none 10 none ([x].map row)] (.sl true none 10 none (r.map row)):=by
 refine sH (E:=bX) (oI Try.prog _) mi mix mV (Nat.le_of_ble_eq_true rfl) ?_;intro _;rw [lG (by simp)];rw [show entryF [true,false,true] [C.sl true none 10 (some k) (l.map row),C.val (.int .i64 i),C.sl true none 10 none ([x].map row)]=(updT (updT (updT deadT 0 (.pal 0 [] 0 l.length none)) 1 (.val (.int .i64 i))) 2 (.pal 2 [] 0 1 none)) from by funext t; match t with|0=>simp [entryF,iu,viewD,updT]|1=>rfl|2=>rfl|t+3=>rfl];rw [show R0 [true,false,true] [C.sl true none 10 (some k) (l.map row),C.val (.int .i64 i),C.sl true none 10 none ([x].map row)]=upd (upd RZ 0 (C.sl true none 10 (some k) (l.map row))) 2 (C.sl true none 10 none ([x].map row)) from by funext t; match t with|0=>rfl|1=>rfl|2=>rfl|t+3=>rfl];apply se;simp only [Try.f39,Option.get!];have hi1:(i:Int)<=(l.length:Int):=by omega
 have hi2:i<=l.length:=hi;have h10:(((1:Nat):Int)=0)=False:=by simp
 have hp:(row x).all Abs.plainCell=true:=ok.plain x;have hf:(row x).map C.frz=(row x):=ok.frz x;have hpD:(row x).all plainD=true:=by have:=(RowOk.allD ok [x]); simpa using this
 have hw1:IntKind.i64.wrap ((l.length:Int)+((1:Nat):Int))=((l.length+1:Nat):Int):=by rw [dD (by omega) (by omega)]; rfl
 have hlt0:(l.take i).length=i:=by simp; omega
 have hes:(10 != 0)=true:=rfl;have hm1:min 1 (l.length+1 - i)=1:=by omega
 have hm2:min (l.length - i) (l.length+1 - (i+1))=l.length - i:=by omega
 have hm3:(l.drop i).take (l.length - i)=l.drop i:=List.take_of_length_le (by simp);have hm4:i+1<=l.length+1:=by omega
 have hw2:IntKind.i64.wrap (((l.length+1:Nat):Int) - (i:Int))=((l.length+1 - i:Nat):Int):=by rw [dD (by omega) (by omega)]; omega
 have hw1b:IntKind.i64.wrap ((l.length:Int)+1)=((l.length+1:Nat):Int):=hw1;have hw3:IntKind.i64.wrap ((i:Int)+((1:Nat):Int))=((i+1:Nat):Int):=by rw [dD (by omega) (by omega)]; rfl
 have hw3b:IntKind.i64.wrap ((i:Int)+1)=((i+1:Nat):Int):=hw3;simp only [go_sem,seval,bj,ba,be,bk,hi1,hi2,h10,Nat.le_refl,hp,hf,hpD,RowOk.frzRows ok,RowOk.all ok,RowOk.allPlain ok,RowOk.allD ok,al,RX_cap,bM,altX,roomS,roomC,cutC,copyX,aX,aj,extOf,Ext.all,peekX,aI,Option.map_some,hw1,hw2,hw3,hw1b,hw3b,Nat.min_self,Nat.zero_le,Nat.sub_zero,deepV,bne_self_eq_false,List.isEmpty_nil,decide_not,List.length_replicate,hlt0,hm1,hm2,hm3,hm4,az,au,Nat.not_succ_le_self];refine rD rfl ?_;simp only [go_sem,seval,bj,ba,be,bk,hi1,hi2,h10,Nat.le_refl,hp,hf,hpD,RowOk.frzRows ok,RowOk.all ok,RowOk.allPlain ok,RowOk.allD ok,al,RX_cap,bM,altX,roomS,roomC,cutC,copyX,aX,aj,extOf,Ext.all,peekX,aI,Option.map_some,hw1,hw2,hw3,hw1b,hw3b,Nat.min_self,Nat.zero_le,Nat.sub_zero,deepV,bne_self_eq_false,List.isEmpty_nil,decide_not,List.length_replicate,hlt0,hm1,hm2,hm3,hm4,az,au,Nat.not_succ_le_self];refine jK rfl (fun hc=>?_) (fun hc=>?_)
 ·have e:i=l.length:=by omega
  subst e;simp only [go_sem,seval,bj,ba,be,bk,hi1,hi2,h10,Nat.le_refl,hp,hf,hpD,RowOk.frzRows ok,RowOk.all ok,RowOk.allPlain ok,RowOk.allD ok,al,RX_cap,bM,altX,roomS,roomC,cutC,copyX,aX,aj,extOf,Ext.all,peekX,aI,Option.map_some,hw1,hw2,hw3,hw1b,hw3b,Nat.min_self,Nat.zero_le,Nat.sub_zero,deepV,bne_self_eq_false,List.isEmpty_nil,decide_not,List.length_replicate,hlt0,hm1,hm2,hm3,hm4,az,au,Nat.not_succ_le_self,eY,fp,hsz];refine jA ok ?_;rw [hr];simp [List.take_of_length_le]
 ·have hc1:decide ((i:Int)=(l.length:Int))=false:=decide_eq_false hc;have hlt:i < l.length:=by omega
  simp only [go_sem,seval,bj,ba,be,bk,hi1,hi2,h10,Nat.le_refl,hp,hf,hpD,RowOk.frzRows ok,RowOk.all ok,RowOk.allPlain ok,RowOk.allD ok,al,RX_cap,bM,altX,roomS,roomC,cutC,copyX,aX,aj,extOf,Ext.all,peekX,aI,Option.map_some,hw1,hw2,hw3,hw1b,hw3b,Nat.min_self,Nat.zero_le,Nat.sub_zero,deepV,bne_self_eq_false,List.isEmpty_nil,decide_not,List.length_replicate,hlt0,hm1,hm2,hm3,hm4,az,au,Nat.not_succ_le_self,hc1];refine jK rfl (fun hk=>?_) (fun hk=>?_)
  ·have hk1:decide (k < l.length+1)=true:=decide_eq_true hk;have hk2:k < i+(l.length+1 - i):=by omega
   have e1:i+(l.length+1 - i)=l.length+1:=by omega
   have hi3:(i:Int)<=((l.length+1:Nat):Int):=by omega
   have hi4:i<=l.length+1:=by omega
   obtain ⟨A,hA⟩:∃ A,List.map row (List.take i l)++List.replicate (l.length+1 - i) [C.val (Value.int .i64 0),C.val (Value.string ⟨#[]⟩),C.val (Value.int .i64 0),C.val (Value.slice none 0 0),C.val (Value.int .i64 0),C.val (Value.int .i64 0),C.val (Value.int .i64 0),C.val (Value.string ⟨#[]⟩),C.val (Value.slice none 0 0),C.val (Value.slice none 0 0)]=A:=⟨_,rfl⟩;have hAp:aY A:=by rw [<-hA]; exact eD (dO ok _) (mR _ [Value.int .i64 0,Value.string ⟨#[]⟩,Value.int .i64 0,Value.slice none 0 0,Value.int .i64 0,Value.int .i64 0,Value.int .i64 0,Value.string ⟨#[]⟩,Value.slice none 0 0,Value.slice none 0 0] (by simp [Value.oneCell']))
   have hAl:A.length=l.length+1:=by rw [<-hA,List.length_append,List.length_map,hlt0,List.length_replicate]; omega
   obtain ⟨B,hB⟩:∃ B,ar A i [(row x)]=B:=⟨_,rfl⟩;have hBp:aY B:=by rw [<-hB]; exact dN hAp ⟨by simp [frzRows,hf],by simp [hpD]⟩
   have hBl:B.length=l.length+1:=by rw [<-hB]; simp [ar,hAl]; omega
   obtain ⟨D,hD⟩:∃ D,ar B (i+1) (List.map row (List.drop i l))=D:=⟨_,rfl⟩;have hDp:aY D:=by rw [<-hD]; exact dN hBp (dO ok _)
   have hDl:D.length=l.length+1:=by rw [<-hD]; simp [ar,hBl]; omega
   have hDe:D=(l.take i++[x]++l.drop i).map row:=by
    rw [<-hD,<-hB,<-hA,List.map_take,List.map_drop,si (A:=l.map row) (n:=l.length) (by simp) hi2 (by simp)];simp
   simp only [go_sem,seval,bj,ba,be,bk,hi1,hi2,h10,Nat.le_refl,hp,hf,hpD,RowOk.frzRows ok,RowOk.all ok,RowOk.allPlain ok,RowOk.allD ok,al,RX_cap,bM,altX,roomS,roomC,cutC,copyX,aX,aj,extOf,Ext.all,peekX,aI,Option.map_some,hw1,hw2,hw3,hw1b,hw3b,Nat.min_self,Nat.zero_le,Nat.sub_zero,deepV,bne_self_eq_false,List.isEmpty_nil,decide_not,List.length_replicate,hlt0,hm1,hm2,hm3,hm4,az,au,Nat.not_succ_le_self,hc1,hk1,hk,hk2,e1,hi3,hi4,hA,hAl,hAp.1,hAp.2,hB,hBp.1,hBp.2,hBl,hD,hDp.1,hDp.2,hsz];repeat' ((with_reducible refine eB ?_ ?_); kernel_rfl)
   simp only [go_sem,seval,bj,ba,be,bk,hi1,hi2,h10,Nat.le_refl,hp,hf,hpD,RowOk.frzRows ok,RowOk.all ok,RowOk.allPlain ok,RowOk.allD ok,al,RX_cap,bM,altX,roomS,roomC,cutC,copyX,aX,aj,extOf,Ext.all,peekX,aI,Option.map_some,hw1,hw2,hw3,hw1b,hw3b,Nat.min_self,Nat.zero_le,Nat.sub_zero,deepV,bne_self_eq_false,List.isEmpty_nil,decide_not,List.length_replicate,hlt0,hm1,hm2,hm3,hm4,az,au,Nat.not_succ_le_self,eY,fp,hDp.1,hDp.2,hD];refine jA ok ?_;rw [hr,<-hDe,<-hDl,List.take_length]
  ·have hk1:decide (k < l.length+1)=false:=decide_eq_false hk;have hk2:¬ k < i+(l.length+1 - i):=by omega
   have hk3:l.length+1<=k:=by omega
   have e2:l.length+1 - l.length=1:=by omega
   have e3:l.length<=l.length+1:=by omega
   have hi3:(i:Int)<=((l.length+1:Nat):Int):=by omega
   have hi4:i<=l.length+1:=by omega
   have hne:¬ l.length+1 - (i+1)=0:=by omega
   have hne2:¬ l.length - i=0:=by omega
   obtain ⟨A,hA⟩:∃ A,List.map row l++[[C.dead,C.dead,C.dead,C.dead,C.dead,C.dead,C.dead,C.dead,C.dead,C.dead]]=A:=⟨_,rfl⟩;have hAp:aY A:=by rw [<-hA]; exact eD (dO ok _) (mO 1 10)
   have hAl:A.length=l.length+1:=by rw [<-hA]; simp
   have hm5:min (l.length+1 - i) (l.length+1 - (i+1))=l.length - i:=by omega
   have hm5b:min (l.length+1 - i) (l.length - i)=l.length - i:=by omega
   obtain ⟨A2,hA2⟩:∃ A2,(A.drop i).take (l.length - i)=A2:=⟨_,rfl⟩;have hA2e:A2=List.map row (l.drop i):=by
    rw [<-hA2,<-hA,List.drop_append,List.length_map,show i - l.length=0 by omega,List.drop_zero,List.take_append,List.take_of_length_le (by simp),show l.length - i - (List.drop i (List.map row l)).length=0 by simp];simp [List.map_drop]
   have hA2p:(A2.all fun r=>r.all Abs.plainCell)=true:=by rw [hA2e]; exact ok.allPlain _
   have hA2f:frzRows A2=A2:=by rw [hA2e]; exact ok.frzRows _
   have hA2d:aY A2:=by rw [hA2e]; exact dO ok _
   obtain ⟨B,hB⟩:∃ B,ar A (i+1) A2=B:=⟨_,rfl⟩;have hBp:aY B:=by rw [<-hB]; exact dN hAp hA2d
   have hBl:B.length=l.length+1:=by rw [<-hB]; simp [ar,hAl,hA2e]; omega
   obtain ⟨D,hD⟩:∃ D,ar B i [(row x)]=D:=⟨_,rfl⟩;have hDp:aY D:=by rw [<-hD]; exact dN hBp ⟨by simp [frzRows,hf],by simp [hpD]⟩
   have hDl:D.length=l.length+1:=by rw [<-hD]; simp [ar,hBl]; omega
   have hDe:D=(l.take i++[x]++l.drop i).map row:=by
    rw [<-hD,<-hB,<-hA2,<-hA,rv (A:=l.map row) (n:=l.length) (by simp) hi2];simp [List.map_take,List.map_drop]
   simp only [go_sem,seval,bj,ba,be,bk,hi1,hi2,h10,Nat.le_refl,hp,hf,hpD,RowOk.frzRows ok,RowOk.all ok,RowOk.allPlain ok,RowOk.allD ok,al,RX_cap,bM,altX,roomS,roomC,cutC,copyX,aX,aj,extOf,Ext.all,peekX,aI,Option.map_some,hw1,hw2,hw3,hw1b,hw3b,Nat.min_self,Nat.zero_le,Nat.sub_zero,deepV,bne_self_eq_false,List.isEmpty_nil,decide_not,List.length_replicate,hlt0,hm1,hm2,hm3,hm4,az,au,Nat.not_succ_le_self,hc1,hk1,hk,hk2,hk3,e2,e3,hi3,hi4,hne,hne2,hA,hAl,hAp.1,hAp.2,hes,hA2,hA2p,hA2f,hB,hBp.1,hBp.2,hBl,hD,hDp.1,hDp.2,hDl,hm5,hm5b];refine rr rfl ?_;simp only [go_sem,seval,bj,ba,be,bk,hi1,hi2,h10,Nat.le_refl,hp,hf,hpD,RowOk.frzRows ok,RowOk.all ok,RowOk.allPlain ok,RowOk.allD ok,al,RX_cap,bM,altX,roomS,roomC,cutC,copyX,aX,aj,extOf,Ext.all,peekX,aI,Option.map_some,hw1,hw2,hw3,hw1b,hw3b,Nat.min_self,Nat.zero_le,Nat.sub_zero,deepV,bne_self_eq_false,List.isEmpty_nil,decide_not,List.length_replicate,hlt0,hm1,hm2,hm3,hm4,az,au,Nat.not_succ_le_self,hc1,hk1,hk,hk2,hk3,e2,e3,hi3,hi4,hne,hne2,hA,hAl,hAp.1,hAp.2,hes,hA2,hA2p,hA2f,hB,hBp.1,hBp.2,hBl,hD,hDp.1,hDp.2,hDl,hm5,hm5b];repeat' ((with_reducible refine eB ?_ ?_); kernel_rfl)
   simp only [go_sem,seval,bj,ba,be,bk,hi1,hi2,h10,Nat.le_refl,hp,hf,hpD,RowOk.frzRows ok,RowOk.all ok,RowOk.allPlain ok,RowOk.allD ok,al,RX_cap,bM,altX,roomS,roomC,cutC,copyX,aX,aj,extOf,Ext.all,peekX,aI,Option.map_some,hw1,hw2,hw3,hw1b,hw3b,Nat.min_self,Nat.zero_le,Nat.sub_zero,deepV,bne_self_eq_false,List.isEmpty_nil,decide_not,List.length_replicate,hlt0,hm1,hm2,hm3,hm4,az,au,Nat.not_succ_le_self,eY,fp,hDp.1,hDp.2,hD,hDl];refine jA ok ?_;rw [hr,<-hDe,<-hDl,List.take_length]
theorem oD (N:Nat) (a0:List Answer) (a1:Int) (a2:List Answer) (r:List Answer) (h:dP N a0 a1 a2=some r) :
  Con Try.prog 39 [true,false,true] false [.sl true none 10 none (a0.map Answer.row),.val (.int .i64 a1),.sl true none 10 none (a2.map Answer.row)] (.sl true none 10 none (r.map Answer.row)):=by
 unfold dP at h;obtain ⟨n,x,rfl,rfl,h1,h2,h3⟩:=lS h;exact qI fun k hk1 hk2=>mX Answer.row Answer.row_ok a0 n x k r (Option.some.inj h3).symm h1 h2 (by simpa using hk1) hk2
def bP (N:Nat):FnS:={ own:=[true,false,true],pure:=false,fn:=fun cs=>match cs with
 | [c0,c1,c2]=>(decO 10 Answer.dec c0).bind fun q0=>(decI .i64 c1).bind fun q1=>(decO 10 Answer.dec c2).bind fun q2=>(dP N q0 q1 q2).map fun r=>.sl true none 10 none (r.map Answer.row)
 | _=>none }
theorem lh (N:Nat):(bP N).own=[true,false,true]:=rfl
theorem kJ (N:Nat):(bP N).pure=false:=rfl
theorem kP (N:Nat):(bP N).peek=false:=rfl
attribute [go_sem] bP lh kJ kP
theorem lT (N:Nat):FSOk Try.prog 39 (bP N):=by
 refine ⟨fun cs r h=>?_,fun h=>by cases h⟩;simp only [bP] at h;split at h
 ·simp only [Option.bind_eq_some_iff,Option.map_eq_some_iff] at h;obtain ⟨q0,h0,q1,h1,q2,h2,r',hr,rfl⟩:=h;exact (oD N q0 q1 q2 r' hr).argsO rfl (fW (iZ Answer.row_ok Answer.dec_le h0) (kY (ag h1) (fW (iZ Answer.row_ok Answer.dec_le h2) j5)))
 ·cases h


noncomputable def oL (N d f:Nat):Option FnS:=glist [(13,22,gf N),(17,24,gr N),(26,20,de N),(29,29,ib N),(34,28,iV N),(46,37,aG N),(80,40,gp N),(83,39,bP N)] d f
attribute [go_sem] oL
theorem oX (N:Nat) (a0:(List Client)) (a1:Reply) (r:(List Client) × Int) (h:fy N a0 a1=some r):Con Try.prog 12 [] false [.sl false none 4 none (a0.map Client.row),.agg (Reply.row a1)] (.tup [.sl true none 4 none (r.1.map Client.row),.val (.int .i64 r.2)]):=by
 refine aO (G:=(oL N)) Try.func12 rfl (by decide) (by kernel_rfl) (gc 13 (iF N) (gc 17 (jR N) (gc 26 (dh N) (gc 29 (jy N) (gc 34 (j3 N) (gc 46 (iE N) (gc 80 (jT N) (gc 83 (lT N) gn)))))))) [] mix (Nat.le_of_ble_eq_true rfl) ?_;simp only [Try.f12];unfold fy at h;refine Ws fun Z hZ=>?_;simp only [go_sem,seval];refine hZ _ (pp (Wk_seq (aA ?_)));apply dE (fun (c8:Bool)=>⟨tab 87 (updT (updT (updT deadT 0 (.sl false none 4 none (a0.map Client.row))) 3 (.pref 3 [] 0 0)) 11 (.val (.bool c8))),(upd RZ 3 (.sl true none 9 (some 1) [Reply.row a1]))⟩)
 ·intro hJ1;obtain ⟨r9,hr2,h⟩:=Option.bind_eq_some_iff.1 h;refine aa fun Z hZ=>?_;simp only [go_sem,seval,hr2];refine da rfl (fun hc3=>?_) (fun hc3=>?_)
  ·rw [if_neg (ne_true_of_eq_false hc3)] at h;simp only [go_sem,seval,hc3];refine hZ _ (pp (hJ1 _ true ?_ h));refine wr ?_ ?_<;>repeat' first|rfl|constructor
  rw [if_pos hc3] at h;obtain ⟨r10,hr4,h⟩:=Option.bind_eq_some_iff.1 h;simp only [go_sem,seval,hc3,hr4];refine hZ _ (pp (hJ1 _ (!r10) ?_ h));refine wr ?_ ?_<;>repeat' first|rfl|constructor
 intro c8 h;unfold jf at h;refine aN rfl (fun hc5=>?_) (fun hc5=>?_)
 ·rw [if_pos hc5] at h;refine Ws fun Z hZ=>?_;simp only [go_sem,seval,hc5];refine hZ _ (pp (Wk_ret (pp ?_)));cases h;simp only [go_sem,seval];exact ⟨_,rfl,RokI.h⟩
 rw [if_neg (ne_true_of_eq_false hc5)] at h;refine Wk_seq ?_;obtain ⟨r11,hr6,h⟩:=Option.bind_eq_some_iff.1 h;refine aa fun Z hZ=>?_;simp only [go_sem,seval,hc5,hr6];refine hZ _ (pp (mH rfl (fun hc7=>?_) (fun hc7=>?_)))
 ·have hc7d:=decide_eq_false hc7;rw [if_neg hc7] at h;refine Ws fun Z hZ=>?_;simp only [go_sem,seval,hc7d];refine hZ _ (pp (Wk_ret (pp ?_)));cases h;simp only [go_sem,seval];exact ⟨_,rfl,RokI.h⟩
 have hc7d:=decide_eq_true hc7;rw [if_pos hc7] at h;refine ah (pp ?_);unfold jk at h;refine Wk_seq ?_;obtain ⟨r12,hr8,h⟩:=Option.bind_eq_some_iff.1 h;refine aa fun Z hZ=>?_;simp only [go_sem,seval,hc7d,hr8];refine hZ _ (pp (Wk_seq ?_));obtain ⟨r13,hr9,h⟩:=Option.bind_eq_some_iff.1 h;refine aa fun Z hZ=>?_;simp only [go_sem,seval,hr9];refine hZ _ (pp (Wk_seq ?_));obtain ⟨x14,hb10,hx11,h⟩:=dQ h;refine aa fun Z hZ=>?_;simp only [go_sem,seval,hb10];refine hZ _ (pp (Wk_seq ?_));obtain ⟨r15,hr12,h⟩:=Option.bind_eq_some_iff.1 h;refine aa fun Z hZ=>?_;simp only [go_sem,seval,hx11,sN (row:=Client.rowD) (rx:=[.val (.string x14.Name),.val (.int .i64 x14.Low),.sl true none 1 none (x14.Open.map (rowI .i64)),.sl true none 10 none (x14.Done.map Answer.row)]) hx11 rfl rfl,en (row:=Client.rowD) _ hx11,gg (row:=Client.rowD) hx11 rfl,hr12];refine hZ _ (pp (Ws fun Z hZ=>?_));simp only [go_sem,seval];refine hZ _ (pp ?_);apply dE (fun (v23:Int)=>⟨tab 87 (updT (updT (updT (updT deadT 3 (.pref 3 [] 0 0)) 6 (.pal 29 [] 0 r12.length none)) 9 (.pref 29 [] ((r13.1).toNat) 0)) 10 (.val (.int .i64 v23))),(upd (upd RZ 3 (.sl true none 9 (some 1) [Reply.row a1])) 29 (.sl true none 4 none ((r12.map Client.rowD).set ((r13.1).toNat) [.val (.string x14.Name),.val (.int .i64 x14.Low),.sl true none 1 none (r15.map (rowI .i64)),.sl true none 10 none (x14.Done.map Answer.row)])))⟩)
 ·intro hJ13;refine aA (fY fun hreal15=>?_);have hl14:=hreal15.lenAt 29 [((r13.1).toNat,3)] (by simp only [go_sem,seval,en (row:=Client.rowD) _ hx11]; rfl);first|rw [List.length_map] at hl14|rw [ee] at hl14|rw [<-List.map_append,List.length_map] at hl14
  refine gh (fun (v12:Nat) (b:Unit)=>⟨tab 87 (updT (updT (updT (updT deadT 3 (.pref 3 [] 0 0)) 6 (.pal 29 [] 0 r12.length none)) 9 (.pref 29 [] ((r13.1).toNat) 0)) 10 (.val (.int .i64 ((v12:Nat):Int)))),(upd (upd RZ 3 (.sl true none 9 (some 1) [Reply.row a1])) 29 (.sl true none 4 none ((r12.map Client.rowD).set ((r13.1).toNat) [.val (.string x14.Name),.val (.int .i64 x14.Low),.sl true none 1 none (r15.map (rowI .i64)),.sl true none 10 none (x14.Done.map Answer.row)])))⟩) () h ?_ ?_
  ·refine wr ?_ ?_<;>repeat' first|rfl|constructor
  rintro v12 ⟨⟩ hi16 h -;rcases (eP x14.Done v12 hi16).symm with ⟨hi16',_,hd19⟩|⟨x16,hi16',hx17,hd19⟩
  ·rw [hd19] at h;simp only [fE] at h;refine Wk_seq (Wk_seq ?_);try simp only [Int.ofNat_lt,hi16',if_true,if_false] at h
   refine gY fun Z hZ=>?_;simp only [go_sem,seval,en (row:=Client.rowD) _ hx11,hi16'];repeat with_reducible refine eB (by kernel_rfl) ?_
   refine hZ _ (by kernel_rfl) (pp (dg rfl ?_));first|rw [if_pos (rfl:true=true)] at h|rw [if_neg Bool.false_ne_true] at h|skip
   refine dj (pp (hJ13 _ ((v12:Nat):Int) ?_ h));refine wr ?_ ?_<;>repeat' first|rfl|constructor
  rw [hd19] at h;simp only [fE] at h;have hw18:=eA hi16' hl14;refine Wk_seq (Wk_seq ?_);try simp only [Int.ofNat_lt,hi16',if_true,if_false] at h
  try rw [gx_nat hx17] at h
  refine gY fun Z hZ=>?_;simp only [go_sem,seval,en (row:=Client.rowD) _ hx11,hx17,hi16'];repeat with_reducible refine eB (by kernel_rfl) ?_
  refine hZ _ (by kernel_rfl) (pp (sw (bG rfl) (fun hc20=>?_) (fun hc20=>?_)))
  ·have hc20d:=decide_eq_false hc20;rw [if_neg hc20] at h;refine dj (pp (hJ13 _ ((v12:Nat):Int) ?_ h));refine wr ?_ ?_<;>repeat' first|rfl|constructor
  have hc20d:=decide_eq_true hc20;rw [if_pos hc20] at h;refine ah (pp (aA (aa fun Z hZ=>?_)));simp only [go_sem,seval,hw18,hc20d];refine hZ _ (pp ?_);first|refine ⟨(),?_,h⟩|refine ⟨hi16',(),?_,h⟩
  refine wr ?_ ?_<;>repeat' first|rfl|constructor
 intro v23 h;unfold kH at h;refine Wk_seq (wZ [0,1,2,3,4,5,6,7,8] [9,10,11] [] [12,13,14,15] [29,3] (by kernel_rfl) fun Z hZ Y hY=>?_);simp only [go_sem,seval,en (row:=Client.rowD) _ hx11];refine hY _ (by kernel_rfl) (pD (by simp only [go_sem,seval,chkA,Option.isNone,Bool.and_true]; try rfl) fun Y hY=>?_);obtain ⟨r24,hr21,h⟩:=Option.bind_eq_some_iff.1 h;simp only [go_sem,seval,hr21];refine hY _ (by kernel_rfl) (pD (by kernel_rfl) fun Y hY=>?_);simp only [go_sem,seval];refine hY _ (by kernel_rfl) (pD (by kernel_rfl) fun Y hY=>?_);simp only [go_sem,seval];refine hY _ (by kernel_rfl) (vM ?_);obtain ⟨r25,hr22,h⟩:=Option.bind_eq_some_iff.1 h;simp only [go_sem,seval,en (row:=Client.rowD) _ hx11,gg (row:=Client.rowD) hx11 rfl,hr22];refine hZ _ (pp (Ws fun Z hZ=>?_));simp only [go_sem,seval];refine hZ _ (pp (gE (ph (n:=29) (Client.mk x14.Name x14.Low r15 r25) (by simp only [go_sem,seval]; rfl) rfl rfl) (gE (ma (row:=Client.row) (n:=29) (by simp only [go_sem,seval]; rfl) (by simp only [oh,ml,go_sem,seval]; rfl)) (Wk_ret (pp ?_)))));cases h;simp only [go_sem,seval];exact ⟨_,rfl,RokI.h⟩
def jh (N:Nat):FnS:=⟨[],false,fn2 (decL 4 Client.dec) Reply.decA fun q0 q1=>(fy N q0 q1).map fun r=>.tup [.sl false none 4 none (r.1.map Client.row),.val (.int .i64 r.2)],false⟩
attribute [go_sem] jh
theorem lP (N:Nat):FSOk Try.prog 12 (jh N):=ok2 (fun q0 q1 r h=>by
 obtain ⟨r',hr,rfl⟩:=Option.map_eq_some_iff.1 h;exact (oX N q0 q1 r' hr).res (by (try simp only [go_sem]); exact RokI.h)) (fun h=>aB Client.dec_le h) (Reply.decA_le)

def mI (N:Nat):FnS:=⟨[],false,fn2 (decL 4 Client.dec) Reply.decA fun q0 q1=>(fy N q0 q1).map fun r=>.tup [.sl true none 4 none (r.1.map Client.row),.val (.int .i64 r.2)],false⟩
attribute [go_sem] mI
theorem w8 (N:Nat):FSOk Try.prog 12 (mI N):=ok2 (fun q0 q1 r h=>by
 obtain ⟨r',hr,rfl⟩:=Option.map_eq_some_iff.1 h;exact oX N q0 q1 r' hr) (fun h=>aB Client.dec_le h) (Reply.decA_le)


noncomputable def pO (N d f:Nat):Option FnS:=glist [(14,44,jm N)] d f
attribute [go_sem] pO
theorem tD (N:Nat) (a0:(List Client)) (a1:ByteArray) (a2:Int) (r:Reply × Bool) (h:lE N a0 a1 a2=some r):Con Try.prog 16 [] false [.sl false none 4 none (a0.map Client.row),.val (.string a1),.val (.int .i64 a2)] (.tup [.agg (Reply.row r.1),.val (.bool r.2)]):=by
 refine aO (G:=(pO N)) Try.func16 rfl (by decide) (by kernel_rfl) (gc 14 (lM N) gn) [] mix (Nat.le_of_ble_eq_true rfl) ?_;simp only [Try.f16];unfold lE at h;refine Ws fun Z hZ=>?_;simp only [go_sem,seval];refine hZ _ (pp (Wk_seq ?_));obtain ⟨r1,hr1,h⟩:=Option.bind_eq_some_iff.1 h;refine aa fun Z hZ=>?_;simp only [go_sem,seval,hr1];refine hZ _ (pp (Ws fun Z hZ=>?_));simp only [go_sem,seval];refine hZ _ (pp (Wk_ret (pp ?_)));cases h;simp only [go_sem,seval];exact ⟨_,rfl,RokI.h⟩
def lx (N:Nat):FnS:=⟨[],false,fn3 (decL 4 Client.dec) decS (decI .i64) fun q0 q1 q2=>(lE N q0 q1 q2).map fun r=>.tup [.agg (Reply.row r.1),.val (.bool r.2)],false⟩
attribute [go_sem] lx
theorem qP (N:Nat):FSOk Try.prog 16 (lx N):=ok3 (fun q0 q1 q2 r h=>by
 obtain ⟨r',hr,rfl⟩:=Option.map_eq_some_iff.1 h;exact tD N q0 q1 q2 r' hr) (fun h=>aB Client.dec_le h) (bn) (ag)


noncomputable def kV (N d f:Nat):Option FnS:=glist [(13,22,gf N),(17,26,gJ N),(22,27,im N),(28,28,iV N),(54,29,ib N),(73,42,pG N)] d f
attribute [go_sem] kV
theorem kR (N:Nat) (a0:(List Client)) (a1:ByteArray) (a2:Int) (r:(List Client) × Int) (h:b9 N a0 a1 a2=some r):Con Try.prog 14 [] false [.sl false none 4 none (a0.map Client.row),.val (.string a1),.val (.int .i64 a2)] (.tup [.sl true none 4 none (r.1.map Client.row),.val (.int .i64 r.2)]):=by
 refine aO (G:=(kV N)) Try.func14 rfl (by decide) (by kernel_rfl) (gc 13 (iF N) (gc 17 (iT N) (gc 22 (jx N) (gc 28 (j3 N) (gc 54 (jy N) (gc 73 (tF N) gn)))))) [] mix (Nat.le_of_ble_eq_true rfl) ?_;simp only [Try.f14];unfold b9 at h;refine Ws fun Z hZ=>?_;simp only [go_sem,seval];refine hZ _ (pp (Wk_seq ?_));apply dE (fun (c9:Bool)=>⟨tab 77 (updT (updT (updT (updT deadT 0 (.sl false none 4 none (a0.map Client.row))) 1 (.val (.string a1))) 2 (.val (.int .i64 a2))) 24 (.val (.bool c9))),RZ⟩)
 ·intro hJ1;obtain ⟨r10,hr2,h⟩:=Option.bind_eq_some_iff.1 h;refine aa fun Z hZ=>?_;simp only [go_sem,seval,hr2];refine da rfl (fun hc3=>?_) (fun hc3=>?_)
  ·rw [if_neg (ne_true_of_eq_false hc3)] at h;simp only [go_sem,seval,hc3];refine hZ _ (pp (hJ1 _ true ?_ h));refine wr ?_ ?_<;>repeat' first|rfl|constructor
  rw [if_pos hc3] at h;obtain ⟨r11,hr4,h⟩:=Option.bind_eq_some_iff.1 h;simp only [go_sem,seval,hc3,hr4];refine da rfl (fun hc5=>?_) (fun hc5=>?_)
  ·rw [if_neg (ne_true_of_eq_false hc5)] at h;simp only [go_sem,seval,hc5];refine hZ _ (pp (hJ1 _ true ?_ h));refine wr ?_ ?_<;>repeat' first|rfl|constructor
  rw [if_pos hc5] at h;obtain ⟨r12,hr6,h⟩:=Option.bind_eq_some_iff.1 h;simp only [go_sem,seval,hc5,hr6];refine hZ _ (pp (hJ1 _ (!r12) ?_ h));refine wr ?_ ?_<;>repeat' first|rfl|constructor
 intro c9 h;unfold dy at h;refine aN rfl (fun hc7=>?_) (fun hc7=>?_)
 ·rw [if_pos hc7] at h;refine Ws fun Z hZ=>?_;simp only [go_sem,seval,hc7];refine hZ _ (pp (Wk_ret (pp ?_)));cases h;simp only [go_sem,seval];exact ⟨_,rfl,RokI.h⟩
 rw [if_neg (ne_true_of_eq_false hc7)] at h;refine ah (pp ?_);unfold eJ at h;refine Wk_seq ?_;obtain ⟨r13,hr8,h⟩:=Option.bind_eq_some_iff.1 h;refine aa fun Z hZ=>?_;simp only [go_sem,seval,hc7,hr8];refine hZ _ (pp (Wk_seq (aA (Ws fun Z hZ=>?_))));simp only [go_sem,seval];refine hZ _ (pp (eW rfl (fun hc9=>?_) (fun hc9=>?_)))
 ·rw [if_neg (ne_true_of_eq_false hc9)] at h;refine Ws fun Z hZ=>?_;simp only [go_sem,seval,hc9];refine hZ _ (pp (Wk_ret (pp ?_)));cases h;simp only [go_sem,seval];exact ⟨_,rfl,RokI.h⟩
 rw [if_pos hc9] at h;apply dE (fun (c20:Bool)=>⟨tab 77 (updT (updT (updT (updT deadT 0 (.sl false none 4 none (a0.map Client.row))) 2 (.val (.int .i64 a2))) 8 (.val (.int .i64 r13.1))) 34 (.val (.bool c20))),RZ⟩)
 ·intro hJ10;obtain ⟨x21,hb11,hx12,h⟩:=dQ h;refine aa fun Z hZ=>?_;simp only [go_sem,seval,hc9,hb11,hx12];refine sw (ai rfl) (fun hc13=>?_) (fun hc13=>?_)
  ·have hc13d:=decide_eq_false hc13;rw [if_neg hc13] at h;simp only [go_sem,seval,hc13d];refine hZ _ (pp (hJ10 _ false ?_ h));refine wr ?_ ?_<;>repeat' first|rfl|constructor
  have hc13d:=decide_eq_true hc13;rw [if_pos hc13] at h;obtain ⟨x22,hb14,hx15,h⟩:=dQ h;try simp only [Int.toNat_zero] at hx15
  try simp only [Int.ofNat_lt,Int.natCast_nonneg,true_and] at hb14
  simp only [go_sem,seval,hb11,hx12,hb14,hx15];refine hZ _ (pp (hJ10 _ (decide (x22<=a2)) ?_ h));refine wr ?_ ?_<;>repeat' first|rfl|constructor
 intro c20 h;unfold dS at h;refine aN rfl (fun hc16=>?_) (fun hc16=>?_)
 ·rw [if_pos hc16] at h;refine Ws fun Z hZ=>?_;simp only [go_sem,seval,hc16];refine hZ _ (pp (Wk_ret (pp ?_)));cases h;simp only [go_sem,seval];exact ⟨_,rfl,RokI.h⟩
 rw [if_neg (ne_true_of_eq_false hc16)] at h;refine ah (pp ?_);unfold eN at h;refine Wk_seq ?_;obtain ⟨r23,hr17,h⟩:=Option.bind_eq_some_iff.1 h;refine aa fun Z hZ=>?_;simp only [go_sem,seval,hc16,hr17];refine hZ _ (pp ?_);obtain ⟨x24,hb18,hx19,h⟩:=dQ h;refine yX 3 10 57 [0,1,2] [3,4] (Nat.le_of_ble_eq_true rfl) rfl rfl (by kernel_rfl) fun Y hY=>?_;simp only [go_sem,seval,hb18];refine hY _ ⟨54,r23.length,((r13.1).toNat),_,_,_,_,(by simp only [go_sem,seval]<;>rfl),(by have:=hb18; omega),(by simp only [go_sem,seval]<;>rfl),(by simp only [go_sem,seval]<;>rfl),by decide,fun b0 off0 k0 Z hZ=>?_⟩
 simp only [go_sem,seval];refine hZ _ ?_;refine ve [0,1] [2,3,4,5] [6] [7,8,9] 71 11 11 54 ((r13.1).toNat) (by kernel_rfl) (by kernel_rfl) (by kernel_rfl) (by simp only [go_sem]<;>rfl) (by simp only [go_sem,seval]<;>rfl) (by have:=hb18; omega) (by simp only [go_sem,seval]<;>rfl) (by simp only [go_sem,seval]<;>rfl) (by simp only [go_sem,seval]<;>rfl) rfl fun Z hZ Y hY=>?_
 simp only [go_sem,seval,hx19];refine hY _ (by kernel_rfl) (pD (by kernel_rfl) fun Y hY=>?_);simp only [go_sem,seval];refine hY _ (by kernel_rfl) (vM ?_);simp only [go_sem,seval,hx19,sN (row:=Client.rowD) (rx:=[.val (.string x24.Name),.val (.int .i64 x24.Low),.sl true none 1 none (x24.Open.map (rowI .i64)),.sl true none 10 none (x24.Done.map Answer.row)]) hx19 rfl rfl];refine hZ _ ?_;refine vD [0,1] [2,3,4,5] [7,8,9] 6 71 11 11 54 ((r13.1).toNat) (by kernel_rfl) (by kernel_rfl) (by kernel_rfl) (by simp only [go_sem]<;>rfl) (by simp only [go_sem,seval]<;>rfl) (by have:=hb18; omega) (by simp only [go_sem,seval]<;>rfl) (by simp only [go_sem,seval]<;>rfl) (by simp only [go_sem,seval]<;>rfl) rfl fun Z hZ Y hY=>?_
 simp only [go_sem,seval,en (row:=Client.rowD) _ hx19];obtain ⟨r25,hr20,h⟩:=Option.bind_eq_some_iff.1 h;obtain ⟨hd21,rfl⟩:=vj hr20;refine hY _ (by kernel_rfl) (AS 73 42 43 x24.Done.length [(((r13.1).toNat),3)] (pG N) (x24.Done.map Answer.row) 10 ((r23.map Client.rowD).set ((r13.1).toNat) [.val (.string x24.Name),.val (.int .i64 (if a2 > x24.Low then a2 else x24.Low)),.sl true none 1 none (x24.Open.map (rowI .i64)),.dead]) [.val (.string x24.Name),.val (.int .i64 (if a2 > x24.Low then a2 else x24.Low)),.sl true none 1 none (x24.Open.map (rowI .i64)),.dead] [.dead,.val (.int .i64 (if a2 > x24.Low then a2 else x24.Low)),.dead,.dead] (V.fIdx (fun a:Answer=>V.kq (if a2 > x24.Low then a2 else x24.Low) a.Seq) x24.Done) ⟨rfl,rfl,rfl,rfl,?_,?_,rfl,rfl,by decide,by decide,by decide,by decide,?_,?_,?_,?_,?_,?_,rfl,V.less_low,V.fIdx_nodup _ _,?_,V.answer_one _,V.del_raw N _ _ hd21.2 hd21.1,?_,?_⟩)
 ·simp only [go_sem,seval]<;>rfl
 ·rfl
 ·simp only [go_sem,seval,Bool.or_self,en (row:=Client.rowD) _ hx19,gg (row:=Client.rowD) hx19 rfl]<;>rfl
 ·simp only [go_sem,seval,gg (row:=Client.rowD) hx19 rfl]<;>rfl
 ·simp only [go_sem,seval,gg (row:=Client.rowD) hx19 rfl]<;>rfl
 ·simp only [go_sem,seval,gg (row:=Client.rowD) hx19 rfl]<;>rfl
 ·simp only [List.length_set,List.length_map]
 ·simp only [go_sem,seval,en (row:=Client.rowD) _ hx19]
 ·intro k hk; simpa using V.fIdx_lt _ _ k hk
 ·kernel_rfl
 rw [V.fIdx_pick];simp only [go_sem,seval,en (row:=Client.rowD) _ hx19,gg (row:=Client.rowD) hx19 rfl];refine hZ _ ?_;refine Wk.pinned (Ws fun Z hZ=>?_);simp only [go_sem,seval];refine hZ _ (pp (gE (ph (n:=54) (Client.mk x24.Name (if a2 > x24.Low then a2 else x24.Low) x24.Open (x24.Done.filter fun a=>V.kq (if a2 > x24.Low then a2 else x24.Low) a.Seq)) (by simp only [go_sem,seval]; rfl) rfl rfl) ?_));refine gE (ma (row:=Client.row) (n:=54) (by simp only [go_sem,seval]; rfl) (by simp only [oh,ml,go_sem,seval]; rfl)) (Wk_ret (pp ?_));cases h;simp only [go_sem,seval];exact ⟨_,rfl,RokI.h⟩
def eM (N:Nat):FnS:=⟨[],false,fn3 (decL 4 Client.dec) decS (decI .i64) fun q0 q1 q2=>(b9 N q0 q1 q2).map fun r=>.tup [.sl false none 4 none (r.1.map Client.row),.val (.int .i64 r.2)],false⟩
attribute [go_sem] eM
theorem gB (N:Nat):FSOk Try.prog 14 (eM N):=ok3 (fun q0 q1 q2 r h=>by
 obtain ⟨r',hr,rfl⟩:=Option.map_eq_some_iff.1 h;exact (kR N q0 q1 q2 r' hr).res (by (try simp only [go_sem]); exact RokI.h)) (fun h=>aB Client.dec_le h) (bn) (ag)

def j6 (N:Nat):FnS:=⟨[],false,fn3 (decL 4 Client.dec) decS (decI .i64) fun q0 q1 q2=>(b9 N q0 q1 q2).map fun r=>.tup [.sl true none 4 none (r.1.map Client.row),.val (.int .i64 r.2)],false⟩
attribute [go_sem] j6
theorem tW (N:Nat):FSOk Try.prog 14 (j6 N):=ok3 (fun q0 q1 q2 r h=>by
 obtain ⟨r',hr,rfl⟩:=Option.map_eq_some_iff.1 h;exact kR N q0 q1 q2 r' hr) (fun h=>aB Client.dec_le h) (bn) (ag)


noncomputable def pR (N d f:Nat):Option FnS:=glist [(12,10,eU N),(17,10,eU N),(24,12,jh N),(29,16,lx N),(34,14,eM N),(62,20,de N),(67,20,de N),(72,20,de N),(77,20,de N)] d f
attribute [go_sem] pR
theorem tK (N:Nat)  (r:Bool) (h:jS N  = some r):Con Try.prog 7 [] true [] (.val (.bool r)):=by
 refine aO (G:=(pR N)) Try.func7 rfl (by decide) (by kernel_rfl) (gc 12 (fi N) (gc 17 (fi N) (gc 24 (lP N) (gc 29 (qP N) (gc 34 (gB N) (gc 62 (dh N) (gc 67 (dh N) (gc 72 (dh N) (gc 77 (dh N) gn))))))))) [] mix (Nat.le_of_ble_eq_true rfl) ?_;simp only [Try.f7];unfold jS at h;refine Ws fun Z hZ=>?_;simp only [go_sem,seval];refine hZ _ (pp (Wk_seq ?_));obtain ⟨r1,hr1,h⟩:=Option.bind_eq_some_iff.1 h;refine aa fun Z hZ=>?_;simp only [go_sem,seval,hr1];refine hZ _ (pp (Wk_seq ?_));obtain ⟨r2,hr2,h⟩:=Option.bind_eq_some_iff.1 h;refine aa fun Z hZ=>?_;simp only [go_sem,seval,hr2];refine hZ _ (pp (Wk_seq ?_));obtain ⟨r3,hr3,h⟩:=Option.bind_eq_some_iff.1 h;refine aa fun Z hZ=>?_;simp only [go_sem,seval,hr3];refine hZ _ (pp (Wk_seq ?_));obtain ⟨r4,hr4,h⟩:=Option.bind_eq_some_iff.1 h;refine aa fun Z hZ=>?_;simp only [go_sem,seval,hr4];refine hZ _ (pp (Wk_seq ?_));obtain ⟨r5,hr5,h⟩:=Option.bind_eq_some_iff.1 h;refine aa fun Z hZ=>?_;simp only [go_sem,seval,hr5];refine hZ _ (pp (Ws fun Z hZ=>?_));simp only [go_sem,seval];refine sw (ai rfl) (fun hc6=>?_) (fun hc6=>?_)
 ·have hc6d:=decide_eq_false hc6;rw [if_neg hc6] at h;simp only [go_sem,seval,hc6d];refine hZ _ (pp (Wk_ret (pp ?_)));cases h;simp only [go_sem,seval];exact ⟨_,rfl,RokI.h,PureI.h⟩
 have hc6d:=decide_eq_true hc6;rw [if_pos hc6] at h;simp only [go_sem,seval,hc6d];refine sw (ai rfl) (fun hc7=>?_) (fun hc7=>?_)
 ·have hc7d:=decide_eq_false hc7;rw [if_neg hc7] at h;simp only [go_sem,seval,hc7d];refine hZ _ (pp (Wk_ret (pp ?_)));cases h;simp only [go_sem,seval];exact ⟨_,rfl,RokI.h,PureI.h⟩
 have hc7d:=decide_eq_true hc7;rw [if_pos hc7] at h;simp only [go_sem,seval,hc7d];refine sw (ai rfl) (fun hc8=>?_) (fun hc8=>?_)
 ·have hc8d:=decide_eq_false hc8;rw [if_neg hc8] at h;simp only [go_sem,seval,hc8d];refine hZ _ (pp (Wk_ret (pp ?_)));cases h;simp only [go_sem,seval];exact ⟨_,rfl,RokI.h,PureI.h⟩
 have hc8d:=decide_eq_true hc8;rw [if_pos hc8] at h;simp only [go_sem,seval,hc8d];refine sw (eV rfl) (fun hc9=>?_) (fun hc9=>?_)
 ·rw [if_neg (ne_true_of_eq_false hc9)] at h;simp only [go_sem,seval,hc9];refine hZ _ (pp (Wk_ret (pp ?_)));cases h;simp only [go_sem,seval];exact ⟨_,rfl,RokI.h,PureI.h⟩
 rw [if_pos hc9] at h;simp only [go_sem,seval,hc9];refine sw (ai rfl) (fun hc10=>?_) (fun hc10=>?_)
 ·have hc10d:=decide_eq_false hc10;rw [if_neg hc10] at h;simp only [go_sem,seval,hc10d];refine hZ _ (pp (Wk_ret (pp ?_)));cases h;simp only [go_sem,seval];exact ⟨_,rfl,RokI.h,PureI.h⟩
 have hc10d:=decide_eq_true hc10;rw [if_pos hc10] at h;simp only [go_sem,seval,hc10d];refine sw (ai rfl) (fun hc11=>?_) (fun hc11=>?_)
 ·have hc11d:=decide_eq_false hc11;rw [if_neg hc11] at h;simp only [go_sem,seval,hc11d];refine hZ _ (pp (Wk_ret (pp ?_)));cases h;simp only [go_sem,seval];exact ⟨_,rfl,RokI.h,PureI.h⟩
 have hc11d:=decide_eq_true hc11;rw [if_pos hc11] at h;obtain ⟨r6,hr12,h⟩:=Option.bind_eq_some_iff.1 h;simp only [go_sem,seval,hc11d,hr12];refine sw (ai rfl) (fun hc13=>?_) (fun hc13=>?_)
 ·have hc13d:=decide_eq_false hc13;rw [if_neg hc13] at h;simp only [go_sem,seval,hc13d];refine hZ _ (pp (Wk_ret (pp ?_)));cases h;simp only [go_sem,seval];exact ⟨_,rfl,RokI.h,PureI.h⟩
 have hc13d:=decide_eq_true hc13;rw [if_pos hc13] at h;obtain ⟨r7,hr14,h⟩:=Option.bind_eq_some_iff.1 h;simp only [go_sem,seval,hc13d,hr14];refine sw (ai rfl) (fun hc15=>?_) (fun hc15=>?_)
 ·have hc15d:=decide_eq_false hc15;rw [if_neg hc15] at h;simp only [go_sem,seval,hc15d];refine hZ _ (pp (Wk_ret (pp ?_)));cases h;simp only [go_sem,seval];exact ⟨_,rfl,RokI.h,PureI.h⟩
 have hc15d:=decide_eq_true hc15;rw [if_pos hc15] at h;obtain ⟨r8,hr16,h⟩:=Option.bind_eq_some_iff.1 h;simp only [go_sem,seval,hc15d,hr16];refine ai rfl (fun hc17=>?_) (fun hc17=>?_)
 ·have hc17d:=decide_eq_true hc17;rw [if_pos hc17] at h;obtain ⟨r9,hr18,h⟩:=Option.bind_eq_some_iff.1 h;simp only [go_sem,seval,hc17d,hr18];refine hZ _ (pp (Wk_ret (pp ?_)));cases h;simp only [go_sem,seval];exact ⟨_,rfl,RokI.h,PureI.h⟩
 have hc17d:=decide_eq_false hc17;rw [if_neg hc17] at h;simp only [go_sem,seval,hc17d];refine hZ _ (pp (Wk_ret (pp ?_)));cases h;simp only [go_sem,seval];exact ⟨_,rfl,RokI.h,PureI.h⟩
def jB (N:Nat):FnS:={ own:=[],pure:=true,fn:=fun cs=>match cs with
 | [] =>  (jS N ).map fun r=>.val (.bool r)
 | _=>none }
attribute [go_sem] jB
theorem qO (N:Nat):FSOk Try.prog 7 (jB N):=by
 refine ⟨fun cs r h=>?_,fun h=>by cases h⟩;simp only [jB] at h;split at h
 ·simp only [Option.map_eq_some_iff] at h;obtain ⟨r',hr,rfl⟩:=h;exact ((tK N  r' hr).args (LeL.nil))
 ·cases h


noncomputable def l9 (N d f:Nat):Option FnS:=glist [(24,7,jB N),(37,10,eU N),(50,10,eU N),(69,12,jh N),(78,10,eU N),(94,14,eM N),(119,14,eM N),(125,10,eU N),(137,20,de N),(145,20,de N)] d f
attribute [go_sem] l9
theorem l8 (N:Nat) (a0:Int) (a1:Int) (r:Bool) (h:fH N a0 a1=some r):Con Try.prog 5 [] true [.val (.int .u16 a0),.val (.int .u8 a1)] (.val (.bool r)):=by
 refine aO (G:=(l9 N)) Try.func5 rfl (by decide) (by kernel_rfl) (gc 24 (qO N) (gc 37 (fi N) (gc 50 (fi N) (gc 69 (lP N) (gc 78 (fi N) (gc 94 (gB N) (gc 119 (gB N) (gc 125 (fi N) (gc 137 (dh N) (gc 145 (dh N) gn)))))))))) [] mix (Nat.le_of_ble_eq_true rfl) ?_;simp only [Try.f5];unfold fH at h;refine Ws fun Z hZ=>?_;simp only [go_sem,seval];refine hZ _ (pp (Wk_seq (Wk_seq ?_)));obtain ⟨r1,hr1,h⟩:=Option.bind_eq_some_iff.1 h;refine aa fun Z hZ=>?_;simp only [go_sem,seval,hr1];refine hZ _ (pp (eW rfl (fun hc2=>?_) (fun hc2=>?_)))
 ·rw [if_neg (ne_true_of_eq_false hc2)] at h;refine Ws fun Z hZ=>?_;simp only [go_sem,seval,hc2];refine hZ _ (pp (Wk_ret (pp ?_)));cases h;simp only [go_sem,seval];exact ⟨_,rfl,RokI.h,PureI.h⟩
 rw [if_pos hc2] at h;refine ah (pp (Ws fun Z hZ=>?_));simp only [go_sem,seval,hc2];refine hZ _ (pp (Wk_seq (Ws fun Z hZ=>?_)));simp only [go_sem,seval];refine hZ _ (pp (aA (mw (fun (b:List Client × Int)=>⟨tab 148 (updT (updT (updT (updT deadT 0 (.val (.int .u16 a0))) 1 (.val (.int .u8 a1))) 5 (.sl false none 4 none (b.1.map Client.row))) 6 (.val (.int .i64 b.2))),RZ⟩) ([],0) h ?_ ?_)))
 ·refine Weak.trans (yz 5 4 (by simp only [go_sem,seval])) ?_;refine wr ?_ ?_<;>repeat' first|rfl|constructor
 rintro n ⟨l4,v5⟩ h -;cases n with
 | zero=>simp [eF] at h
 | succ n=>
 simp only [eF] at h;refine Wk_seq (Ws fun Z hZ=>?_);simp only [go_sem,seval];refine hZ _ (pp (bG rfl (fun hc3=>?_) (fun hc3=>?_)))
 ·have hc3d:=decide_eq_true hc3;rw [if_pos hc3] at h;refine ah (pp (Wk_seq (aA (Wk_seq ?_))));obtain ⟨r9,hr4,h⟩:=Option.bind_eq_some_iff.1 h;refine aa fun Z hZ=>?_;simp only [go_sem,seval,hc3d,hr4];refine hZ _ (pp (Wk_seq (Ws fun Z hZ=>?_)));simp only [go_sem,seval];refine hZ _ (pp (mH rfl (fun hc5=>?_) (fun hc5=>?_)))
  ·have hc5d:=decide_eq_false hc5;rw [if_neg hc5] at h;refine Ws fun Z hZ=>?_;simp only [go_sem,seval,hc5d];refine hZ _ (pp (Wk_ret (pp ?_)));cases h;simp only [go_sem,seval];exact ⟨_,rfl,RokI.h,PureI.h⟩
  have hc5d:=decide_eq_true hc5;rw [if_pos hc5] at h;refine ah (pp (aa fun Z hZ=>?_));simp only [go_sem,seval,hc5d];refine hZ _ (pp (aa fun Z hZ=>?_));simp only [go_sem,seval];refine hZ _ (pp (⟨_,Nat.lt_succ_self _,(r9.1,IntKind.i64.wrap (v5+1)),?_,h⟩));refine wr ?_ ?_<;>repeat' first|rfl|constructor
 have hc3d:=decide_eq_false hc3;rw [if_neg hc3] at h;refine dj (pp ?_);unfold gR at h;refine Ws fun Z hZ=>?_;simp only [go_sem,seval,hc3d];refine hZ _ (pp (Wk_seq ?_));obtain ⟨r10,hr6,h⟩:=Option.bind_eq_some_iff.1 h;refine aa fun Z hZ=>?_;simp only [go_sem,seval,hr6];refine hZ _ (pp (Ws fun Z hZ=>?_));simp only [go_sem,seval];refine hZ _ (pp (Wk_seq (Ws fun Z hZ=>?_)));simp only [go_sem,seval];refine hZ _ (pp (aA (mw (fun (b:List Client × Int)=>⟨tab 148 (updT (updT (updT (updT (updT (updT deadT 0 (.val (.int .u16 a0))) 5 (.sl false none 4 none (b.1.map Client.row))) 9 (.val (.int .i64 (IntKind.i64.wrap ((IntKind.i64.wrap (1+(IntKind.i64.wrap a0)))+16))))) 11 (.val (.int .i64 r10.2))) 12 (.val (.int .i64 (Int.tmod (IntKind.i64.wrap a1) 17)))) 13 (.val (.int .i64 b.2))),RZ⟩) (l4,0) h ?_ ?_)))
 ·refine wr ?_ ?_<;>repeat' first|rfl|constructor
 rintro n ⟨l14,v15⟩ h -;cases n with
 | zero=>simp [et] at h
 | succ n=>
 simp only [et] at h;refine Wk_seq (Ws fun Z hZ=>?_);simp only [go_sem,seval];refine hZ _ (pp (bG rfl (fun hc7=>?_) (fun hc7=>?_)))
 ·have hc7d:=decide_eq_true hc7;rw [if_pos hc7] at h;refine ah (pp (Wk_seq (aA (Wk_seq ?_))));obtain ⟨r18,hr8,h⟩:=Option.bind_eq_some_iff.1 h;refine aa fun Z hZ=>?_;simp only [go_sem,seval,hc7d,hr8];refine hZ _ (pp (Wk_seq (Ws fun Z hZ=>?_)));simp only [go_sem,seval];refine hZ _ (pp (mH rfl (fun hc9=>?_) (fun hc9=>?_)))
  ·have hc9d:=decide_eq_false hc9;rw [if_neg hc9] at h;refine Ws fun Z hZ=>?_;simp only [go_sem,seval,hc9d];refine hZ _ (pp (Wk_ret (pp ?_)));cases h;simp only [go_sem,seval];exact ⟨_,rfl,RokI.h,PureI.h⟩
  have hc9d:=decide_eq_true hc9;rw [if_pos hc9] at h;refine ah (pp (aa fun Z hZ=>?_));simp only [go_sem,seval,hc9d];refine hZ _ (pp (aa fun Z hZ=>?_));simp only [go_sem,seval];refine hZ _ (pp (⟨_,Nat.lt_succ_self _,(r18.1,IntKind.i64.wrap (v15+1)),?_,h⟩));refine wr ?_ ?_<;>repeat' first|rfl|constructor
 have hc7d:=decide_eq_false hc7;rw [if_neg hc7] at h;refine dj (pp ?_);unfold gU at h;refine Wk_seq ?_;obtain ⟨r19,hr10,h⟩:=Option.bind_eq_some_iff.1 h;refine aa fun Z hZ=>?_;simp only [go_sem,seval,hc7d,hr10];refine hZ _ (pp (Wk_seq ?_));apply dE (fun (c22:Bool)=>⟨tab 148 (updT (updT (updT (updT (updT deadT 0 (.val (.int .u16 a0))) 5 (.sl false none 4 none (l14.map Client.row))) 9 (.val (.int .i64 (IntKind.i64.wrap ((IntKind.i64.wrap (1+(IntKind.i64.wrap a0)))+16))))) 12 (.val (.int .i64 (Int.tmod (IntKind.i64.wrap a1) 17)))) 86 (.val (.bool c22))),RZ⟩)
 ·intro hJ11;refine aa fun Z hZ=>?_;simp only [go_sem,seval];refine iW rfl (fun hc12=>?_) (fun hc12=>?_)
  ·have hc12d:=decide_eq_false hc12;rw [if_neg hc12] at h;simp only [go_sem,seval,hc12d];refine hZ _ (pp (hJ11 _ true ?_ h));refine wr ?_ ?_<;>repeat' first|rfl|constructor
  have hc12d:=decide_eq_true hc12;rw [if_pos hc12] at h;simp only [go_sem,seval,hc12d];refine hZ _ (pp (hJ11 _ (!decide (r19.2=5)) ?_ h));refine wr ?_ ?_<;>repeat' first|rfl|constructor
 intro c22 h;unfold gL at h;refine aN rfl (fun hc13=>?_) (fun hc13=>?_)
 ·rw [if_pos hc13] at h;refine Ws fun Z hZ=>?_;simp only [go_sem,seval,hc13];refine hZ _ (pp (Wk_ret (pp ?_)));cases h;simp only [go_sem,seval];exact ⟨_,rfl,RokI.h,PureI.h⟩
 rw [if_neg (ne_true_of_eq_false hc13)] at h;refine ah (pp ?_);unfold gW at h;refine Wk_seq ?_;obtain ⟨r23,hr14,h⟩:=Option.bind_eq_some_iff.1 h;refine aa fun Z hZ=>?_;simp only [go_sem,seval,hc13,hr14];refine hZ _ (pp (Wk_seq ?_));apply dE (fun (c28:Bool)=>⟨tab 148 (updT (updT (updT (updT (updT (updT deadT 0 (.val (.int .u16 a0))) 5 (.sl false none 4 none (l14.map Client.row))) 9 (.val (.int .i64 (IntKind.i64.wrap ((IntKind.i64.wrap (1+(IntKind.i64.wrap a0)))+16))))) 12 (.val (.int .i64 (Int.tmod (IntKind.i64.wrap a1) 17)))) 19 (.val (.int .i64 r23.2))) 106 (.val (.bool c28))),RZ⟩)
 ·intro hJ15;refine aa fun Z hZ=>?_;simp only [go_sem,seval];refine sw (ai rfl) (fun hc16=>?_) (fun hc16=>?_)
  ·have hc16d:=decide_eq_false hc16;rw [if_neg hc16] at h;simp only [go_sem,seval,hc16d];refine hZ _ (pp (hJ15 _ (decide ((Int.tmod (IntKind.i64.wrap a1) 17)=0)) ?_ h));refine wr ?_ ?_<;>repeat' first|rfl|constructor
  have hc16d:=decide_eq_true hc16;rw [if_pos hc16] at h;simp only [go_sem,seval,hc16d];refine iW rfl (fun hc17=>?_) (fun hc17=>?_)
  ·have hc17d:=decide_eq_false hc17;rw [if_neg hc17] at h;simp only [go_sem,seval,hc17d];refine hZ _ (pp (hJ15 _ true ?_ h));refine wr ?_ ?_<;>repeat' first|rfl|constructor
  have hc17d:=decide_eq_true hc17;rw [if_pos hc17] at h;simp only [go_sem,seval,hc17d];refine hZ _ (pp (hJ15 _ (decide ((Int.tmod (IntKind.i64.wrap a1) 17)=0)) ?_ h));refine wr ?_ ?_<;>repeat' first|rfl|constructor
 intro c28 h;unfold fv at h;refine aN rfl (fun hc18=>?_) (fun hc18=>?_)
 ·rw [if_pos hc18] at h;refine Ws fun Z hZ=>?_;simp only [go_sem,seval,hc18];refine ai rfl (fun hc19=>?_) (fun hc19=>?_)
  ·have hc19d:=decide_eq_true hc19;rw [if_pos hc19] at h;simp only [go_sem,seval,hc19d];refine hZ _ (pp (Wk_ret (pp ?_)));cases h;simp only [go_sem,seval];exact ⟨_,rfl,RokI.h,PureI.h⟩
  have hc19d:=decide_eq_false hc19;rw [if_neg hc19] at h;simp only [go_sem,seval,hc19d];refine hZ _ (pp (Wk_ret (pp ?_)));cases h;simp only [go_sem,seval];exact ⟨_,rfl,RokI.h,PureI.h⟩
 rw [if_neg (ne_true_of_eq_false hc18)] at h;refine ah (pp ?_);unfold ey at h;refine Wk_seq ?_;obtain ⟨r29,hr20,h⟩:=Option.bind_eq_some_iff.1 h;refine aa fun Z hZ=>?_;simp only [go_sem,seval,hc18,hr20];refine hZ _ (pp (Wk_seq ?_));obtain ⟨r30,hr21,h⟩:=Option.bind_eq_some_iff.1 h;refine aa fun Z hZ=>?_;simp only [go_sem,seval,hr21];refine hZ _ (pp (Ws fun Z hZ=>?_));simp only [go_sem,seval];refine sw (ai rfl) (fun hc22=>?_) (fun hc22=>?_)
 ·have hc22d:=decide_eq_false hc22;rw [if_neg hc22] at h;simp only [go_sem,seval,hc22d];refine hZ _ (pp (Wk_ret (pp ?_)));cases h;simp only [go_sem,seval];exact ⟨_,rfl,RokI.h,PureI.h⟩
 have hc22d:=decide_eq_true hc22;rw [if_pos hc22] at h;simp only [go_sem,seval,hc22d];refine sw (ai rfl) (fun hc23=>?_) (fun hc23=>?_)
 ·have hc23d:=decide_eq_false hc23;rw [if_neg hc23] at h;simp only [go_sem,seval,hc23d];refine hZ _ (pp (Wk_ret (pp ?_)));cases h;simp only [go_sem,seval];exact ⟨_,rfl,RokI.h,PureI.h⟩
 have hc23d:=decide_eq_true hc23;rw [if_pos hc23] at h;obtain ⟨r31,hr24,h⟩:=Option.bind_eq_some_iff.1 h;simp only [go_sem,seval,hc23d,hr24];refine ai rfl (fun hc25=>?_) (fun hc25=>?_)
 ·have hc25d:=decide_eq_true hc25;rw [if_pos hc25] at h;obtain ⟨r32,hr26,h⟩:=Option.bind_eq_some_iff.1 h;simp only [go_sem,seval,hc25d,hr26];refine hZ _ (pp (Wk_ret (pp ?_)));cases h;simp only [go_sem,seval];exact ⟨_,rfl,RokI.h,PureI.h⟩
 have hc25d:=decide_eq_false hc25;rw [if_neg hc25] at h;simp only [go_sem,seval,hc25d];refine hZ _ (pp (Wk_ret (pp ?_)));cases h;simp only [go_sem,seval];exact ⟨_,rfl,RokI.h,PureI.h⟩
def lH (N:Nat):FnS:=⟨[],true,fn2 (decI .u16) (decI .u8) fun q0 q1=>(fH N q0 q1).map fun r=>.val (.bool r),false⟩
attribute [go_sem] lH
theorem vN (N:Nat):FSOk Try.prog 5 (lH N):=ok2 (fun q0 q1 r h=>by
 obtain ⟨r',hr,rfl⟩:=Option.map_eq_some_iff.1 h;exact l8 N q0 q1 r' hr) (ag) (ag)

end Go.Proofs.Yteldkhmcgloafaa
