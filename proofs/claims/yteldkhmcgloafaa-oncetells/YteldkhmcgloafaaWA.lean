/- Walks: each function computes its model. No condition. -/
import Derived.Test.YteldkhmcgloafaaV
/- Each Go function computes its model: proofs laid by a program of ours. -/
set_option maxHeartbeats 40000000
set_option synthInstance.maxHeartbeats 2000000
set_option synthInstance.maxSize 4000
set_option linter.unusedSimpArgs false
set_option linter.unusedVariables false
set_option maxRecDepth 100000
namespace Go.Proofs.Yteldkhmcgloafaa
open Go Go.Proofs Go.Abs
theorem Au (N:Nat) (a0:ByteArray) (r:Bool) (h:iv N a0=some r):Con Try.prog 26 [] true [.val (.string a0)] (.val (.bool r)):=by
 refine ay (G:=(glist [])) Try.func26 rfl (by decide) (by kernel_rfl) gn [] mix (Nat.le_of_ble_eq_true rfl) ?_;simp only [Try.f26];unfold iv at h;refine Ws fun Z hZ=>?_;simp only [go_sem,seval];refine hZ _ (pp (Ws fun Z hZ=>?_));simp only [go_sem,seval];refine ae rfl (fun hc1=>?_) (fun hc1=>?_)
 ·have hc1d:=decide_eq_true hc1;rw [if_pos hc1] at h;simp only [go_sem,seval,hc1d];refine hZ _ (pp (Wk_ret (pp ?_)));cases h;simp only [go_sem,seval];exact ⟨_,rfl,RokI.h,PureI.h⟩
 have hc1d:=decide_eq_false hc1;rw [if_neg hc1] at h;simp only [go_sem,seval,hc1d];refine hZ _ (pp (Wk_ret (pp ?_)));cases h;simp only [go_sem,seval];exact ⟨_,rfl,RokI.h,PureI.h⟩
def jA (N:Nat):FnS:=⟨[],true,fn1 decS fun q0=>(iv N q0).map fun r=>.val (.bool r),false⟩
attribute [go_sem] jA
theorem kX (N:Nat):FSOk Try.prog 26 (jA N):=ok1 (fun q0 r h=>by
 obtain ⟨r',hr,rfl⟩:=Option.map_eq_some_iff.1 h;exact Au N q0 r' hr) (aW)


theorem u7 (N:Nat) (a0:(List Int)) (a1:Int) (r:Int) (h:iZ N a0 a1=some r):Con Try.prog 76 [] true [.sl false none 1 none (a0.map (rowI .i64)),.val (.int .i64 a1)] (.val (.int .i64 r)):=by
 refine ay (G:=(glist [])) Try.func76 rfl (by decide) (by kernel_rfl) gn [] mix (Nat.le_of_ble_eq_true rfl) ?_;simp only [Try.f76];unfold iZ at h;refine Ws fun Z hZ=>?_;simp only [go_sem,seval];refine hZ _ (pp (Wk_seq (Ws fun Z hZ=>?_)));simp only [go_sem,seval];refine hZ _ (pp (ak (bS fun hreal2=>?_)));have hl1:=hreal2.lenT 0 (by decide) (by simp only [go_sem,seval]; rfl);first|rw [List.length_map] at hl1|rw [bo] at hl1|rw [<-List.map_append,List.length_map] at hl1
 refine bJ (fun (v2:Nat) (b:Unit)=>⟨tab 19 (updT (updT (updT (updT deadT 0 (.sl false none 1 none (a0.map (rowI .i64)))) 1 (.val (.int .i64 a1))) 7 (.val (.int .i64 ((a0.length:Nat):Int)))) 8 (.val (.int .i64 ((v2:Nat):Int)))),RZ⟩) () h ?_ ?_
 ·refine wr ?_ ?_<;>repeat' first|rfl|constructor
 rintro v2 ⟨⟩ hi3 h -;rcases (aU a0 v2 hi3).symm with ⟨hi3',_,hd6⟩|⟨x5,hi3',hx4,hd6⟩
 ·rw [hd6] at h;simp only [fb] at h;refine Ws fun Z hZ=>?_;simp only [go_sem,seval,hi3'];refine hZ _ (pp (Wk_seq ?_));try simp only [Int.ofNat_lt,hi3',if_true,if_false] at h
  refine aN rfl (ba (pp (Ws fun Z hZ=>?_)));simp only [go_sem,seval];refine hZ _ (pp (Wk_ret (pp ?_)));cases h;simp only [go_sem,seval];exact ⟨_,rfl,RokI.h,PureI.h⟩
 rw [hd6] at h;simp only [fb] at h;have hw5:=aY hi3' hl1;refine Ws fun Z hZ=>?_;simp only [go_sem,seval,hi3'];refine hZ _ (pp (Wk_seq ?_));try simp only [Int.ofNat_lt,hi3',if_true,if_false] at h
 refine aR rfl (ag (pp (Wk_seq (ak (Ws fun Z hZ=>?_)))));simp only [go_sem,seval];refine hZ _ (pp (Wk_seq ?_));try rw [gx_nat hx4] at h
 refine aa fun Z hZ=>?_;simp only [go_sem,seval,hx4,hi3'];refine hZ _ (pp (aQ rfl (fun hc7=>?_) (fun hc7=>?_)))
 ·have hc7d:=decide_eq_true hc7;rw [if_pos hc7] at h;refine Ws fun Z hZ=>?_;simp only [go_sem,seval,hc7d];refine hZ _ (pp (Wk_ret (pp ?_)));cases h;simp only [go_sem,seval];exact ⟨_,rfl,RokI.h,PureI.h⟩
 have hc7d:=decide_eq_false hc7;rw [if_neg hc7] at h;refine ag (pp (aa fun Z hZ=>?_));simp only [go_sem,seval,hw5,hc7d];refine hZ _ (pp ?_);first|refine ⟨(),?_,h⟩|refine ⟨hi3',(),?_,h⟩
 refine wr ?_ ?_<;>repeat' first|rfl|constructor
def lJ (N:Nat):FnS:=⟨[],true,fn2 (decL 1 (dec1 (decI .i64))) (decI .i64) fun q0 q1=>(iZ N q0 q1).map fun r=>.val (.int .i64 r),false⟩
attribute [go_sem] lJ
theorem su (N:Nat):FSOk Try.prog 76 (lJ N):=ok2 (fun q0 q1 r h=>by
 obtain ⟨r',hr,rfl⟩:=Option.map_eq_some_iff.1 h;exact u7 N q0 q1 r' hr) (fun h=>aq (br .i64) h) (ar)


noncomputable def oo (N d f:Nat):Option FnS:=glist [(7,76,lJ N)] d f
attribute [go_sem] oo
theorem sQ (N:Nat) (a0:(List Int)) (a1:Int) (r:Bool) (h:ff N a0 a1=some r):Con Try.prog 71 [] true [.sl false none 1 none (a0.map (rowI .i64)),.val (.int .i64 a1)] (.val (.bool r)):=by
 refine ay (G:=(oo N)) Try.func71 rfl (by decide) (by kernel_rfl) (gc 7 (su N) gn) [] mix (Nat.le_of_ble_eq_true rfl) ?_;simp only [Try.f71];unfold ff at h;refine Ws fun Z hZ=>?_;simp only [go_sem,seval];refine hZ _ (pp (Wk_seq ?_));obtain ⟨r1,hr1,h⟩:=Option.bind_eq_some_iff.1 h;refine aa fun Z hZ=>?_;simp only [go_sem,seval,hr1];refine hZ _ (pp (Wk_ret (pp ?_)));cases h;simp only [go_sem,seval];exact ⟨_,rfl,RokI.h,PureI.h⟩
def km (N:Nat):FnS:=⟨[],true,fn2 (decL 1 (dec1 (decI .i64))) (decI .i64) fun q0 q1=>(ff N q0 q1).map fun r=>.val (.bool r),false⟩
attribute [go_sem] km
theorem qB (N:Nat):FSOk Try.prog 71 (km N):=ok2 (fun q0 q1 r h=>by
 obtain ⟨r',hr,rfl⟩:=Option.map_eq_some_iff.1 h;exact sQ N q0 q1 r' hr) (fun h=>aq (br .i64) h) (ar)


theorem yq (N:Nat) (a0:Int) (r:Bool) (h:gM N a0=some r):Con Try.prog 27 [] true [.val (.int .i64 a0)] (.val (.bool r)):=by
 refine ay (G:=(glist [])) Try.func27 rfl (by decide) (by kernel_rfl) gn [] mix (Nat.le_of_ble_eq_true rfl) ?_;simp only [Try.f27];unfold gM at h;refine Ws fun Z hZ=>?_;simp only [go_sem,seval];refine hZ _ (pp (Ws fun Z hZ=>?_));simp only [go_sem,seval];refine ae rfl (fun hc1=>?_) (fun hc1=>?_)
 ·have hc1d:=decide_eq_true hc1;rw [if_pos hc1] at h;simp only [go_sem,seval,hc1d];refine hZ _ (pp (Wk_ret (pp ?_)));cases h;simp only [go_sem,seval];exact ⟨_,rfl,RokI.h,PureI.h⟩
 have hc1d:=decide_eq_false hc1;rw [if_neg hc1] at h;simp only [go_sem,seval,hc1d];refine hZ _ (pp (Wk_ret (pp ?_)));cases h;simp only [go_sem,seval];exact ⟨_,rfl,RokI.h,PureI.h⟩
def j7 (N:Nat):FnS:=⟨[],true,fn1 (decI .i64) fun q0=>(gM N q0).map fun r=>.val (.bool r),false⟩
attribute [go_sem] j7
theorem ma (N:Nat):FSOk Try.prog 27 (j7 N):=ok1 (fun q0 r h=>by
 obtain ⟨r',hr,rfl⟩:=Option.map_eq_some_iff.1 h;exact yq N q0 r' hr) (ar)


theorem vU (N:Nat) (a0:Value) (r:Bool) (h:gP N a0=some r):Con Try.prog 51 [] true [.agg (Value.row a0)] (.val (.bool r)):=by
 refine ay (G:=(glist [])) Try.func51 rfl (by decide) (by kernel_rfl) gn [] mix (Nat.le_of_ble_eq_true rfl) ?_;simp only [Try.f51];unfold gP at h;refine Ws fun Z hZ=>?_;simp only [go_sem,seval];refine hZ _ (pp (Wk_seq ?_));apply be (fun (c3:Bool)=>⟨tab 86 (updT (updT deadT 1 (.pref 1 [] 0 0)) 12 (.val (.bool c3))),(upd RZ 1 (.sl true none 5 (some 1) [Value.row a0]))⟩)
 ·intro hJ1;refine aa fun Z hZ=>?_;simp only [go_sem,seval];refine ae rfl (fun hc2=>?_) (fun hc2=>?_)
  ·have hc2d:=decide_eq_true hc2;rw [if_pos hc2] at h;simp only [go_sem,seval,hc2d];refine hZ _ (pp (hJ1 _ true ?_ h));refine wr ?_ ?_<;>repeat' first|rfl|constructor|simp only [go_sem,seval,Bool.or_self,List.length_set,Int.natCast_zero,Int.cast_ofNat_Int,hc2d]
  have hc2d:=decide_eq_false hc2;rw [if_neg hc2] at h;simp only [go_sem,seval,hc2d];refine hZ _ (pp (hJ1 _ (decide (5 < a0.Kind)) ?_ h));refine wr ?_ ?_<;>repeat' first|rfl|constructor|simp only [go_sem,seval,Bool.or_self,List.length_set,Int.natCast_zero,Int.cast_ofNat_Int,hc2d]
 intro c3 h;unfold jM at h;refine au rfl (fun hc3=>?_) (fun hc3=>?_)
 ·rw [if_pos hc3] at h;refine Ws fun Z hZ=>?_;simp only [go_sem,seval,hc3];refine hZ _ (pp (Wk_ret (pp ?_)));cases h;simp only [go_sem,seval];exact ⟨_,rfl,RokI.h,PureI.h⟩
 rw [if_neg (ne_true_of_eq_false hc3)] at h;refine ag (pp ?_);unfold jL at h;refine Wk_seq (ak ?_);apply be (fun (c12:Bool)=>⟨tab 86 (updT (updT deadT 1 (.pref 1 [] 0 0)) 13 (.val (.bool c12))),(upd RZ 1 (.sl true none 5 (some 1) [Value.row a0]))⟩)
 ·intro hJ4;refine aa fun Z hZ=>?_;simp only [go_sem,seval,hc3];refine sw (az rfl) (fun hc5=>?_) (fun hc5=>?_)
  ·have hc5d:=decide_eq_true hc5;rw [if_pos hc5] at h;simp only [go_sem,seval,hc5d];refine hZ _ (pp (hJ4 _ false ?_ h));refine wr ?_ ?_<;>repeat' first|rfl|constructor|simp only [go_sem,seval,Bool.or_self,List.length_set,Int.natCast_zero,Int.cast_ofNat_Int,hc3,hc5d]
  have hc5d:=decide_eq_false hc5;rw [if_neg hc5] at h;simp only [go_sem,seval,hc5d];refine sw (az rfl) (fun hc6=>?_) (fun hc6=>?_)
  ·have hc6d:=decide_eq_true hc6;rw [if_pos hc6] at h;simp only [go_sem,seval,hc6d];refine hZ _ (pp (hJ4 _ false ?_ h));refine wr ?_ ?_<;>repeat' first|rfl|constructor|simp only [go_sem,seval,Bool.or_self,List.length_set,Int.natCast_zero,Int.cast_ofNat_Int,hc3,hc5d,hc6d]
  have hc6d:=decide_eq_false hc6;rw [if_neg hc6] at h;simp only [go_sem,seval,hc6d];refine az rfl (fun hc7=>?_) (fun hc7=>?_)
  ·have hc7d:=decide_eq_false hc7;rw [if_neg hc7] at h;simp only [go_sem,seval,hc7d];refine hZ _ (pp (hJ4 _ true ?_ h));refine wr ?_ ?_<;>repeat' first|rfl|constructor|simp only [go_sem,seval,Bool.or_self,List.length_set,Int.natCast_zero,Int.cast_ofNat_Int,hc3,hc5d,hc6d,hc7d]
  have hc7d:=decide_eq_true hc7;rw [if_pos hc7] at h;simp only [go_sem,seval,hc7d];refine hZ _ (pp (hJ4 _ (!decide (a0.N=1)) ?_ h));refine wr ?_ ?_<;>repeat' first|rfl|constructor|simp only [go_sem,seval,Bool.or_self,List.length_set,Int.natCast_zero,Int.cast_ofNat_Int,hc3,hc5d,hc6d,hc7d]
 intro c12 h;unfold fA at h;refine au rfl (fun hc8=>?_) (fun hc8=>?_)
 ·rw [if_pos hc8] at h;refine Ws fun Z hZ=>?_;simp only [go_sem,seval,hc8];refine hZ _ (pp (Wk_ret (pp ?_)));cases h;simp only [go_sem,seval];exact ⟨_,rfl,RokI.h,PureI.h⟩
 rw [if_neg (ne_true_of_eq_false hc8)] at h;apply be (fun (c17:Bool)=>⟨tab 86 (updT (updT deadT 1 (.pref 1 [] 0 0)) 32 (.val (.bool c17))),(upd RZ 1 (.sl true none 5 (some 1) [Value.row a0]))⟩)
 ·intro hJ9;apply be (fun (c18:Bool)=>⟨tab 86 (updT (updT deadT 1 (.pref 1 [] 0 0)) 32 (.val (.bool c18))),(upd RZ 1 (.sl true none 5 (some 1) [Value.row a0]))⟩)
  ·intro hJ10;refine aa fun Z hZ=>?_;simp only [go_sem,seval,hc8];refine aw rfl (fun hc11=>?_) (fun hc11=>?_)
   ·rw [if_neg (ne_true_of_eq_false hc11)] at h;simp only [go_sem,seval,hc11];refine hZ _ (pp (hJ10 _ (!decide (a0.Kind=3)) ?_ h));refine wr ?_ ?_<;>repeat' first|rfl|constructor|simp only [go_sem,seval,Bool.or_self,List.length_set,Int.natCast_zero,Int.cast_ofNat_Int,hc3,hc8,hc11]
   rw [if_pos hc11] at h;simp only [go_sem,seval,hc11];refine hZ _ (pp (hJ10 _ false ?_ h));refine wr ?_ ?_<;>repeat' first|rfl|constructor|simp only [go_sem,seval,Bool.or_self,List.length_set,Int.natCast_zero,Int.cast_ofNat_Int,hc3,hc8,hc11]
  intro c18 h;unfold jS at h;refine au rfl (fun hc12=>?_) (fun hc12=>?_)
  ·rw [if_pos hc12] at h;refine ag (pp (hJ9 _ true ?_ h));refine wr ?_ ?_<;>repeat' first|rfl|constructor|simp only [go_sem,seval,hc12]
  rw [if_neg (ne_true_of_eq_false hc12)] at h;apply be (fun (c19:Bool)=>⟨tab 86 (updT (updT deadT 1 (.pref 1 [] 0 0)) 32 (.val (.bool c19))),(upd RZ 1 (.sl true none 5 (some 1) [Value.row a0]))⟩)
  ·intro hJ13;refine aa fun Z hZ=>?_;simp only [go_sem,seval,hc12];refine ae rfl (fun hc14=>?_) (fun hc14=>?_)
   ·have hc14d:=decide_eq_true hc14;rw [if_pos hc14] at h;simp only [go_sem,seval,hc14d];refine hZ _ (pp (hJ13 _ (!decide (a0.Kind=4)) ?_ h));refine wr ?_ ?_<;>repeat' first|rfl|constructor|simp only [go_sem,seval,Bool.or_self,List.length_set,Int.natCast_zero,Int.cast_ofNat_Int,hc3,hc8,hc12,hc14d]
   have hc14d:=decide_eq_false hc14;rw [if_neg hc14] at h;simp only [go_sem,seval,hc14d];refine hZ _ (pp (hJ13 _ false ?_ h));refine wr ?_ ?_<;>repeat' first|rfl|constructor|simp only [go_sem,seval,Bool.or_self,List.length_set,Int.natCast_zero,Int.cast_ofNat_Int,hc3,hc8,hc12,hc14d]
  intro c19 h;unfold jY at h;refine au rfl (fun hc15=>?_) (fun hc15=>?_)
  ·rw [if_pos hc15] at h;refine ag (pp (hJ9 _ true ?_ h));refine wr ?_ ?_<;>repeat' first|rfl|constructor|simp only [go_sem,seval,hc15]
  rw [if_neg (ne_true_of_eq_false hc15)] at h;refine aa fun Z hZ=>?_;simp only [go_sem,seval,hc15];refine ae rfl (fun hc16=>?_) (fun hc16=>?_)
  ·have hc16d:=decide_eq_true hc16;rw [if_pos hc16] at h;simp only [go_sem,seval,hc16d];refine hZ _ (pp (hJ9 _ (!decide (a0.Kind=5)) ?_ h));refine wr ?_ ?_<;>repeat' first|rfl|constructor|simp only [go_sem,seval,Bool.or_self,List.length_set,Int.natCast_zero,Int.cast_ofNat_Int,hc3,hc8,hc12,hc15,hc16d]
  have hc16d:=decide_eq_false hc16;rw [if_neg hc16] at h;simp only [go_sem,seval,hc16d];refine hZ _ (pp (hJ9 _ false ?_ h));refine wr ?_ ?_<;>repeat' first|rfl|constructor|simp only [go_sem,seval,Bool.or_self,List.length_set,Int.natCast_zero,Int.cast_ofNat_Int,hc3,hc8,hc12,hc15,hc16d]
 intro c17 h;unfold jE at h;refine au rfl (fun hc17=>?_) (fun hc17=>?_)
 ·rw [if_pos hc17] at h;refine Ws fun Z hZ=>?_;simp only [go_sem,seval,hc17];refine hZ _ (pp (Wk_ret (pp ?_)));cases h;simp only [go_sem,seval];exact ⟨_,rfl,RokI.h,PureI.h⟩
 rw [if_neg (ne_true_of_eq_false hc17)] at h;refine ag (pp ?_);unfold fG at h;refine Wk_seq ?_;apply be (fun (c22:Bool)=>⟨tab 86 (updT (updT deadT 1 (.pref 1 [] 0 0)) 74 (.val (.bool c22))),(upd RZ 1 (.sl true none 5 (some 1) [Value.row a0]))⟩)
 ·intro hJ18;refine aa fun Z hZ=>?_;simp only [go_sem,seval,hc17];refine ae rfl (fun hc19=>?_) (fun hc19=>?_)
  ·have hc19d:=decide_eq_true hc19;rw [if_pos hc19] at h;simp only [go_sem,seval,hc19d];refine hZ _ (pp (hJ18 _ true ?_ h));refine wr ?_ ?_<;>repeat' first|rfl|constructor|simp only [go_sem,seval,Bool.or_self,List.length_set,Int.natCast_zero,Int.cast_ofNat_Int,hc3,hc8,hc17,hc19d]
  have hc19d:=decide_eq_false hc19;rw [if_neg hc19] at h;simp only [go_sem,seval,hc19d];refine ae rfl (fun hc20=>?_) (fun hc20=>?_)
  ·have hc20d:=decide_eq_true hc20;rw [if_pos hc20] at h;simp only [go_sem,seval,hc20d];refine hZ _ (pp (hJ18 _ true ?_ h));refine wr ?_ ?_<;>repeat' first|rfl|constructor|simp only [go_sem,seval,Bool.or_self,List.length_set,Int.natCast_zero,Int.cast_ofNat_Int,hc3,hc8,hc17,hc19d,hc20d]
  have hc20d:=decide_eq_false hc20;rw [if_neg hc20] at h;simp only [go_sem,seval,hc20d];refine hZ _ (pp (hJ18 _ (decide (16 < ((a0.L.length:Nat):Int))) ?_ h));refine wr ?_ ?_<;>repeat' first|rfl|constructor|simp only [go_sem,seval,Bool.or_self,List.length_set,Int.natCast_zero,Int.cast_ofNat_Int,hc3,hc8,hc17,hc19d,hc20d]
 intro c22 h;unfold gI at h;refine au rfl (fun hc21=>?_) (fun hc21=>?_)
 ·rw [if_pos hc21] at h;refine Ws fun Z hZ=>?_;simp only [go_sem,seval,hc21];refine hZ _ (pp (Wk_ret (pp ?_)));cases h;simp only [go_sem,seval];exact ⟨_,rfl,RokI.h,PureI.h⟩
 rw [if_neg (ne_true_of_eq_false hc21)] at h;refine ag (pp ?_);unfold gL at h;refine Wk_seq (Ws fun Z hZ=>?_);simp only [go_sem,seval,hc21];refine hZ _ (pp (ak (bS fun hreal23=>?_)));have hl22:=hreal23.lenT 76 (by decide) (by simp only [go_sem,seval]; rfl);first|rw [List.length_map] at hl22|rw [bo] at hl22|rw [<-List.map_append,List.length_map] at hl22
 refine bJ (fun (v17:Nat) (b:Unit)=>⟨tab 86 (updT (updT (updT deadT 76 (.sl false none 1 none (a0.L.map rowS))) 77 (.val (.int .i64 ((a0.L.length:Nat):Int)))) 78 (.val (.int .i64 ((v17:Nat):Int)))),RZ⟩) () h ?_ ?_
 ·refine wr ?_ ?_<;>repeat' first|rfl|constructor|simp only [go_sem,seval,Bool.or_self,List.length_set,Int.natCast_zero,Int.cast_ofNat_Int,hc3,hc8,hc17,hc21]
 rintro v17 ⟨⟩ hi24 h -;rcases (aU a0.L v17 hi24).symm with ⟨hi24',_,hd27⟩|⟨x20,hi24',hx25,hd27⟩
 ·rw [hd27] at h;simp only [fF] at h;refine Ws fun Z hZ=>?_;simp only [go_sem,seval,hi24'];refine hZ _ (pp (Wk_seq ?_));try simp only [Int.ofNat_lt,hi24',if_true,if_false] at h
  refine aN rfl (ba (pp (Ws fun Z hZ=>?_)));simp only [go_sem,seval];refine hZ _ (pp (Wk_ret (pp ?_)));cases h;simp only [go_sem,seval];exact ⟨_,rfl,RokI.h,PureI.h⟩
 rw [hd27] at h;simp only [fF] at h;have hw26:=aY hi24' hl22;refine Ws fun Z hZ=>?_;simp only [go_sem,seval,hi24'];refine hZ _ (pp (Wk_seq ?_));try simp only [Int.ofNat_lt,hi24',if_true,if_false] at h
 refine aR rfl (ag (pp (Wk_seq (ak (Wk_seq ?_)))));try rw [gx_nat hx25] at h
 refine aa fun Z hZ=>?_;simp only [go_sem,seval,hx25,hi24'];refine hZ _ (pp (Ws fun Z hZ=>?_));simp only [go_sem,seval];refine hZ _ (pp (aQ rfl (fun hc28=>?_) (fun hc28=>?_)))
 ·have hc28d:=decide_eq_true hc28;rw [if_pos hc28] at h;refine Ws fun Z hZ=>?_;simp only [go_sem,seval,hc28d];refine hZ _ (pp (Wk_ret (pp ?_)));cases h;simp only [go_sem,seval];exact ⟨_,rfl,RokI.h,PureI.h⟩
 have hc28d:=decide_eq_false hc28;rw [if_neg hc28] at h;refine ag (pp (aa fun Z hZ=>?_));simp only [go_sem,seval,hw26,hc28d];refine hZ _ (pp ?_);first|refine ⟨(),?_,h⟩|refine ⟨hi24',(),?_,h⟩
 refine wr ?_ ?_<;>repeat' first|rfl|constructor|simp only [go_sem,seval,Bool.or_self,List.length_set,Int.natCast_zero,Int.cast_ofNat_Int,hc3,hc8,hc17,hc21,hx25,hi24',hw26,hc28d]
def me (N:Nat):FnS:=⟨[],true,fn1 Value.decA fun q0=>(gP N q0).map fun r=>.val (.bool r),false⟩
attribute [go_sem] me
theorem ta (N:Nat):FSOk Try.prog 51 (me N):=ok1 (fun q0 r h=>by
 obtain ⟨r',hr,rfl⟩:=Option.map_eq_some_iff.1 h;exact vU N q0 r' hr) (Value.decA_le)


noncomputable def qg (N d f:Nat):Option FnS:=glist [(5,26,jA N),(9,27,j7 N),(30,51,me N)] d f
attribute [go_sem] qg
theorem vB (N:Nat) (a0:Reply) (r:Bool) (h:eI N a0=some r):Con Try.prog 24 [] true [.agg (Reply.row a0)] (.val (.bool r)):=by
 refine ay (G:=(qg N)) Try.func24 rfl (by decide) (by kernel_rfl) (gc 5 (kX N) (gc 9 (ma N) (gc 30 (ta N) gn))) [] mix (Nat.le_of_ble_eq_true rfl) ?_;simp only [Try.f24];unfold eI at h;refine Ws fun Z hZ=>?_;simp only [go_sem,seval];refine hZ _ (pp (Wk_seq ?_));obtain ⟨r1,hr1,h⟩:=Option.bind_eq_some_iff.1 h;refine aa fun Z hZ=>?_;simp only [go_sem,seval,hr1];refine sw (bf rfl) (fun hc2=>?_) (fun hc2=>?_)
 ·rw [if_neg (ne_true_of_eq_false hc2)] at h;simp only [go_sem,seval,hc2];refine hZ _ (pp (Wk_ret (pp ?_)));cases h;simp only [go_sem,seval];exact ⟨_,rfl,RokI.h,PureI.h⟩
 rw [if_pos hc2] at h;obtain ⟨r2,hr3,h⟩:=Option.bind_eq_some_iff.1 h;simp only [go_sem,seval,hc2,hr3];refine sw (bf rfl) (fun hc4=>?_) (fun hc4=>?_)
 ·rw [if_neg (ne_true_of_eq_false hc4)] at h;simp only [go_sem,seval,hc4];refine hZ _ (pp (Wk_ret (pp ?_)));cases h;simp only [go_sem,seval];exact ⟨_,rfl,RokI.h,PureI.h⟩
 rw [if_pos hc4] at h;simp only [go_sem,seval,hc4];refine sw (ae rfl) (fun hc5=>?_) (fun hc5=>?_)
 ·have hc5d:=decide_eq_false hc5;rw [if_neg hc5] at h;simp only [go_sem,seval,hc5d];refine hZ _ (pp (Wk_ret (pp ?_)));cases h;simp only [go_sem,seval];exact ⟨_,rfl,RokI.h,PureI.h⟩
 have hc5d:=decide_eq_true hc5;rw [if_pos hc5] at h;simp only [go_sem,seval,hc5d];refine sw (ae rfl) (fun hc6=>?_) (fun hc6=>?_)
 ·have hc6d:=decide_eq_false hc6;rw [if_neg hc6] at h;simp only [go_sem,seval,hc6d];refine hZ _ (pp (Wk_ret (pp ?_)));cases h;simp only [go_sem,seval];exact ⟨_,rfl,RokI.h,PureI.h⟩
 have hc6d:=decide_eq_true hc6;rw [if_pos hc6] at h;simp only [go_sem,seval,hc6d];refine sw (ae rfl) (fun hc7=>?_) (fun hc7=>?_)
 ·have hc7d:=decide_eq_false hc7;rw [if_neg hc7] at h;simp only [go_sem,seval,hc7d];refine hZ _ (pp (Wk_ret (pp ?_)));cases h;simp only [go_sem,seval];exact ⟨_,rfl,RokI.h,PureI.h⟩
 have hc7d:=decide_eq_true hc7;rw [if_pos hc7] at h;obtain ⟨r3,hr8,h⟩:=Option.bind_eq_some_iff.1 h;simp only [go_sem,seval,hc7d,hr8];refine sw (bf rfl) (fun hc9=>?_) (fun hc9=>?_)
 ·rw [if_neg (ne_true_of_eq_false hc9)] at h;simp only [go_sem,seval,hc9];refine hZ _ (pp (Wk_ret (pp ?_)));cases h;simp only [go_sem,seval];exact ⟨_,rfl,RokI.h,PureI.h⟩
 rw [if_pos hc9] at h;simp only [go_sem,seval,hc9];refine ae rfl (fun hc10=>?_) (fun hc10=>?_)
 ·have hc10d:=decide_eq_true hc10;rw [if_pos hc10] at h;simp only [go_sem,seval,hc10d];refine hZ _ (pp (Wk_ret (pp ?_)));cases h;simp only [go_sem,seval];exact ⟨_,rfl,RokI.h,PureI.h⟩
 have hc10d:=decide_eq_false hc10;rw [if_neg hc10] at h;simp only [go_sem,seval,hc10d];refine hZ _ (pp (Wk_ret (pp ?_)));cases h;simp only [go_sem,seval];exact ⟨_,rfl,RokI.h,PureI.h⟩
def gb (N:Nat):FnS:=⟨[],true,fn1 Reply.decA fun q0=>(eI N q0).map fun r=>.val (.bool r),false⟩
attribute [go_sem] gb
theorem kv (N:Nat):FSOk Try.prog 24 (gb N):=ok1 (fun q0 r h=>by
 obtain ⟨r',hr,rfl⟩:=Option.map_eq_some_iff.1 h;exact vB N q0 r' hr) (Reply.decA_le)


noncomputable def pg (N d f:Nat):Option FnS:=glist [(10,26,jA N),(68,71,km N),(73,24,gb N)] d f
attribute [go_sem] pg
theorem uK (N:Nat) (a0:Client) (r:Bool) (h:fW N a0=some r):Con Try.prog 49 [] true [.agg (Client.row a0)] (.val (.bool r)):=by
 refine ay (G:=(pg N)) Try.func49 rfl (by decide) (by kernel_rfl) (gc 10 (kX N) (gc 68 (qB N) (gc 73 (kv N) gn))) [] mix (Nat.le_of_ble_eq_true rfl) ?_;simp only [Try.f49];unfold fW at h;refine Ws fun Z hZ=>?_;simp only [go_sem,seval];refine hZ _ (pp (Wk_seq ?_));apply be (fun (c5:Bool)=>⟨tab 95 (updT (updT deadT 1 (.pref 1 [] 0 0)) 31 (.val (.bool c5))),(upd RZ 1 (.sl true none 4 (some 1) [Client.row a0]))⟩)
 ·intro hJ1;obtain ⟨r6,hr2,h⟩:=Option.bind_eq_some_iff.1 h;refine aa fun Z hZ=>?_;simp only [go_sem,seval,hr2];refine aw rfl (fun hc3=>?_) (fun hc3=>?_)
  ·rw [if_neg (ne_true_of_eq_false hc3)] at h;simp only [go_sem,seval,hc3];refine hZ _ (pp (hJ1 _ true ?_ h));refine wr ?_ ?_<;>repeat' first|rfl|constructor
  rw [if_pos hc3] at h;simp only [go_sem,seval,hc3];refine ae rfl (fun hc4=>?_) (fun hc4=>?_)
  ·have hc4d:=decide_eq_true hc4;rw [if_pos hc4] at h;simp only [go_sem,seval,hc4d];refine hZ _ (pp (hJ1 _ true ?_ h));refine wr ?_ ?_<;>repeat' first|rfl|constructor
  have hc4d:=decide_eq_false hc4;rw [if_neg hc4] at h;simp only [go_sem,seval,hc4d];refine ae rfl (fun hc5=>?_) (fun hc5=>?_)
  ·have hc5d:=decide_eq_true hc5;rw [if_pos hc5] at h;simp only [go_sem,seval,hc5d];refine hZ _ (pp (hJ1 _ true ?_ h));refine wr ?_ ?_<;>repeat' first|rfl|constructor
  have hc5d:=decide_eq_false hc5;rw [if_neg hc5] at h;simp only [go_sem,seval,hc5d];refine hZ _ (pp (hJ1 _ (decide (16 < (IntKind.i64.wrap (((a0.Open.length:Nat):Int)+((a0.Done.length:Nat):Int))))) ?_ h));refine wr ?_ ?_<;>repeat' first|rfl|constructor
 intro c5 h;unfold eP at h;refine au rfl (fun hc6=>?_) (fun hc6=>?_)
 ·rw [if_pos hc6] at h;refine Ws fun Z hZ=>?_;simp only [go_sem,seval,hc6];refine hZ _ (pp (Wk_ret (pp ?_)));cases h;simp only [go_sem,seval];exact ⟨_,rfl,RokI.h,PureI.h⟩
 rw [if_neg (ne_true_of_eq_false hc6)] at h;refine ag (pp ?_);unfold eT at h;refine Ws fun Z hZ=>?_;simp only [go_sem,seval,hc6];refine hZ _ (pp (Wk_seq (Ws fun Z hZ=>?_)));simp only [go_sem,seval];refine hZ _ (pp (ak (bS fun hreal8=>?_)));have hl7:=hreal8.lenT 35 (by decide) (by simp only [go_sem,seval]; rfl);first|rw [List.length_map] at hl7|rw [bo] at hl7|rw [<-List.map_append,List.length_map] at hl7
 refine bJ (fun (v7:Nat) (b:Int)=>⟨tab 95 (updT (updT (updT (updT (updT deadT 1 (.pref 1 [] 0 0)) 3 (.val (.int .i64 b))) 35 (.sl false none 1 none (a0.Open.map (rowI .i64)))) 36 (.val (.int .i64 ((a0.Open.length:Nat):Int)))) 37 (.val (.int .i64 ((v7:Nat):Int)))),(upd RZ 1 (.sl true none 4 (some 1) [Client.row a0]))⟩) a0.Low h ?_ ?_
 ·refine wr ?_ ?_<;>repeat' first|rfl|constructor
 rintro v7 v6 hi9 h -;rcases (aU a0.Open v7 hi9) with ⟨x10,hi9',hx10,hd12⟩|⟨hi9',_,hd12⟩
 ·rw [hd12] at h;simp only [ef] at h;have hw11:=aY hi9' hl7;refine Ws fun Z hZ=>?_;simp only [go_sem,seval,hi9'];refine hZ _ (pp (Wk_seq ?_));try simp only [Int.ofNat_lt,hi9',if_true,if_false] at h
  refine aR rfl (ag (pp (Wk_seq (ak (Wk_seq ?_)))));try rw [gx_nat hx10] at h
  refine aa fun Z hZ=>?_;simp only [go_sem,seval,hx10,hi9'];refine hZ _ (pp (Wk_seq ?_));apply be (fun (c20:Bool)=>⟨tab 95 (updT (updT (updT (updT (updT (updT deadT 1 (.pref 1 [] 0 0)) 5 (.val (.int .i64 x10))) 35 (.sl false none 1 none (a0.Open.map (rowI .i64)))) 36 (.val (.int .i64 ((a0.Open.length:Nat):Int)))) 37 (.val (.int .i64 ((v7:Nat):Int)))) 47 (.val (.bool c20))),(upd RZ 1 (.sl true none 4 (some 1) [Client.row a0]))⟩)
  ·intro hJ13;refine aa fun Z hZ=>?_;simp only [go_sem,seval];refine ae rfl (fun hc14=>?_) (fun hc14=>?_)
   ·have hc14d:=decide_eq_true hc14;rw [if_pos hc14] at h;simp only [go_sem,seval,hc14d];refine hZ _ (pp (hJ13 _ true ?_ h));refine wr ?_ ?_<;>repeat' first|rfl|constructor
   have hc14d:=decide_eq_false hc14;rw [if_neg hc14] at h;simp only [go_sem,seval,hc14d];refine hZ _ (pp (hJ13 _ (decide (1099511627776 < x10)) ?_ h));refine wr ?_ ?_<;>repeat' first|rfl|constructor
  intro c20 h;unfold iA at h;refine au rfl (fun hc15=>?_) (fun hc15=>?_)
  ·rw [if_pos hc15] at h;refine Ws fun Z hZ=>?_;simp only [go_sem,seval,hc15];refine hZ _ (pp (Wk_ret (pp ?_)));cases h;simp only [go_sem,seval];exact ⟨_,rfl,RokI.h,PureI.h⟩
  rw [if_neg (ne_true_of_eq_false hc15)] at h;refine ag (pp ?_);unfold iw at h;refine aa fun Z hZ=>?_;simp only [go_sem,seval,hc15];refine hZ _ (pp (aa fun Z hZ=>?_));simp only [go_sem,seval,hw11];refine hZ _ (pp ?_);first|refine ⟨x10,?_,h⟩|refine ⟨hi9',x10,?_,h⟩
  refine wr ?_ ?_<;>repeat' first|rfl|constructor
 rw [hd12] at h;simp only [ef] at h;refine Ws fun Z hZ=>?_;simp only [go_sem,seval,hi9'];refine hZ _ (pp (Wk_seq ?_));try simp only [Int.ofNat_lt,hi9',if_true,if_false] at h
 refine aN rfl (ba (pp ?_));unfold kW at h;refine Ws fun Z hZ=>?_;simp only [go_sem,seval];refine hZ _ (pp (Wk_seq (Ws fun Z hZ=>?_)));simp only [go_sem,seval];refine hZ _ (pp (ak (bS fun hreal17=>?_)));have hl16:=hreal17.lenT 53 (by decide) (by simp only [go_sem,seval]; rfl);first|rw [List.length_map] at hl16|rw [bo] at hl16|rw [<-List.map_append,List.length_map] at hl16
 refine bJ (fun (v18:Nat) (b:Int)=>⟨tab 95 (updT (updT (updT (updT (updT deadT 1 (.pref 1 [] 0 0)) 3 (.val (.int .i64 b))) 53 (.sl false none 10 none (a0.Done.map Answer.row))) 54 (.val (.int .i64 ((a0.Done.length:Nat):Int)))) 55 (.val (.int .i64 ((v18:Nat):Int)))),(upd RZ 1 (.sl true none 4 (some 1) [Client.row a0]))⟩) a0.Low h ?_ ?_
 ·refine wr ?_ ?_<;>repeat' first|rfl|constructor
 rintro v18 v17 hi18 h -;rcases (aU a0.Done v18 hi18).symm with ⟨hi18',_,hd21⟩|⟨x21,hi18',hx19,hd21⟩
 ·rw [hd21] at h;simp only [bW] at h;refine Ws fun Z hZ=>?_;simp only [go_sem,seval,hi18'];refine hZ _ (pp (Wk_seq ?_));try simp only [Int.ofNat_lt,hi9',hi18',if_true,if_false] at h
  refine aN rfl (ba (pp (Ws fun Z hZ=>?_)));simp only [go_sem,seval];refine hZ _ (pp (Wk_ret (pp ?_)));cases h;simp only [go_sem,seval];exact ⟨_,rfl,RokI.h,PureI.h⟩
 rw [hd21] at h;simp only [bW] at h;have hw20:=aY hi18' hl16;refine Ws fun Z hZ=>?_;simp only [go_sem,seval,hi18'];refine hZ _ (pp (Wk_seq ?_));try simp only [Int.ofNat_lt,hi9',hi18',if_true,if_false] at h
 refine aR rfl (ag (pp (Wk_seq (ak (Wk_seq ?_)))));try rw [gx_nat hx19] at h
 refine aa fun Z hZ=>?_;simp only [go_sem,seval,hx19,hi18'];refine hZ _ (pp (Wk_seq ?_));apply be (fun (c27:Bool)=>⟨tab 95 (updT (updT (updT (updT (updT (updT deadT 1 (.pref 1 [] 0 0)) 7 (.pref 7 [] 0 0)) 53 (.sl false none 10 none (a0.Done.map Answer.row))) 54 (.val (.int .i64 ((a0.Done.length:Nat):Int)))) 55 (.val (.int .i64 ((v18:Nat):Int)))) 91 (.val (.bool c27))),(upd (upd RZ 1 (.sl true none 4 (some 1) [Client.row a0])) 7 (.sl true none 10 (some 1) [Answer.row x21]))⟩)
 ·intro hJ22;refine aa fun Z hZ=>?_;simp only [go_sem,seval];refine ae rfl (fun hc23=>?_) (fun hc23=>?_)
  ·have hc23d:=decide_eq_true hc23;rw [if_pos hc23] at h;simp only [go_sem,seval,hc23d];refine hZ _ (pp (hJ22 _ true ?_ h));refine wr ?_ ?_<;>repeat' first|rfl|constructor
  have hc23d:=decide_eq_false hc23;rw [if_neg hc23] at h;obtain ⟨r28,hr24,h⟩:=Option.bind_eq_some_iff.1 h;simp only [go_sem,seval,hc23d,hr24];refine bf rfl (fun hc25=>?_) (fun hc25=>?_)
  ·rw [if_pos hc25] at h;simp only [go_sem,seval,hc25];refine hZ _ (pp (hJ22 _ true ?_ h));refine wr ?_ ?_<;>repeat' first|rfl|constructor
  rw [if_neg (ne_true_of_eq_false hc25)] at h;obtain ⟨r29,hr26,h⟩:=Option.bind_eq_some_iff.1 h;simp only [go_sem,seval,hc25,hr26];refine aw rfl (fun hc27=>?_) (fun hc27=>?_)
  ·rw [if_neg (ne_true_of_eq_false hc27)] at h;simp only [go_sem,seval,hc27];refine hZ _ (pp (hJ22 _ true ?_ h));refine wr ?_ ?_<;>repeat' first|rfl|constructor
  rw [if_pos hc27] at h;simp only [go_sem,seval,hc27];refine aw rfl (fun hc28=>?_) (fun hc28=>?_)
  ·rw [if_neg (ne_true_of_eq_false hc28)] at h;simp only [go_sem,seval,hc28];refine hZ _ (pp (hJ22 _ true ?_ h));refine wr ?_ ?_<;>repeat' first|rfl|constructor
  rw [if_pos hc28] at h;simp only [go_sem,seval,hc28];refine hZ _ (pp (hJ22 _ (!decide (x21.Reply_.Seq=x21.Seq)) ?_ h));refine wr ?_ ?_<;>repeat' first|rfl|constructor
 intro c27 h;unfold ed at h;refine au rfl (fun hc29=>?_) (fun hc29=>?_)
 ·rw [if_pos hc29] at h;refine Ws fun Z hZ=>?_;simp only [go_sem,seval,hc29];refine hZ _ (pp (Wk_ret (pp ?_)));cases h;simp only [go_sem,seval];exact ⟨_,rfl,RokI.h,PureI.h⟩
 rw [if_neg (ne_true_of_eq_false hc29)] at h;refine ag (pp ?_);unfold ek at h;refine aa fun Z hZ=>?_;simp only [go_sem,seval,hc29];refine hZ _ (pp (aa fun Z hZ=>?_));simp only [go_sem,seval,hw20];refine hZ _ (pp ?_);first|refine ⟨x21.Seq,?_,h⟩|refine ⟨hi18',x21.Seq,?_,h⟩
 refine wr ?_ ?_<;>repeat' first|rfl|constructor
def kU (N:Nat):FnS:=⟨[],true,fn1 Client.decA fun q0=>(fW N q0).map fun r=>.val (.bool r),false⟩
attribute [go_sem] kU
theorem rE (N:Nat):FSOk Try.prog 49 (kU N):=ok1 (fun q0 r h=>by
 obtain ⟨r',hr,rfl⟩:=Option.map_eq_some_iff.1 h;exact uK N q0 r' hr) (Client.decA_le)


noncomputable def uH (N d f:Nat):Option FnS:=glist [(16,49,kU N)] d f
attribute [go_sem] uH
theorem zH (N:Nat) (a0:(List Client)) (r:Bool) (h:fg N a0=some r):Con Try.prog 22 [] true [.sl false none 4 none (a0.map Client.row)] (.val (.bool r)):=by
 refine ay (G:=(uH N)) Try.func22 rfl (by decide) (by kernel_rfl) (gc 16 (rE N) gn) [] mix (Nat.le_of_ble_eq_true rfl) ?_;simp only [Try.f22];unfold fg at h;refine Ws fun Z hZ=>?_;simp only [go_sem,seval];refine hZ _ (pp (Wk_seq (Ws fun Z hZ=>?_)));simp only [go_sem,seval];refine hZ _ (pp (aQ rfl (fun hc1=>?_) (fun hc1=>?_)))
 ·have hc1d:=decide_eq_true hc1;rw [if_pos hc1] at h;refine Ws fun Z hZ=>?_;simp only [go_sem,seval,hc1d];refine hZ _ (pp (Wk_ret (pp ?_)));cases h;simp only [go_sem,seval];exact ⟨_,rfl,RokI.h,PureI.h⟩
 have hc1d:=decide_eq_false hc1;rw [if_neg hc1] at h;refine ag (pp (Wk_seq (Ws fun Z hZ=>?_)));simp only [go_sem,seval,hc1d];refine hZ _ (pp (ak (bS fun hreal3=>?_)));have hl2:=hreal3.lenT 0 (by decide) (by simp only [go_sem,seval]; rfl);first|rw [List.length_map] at hl2|rw [bo] at hl2|rw [<-List.map_append,List.length_map] at hl2
 refine bJ (fun (v3:Nat) (b:Unit)=>⟨tab 34 (updT (updT (updT (updT deadT 0 (.sl false none 4 none (a0.map Client.row))) 8 (.sl false none 4 none (a0.map Client.row))) 9 (.val (.int .i64 ((a0.length:Nat):Int)))) 10 (.val (.int .i64 ((v3:Nat):Int)))),RZ⟩) () h ?_ ?_
 ·refine wr ?_ ?_<;>repeat' first|rfl|constructor
 rintro v3 ⟨⟩ hi4 h -;rcases (aU a0 v3 hi4).symm with ⟨hi4',_,hd7⟩|⟨x6,hi4',hx5,hd7⟩
 ·rw [hd7] at h;simp only [fC] at h;refine Ws fun Z hZ=>?_;simp only [go_sem,seval,hi4'];refine hZ _ (pp (Wk_seq ?_));try simp only [Int.ofNat_lt,hi4',if_true,if_false] at h
  refine aN rfl (ba (pp (Ws fun Z hZ=>?_)));simp only [go_sem,seval];refine hZ _ (pp (Wk_ret (pp ?_)));cases h;simp only [go_sem,seval];exact ⟨_,rfl,RokI.h,PureI.h⟩
 rw [hd7] at h;simp only [fC] at h;have hw6:=aY hi4' hl2;refine Ws fun Z hZ=>?_;simp only [go_sem,seval,hi4'];refine hZ _ (pp (Wk_seq ?_));try simp only [Int.ofNat_lt,hi4',if_true,if_false] at h
 refine aR rfl (ag (pp (Wk_seq (ak (Wk_seq ?_)))));try rw [gx_nat hx5] at h
 refine aa fun Z hZ=>?_;simp only [go_sem,seval,hx5,hi4'];refine hZ _ (pp ?_);apply be (fun (c3:Bool)=>⟨tab 34 (updT (updT (updT (updT (updT deadT 0 (.sl false none 4 none (a0.map Client.row))) 8 (.sl false none 4 none (a0.map Client.row))) 9 (.val (.int .i64 ((a0.length:Nat):Int)))) 10 (.val (.int .i64 ((v3:Nat):Int)))) 32 (.val (.bool c3))),RZ⟩)
 ·intro hJ8;obtain ⟨r4,hr9,h⟩:=Option.bind_eq_some_iff.1 h;refine dc fun Z hZ=>?_;simp only [go_sem,seval,hr9];repeat with_reducible refine bN (by kernel_rfl) ?_
  refine aw rfl (fun hc10=>?_) (fun hc10=>?_)
  ·rw [if_neg (ne_true_of_eq_false hc10)] at h;simp only [go_sem,seval,hc10];refine hZ _ (by kernel_rfl) (pp (hJ8 _ true ?_ h));refine wr ?_ ?_<;>repeat' first|rfl|constructor
  rw [if_pos hc10] at h;simp only [go_sem,seval,hc10];refine ae rfl (fun hc11=>?_) (fun hc11=>?_)
  ·have hc11d:=decide_eq_true hc11;rw [if_pos hc11] at h;obtain ⟨x5,hb12,hx13,h⟩:=da h;simp only [go_sem,seval,hc11d,hb12,hx13];refine hZ _ (by kernel_rfl) (pp (hJ8 _ (!(sLt x5.Name x6.Name)) ?_ h));refine wr ?_ ?_<;>repeat' first|rfl|constructor
  have hc11d:=decide_eq_false hc11;rw [if_neg hc11] at h;simp only [go_sem,seval,hc11d];refine hZ _ (by kernel_rfl) (pp (hJ8 _ false ?_ h));refine wr ?_ ?_<;>repeat' first|rfl|constructor
 intro c3 h;unfold kG at h;refine au rfl (fun hc14=>?_) (fun hc14=>?_)
 ·rw [if_pos hc14] at h;refine Ws fun Z hZ=>?_;simp only [go_sem,seval,hc14];refine hZ _ (pp (Wk_ret (pp ?_)));cases h;simp only [go_sem,seval];exact ⟨_,rfl,RokI.h,PureI.h⟩
 rw [if_neg (ne_true_of_eq_false hc14)] at h;refine ag (pp (aa fun Z hZ=>?_));simp only [go_sem,seval,hw6,hc14];refine hZ _ (pp ?_);first|refine ⟨(),?_,h⟩|refine ⟨hi4',(),?_,h⟩
 refine wr ?_ ?_<;>repeat' first|rfl|constructor
def gp (N:Nat):FnS:=⟨[],true,fn1 (decL 4 Client.dec) fun q0=>(fg N q0).map fun r=>.val (.bool r),false⟩
attribute [go_sem] gp
theorem iu (N:Nat):FSOk Try.prog 22 (gp N):=ok1 (fun q0 r h=>by
 obtain ⟨r',hr,rfl⟩:=Option.map_eq_some_iff.1 h;exact zH N q0 r' hr) (fun h=>aq Client.dec_le h)


theorem s3 (N:Nat) (a0:(List Int)) (r:(List Int)) (h:dD N a0=some r):Con Try.prog 56 [] true [.sl false (some false) 1 none (a0.map (rowI .i64))] (.sl true none 1 none (r.map (rowI .i64))):=by
 refine ay (G:=(glist [])) Try.func56 rfl (by decide) (by kernel_rfl) gn [] mix (Nat.le_of_ble_eq_true rfl) ?_;simp only [Try.f56];unfold dD at h;refine Ws fun Z hZ=>?_;simp only [go_sem,seval];refine hZ _ (pp (Wk_seq (Ws fun Z hZ=>?_)));simp only [go_sem,seval];refine hZ _ (pp (aN rfl ?_));first|rw [if_pos (rfl:true=true)] at h|rw [if_neg Bool.false_ne_true] at h|skip
 refine ag (pp (Wk_seq ?_));first|obtain ⟨ha1,h⟩:=tK h|(obtain ⟨ha1,h⟩:=fy h; rw [List.nil_append] at h)
 simp only [Nat.reduceAdd] at ha1;refine aa fun Z hZ=>?_;simp only [go_sem,seval,ha1];refine hZ _ (pp (Wk_ret (pp ?_)));cases h;simp only [go_sem,seval];exact ⟨_,rfl,RokI.h,PureI.h⟩
theorem sG (N:Nat)  (r:(List Int)) (h:dD N []=some r):Con Try.prog 56 [] true [.val (.slice none 0 0)] (.sl true none 1 none (r.map (rowI .i64))):=by
 refine ay (G:=(glist [])) Try.func56 rfl (by decide) (by kernel_rfl) gn [] mix (Nat.le_of_ble_eq_true rfl) ?_;simp only [Try.f56];unfold dD at h;refine Ws fun Z hZ=>?_;simp only [go_sem,seval];refine hZ _ (pp (Wk_seq (Ws fun Z hZ=>?_)));simp only [go_sem,seval];refine hZ _ (pp (aR rfl ?_));first|rw [if_pos (rfl:true=true)] at h|rw [if_neg Bool.false_ne_true] at h|skip
 refine Ws fun Z hZ=>?_;simp only [go_sem,seval];refine hZ _ (pp (Wk_ret (pp ?_)));obtain rfl:r=[]:=by simpa [apn] using h.symm
 simp only [go_sem,seval];exact ⟨_,rfl,RokI.h,PureI.h⟩
theorem qi (N:Nat) (a0:(List Int)) (r:(List Int)) (h:dD N a0=some r):Con Try.prog 56 [] true [.sl false none 1 none (a0.map (rowI .i64))] (.sl true none 1 none (r.map (rowI .i64))):=
 Con_nl (fun e=>by obtain rfl:a0=[]:=List.map_eq_nil_iff.1 e; exact sG N r h) (s3 N a0 r h)
def pk (N:Nat):FnS:=⟨[],true,fn1 (decL 1 (dec1 (decI .i64))) fun q0=>(dD N q0).map fun r=>.sl false none 1 none (r.map (rowI .i64)),false⟩
attribute [go_sem] pk
theorem BF (N:Nat):FSOk Try.prog 56 (pk N):=ok1 (fun q0 r h=>by
 obtain ⟨r',hr,rfl⟩:=Option.map_eq_some_iff.1 h;exact (qi N q0 r' hr).res (by (try simp only [go_sem]); exact RokI.h)) (fun h=>aq (br .i64) h)

def iy (N:Nat):FnS:=⟨[],true,fn1 (decL 1 (dec1 (decI .i64))) fun q0=>(dD N q0).map fun r=>.sl true none 1 none (r.map (rowI .i64)),false⟩
attribute [go_sem] iy
theorem mK (N:Nat):FSOk Try.prog 56 (iy N):=ok1 (fun q0 r h=>by
 obtain ⟨r',hr,rfl⟩:=Option.map_eq_some_iff.1 h;exact qi N q0 r' hr) (fun h=>aq (br .i64) h)


theorem qU (N:Nat) (a0:(List ByteArray)) (r:(List ByteArray)) (h:dE N a0=some r):Con Try.prog 67 [] true [.sl false (some false) 1 none (a0.map rowS)] (.sl true none 1 none (r.map rowS)):=by
 refine ay (G:=(glist [])) Try.func67 rfl (by decide) (by kernel_rfl) gn [] mix (Nat.le_of_ble_eq_true rfl) ?_;simp only [Try.f67];unfold dE at h;refine Ws fun Z hZ=>?_;simp only [go_sem,seval];refine hZ _ (pp (Wk_seq (Ws fun Z hZ=>?_)));simp only [go_sem,seval];refine hZ _ (pp (aN rfl ?_));first|rw [if_pos (rfl:true=true)] at h|rw [if_neg Bool.false_ne_true] at h|skip
 refine ag (pp (Wk_seq ?_));first|obtain ⟨ha1,h⟩:=tK h|(obtain ⟨ha1,h⟩:=fy h; rw [List.nil_append] at h)
 simp only [Nat.reduceAdd] at ha1;refine aa fun Z hZ=>?_;simp only [go_sem,seval,ha1];refine hZ _ (pp (Wk_ret (pp ?_)));cases h;simp only [go_sem,seval];exact ⟨_,rfl,RokI.h,PureI.h⟩
theorem qJ (N:Nat)  (r:(List ByteArray)) (h:dE N []=some r):Con Try.prog 67 [] true [.val (.slice none 0 0)] (.sl true none 1 none (r.map rowS)):=by
 refine ay (G:=(glist [])) Try.func67 rfl (by decide) (by kernel_rfl) gn [] mix (Nat.le_of_ble_eq_true rfl) ?_;simp only [Try.f67];unfold dE at h;refine Ws fun Z hZ=>?_;simp only [go_sem,seval];refine hZ _ (pp (Wk_seq (Ws fun Z hZ=>?_)));simp only [go_sem,seval];refine hZ _ (pp (aR rfl ?_));first|rw [if_pos (rfl:true=true)] at h|rw [if_neg Bool.false_ne_true] at h|skip
 refine Ws fun Z hZ=>?_;simp only [go_sem,seval];refine hZ _ (pp (Wk_ret (pp ?_)));obtain rfl:r=[]:=by simpa [apn] using h.symm
 simp only [go_sem,seval];exact ⟨_,rfl,RokI.h,PureI.h⟩
theorem ow (N:Nat) (a0:(List ByteArray)) (r:(List ByteArray)) (h:dE N a0=some r):Con Try.prog 67 [] true [.sl false none 1 none (a0.map rowS)] (.sl true none 1 none (r.map rowS)):=
 Con_nl (fun e=>by obtain rfl:a0=[]:=List.map_eq_nil_iff.1 e; exact qJ N r h) (qU N a0 r h)
def mQ (N:Nat):FnS:=⟨[],true,fn1 (decL 1 (dec1 decS)) fun q0=>(dE N q0).map fun r=>.sl false none 1 none (r.map rowS),false⟩
attribute [go_sem] mQ
theorem zW (N:Nat):FSOk Try.prog 67 (mQ N):=ok1 (fun q0 r h=>by
 obtain ⟨r',hr,rfl⟩:=Option.map_eq_some_iff.1 h;exact (ow N q0 r' hr).res (by (try simp only [go_sem]); exact RokI.h)) (fun h=>aq ki h)

def jm (N:Nat):FnS:=⟨[],true,fn1 (decL 1 (dec1 decS)) fun q0=>(dE N q0).map fun r=>.sl true none 1 none (r.map rowS),false⟩
attribute [go_sem] jm
theorem qv (N:Nat):FSOk Try.prog 67 (jm N):=ok1 (fun q0 r h=>by
 obtain ⟨r',hr,rfl⟩:=Option.map_eq_some_iff.1 h;exact ow N q0 r' hr) (fun h=>aq ki h)


noncomputable def qh (N d f:Nat):Option FnS:=glist [(7,56,iy N),(11,67,jm N)] d f
attribute [go_sem] qh
theorem qb (N:Nat) (a0:Reply) (r:Reply) (h:ei N a0=some r):Con Try.prog 40 [] true [.agg (Reply.row a0)] (.agg [.val (.string r.Client_),.val (.int .i64 r.Seq),.sl false none 1 none (r.Path.map (rowI .i64)),.val (.int .i64 r.Err),.val (.int .i64 r.Value_.Kind),.val (.int .i64 r.Value_.N),.val (.string r.Value_.S),.sl true none 1 none (r.Value_.I.map (rowI .i64)),.sl true none 1 none (r.Value_.L.map rowS)]):=by
 refine ay (G:=(qh N)) Try.func40 rfl (by decide) (by kernel_rfl) (gc 7 (mK N) (gc 11 (qv N) gn)) [] mix (Nat.le_of_ble_eq_true rfl) ?_;simp only [Try.f40];unfold ei at h;refine Ws fun Z hZ=>?_;simp only [go_sem,seval];refine hZ _ (pp (Ws fun Z hZ=>?_));simp only [go_sem,seval];refine hZ _ (pp (Wk_seq ?_));obtain ⟨r1,hr1,h⟩:=Option.bind_eq_some_iff.1 h;obtain ⟨r2,hr2,h⟩:=Option.bind_eq_some_iff.1 h;refine dc fun Z hZ=>?_;simp only [go_sem,seval,hr1,hr2];repeat with_reducible refine bN (by kernel_rfl) ?_
 refine hZ _ (by kernel_rfl) (pp (Ws fun Z hZ=>?_));simp only [go_sem,seval];refine hZ _ (pp (Wk_ret (pp ?_)));cases h;simp only [go_sem,seval];exact ⟨_,rfl,RokI.h,PureI.h⟩
def jg (N:Nat):FnS:=⟨[],true,fn1 Reply.decA fun q0=>(ei N q0).map fun r=>.agg (Reply.row r),false⟩
attribute [go_sem] jg
theorem mR (N:Nat):FSOk Try.prog 40 (jg N):=ok1 (fun q0 r h=>by
 obtain ⟨r',hr,rfl⟩:=Option.map_eq_some_iff.1 h;exact (qb N q0 r' hr).res (by (try simp only [go_sem]); exact RokI.h)) (Reply.decA_le)

def lg (N:Nat):FnS:=⟨[],true,fn1 Reply.decA fun q0=>(ei N q0).map fun r=>.agg [.val (.string r.Client_),.val (.int .i64 r.Seq),.sl false none 1 none (r.Path.map (rowI .i64)),.val (.int .i64 r.Err),.val (.int .i64 r.Value_.Kind),.val (.int .i64 r.Value_.N),.val (.string r.Value_.S),.sl true none 1 none (r.Value_.I.map (rowI .i64)),.sl true none 1 none (r.Value_.L.map rowS)],false⟩
attribute [go_sem] lg
theorem rI (N:Nat):FSOk Try.prog 40 (lg N):=ok1 (fun q0 r h=>by
 obtain ⟨r',hr,rfl⟩:=Option.map_eq_some_iff.1 h;exact qb N q0 r' hr) (Reply.decA_le)


noncomputable def sZ (N d f:Nat):Option FnS:=glist [(15,22,gp N),(58,40,lg N)] d f
attribute [go_sem] sZ
theorem tu (N:Nat) (a0:(List Client)) (a1:ByteArray) (a2:Int) (r:Int × Reply) (h:fm N a0 a1 a2=some r):Con Try.prog 44 [] false [.sl false none 4 none (a0.map Client.row),.val (.string a1),.val (.int .i64 a2)] (.tup [.val (.int .i64 r.1),.agg [.val (.string r.2.Client_),.val (.int .i64 r.2.Seq),.sl false none 1 none (r.2.Path.map (rowI .i64)),.val (.int .i64 r.2.Err),.val (.int .i64 r.2.Value_.Kind),.val (.int .i64 r.2.Value_.N),.val (.string r.2.Value_.S),.sl true none 1 none (r.2.Value_.I.map (rowI .i64)),.sl true none 1 none (r.2.Value_.L.map rowS)]]):=by
 refine ay (G:=(sZ N)) Try.func44 rfl (by decide) (by kernel_rfl) (gc 15 (iu N) (gc 58 (rI N) gn)) [] mix (Nat.le_of_ble_eq_true rfl) ?_;simp only [Try.f44];unfold fm at h;refine Ws fun Z hZ=>?_;simp only [go_sem,seval];refine hZ _ (pp (Fb (Wk_seq (Wk_seq ?_))));obtain ⟨r1,hr1,h⟩:=Option.bind_eq_some_iff.1 h;refine aa fun Z hZ=>?_;simp only [go_sem,seval,hr1];refine hZ _ (pp (de rfl (fun hc2=>?_) (fun hc2=>?_)))
 ·rw [if_neg (ne_true_of_eq_false hc2)] at h;refine Ws fun Z hZ=>?_;simp only [go_sem,seval,hc2];refine hZ _ (pp (Wk_ret (pp ?_)));cases h;simp only [go_sem,seval];exact ⟨_,rfl,RokI.h⟩
 rw [if_pos hc2] at h;refine ag (pp (Wk_seq (Ej (pp (Wk_seq (Ws fun Z hZ=>?_))))));simp only [go_sem,seval,hc2];refine hZ _ (pp (ak (bS fun hreal4=>?_)));have hl3:=hreal4.lenT 0 (by decide) (by simp only [go_sem,seval]; rfl);first|rw [List.length_map] at hl3|rw [bo] at hl3|rw [<-List.map_append,List.length_map] at hl3
 refine bJ (fun (v4:Nat) (b:Unit)=>⟨tab 62 (updT (updT (updT (updT (updT (updT deadT 1 (.val (.string a1))) 2 (.val (.int .i64 a2))) 7 (.pref 7 [] 0 0)) 18 (.sl false none 4 none (a0.map Client.row))) 19 (.val (.int .i64 ((a0.length:Nat):Int)))) 20 (.val (.int .i64 ((v4:Nat):Int)))),(upd RZ 7 (.sl true none 9 (some 1) [[.val (.string (⟨#[]⟩)),.val (.int .i64 0),.val (.slice none 0 0),.val (.int .i64 0),.val (.int .i64 0),.val (.int .i64 0),.val (.string (⟨#[]⟩)),.val (.slice none 0 0),.val (.slice none 0 0)]]))⟩) () h ?_ ?_
 ·refine wr ?_ ?_<;>repeat' first|rfl|constructor
 rintro v4 ⟨⟩ hi5 h -;rcases (aU a0 v4 hi5).symm with ⟨hi5',_,hd8⟩|⟨x7,hi5',hx6,hd8⟩
 ·rw [hd8] at h;simp only [gQ] at h;refine Ws fun Z hZ=>?_;simp only [go_sem,seval,hi5'];refine hZ _ (pp (Wk_seq ?_));try simp only [Int.ofNat_lt,hi5',if_true,if_false] at h
  refine aN rfl (ba (pp (Ws fun Z hZ=>?_)));simp only [go_sem,seval];refine hZ _ (pp (Wk_ret (pp ?_)));cases h;simp only [go_sem,seval];exact ⟨_,rfl,RokI.h⟩
 rw [hd8] at h;simp only [gQ] at h;have hw7:=aY hi5' hl3;refine Ws fun Z hZ=>?_;simp only [go_sem,seval,hi5'];refine hZ _ (pp (Wk_seq ?_));try simp only [Int.ofNat_lt,hi5',if_true,if_false] at h
 refine aR rfl (ag (pp (Wk_seq (ak (Wk_seq ?_)))));try rw [gx_nat hx6] at h
 refine aa fun Z hZ=>?_;simp only [go_sem,seval,hx6,hi5'];refine hZ _ (pp (Wk_seq (Ws fun Z hZ=>?_)));simp only [go_sem,seval];refine hZ _ (pp (de rfl (fun hc9=>?_) (fun hc9=>?_)))
 ·rw [if_neg (ne_true_of_eq_false hc9)] at h;refine ba (pp (aa fun Z hZ=>?_));simp only [go_sem,seval,hw7,hc9];refine hZ _ (pp ?_);first|refine ⟨(),?_,h⟩|refine ⟨hi5',(),?_,h⟩
  refine wr ?_ ?_<;>repeat' first|rfl|constructor
 rw [if_pos hc9] at h;refine ag (pp (Wk_seq (Ws fun Z hZ=>?_)));simp only [go_sem,seval,hc9];refine hZ _ (pp (aQ rfl (fun hc10=>?_) (fun hc10=>?_)))
 ·have hc10d:=decide_eq_true hc10;rw [if_pos hc10] at h;refine Ws fun Z hZ=>?_;simp only [go_sem,seval,hc10d];refine hZ _ (pp (Wk_ret (pp ?_)));cases h;simp only [go_sem,seval];exact ⟨_,rfl,RokI.h⟩
 have hc10d:=decide_eq_false hc10;rw [if_neg hc10] at h;refine ag (pp (Wk_seq (Ws fun Z hZ=>?_)));simp only [go_sem,seval,hc10d];refine hZ _ (pp (ak (bS fun hreal12=>?_)));have hl11:=hreal12.lenT 34 (by decide) (by simp only [go_sem,seval]; rfl);first|rw [List.length_map] at hl11|rw [bo] at hl11|rw [<-List.map_append,List.length_map] at hl11
 refine bJ (fun (v13:Nat) (b:Unit)=>⟨tab 62 (updT (updT (updT (updT (updT (updT deadT 2 (.val (.int .i64 a2))) 7 (.pref 7 [] 0 0)) 9 (.pref 9 [] 0 0)) 34 (.sl false none 1 none (x7.Open.map (rowI .i64)))) 35 (.val (.int .i64 ((x7.Open.length:Nat):Int)))) 36 (.val (.int .i64 ((v13:Nat):Int)))),(upd (upd RZ 7 (.sl true none 9 (some 1) [[.val (.string (⟨#[]⟩)),.val (.int .i64 0),.val (.slice none 0 0),.val (.int .i64 0),.val (.int .i64 0),.val (.int .i64 0),.val (.string (⟨#[]⟩)),.val (.slice none 0 0),.val (.slice none 0 0)]])) 9 (.sl true none 4 (some 1) [Client.row x7]))⟩) () h ?_ ?_
 ·refine wr ?_ ?_<;>repeat' first|rfl|constructor
 rintro v13 ⟨⟩ hi13 h -;rcases (aU x7.Open v13 hi13) with ⟨x16,hi13',hx14,hd16⟩|⟨hi13',_,hd16⟩
 ·rw [hd16] at h;simp only [fL] at h;have hw15:=aY hi13' hl11;refine Ws fun Z hZ=>?_;simp only [go_sem,seval,hi13'];refine hZ _ (pp (Wk_seq ?_));try simp only [Int.ofNat_lt,hi5',hi13',if_true,if_false] at h
  refine aR rfl (ag (pp (Wk_seq (ak (Wk_seq ?_)))));try rw [gx_nat hx14] at h
  refine aa fun Z hZ=>?_;simp only [go_sem,seval,hx14,hi13'];refine hZ _ (pp (Ws fun Z hZ=>?_));simp only [go_sem,seval];refine hZ _ (pp (aQ rfl (fun hc17=>?_) (fun hc17=>?_)))
  ·have hc17d:=decide_eq_true hc17;rw [if_pos hc17] at h;refine Ws fun Z hZ=>?_;simp only [go_sem,seval,hc17d];refine hZ _ (pp (Wk_ret (pp ?_)));cases h;simp only [go_sem,seval];exact ⟨_,rfl,RokI.h⟩
  have hc17d:=decide_eq_false hc17;rw [if_neg hc17] at h;refine ag (pp (aa fun Z hZ=>?_));simp only [go_sem,seval,hw15,hc17d];refine hZ _ (pp ?_);first|refine ⟨(),?_,h⟩|refine ⟨hi13',(),?_,h⟩
  refine wr ?_ ?_<;>repeat' first|rfl|constructor
 rw [hd16] at h;simp only [fL] at h;refine Ws fun Z hZ=>?_;simp only [go_sem,seval,hi13'];refine hZ _ (pp (Wk_seq ?_));try simp only [Int.ofNat_lt,hi5',hi13',if_true,if_false] at h
 refine aN rfl (ba (pp ?_));unfold oI at h;refine Wk_seq (Ws fun Z hZ=>?_);simp only [go_sem,seval];refine hZ _ (pp (ak (bS fun hreal19=>?_)));have hl18:=hreal19.lenT 46 (by decide) (by simp only [go_sem,seval]; rfl);first|rw [List.length_map] at hl18|rw [bo] at hl18|rw [<-List.map_append,List.length_map] at hl18
 refine bJ (fun (v20:Nat) (b:Unit)=>⟨tab 62 (updT (updT (updT (updT (updT deadT 2 (.val (.int .i64 a2))) 7 (.pref 7 [] 0 0)) 46 (.sl false none 10 none (x7.Done.map Answer.row))) 47 (.val (.int .i64 ((x7.Done.length:Nat):Int)))) 48 (.val (.int .i64 ((v20:Nat):Int)))),(upd RZ 7 (.sl true none 9 (some 1) [[.val (.string (⟨#[]⟩)),.val (.int .i64 0),.val (.slice none 0 0),.val (.int .i64 0),.val (.int .i64 0),.val (.int .i64 0),.val (.string (⟨#[]⟩)),.val (.slice none 0 0),.val (.slice none 0 0)]]))⟩) () h ?_ ?_
 ·refine wr ?_ ?_<;>repeat' first|rfl|constructor
 rintro v20 ⟨⟩ hi20 h -;rcases (aU x7.Done v20 hi20).symm with ⟨hi20',_,hd23⟩|⟨x23,hi20',hx21,hd23⟩
 ·rw [hd23] at h;simp only [gV] at h;refine Ws fun Z hZ=>?_;simp only [go_sem,seval,hi20'];refine hZ _ (pp (Wk_seq ?_));try simp only [Int.ofNat_lt,hi5',hi13',hi20',if_true,if_false] at h
  refine aN rfl (ba (pp ?_));unfold oO at h;refine ba (pp (Ws fun Z hZ=>?_));simp only [go_sem,seval];refine hZ _ (pp (Wk_ret (pp ?_)));cases h;simp only [go_sem,seval];exact ⟨_,rfl,RokI.h⟩
 rw [hd23] at h;simp only [gV] at h;have hw22:=aY hi20' hl18;refine Ws fun Z hZ=>?_;simp only [go_sem,seval,hi20'];refine hZ _ (pp (Wk_seq ?_));try simp only [Int.ofNat_lt,hi5',hi13',hi20',if_true,if_false] at h
 refine aR rfl (ag (pp (Wk_seq (ak (Wk_seq ?_)))));try rw [gx_nat hx21] at h
 refine aa fun Z hZ=>?_;simp only [go_sem,seval,hx21,hi20'];refine hZ _ (pp (Ws fun Z hZ=>?_));simp only [go_sem,seval];refine hZ _ (pp (aQ rfl (fun hc24=>?_) (fun hc24=>?_)))
 ·have hc24d:=decide_eq_true hc24;rw [if_pos hc24] at h;refine Wk_seq ?_;obtain ⟨r15,hr25,h⟩:=Option.bind_eq_some_iff.1 h;refine aa fun Z hZ=>?_;simp only [go_sem,seval,hc24d,hr25];refine hZ _ (pp (Wk_ret (pp ?_)));cases h;simp only [go_sem,seval];exact ⟨_,rfl,RokI.h⟩
 have hc24d:=decide_eq_false hc24;rw [if_neg hc24] at h;refine ag (pp (aa fun Z hZ=>?_));simp only [go_sem,seval,hw22,hc24d];refine hZ _ (pp ?_);first|refine ⟨(),?_,h⟩|refine ⟨hi20',(),?_,h⟩
 refine wr ?_ ?_<;>repeat' first|rfl|constructor
def lM (N:Nat):FnS:=⟨[],false,fn3 (decL 4 Client.dec) decS (decI .i64) fun q0 q1 q2=>(fm N q0 q1 q2).map fun r=>.tup [.val (.int .i64 r.1),.agg (Reply.row r.2)],false⟩
attribute [go_sem] lM
theorem p9 (N:Nat):FSOk Try.prog 44 (lM N):=ok3 (fun q0 q1 q2 r h=>by
 obtain ⟨r',hr,rfl⟩:=Option.map_eq_some_iff.1 h;exact (tu N q0 q1 q2 r' hr).res (by (try simp only [go_sem]); exact RokI.h)) (fun h=>aq Client.dec_le h) (aW) (ar)

def rB (N:Nat):FnS:=⟨[],false,fn3 (decL 4 Client.dec) decS (decI .i64) fun q0 q1 q2=>(fm N q0 q1 q2).map fun r=>.tup [.val (.int .i64 r.1),.agg [.val (.string r.2.Client_),.val (.int .i64 r.2.Seq),.sl false none 1 none (r.2.Path.map (rowI .i64)),.val (.int .i64 r.2.Err),.val (.int .i64 r.2.Value_.Kind),.val (.int .i64 r.2.Value_.N),.val (.string r.2.Value_.S),.sl true none 1 none (r.2.Value_.I.map (rowI .i64)),.sl true none 1 none (r.2.Value_.L.map rowS)]],false⟩
attribute [go_sem] rB
theorem Df (N:Nat):FSOk Try.prog 44 (rB N):=ok3 (fun q0 q1 q2 r h=>by
 obtain ⟨r',hr,rfl⟩:=Option.map_eq_some_iff.1 h;exact tu N q0 q1 q2 r' hr) (fun h=>aq Client.dec_le h) (aW) (ar)


noncomputable def s8 (N d f:Nat):Option FnS:=glist [(13,44,lM N)] d f
attribute [go_sem] s8
theorem yo (N:Nat) (a0:(List Client)) (a1:ByteArray) (a2:Int) (r:Int) (h:dV N a0 a1 a2=some r):Con Try.prog 20 [] true [.sl false none 4 none (a0.map Client.row),.val (.string a1),.val (.int .i64 a2)] (.val (.int .i64 r)):=by
 refine ay (G:=(s8 N)) Try.func20 rfl (by decide) (by kernel_rfl) (gc 13 (p9 N) gn) [] mix (Nat.le_of_ble_eq_true rfl) ?_;simp only [Try.f20];unfold dV at h;refine Ws fun Z hZ=>?_;simp only [go_sem,seval];refine hZ _ (pp (Wk_seq ?_));obtain ⟨r1,hr1,h⟩:=Option.bind_eq_some_iff.1 h;refine aa fun Z hZ=>?_;simp only [go_sem,seval,hr1];refine hZ _ (pp (Ws fun Z hZ=>?_));simp only [go_sem,seval];refine hZ _ (pp (Wk_ret (pp ?_)));cases h;simp only [go_sem,seval];exact ⟨_,rfl,RokI.h,PureI.h⟩
def eG (N:Nat):FnS:=⟨[],true,fn3 (decL 4 Client.dec) decS (decI .i64) fun q0 q1 q2=>(dV N q0 q1 q2).map fun r=>.val (.int .i64 r),false⟩
attribute [go_sem] eG
theorem eK (N:Nat):FSOk Try.prog 20 (eG N):=ok3 (fun q0 q1 q2 r h=>by
 obtain ⟨r',hr,rfl⟩:=Option.map_eq_some_iff.1 h;exact yo N q0 q1 q2 r' hr) (fun h=>aq Client.dec_le h) (aW) (ar)


theorem yw (N:Nat) (a0:Client) (a1:ByteArray) (r:Int) (h:iY N a0 a1=some r):Con Try.prog 54 [] true [.agg (Client.row a0),.val (.string a1)] (.val (.int .i64 r)):=by
 refine ay (G:=(glist [])) Try.func54 rfl (by decide) (by kernel_rfl) gn [] mix (Nat.le_of_ble_eq_true rfl) ?_;simp only [Try.f54];unfold iY at h;refine Ws fun Z hZ=>?_;simp only [go_sem,seval];refine hZ _ (pp (Wk_seq (ak (Ws fun Z hZ=>?_))));simp only [go_sem,seval];refine hZ _ (pp (au rfl (fun hc1=>?_) (fun hc1=>?_)))
 ·first|rw [if_pos hc1] at h|simp only [hc1,Bool.or_false,Bool.or_true,Bool.false_or,Bool.true_or,Bool.and_true,Bool.true_and,Bool.and_false,Bool.false_and,Bool.not_true,Bool.not_false,Bool.false_eq_true,if_true,if_false] at h
  refine Ws fun Z hZ=>?_;simp only [go_sem,seval,hc1];refine hZ _ (pp (Wk_ret (pp ?_)));cases h;simp only [go_sem,seval];exact ⟨_,rfl,RokI.h,PureI.h⟩
 first|rw [if_neg (ne_true_of_eq_false hc1)] at h|simp only [hc1,Bool.or_false,Bool.or_true,Bool.false_or,Bool.true_or,Bool.and_true,Bool.true_and,Bool.and_false,Bool.false_and,Bool.not_true,Bool.not_false,Bool.false_eq_true,if_true,if_false] at h
 refine Ws fun Z hZ=>?_;simp only [go_sem,seval,hc1];refine hZ _ (pp (de rfl (fun hc2=>?_) (fun hc2=>?_)))
 ·first|rw [if_neg (ne_true_of_eq_false hc2)] at h|simp only [hc2,hc1,Bool.or_false,Bool.false_eq_true,if_false] at h
  refine Ws fun Z hZ=>?_;simp only [go_sem,seval,hc2];refine hZ _ (pp (Wk_ret (pp ?_)));cases h;simp only [go_sem,seval];exact ⟨_,rfl,RokI.h,PureI.h⟩
 first|rw [if_pos hc2] at h|simp only [hc2,hc1,Bool.or_true,if_true] at h
 refine ag (pp (Ws fun Z hZ=>?_));simp only [go_sem,seval,hc2];refine hZ _ (pp (Wk_ret (pp ?_)));cases h;simp only [go_sem,seval];exact ⟨_,rfl,RokI.h,PureI.h⟩
def lN (N:Nat):FnS:=⟨[],true,fn2 Client.decA decS fun q0 q1=>(iY N q0 q1).map fun r=>.val (.int .i64 r),false⟩
attribute [go_sem] lN
theorem pY (N:Nat):FSOk Try.prog 54 (lN N):=ok2 (fun q0 q1 r h=>by
 obtain ⟨r',hr,rfl⟩:=Option.map_eq_some_iff.1 h;exact yw N q0 q1 r' hr) (Client.decA_le) (aW)


noncomputable def eZ (N d f:Nat):Option FnS:=glist [(30,54,lN N),(46,54,lN N)] d f
attribute [go_sem] eZ
theorem j3 (N:Nat) (a0:(List Client)) (a1:ByteArray) (r:Int × Bool) (h:bq N a0 a1=some r):Con Try.prog 53 [] true [.sl false none 4 none (a0.map Client.row),.val (.string a1),.clo 54 []] (.tup [.val (.int .i64 r.1),.val (.bool r.2)]):=by
 refine ay (G:=(eZ N)) Try.func53 rfl (by decide) (by kernel_rfl) (gc 30 (pY N) (gc 46 (pY N) gn)) [] mix (Nat.le_of_ble_eq_true rfl) ?_;simp only [Try.f53];unfold bq at h;refine Ws fun Z hZ=>?_;simp only [go_sem,seval];refine hZ _ (pp (Ws fun Z hZ=>?_));simp only [go_sem,seval];refine hZ _ (pp (Ws fun Z hZ=>?_));simp only [go_sem,seval];refine hZ _ (pp (Wk_seq (ak (sV (fun (b:Int × Int)=>⟨tab 49 (updT (updT (updT (updT (updT (updT deadT 0 (.sl false none 4 none (a0.map Client.row))) 1 (.val (.string a1))) 2 (.clo 54 [])) 8 (.val (.int .i64 ((a0.length:Nat):Int)))) 9 (.val (.int .i64 b.1))) 10 (.val (.int .i64 b.2))),RZ⟩) (0,((a0.length:Nat):Int)) h ?_ ?_))))
 ·refine wr ?_ ?_<;>repeat' first|rfl|constructor
 rintro n ⟨v2,v3⟩ h -;cases n with
 | zero=>simp [aH] at h
 | succ n=>
 simp only [aH] at h;refine Wk_seq (Ws fun Z hZ=>?_);simp only [go_sem,seval];refine hZ _ (pp (sw (aQ rfl) (fun hc1=>?_) (fun hc1=>?_)))
 ·have hc1d:=decide_eq_false hc1;rw [if_neg hc1] at h;refine ba (pp ?_);unfold bQ at h;refine Ws fun Z hZ=>?_;simp only [go_sem,seval,hc1d];refine ae rfl (fun hc6=>?_) (fun hc6=>?_)
  ·have hc6d:=decide_eq_true hc6;rw [if_pos hc6] at h;obtain ⟨x11,hb7,hx8,h⟩:=da h;obtain ⟨r12,hr9,h⟩:=Option.bind_eq_some_iff.1 h;simp only [go_sem,seval,hb7,hx8,hr9];refine hZ _ (pp (Wk_ret (pp ?_)));cases h;simp only [go_sem,seval];exact ⟨_,rfl,RokI.h,PureI.h⟩
  have hc6d:=decide_eq_false hc6;rw [if_neg hc6] at h;simp only [go_sem,seval,hc6d];refine hZ _ (pp (Wk_ret (pp ?_)));cases h;simp only [go_sem,seval];exact ⟨_,rfl,RokI.h,PureI.h⟩
 have hc1d:=decide_eq_true hc1;rw [if_pos hc1] at h;refine ag (pp (ak (Ws fun Z hZ=>?_)));simp only [go_sem,seval,hc1d];refine hZ _ (pp (Wk_seq ?_));obtain ⟨x9,hb2,hx3,h⟩:=da h;obtain ⟨r10,hr4,h⟩:=Option.bind_eq_some_iff.1 h;refine aa fun Z hZ=>?_;simp only [go_sem,seval,hb2,hx3,hr4];refine hZ _ (pp (aQ rfl (fun hc5=>?_) (fun hc5=>?_)))
 ·have hc5d:=decide_eq_true hc5;rw [if_pos hc5] at h;refine aa fun Z hZ=>?_;simp only [go_sem,seval,hc5d];refine hZ _ (pp (⟨_,Nat.lt_succ_self _,(IntKind.i64.wrap ((IntKind.i64.wrap (shrI .u64 (IntKind.u64.wrap (IntKind.i64.wrap (v2+v3))) 1))+1),v3),?_,h⟩));refine wr ?_ ?_<;>repeat' first|rfl|constructor
 have hc5d:=decide_eq_false hc5;rw [if_neg hc5] at h;refine aa fun Z hZ=>?_;simp only [go_sem,seval,hc5d];refine hZ _ (pp (⟨_,Nat.lt_succ_self _,(v2,IntKind.i64.wrap (shrI .u64 (IntKind.u64.wrap (IntKind.i64.wrap (v2+v3))) 1)),?_,h⟩));refine wr ?_ ?_<;>repeat' first|rfl|constructor
def bO (N:Nat):FnS:={ own:=[],pure:=true,fn:=fun cs=>match cs with
 | [c0,c1,.clo 54 []]=>((decL 4 Client.dec) c0).bind fun qc0=>(decS c1).bind fun qc1=>(bq N qc0 qc1).map fun r=>.tup [.val (.int .i64 r.1),.val (.bool r.2)]
 | _=>none }
attribute [go_sem] bO
theorem iN (N:Nat):FSOk Try.prog 53 (bO N):=by
 refine ⟨fun cs r h=>?_,fun h=>by cases h⟩;simp only [bO] at h;split at h
 ·simp only [Option.bind_eq_some_iff,Option.map_eq_some_iff] at h;obtain ⟨q0,h0,q1,h1,r',hr,rfl⟩:=h;exact ((j3 N q0 q1 r' hr).args (LeL.cons (aq Client.dec_le h0) (LeL.cons (aW h1) (LeL.cons (Le.clo (LeL.nil)) (LeL.nil)))))
 ·cases h


noncomputable def vu (N d f:Nat):Option FnS:=glist [(8,53,bO N)] d f
attribute [go_sem] vu
theorem Bd (N:Nat) (a0:(List Client)) (a1:ByteArray) (r:Int × Bool) (h:jG N a0 a1=some r):Con Try.prog 28 [] true [.sl false none 4 none (a0.map Client.row),.val (.string a1)] (.tup [.val (.int .i64 r.1),.val (.bool r.2)]):=by
 refine ay (G:=(vu N)) Try.func28 rfl (by decide) (by kernel_rfl) (gc 8 (iN N) gn) [] mix (Nat.le_of_ble_eq_true rfl) ?_;simp only [Try.f28];unfold jG at h;refine Ws fun Z hZ=>?_;simp only [go_sem,seval];refine hZ _ (pp (Wk_seq ?_));obtain ⟨r1,hr1,h⟩:=Option.bind_eq_some_iff.1 h;refine aa fun Z hZ=>?_;simp only [go_sem,seval,hr1];refine hZ _ (pp (Wk_ret (pp ?_)));cases h;simp only [go_sem,seval];exact ⟨_,rfl,RokI.h,PureI.h⟩
def ll (N:Nat):FnS:=⟨[],true,fn2 (decL 4 Client.dec) decS fun q0 q1=>(jG N q0 q1).map fun r=>.tup [.val (.int .i64 r.1),.val (.bool r.2)],false⟩
attribute [go_sem] ll
theorem m6 (N:Nat):FSOk Try.prog 28 (ll N):=ok2 (fun q0 q1 r h=>by
 obtain ⟨r',hr,rfl⟩:=Option.map_eq_some_iff.1 h;exact Bd N q0 q1 r' hr) (fun h=>aq Client.dec_le h) (aW)


theorem rk (N:Nat) (a0:(List Client)) (r:(List Client)) (h:dG N a0=some r):Con Try.prog 55 [] false [.sl false (some false) 4 none (a0.map Client.row)] (.sl true none 4 none (r.map Client.row)):=by
 refine ay (G:=(glist [])) Try.func55 rfl (by decide) (by kernel_rfl) gn [] mix (Nat.le_of_ble_eq_true rfl) ?_;simp only [Try.f55];unfold dG at h;refine Ws fun Z hZ=>?_;simp only [go_sem,seval];refine hZ _ (pp (Wk_seq (Ws fun Z hZ=>?_)));simp only [go_sem,seval];refine hZ _ (pp (aN rfl ?_));first|rw [if_pos (rfl:true=true)] at h|rw [if_neg Bool.false_ne_true] at h|skip
 refine ag (pp (Wk_seq ?_));first|obtain ⟨ha1,h⟩:=tK h|(obtain ⟨ha1,h⟩:=fy h; rw [List.nil_append] at h)
 simp only [Nat.reduceAdd] at ha1;refine aa fun Z hZ=>?_;simp only [go_sem,seval,ha1];refine hZ _ (pp (Wk_ret (pp ?_)));cases h;simp only [go_sem,seval];exact ⟨_,rfl,RokI.h⟩
theorem qP (N:Nat)  (r:(List Client)) (h:dG N []=some r):Con Try.prog 55 [] false [.val (.slice none 0 0)] (.sl true none 4 none (r.map Client.row)):=by
 refine ay (G:=(glist [])) Try.func55 rfl (by decide) (by kernel_rfl) gn [] mix (Nat.le_of_ble_eq_true rfl) ?_;simp only [Try.f55];unfold dG at h;refine Ws fun Z hZ=>?_;simp only [go_sem,seval];refine hZ _ (pp (Wk_seq (Ws fun Z hZ=>?_)));simp only [go_sem,seval];refine hZ _ (pp (aR rfl ?_));first|rw [if_pos (rfl:true=true)] at h|rw [if_neg Bool.false_ne_true] at h|skip
 refine Ws fun Z hZ=>?_;simp only [go_sem,seval];refine hZ _ (pp (Wk_ret (pp ?_)));obtain rfl:r=[]:=by simpa [apn] using h.symm
 simp only [go_sem,seval];exact ⟨_,rfl,RokI.h⟩
theorem oq (N:Nat) (a0:(List Client)) (r:(List Client)) (h:dG N a0=some r):Con Try.prog 55 [] false [.sl false none 4 none (a0.map Client.row)] (.sl true none 4 none (r.map Client.row)):=
 Con_nl (fun e=>by obtain rfl:a0=[]:=List.map_eq_nil_iff.1 e; exact qP N r h) (rk N a0 r h)
def mP (N:Nat):FnS:=⟨[],false,fn1 (decL 4 Client.dec) fun q0=>(dG N q0).map fun r=>.sl false none 4 none (r.map Client.row),false⟩
attribute [go_sem] mP
theorem zV (N:Nat):FSOk Try.prog 55 (mP N):=ok1 (fun q0 r h=>by
 obtain ⟨r',hr,rfl⟩:=Option.map_eq_some_iff.1 h;exact (oq N q0 r' hr).res (by (try simp only [go_sem]); exact RokI.h)) (fun h=>aq Client.dec_le h)

def ji (N:Nat):FnS:=⟨[],false,fn1 (decL 4 Client.dec) fun q0=>(dG N q0).map fun r=>.sl true none 4 none (r.map Client.row),false⟩
attribute [go_sem] ji
theorem qo (N:Nat):FSOk Try.prog 55 (ji N):=ok1 (fun q0 r h=>by
 obtain ⟨r',hr,rfl⟩:=Option.map_eq_some_iff.1 h;exact oq N q0 r' hr) (fun h=>aq Client.dec_le h)


theorem rv (N:Nat) (a0:(List Answer)) (r:(List Answer)) (h:dI N a0=some r):Con Try.prog 57 [] false [.sl false (some false) 10 none (a0.map Answer.row)] (.sl true none 10 none (r.map Answer.row)):=by
 refine ay (G:=(glist [])) Try.func57 rfl (by decide) (by kernel_rfl) gn [] mix (Nat.le_of_ble_eq_true rfl) ?_;simp only [Try.f57];unfold dI at h;refine Ws fun Z hZ=>?_;simp only [go_sem,seval];refine hZ _ (pp (Wk_seq (Ws fun Z hZ=>?_)));simp only [go_sem,seval];refine hZ _ (pp (aN rfl ?_));first|rw [if_pos (rfl:true=true)] at h|rw [if_neg Bool.false_ne_true] at h|skip
 refine ag (pp (Wk_seq ?_));first|obtain ⟨ha1,h⟩:=tK h|(obtain ⟨ha1,h⟩:=fy h; rw [List.nil_append] at h)
 simp only [Nat.reduceAdd] at ha1;refine aa fun Z hZ=>?_;simp only [go_sem,seval,ha1];refine hZ _ (pp (Wk_ret (pp ?_)));cases h;simp only [go_sem,seval];exact ⟨_,rfl,RokI.h⟩
theorem qI (N:Nat)  (r:(List Answer)) (h:dI N []=some r):Con Try.prog 57 [] false [.val (.slice none 0 0)] (.sl true none 10 none (r.map Answer.row)):=by
 refine ay (G:=(glist [])) Try.func57 rfl (by decide) (by kernel_rfl) gn [] mix (Nat.le_of_ble_eq_true rfl) ?_;simp only [Try.f57];unfold dI at h;refine Ws fun Z hZ=>?_;simp only [go_sem,seval];refine hZ _ (pp (Wk_seq (Ws fun Z hZ=>?_)));simp only [go_sem,seval];refine hZ _ (pp (aR rfl ?_));first|rw [if_pos (rfl:true=true)] at h|rw [if_neg Bool.false_ne_true] at h|skip
 refine Ws fun Z hZ=>?_;simp only [go_sem,seval];refine hZ _ (pp (Wk_ret (pp ?_)));obtain rfl:r=[]:=by simpa [apn] using h.symm
 simp only [go_sem,seval];exact ⟨_,rfl,RokI.h⟩
theorem oe (N:Nat) (a0:(List Answer)) (r:(List Answer)) (h:dI N a0=some r):Con Try.prog 57 [] false [.sl false none 10 none (a0.map Answer.row)] (.sl true none 10 none (r.map Answer.row)):=
 Con_nl (fun e=>by obtain rfl:a0=[]:=List.map_eq_nil_iff.1 e; exact qI N r h) (rv N a0 r h)
def mS (N:Nat):FnS:=⟨[],false,fn1 (decL 10 Answer.dec) fun q0=>(dI N q0).map fun r=>.sl false none 10 none (r.map Answer.row),false⟩
attribute [go_sem] mS
theorem zX (N:Nat):FSOk Try.prog 57 (mS N):=ok1 (fun q0 r h=>by
 obtain ⟨r',hr,rfl⟩:=Option.map_eq_some_iff.1 h;exact (oe N q0 r' hr).res (by (try simp only [go_sem]); exact RokI.h)) (fun h=>aq Answer.dec_le h)

def jk (N:Nat):FnS:=⟨[],false,fn1 (decL 10 Answer.dec) fun q0=>(dI N q0).map fun r=>.sl true none 10 none (r.map Answer.row),false⟩
attribute [go_sem] jk
theorem qt (N:Nat):FSOk Try.prog 57 (jk N):=ok1 (fun q0 r h=>by
 obtain ⟨r',hr,rfl⟩:=Option.map_eq_some_iff.1 h;exact oe N q0 r' hr) (fun h=>aq Answer.dec_le h)


noncomputable def uB (N d f:Nat):Option FnS:=glist [(7,55,ji N),(22,56,iy N),(28,57,jk N),(57,40,jg N)] d f
attribute [go_sem] uB
theorem qm (N:Nat) (a0:(List Client)) (r:(List Client)) (h:fK N a0=some r):Con Try.prog 29 [] false [.sl false none 4 none (a0.map Client.row)] (.sl true none 4 none (r.map Client.rowD)):=by
 refine ay (G:=(uB N)) Try.func29 rfl (by decide) (by kernel_rfl) (gc 7 (qo N) (gc 22 (mK N) (gc 28 (qt N) (gc 57 (mR N) gn)))) [] mix (Nat.le_of_ble_eq_true rfl) ?_;simp only [Try.f29];unfold fK at h;refine Ws fun Z hZ=>?_;simp only [go_sem,seval];refine hZ _ (pp (Wk_seq ?_));obtain ⟨r1,hr1,h⟩:=Option.bind_eq_some_iff.1 h;refine aa fun Z hZ=>?_;simp only [go_sem,seval,hr1];refine hZ _ (pp (Wk_seq (Ws fun Z hZ=>?_)));simp only [go_sem,seval];refine hZ _ (pp (ak (bS fun hreal3=>?_)));have hl2:=hreal3.lenX 7 (by simp only [go_sem,seval]; rfl);first|rw [List.length_map] at hl2|rw [bo] at hl2|rw [<-List.map_append,List.length_map] at hl2
 refine AS (fun (v4:Nat) (b:List Client)=>⟨tab 63 (updT (updT (updT deadT 3 (.pal 7 [] 0 b.length none)) 9 (.val (.int .i64 ((r1.length:Nat):Int)))) 10 (.val (.int .i64 ((v4:Nat):Int)))),(upd RZ 7 (.sl true none 4 none (mxR Client.rowD Client.row v4 b)))⟩) r1 h ?_ ?_
 ·refine wr ?_ ?_<;>repeat' first|rfl|constructor|simp only [go_sem,seval,Bool.or_self,List.length_set,Int.natCast_zero,Int.cast_ofNat_Int,hr1]
 rintro v4 l3 _ h -;rcases (wi r1.length v4).symm with ⟨hi4',hd7⟩|⟨hi4',hd7⟩
 ·rw [hd7] at h;simp only [gh] at h;obtain ⟨hg25,h⟩:=DB h;refine Ws fun Z hZ=>?_;simp only [go_sem,seval,hi4',FF hg25];refine hZ _ (pp (Wk_seq ?_));try simp only [Int.ofNat_lt,hi4',if_true,if_false] at h
  refine aN rfl (ba (pp (Ws fun Z hZ=>?_)));simp only [go_sem,seval];refine hZ _ (pp (Wk_ret (pp ?_)));cases h;simp only [go_sem,seval];exact ⟨_,rfl,RokI.h⟩
 rw [hd7] at h;simp only [gh] at h;have hw6:=aY hi4' hl2;refine Ws fun Z hZ=>?_;simp only [go_sem,seval,hi4'];refine hZ _ (pp (Wk_seq ?_));try simp only [Int.ofNat_lt,hi4',if_true,if_false] at h
 refine aR rfl (ag (pp (Wk_seq (ak (Ws fun Z hZ=>?_)))));simp only [go_sem,seval];refine hZ _ (pp (Wk_seq ?_));obtain ⟨x2,hb8,hx9,h⟩:=da h;try simp only [Int.toNat_natCast] at hx9
 try simp only [Int.ofNat_lt,Int.natCast_nonneg,true_and] at hb8
 obtain ⟨r3,hr10,h⟩:=Option.bind_eq_some_iff.1 h;obtain ⟨r4,hr11,h⟩:=Option.bind_eq_some_iff.1 h;refine dc fun Z hZ=>?_;simp only [go_sem,seval,hb8,vG (f:=Client.rowD) (g:=Client.row) hx9,hr10,hr11,mix_of (f:=Client.rowD) (g:=Client.row) (rx:=[.val (.string x2.Name),.val (.int .i64 x2.Low),.sl false none 1 none (x2.Open.map (rowI .i64)),.sl false none 10 none (x2.Done.map Answer.row)]) hx9 rfl rfl,pD (f:=Client.rowD) (g:=Client.row) _ hx9,vD (f:=Client.rowD) (g:=Client.row) hx9 rfl];repeat with_reducible refine bN (by kernel_rfl) ?_
 refine hZ _ (by kernel_rfl) (pp (Ws fun Z hZ=>?_));simp only [go_sem,seval,hb8,pD (f:=Client.rowD) (g:=Client.row) _ hx9];refine hZ _ (pp (ak (bS fun hreal13=>?_)));have hl12:=hreal13.lenAt 7 [(v4,3)] (by simp only [go_sem,seval,pD (f:=Client.rowD) (g:=Client.row) _ hx9]; rfl);first|rw [List.length_map] at hl12|rw [bo] at hl12|rw [<-List.map_append,List.length_map] at hl12
 refine AS (fun (v13:Nat) (b:List Answer)=>⟨tab 63 (updT (updT (updT (updT (updT (updT deadT 3 (.pal 7 [] 0 l3.length none)) 4 (.val (.int .i64 ((v4:Nat):Int)))) 9 (.val (.int .i64 ((r1.length:Nat):Int)))) 10 (.val (.int .i64 ((v4:Nat):Int)))) 38 (.val (.int .i64 ((r4.length:Nat):Int)))) 39 (.val (.int .i64 ((v13:Nat):Int)))),(upd RZ 7 (.sl true none 4 none ((mxR Client.rowD Client.row v4 l3).set v4 [.val (.string x2.Name),.val (.int .i64 x2.Low),.sl true none 1 none (r3.map (rowI .i64)),.sl true none 10 none (b.map Answer.row)])))⟩) r4 h ?_ ?_
 ·refine wr ?_ ?_<;>repeat' first|rfl|constructor|simp only [go_sem,seval,Bool.or_self,List.length_set,Int.natCast_zero,Int.cast_ofNat_Int,hr1,hi4',hw6,hb8,hx9,vG (f:=Client.rowD) (g:=Client.row) hx9,bo,hr10,hr11,mix_of (f:=Client.rowD) (g:=Client.row) (rx:=[.val (.string x2.Name),.val (.int .i64 x2.Low),.sl false none 1 none (x2.Open.map (rowI .i64)),.sl false none 10 none (x2.Done.map Answer.row)]) hx9 rfl rfl,pD (f:=Client.rowD) (g:=Client.row) _ hx9,vD (f:=Client.rowD) (g:=Client.row) hx9 rfl]
 rintro v13 l12 _ h -;rcases (wi r4.length v13).symm with ⟨hi14',hd17⟩|⟨hi14',hd17⟩
 ·rw [hd17] at h;simp only [gi] at h;refine Ws fun Z hZ=>?_;simp only [go_sem,seval,hi14'];refine hZ _ (pp (Wk_seq ?_));try simp only [Int.ofNat_lt,hi4',hi14',if_true,if_false] at h
  refine aN rfl (ba (pp (aa fun Z hZ=>?_)));simp only [go_sem,seval,hw6];refine hZ _ (pp ?_);first|refine ⟨(l3.set v4 (Client.mk x2.Name x2.Low r3 l12)),?_,h⟩|refine ⟨hi4',(l3.set v4 (Client.mk x2.Name x2.Low r3 l12)),?_,h⟩
  refine Weak.trans (C9 (n:=7) (Client.mk x2.Name x2.Low r3 l12) hx9 (by simp only [go_sem,seval]; rfl) rfl rfl) ?_;refine wr ?_ ?_<;>repeat' first|rfl|constructor|simp only [go_sem,seval,List.length_set]
 rw [hd17] at h;simp only [gi] at h;have hw16:=aY hi14' hl12;refine Ws fun Z hZ=>?_;simp only [go_sem,seval,hi14'];refine hZ _ (pp (Wk_seq ?_));try simp only [Int.ofNat_lt,hi4',hi14',if_true,if_false] at h
 refine aR rfl (ag (pp (Wk_seq (ak (Ws fun Z hZ=>?_)))));simp only [go_sem,seval];refine hZ _ (pp ?_);obtain ⟨x5,hb18,hx19,h⟩:=da h;try simp only [Int.toNat_natCast] at hx19
 try simp only [Int.ofNat_lt,Int.natCast_nonneg,true_and] at hb18
 obtain rfl:=AY hx9 hx19;obtain ⟨x6,hb20,hx21,h⟩:=da h;try simp only [Int.toNat_natCast] at hx21
 try simp only [Int.ofNat_lt,Int.natCast_nonneg,true_and] at hb20
 obtain ⟨r7,hr22,h⟩:=Option.bind_eq_some_iff.1 h;have hx24:=yB (y:=(Answer.mk x6.Seq r7)) hx21;refine dc fun Z hZ=>?_;simp only [go_sem,seval,hb8,pD (f:=Client.rowD) (g:=Client.row) _ hx9,vD (f:=Client.rowD) (g:=Client.row) hx9 rfl,hb20,hx21,hr22,pU (row:=Answer.row) (y:=(Answer.mk x6.Seq r7)) (rx:=[.val (.int .i64 x6.Seq),.val (.string x6.Reply_.Client_),.val (.int .i64 x6.Reply_.Seq),.sl false none 1 none (x6.Reply_.Path.map (rowI .i64)),.val (.int .i64 x6.Reply_.Err),.val (.int .i64 x6.Reply_.Value_.Kind),.val (.int .i64 x6.Reply_.Value_.N),.val (.string x6.Reply_.Value_.S),.sl false none 1 none (x6.Reply_.Value_.I.map (rowI .i64)),.sl false none 1 none (x6.Reply_.Value_.L.map rowS)]) (ry:=[.val (.int .i64 x6.Seq),.val (.string r7.Client_),.val (.int .i64 r7.Seq),.sl false none 1 none (r7.Path.map (rowI .i64)),.val (.int .i64 r7.Err),.val (.int .i64 r7.Value_.Kind),.val (.int .i64 r7.Value_.N),.val (.string r7.Value_.S),.sl false none 1 none (r7.Value_.I.map (rowI .i64)),.sl false none 1 none (r7.Value_.L.map rowS)]) hx21 rfl rfl];repeat with_reducible refine bN (by kernel_rfl) ?_
 refine hZ _ (by kernel_rfl) (pp (aa fun Z hZ=>?_));simp only [go_sem,seval,hw16];refine hZ _ (pp ?_);first|refine ⟨(l12.set v13 (Answer.mk x6.Seq r7)),?_,h⟩|refine ⟨hi14',(l12.set v13 (Answer.mk x6.Seq r7)),?_,h⟩
 refine wr ?_ ?_<;>repeat' first|rfl|constructor|simp only [go_sem,seval,Bool.or_self,List.length_set,Int.natCast_zero,Int.cast_ofNat_Int,hr1,hi4',hw6,hb8,hx9,vG (f:=Client.rowD) (g:=Client.row) hx9,bo,hr10,hr11,mix_of (f:=Client.rowD) (g:=Client.row) (rx:=[.val (.string x2.Name),.val (.int .i64 x2.Low),.sl false none 1 none (x2.Open.map (rowI .i64)),.sl false none 10 none (x2.Done.map Answer.row)]) hx9 rfl rfl,pD (f:=Client.rowD) (g:=Client.row) _ hx9,vD (f:=Client.rowD) (g:=Client.row) hx9 rfl,hi14',hw16,hb18,hb20,hx21,hr22,pU (row:=Answer.row) (y:=(Answer.mk x6.Seq r7)) (rx:=[.val (.int .i64 x6.Seq),.val (.string x6.Reply_.Client_),.val (.int .i64 x6.Reply_.Seq),.sl false none 1 none (x6.Reply_.Path.map (rowI .i64)),.val (.int .i64 x6.Reply_.Err),.val (.int .i64 x6.Reply_.Value_.Kind),.val (.int .i64 x6.Reply_.Value_.N),.val (.string x6.Reply_.Value_.S),.sl false none 1 none (x6.Reply_.Value_.I.map (rowI .i64)),.sl false none 1 none (x6.Reply_.Value_.L.map rowS)]) (ry:=[.val (.int .i64 x6.Seq),.val (.string r7.Client_),.val (.int .i64 r7.Seq),.sl false none 1 none (r7.Path.map (rowI .i64)),.val (.int .i64 r7.Err),.val (.int .i64 r7.Value_.Kind),.val (.int .i64 r7.Value_.N),.val (.string r7.Value_.S),.sl false none 1 none (r7.Value_.I.map (rowI .i64)),.sl false none 1 none (r7.Value_.L.map rowS)]) hx21 rfl rfl,hx24]
def sM (N:Nat):FnS:=⟨[],false,fn1 (decL 4 Client.dec) fun q0=>(fK N q0).map fun r=>.sl false none 4 none (r.map Client.row),false⟩
attribute [go_sem] sM
theorem Ee (N:Nat):FSOk Try.prog 29 (sM N):=ok1 (fun q0 r h=>by
 obtain ⟨r',hr,rfl⟩:=Option.map_eq_some_iff.1 h;exact (qm N q0 r' hr).res (by (try simp only [go_sem]); exact RokI.h)) (fun h=>aq Client.dec_le h)

def si (N:Nat):FnS:=⟨[],false,fn1 (decL 4 Client.dec) fun q0=>(fK N q0).map fun r=>.sl true none 4 none (r.map Client.row),false⟩
attribute [go_sem] si
theorem DP (N:Nat):FSOk Try.prog 29 (si N):=ok1 (fun q0 r h=>by
 obtain ⟨r',hr,rfl⟩:=Option.map_eq_some_iff.1 h;exact (qm N q0 r' hr).res (by (try simp only [go_sem]); exact RokI.h)) (fun h=>aq Client.dec_le h)

def jN (N:Nat):FnS:=⟨[],false,fn1 (decL 4 Client.dec) fun q0=>(fK N q0).map fun r=>.sl true none 4 none (r.map Client.rowD),false⟩
attribute [go_sem] jN
theorem mg (N:Nat):FSOk Try.prog 29 (jN N):=ok1 (fun q0 r h=>by
 obtain ⟨r',hr,rfl⟩:=Option.map_eq_some_iff.1 h;exact qm N q0 r' hr) (fun h=>aq Client.dec_le h)


def bU:FnS:={ own:=[true,true],pure:=false,fn:=fun _=>none,peek:=true }
theorem aJ:bU.own=[true,true]:=rfl
theorem aF:bU.peek=true:=rfl
theorem oX:PeekOk Try.prog 58:=
 yY (fn:=Try.f58) (tS:=22) (tR:=4) (e:=56) (size:=4) Try.func58 rfl rfl (by kernel_rfl) (by kernel_rfl) (by kernel_rfl) (by kernel_rfl)
theorem mI:FSOk Try.prog 58 bU:=⟨(fun cs r h=>by simp [bU] at h),fun _=>oX⟩
noncomputable def dS:Env:={ T:=tiOf Try.prog,G:=fun d f=>if d=67/\f=58 then some bU else none }
theorem bB:dS.T=tiOf Try.prog:=rfl
theorem bD (d:Nat):dS.F d=none:=rfl
theorem bA (d f:Nat):dS.L d f=none:=rfl
theorem bF:dS.G 67 58=some bU:=rfl
theorem qQ:GOk Try.prog { T:=tiOf Try.prog,G:=dS.G }:=by
 refine ⟨?_,fun _ _ _ h=>by cases h⟩;intro d f fs hfs;simp only [dS] at hfs;split at hfs
 ·rename_i hc; obtain ⟨rfl,rfl⟩:=hc; obtain rfl:=Option.some.inj hfs; exact mI
 cases hfs
theorem rG:FunOk Try.prog 30 Try.f30 Try.f30.body.get! := ⟨Try.func30,rfl,by decide,by kernel_rfl⟩
set_option maxHeartbeats 4000000 in
theorem mJ {α:Type} (row:α->List C) (ok:RowOk row) (l:List α) (i:Nat) (x:α) (k:Nat) (r:List α) (hr:r=l.take i++[x]++l.drop i) (hi:i<=l.length) (hsz:(l.length+1) * 72<=140737488355328) (hk1:l.length<=k) (hk2:k<=maxLen) :
  Con Try.prog 30 [true,false,true] false [.sl true none 4 (some k) (l.map row),.val (.int .i64 i),.sl true none 4 none ([x].map row)] (.sl true none 4 none (r.map row)):=by
 refine yp (E:=dS) (sO Try.prog _) qQ mix rG (Nat.le_of_ble_eq_true rfl) ?_;intro _;rw [pX (by simp)];rw [show entryF [true,false,true] [C.sl true none 4 (some k) (l.map row),C.val (.int .i64 i),C.sl true none 4 none ([x].map row)]=(updT (updT (updT deadT 0 (.pal 0 [] 0 l.length none)) 1 (.val (.int .i64 i))) 2 (.pal 2 [] 0 1 none)) from by funext t; match t with|0=>simp [entryF,ky,viewD,updT]|1=>rfl|2=>rfl|t+3=>rfl];rw [show R0 [true,false,true] [C.sl true none 4 (some k) (l.map row),C.val (.int .i64 i),C.sl true none 4 none ([x].map row)]=upd (upd RZ 0 (C.sl true none 4 (some k) (l.map row))) 2 (C.sl true none 4 none ([x].map row)) from by funext t; match t with|0=>rfl|1=>rfl|2=>rfl|t+3=>rfl];apply yT;simp only [Try.f30,Option.get!];have hi1:(i:Int)<=(l.length:Int):=by omega
 have hi2:i<=l.length:=hi;have h10:(((1:Nat):Int)=0)=False:=by simp
 have hp:(row x).all Abs.plainCell=true:=ok.plain x;have hf:(row x).map C.frz=(row x):=ok.frz x;have hpD:(row x).all plainD=true:=by have:=(RowOk.allD ok [x]); simpa using this
 have hw1:IntKind.i64.wrap ((l.length:Int)+((1:Nat):Int))=((l.length+1:Nat):Int):=by rw [eB (by omega) (by omega)]; rfl
 have hlt0:(l.take i).length=i:=by simp; omega
 have hes:(4 != 0)=true:=rfl;have hm1:min 1 (l.length+1 - i)=1:=by omega
 have hm2:min (l.length - i) (l.length+1 - (i+1))=l.length - i:=by omega
 have hm3:(l.drop i).take (l.length - i)=l.drop i:=List.take_of_length_le (by simp);have hm4:i+1<=l.length+1:=by omega
 have hw2:IntKind.i64.wrap (((l.length+1:Nat):Int) - (i:Int))=((l.length+1 - i:Nat):Int):=by rw [eB (by omega) (by omega)]; omega
 have hw1b:IntKind.i64.wrap ((l.length:Int)+1)=((l.length+1:Nat):Int):=hw1;have hw3:IntKind.i64.wrap ((i:Int)+((1:Nat):Int))=((i+1:Nat):Int):=by rw [eB (by omega) (by omega)]; rfl
 have hw3b:IntKind.i64.wrap ((i:Int)+1)=((i+1:Nat):Int):=hw3;simp only [go_sem,seval,bB,bD,bA,bF,hi1,hi2,h10,Nat.le_refl,hp,hf,hpD,RowOk.frzRows ok,RowOk.all ok,RowOk.allPlain ok,RowOk.allD ok,aA,RX_cap,dw,altX,roomS,roomC,cutC,copyX,bw,av,extOf,Ext.all,peekX,aT,Option.map_some,hw1,hw2,hw3,hw1b,hw3b,Nat.min_self,Nat.zero_le,Nat.sub_zero,deepV,bne_self_eq_false,List.isEmpty_nil,decide_not,List.length_replicate,hlt0,hm1,hm2,hm3,hm4,aJ,aF,Nat.not_succ_le_self];refine wI rfl ?_;simp only [go_sem,seval,bB,bD,bA,bF,hi1,hi2,h10,Nat.le_refl,hp,hf,hpD,RowOk.frzRows ok,RowOk.all ok,RowOk.allPlain ok,RowOk.allD ok,aA,RX_cap,dw,altX,roomS,roomC,cutC,copyX,bw,av,extOf,Ext.all,peekX,aT,Option.map_some,hw1,hw2,hw3,hw1b,hw3b,Nat.min_self,Nat.zero_le,Nat.sub_zero,deepV,bne_self_eq_false,List.isEmpty_nil,decide_not,List.length_replicate,hlt0,hm1,hm2,hm3,hm4,aJ,aF,Nat.not_succ_le_self];refine mC rfl (fun hc=>?_) (fun hc=>?_)
 ·have e:i=l.length:=by omega
  subst e;simp only [go_sem,seval,bB,bD,bA,bF,hi1,hi2,h10,Nat.le_refl,hp,hf,hpD,RowOk.frzRows ok,RowOk.all ok,RowOk.allPlain ok,RowOk.allD ok,aA,RX_cap,dw,altX,roomS,roomC,cutC,copyX,bw,av,extOf,Ext.all,peekX,aT,Option.map_some,hw1,hw2,hw3,hw1b,hw3b,Nat.min_self,Nat.zero_le,Nat.sub_zero,deepV,bne_self_eq_false,List.isEmpty_nil,decide_not,List.length_replicate,hlt0,hm1,hm2,hm3,hm4,aJ,aF,Nat.not_succ_le_self,gy,gG,hsz];refine mw ok ?_;rw [hr];simp [List.take_of_length_le]
 ·have hc1:decide ((i:Int)=(l.length:Int))=false:=decide_eq_false hc;have hlt:i < l.length:=by omega
  simp only [go_sem,seval,bB,bD,bA,bF,hi1,hi2,h10,Nat.le_refl,hp,hf,hpD,RowOk.frzRows ok,RowOk.all ok,RowOk.allPlain ok,RowOk.allD ok,aA,RX_cap,dw,altX,roomS,roomC,cutC,copyX,bw,av,extOf,Ext.all,peekX,aT,Option.map_some,hw1,hw2,hw3,hw1b,hw3b,Nat.min_self,Nat.zero_le,Nat.sub_zero,deepV,bne_self_eq_false,List.isEmpty_nil,decide_not,List.length_replicate,hlt0,hm1,hm2,hm3,hm4,aJ,aF,Nat.not_succ_le_self,hc1];refine mC rfl (fun hk=>?_) (fun hk=>?_)
  ·have hk1:decide (k < l.length+1)=true:=decide_eq_true hk;have hk2:k < i+(l.length+1 - i):=by omega
   have e1:i+(l.length+1 - i)=l.length+1:=by omega
   have hi3:(i:Int)<=((l.length+1:Nat):Int):=by omega
   have hi4:i<=l.length+1:=by omega
   obtain ⟨A,hA⟩:∃ A,List.map row (List.take i l)++List.replicate (l.length+1 - i) [C.val (Value.string ⟨#[]⟩),C.val (Value.int .i64 0),C.val (Value.slice none 0 0),C.val (Value.slice none 0 0)]=A:=⟨_,rfl⟩;have hAp:bz A:=by rw [<-hA]; exact fB (eL ok _) (ra _ [Value.string ⟨#[]⟩,Value.int .i64 0,Value.slice none 0 0,Value.slice none 0 0] (by simp [Value.oneCell']))
   have hAl:A.length=l.length+1:=by rw [<-hA,List.length_append,List.length_map,hlt0,List.length_replicate]; omega
   obtain ⟨B,hB⟩:∃ B,aC A i [(row x)]=B:=⟨_,rfl⟩;have hBp:bz B:=by rw [<-hB]; exact eM hAp ⟨by simp [frzRows,hf],by simp [hpD]⟩
   have hBl:B.length=l.length+1:=by rw [<-hB]; simp [aC,hAl]; omega
   obtain ⟨D,hD⟩:∃ D,aC B (i+1) (List.map row (List.drop i l))=D:=⟨_,rfl⟩;have hDp:bz D:=by rw [<-hD]; exact eM hBp (eL ok _)
   have hDl:D.length=l.length+1:=by rw [<-hD]; simp [aC,hBl]; omega
   have hDe:D=(l.take i++[x]++l.drop i).map row:=by
    rw [<-hD,<-hB,<-hA,List.map_take,List.map_drop,yX (A:=l.map row) (n:=l.length) (by simp) hi2 (by simp)];simp
   simp only [go_sem,seval,bB,bD,bA,bF,hi1,hi2,h10,Nat.le_refl,hp,hf,hpD,RowOk.frzRows ok,RowOk.all ok,RowOk.allPlain ok,RowOk.allD ok,aA,RX_cap,dw,altX,roomS,roomC,cutC,copyX,bw,av,extOf,Ext.all,peekX,aT,Option.map_some,hw1,hw2,hw3,hw1b,hw3b,Nat.min_self,Nat.zero_le,Nat.sub_zero,deepV,bne_self_eq_false,List.isEmpty_nil,decide_not,List.length_replicate,hlt0,hm1,hm2,hm3,hm4,aJ,aF,Nat.not_succ_le_self,hc1,hk1,hk,hk2,e1,hi3,hi4,hA,hAl,hAp.1,hAp.2,hB,hBp.1,hBp.2,hBl,hD,hDp.1,hDp.2,hsz];repeat' ((with_reducible refine bN ?_ ?_); kernel_rfl)
   simp only [go_sem,seval,bB,bD,bA,bF,hi1,hi2,h10,Nat.le_refl,hp,hf,hpD,RowOk.frzRows ok,RowOk.all ok,RowOk.allPlain ok,RowOk.allD ok,aA,RX_cap,dw,altX,roomS,roomC,cutC,copyX,bw,av,extOf,Ext.all,peekX,aT,Option.map_some,hw1,hw2,hw3,hw1b,hw3b,Nat.min_self,Nat.zero_le,Nat.sub_zero,deepV,bne_self_eq_false,List.isEmpty_nil,decide_not,List.length_replicate,hlt0,hm1,hm2,hm3,hm4,aJ,aF,Nat.not_succ_le_self,gy,gG,hDp.1,hDp.2,hD];refine mw ok ?_;rw [hr,<-hDe,<-hDl,List.take_length]
  ·have hk1:decide (k < l.length+1)=false:=decide_eq_false hk;have hk2:¬ k < i+(l.length+1 - i):=by omega
   have hk3:l.length+1<=k:=by omega
   have e2:l.length+1 - l.length=1:=by omega
   have e3:l.length<=l.length+1:=by omega
   have hi3:(i:Int)<=((l.length+1:Nat):Int):=by omega
   have hi4:i<=l.length+1:=by omega
   have hne:¬ l.length+1 - (i+1)=0:=by omega
   have hne2:¬ l.length - i=0:=by omega
   obtain ⟨A,hA⟩:∃ A,List.map row l++[[C.dead,C.dead,C.dead,C.dead]]=A:=⟨_,rfl⟩;have hAp:bz A:=by rw [<-hA]; exact fB (eL ok _) (rm 1 4)
   have hAl:A.length=l.length+1:=by rw [<-hA]; simp
   have hm5:min (l.length+1 - i) (l.length+1 - (i+1))=l.length - i:=by omega
   have hm5b:min (l.length+1 - i) (l.length - i)=l.length - i:=by omega
   obtain ⟨A2,hA2⟩:∃ A2,(A.drop i).take (l.length - i)=A2:=⟨_,rfl⟩;have hA2e:A2=List.map row (l.drop i):=by
    rw [<-hA2,<-hA,List.drop_append,List.length_map,show i - l.length=0 by omega,List.drop_zero,List.take_append,List.take_of_length_le (by simp),show l.length - i - (List.drop i (List.map row l)).length=0 by simp];simp [List.map_drop]
   have hA2p:(A2.all fun r=>r.all Abs.plainCell)=true:=by rw [hA2e]; exact ok.allPlain _
   have hA2f:frzRows A2=A2:=by rw [hA2e]; exact ok.frzRows _
   have hA2d:bz A2:=by rw [hA2e]; exact eL ok _
   obtain ⟨B,hB⟩:∃ B,aC A (i+1) A2=B:=⟨_,rfl⟩;have hBp:bz B:=by rw [<-hB]; exact eM hAp hA2d
   have hBl:B.length=l.length+1:=by rw [<-hB]; simp [aC,hAl,hA2e]; omega
   obtain ⟨D,hD⟩:∃ D,aC B i [(row x)]=D:=⟨_,rfl⟩;have hDp:bz D:=by rw [<-hD]; exact eM hBp ⟨by simp [frzRows,hf],by simp [hpD]⟩
   have hDl:D.length=l.length+1:=by rw [<-hD]; simp [aC,hBl]; omega
   have hDe:D=(l.take i++[x]++l.drop i).map row:=by
    rw [<-hD,<-hB,<-hA2,<-hA,wy (A:=l.map row) (n:=l.length) (by simp) hi2];simp [List.map_take,List.map_drop]
   simp only [go_sem,seval,bB,bD,bA,bF,hi1,hi2,h10,Nat.le_refl,hp,hf,hpD,RowOk.frzRows ok,RowOk.all ok,RowOk.allPlain ok,RowOk.allD ok,aA,RX_cap,dw,altX,roomS,roomC,cutC,copyX,bw,av,extOf,Ext.all,peekX,aT,Option.map_some,hw1,hw2,hw3,hw1b,hw3b,Nat.min_self,Nat.zero_le,Nat.sub_zero,deepV,bne_self_eq_false,List.isEmpty_nil,decide_not,List.length_replicate,hlt0,hm1,hm2,hm3,hm4,aJ,aF,Nat.not_succ_le_self,hc1,hk1,hk,hk2,hk3,e2,e3,hi3,hi4,hne,hne2,hA,hAl,hAp.1,hAp.2,hes,hA2,hA2p,hA2f,hB,hBp.1,hBp.2,hBl,hD,hDp.1,hDp.2,hDl,hm5,hm5b];refine wC rfl ?_;simp only [go_sem,seval,bB,bD,bA,bF,hi1,hi2,h10,Nat.le_refl,hp,hf,hpD,RowOk.frzRows ok,RowOk.all ok,RowOk.allPlain ok,RowOk.allD ok,aA,RX_cap,dw,altX,roomS,roomC,cutC,copyX,bw,av,extOf,Ext.all,peekX,aT,Option.map_some,hw1,hw2,hw3,hw1b,hw3b,Nat.min_self,Nat.zero_le,Nat.sub_zero,deepV,bne_self_eq_false,List.isEmpty_nil,decide_not,List.length_replicate,hlt0,hm1,hm2,hm3,hm4,aJ,aF,Nat.not_succ_le_self,hc1,hk1,hk,hk2,hk3,e2,e3,hi3,hi4,hne,hne2,hA,hAl,hAp.1,hAp.2,hes,hA2,hA2p,hA2f,hB,hBp.1,hBp.2,hBl,hD,hDp.1,hDp.2,hDl,hm5,hm5b];repeat' ((with_reducible refine bN ?_ ?_); kernel_rfl)
   simp only [go_sem,seval,bB,bD,bA,bF,hi1,hi2,h10,Nat.le_refl,hp,hf,hpD,RowOk.frzRows ok,RowOk.all ok,RowOk.allPlain ok,RowOk.allD ok,aA,RX_cap,dw,altX,roomS,roomC,cutC,copyX,bw,av,extOf,Ext.all,peekX,aT,Option.map_some,hw1,hw2,hw3,hw1b,hw3b,Nat.min_self,Nat.zero_le,Nat.sub_zero,deepV,bne_self_eq_false,List.isEmpty_nil,decide_not,List.length_replicate,hlt0,hm1,hm2,hm3,hm4,aJ,aF,Nat.not_succ_le_self,gy,gG,hDp.1,hDp.2,hD,hDl];refine mw ok ?_;rw [hr,<-hDe,<-hDl,List.take_length]
theorem sF (N:Nat) (a0:List Client) (a1:Int) (a2:List Client) (r:List Client) (h:bX N a0 a1 a2=some r) :
  Con Try.prog 30 [true,false,true] false [.sl true none 4 none (a0.map Client.row),.val (.int .i64 a1),.sl true none 4 none (a2.map Client.row)] (.sl true none 4 none (r.map Client.row)):=by
 unfold bX at h;obtain ⟨n,x,rfl,rfl,h1,h2,h3⟩:=pZ h;exact vC fun k hk1 hk2=>mJ Client.row Client.row_ok a0 n x k r (Option.some.inj h3).symm h1 h2 (by simpa using hk1) hk2
def dX (N:Nat):FnS:={ own:=[true,false,true],pure:=false,fn:=fun cs=>match cs with
 | [c0,c1,c2]=>(decO 4 Client.dec c0).bind fun q0=>(decI .i64 c1).bind fun q1=>(decO 4 Client.dec c2).bind fun q2=>(bX N q0 q1 q2).map fun r=>.sl true none 4 none (r.map Client.row)
 | _=>none }
theorem pE (N:Nat):(dX N).own=[true,false,true]:=rfl
theorem o5 (N:Nat):(dX N).pure=false:=rfl
theorem pa (N:Nat):(dX N).peek=false:=rfl
attribute [go_sem] dX pE o5 pa
theorem zb (N:Nat):FSOk Try.prog 30 (dX N):=by
 refine ⟨fun cs r h=>?_,fun h=>by cases h⟩;simp only [dX] at h;split at h
 ·simp only [Option.bind_eq_some_iff,Option.map_eq_some_iff] at h;obtain ⟨q0,h0,q1,h1,q2,h2,r',hr,rfl⟩:=h;exact (sF N q0 q1 q2 r' hr).argsO rfl (iH (lB Client.row_ok Client.dec_le h0) (pH (ar h1) (iH (lB Client.row_ok Client.dec_le h2) ot)))
 ·cases h
def RawRow:Type:={r:List C // r.map C.frz=r/\r.all C.cellOk=true/\r.all Go.Abs.plainCell=true}
def RawRow.row (x:RawRow):List C:=x.1
theorem RawRow.ok:RowOk RawRow.row:=⟨fun x=>x.2.1,fun x=>x.2.2.1,fun x=>x.2.2.2⟩
theorem pN {N:Nat} {a0:List Client} {a1:Int} {x:Client} {r:List Client} (h:bX N a0 a1 [x]=some r):r[a1.toNat]?=some x:=by
 unfold bX at h;obtain ⟨n,y,rfl,hy,h1,h2,h3⟩:=pZ h;obtain rfl:x=y:=by simpa using hy
 obtain rfl:=Option.some.inj h3;rw [Int.toNat_natCast,List.append_assoc,List.getElem?_append_right (by simp only [List.length_take]; omega)];simp only [List.length_take,Nat.min_eq_left h1,Nat.sub_self,List.cons_append,List.getElem?_cons_zero]
theorem rF (N:Nat) (a0:List Client) (a1:Int) (a2:List Client) (r:List Client) (h:bX N a0 a1 a2=some r) :
  Con Try.prog 30 [true,false,true] false [.sl true none 4 none (a0.map Client.row),.val (.int .i64 a1),.sl true none 4 none (a2.map Client.rowN)] (.sl true none 4 none ((r.map Client.row).set a1.toNat ((a2.map Client.rowN).headD []))):=by
 unfold bX at h;obtain ⟨n,x,rfl,rfl,h1,h2,h3⟩:=pZ h;obtain rfl:=Option.some.inj h3;have ok:=Client.row_ok
 let f:Client->RawRow:=fun y=>⟨Client.row y,ok.frz y,ok.ok y,ok.plain y⟩
 let g:RawRow:=⟨Client.rowN x,rfl,rfl,rfl⟩
 have e1:(a0.map f).map RawRow.row=a0.map Client.row:=by rw [List.map_map]; rfl
 have e2:((a0.map f).take n++[g]++(a0.map f).drop n).map RawRow.row=((a0.take n++[x]++a0.drop n).map Client.row).set n (Client.rowN x):=by
  simp only [List.map_append,List.map_cons,List.map_nil,List.append_assoc];rw [<-List.map_take,<-List.map_drop,List.map_map,List.map_map,List.set_append_right _ _ (by simp only [List.length_map,List.length_take]; omega)];simp only [List.length_map,List.length_take,Nat.min_eq_left h1,Nat.sub_self,List.cons_append,List.nil_append,List.set_cons_zero];rfl
 refine vC fun k hk1 hk2=>?_;have:=mJ RawRow.row RawRow.ok (a0.map f) n g k _ rfl (by simpa using h1) (by simpa using h2) (by simpa using hk1) hk2;rw [e1,e2] at this;exact this
def dC (N:Nat):FnS:={ own:=[true,false,true],pure:=false,fn:=fun cs=>match cs with
 | [c0,c1,c2]=>(decO 4 Client.dec c0).bind fun q0=>(decI .i64 c1).bind fun q1=>(decO 4 Client.decN c2).bind fun q2=>(bX N q0 q1 q2).map fun r=>.sl true none 4 none ((r.map Client.row).set q1.toNat ((q2.map Client.rowN).headD []))
 | _=>none }
theorem pq (N:Nat):(dC N).own=[true,false,true]:=rfl
theorem o7 (N:Nat):(dC N).pure=false:=rfl
theorem oY (N:Nat):(dC N).peek=false:=rfl
attribute [go_sem] dC pq o7 oY List.headD_cons Client.rowN Client.decN
theorem qf (N:Nat):FSOk Try.prog 30 (dC N):=by
 refine ⟨fun cs r h=>?_,fun h=>by cases h⟩;simp only [dC] at h;split at h
 ·simp only [Option.bind_eq_some_iff,Option.map_eq_some_iff] at h;obtain ⟨q0,h0,q1,h1,q2,h2,r',hr,rfl⟩:=h;exact (rF N q0 q1 q2 r' hr).argsO rfl (iH (lB Client.row_ok Client.dec_le h0) (pH (ar h1) (iH (lB Client.rowN_ok Client.decN_le h2) ot)))
 ·cases h


theorem wQ (N:Nat) (a0:Int) (r:Bool) (h:jt N a0=some r):Con Try.prog 73 [] true [.val (.int .i64 a0)] (.val (.bool r)):=by
 refine ay (G:=(glist [])) Try.func73 rfl (by decide) (by kernel_rfl) gn [] mix (Nat.le_of_ble_eq_true rfl) ?_;simp only [Try.f73];unfold jt at h;refine Ws fun Z hZ=>?_;simp only [go_sem,seval];refine hZ _ (pp (Ws fun Z hZ=>?_));simp only [go_sem,seval];refine hZ _ (pp (Wk_ret (pp ?_)));cases h;simp only [go_sem,seval];exact ⟨_,rfl,RokI.h,PureI.h⟩
def lf (N:Nat):FnS:=⟨[],true,fn1 (decI .i64) fun q0=>(jt N q0).map fun r=>.val (.bool r),false⟩
attribute [go_sem] lf
theorem ph (N:Nat):FSOk Try.prog 73 (lf N):=ok1 (fun q0 r h=>by
 obtain ⟨r',hr,rfl⟩:=Option.map_eq_some_iff.1 h;exact wQ N q0 r' hr) (ar)


noncomputable def s4 (N d f:Nat):Option FnS:=glist [(6,73,lf N),(9,73,lf N)] d f
attribute [go_sem] s4
theorem yx (N:Nat) (a0:Int) (a1:Int) (r:Bool) (h:kO N a0 a1=some r):Con Try.prog 60 [] true [.val (.int .i64 a0),.val (.int .i64 a1)] (.val (.bool r)):=by
 refine ay (G:=(s4 N)) Try.func60 rfl (by decide) (by kernel_rfl) (gc 6 (ph N) (gc 9 (ph N) gn)) [] mix (Nat.le_of_ble_eq_true rfl) ?_;simp only [Try.f60];unfold kO at h;refine Ws fun Z hZ=>?_;simp only [go_sem,seval];refine hZ _ (pp (Wk_seq ?_));obtain ⟨r1,hr1,h⟩:=Option.bind_eq_some_iff.1 h;refine aa fun Z hZ=>?_;simp only [go_sem,seval,hr1];refine sw (bf rfl) (fun hc2=>?_) (fun hc2=>?_)
 ·rw [if_neg (ne_true_of_eq_false hc2)] at h;simp only [go_sem,seval,hc2];refine hZ _ (pp (Wk_ret (pp ?_)));cases h;simp only [go_sem,seval];exact ⟨_,rfl,RokI.h,PureI.h⟩
 rw [if_pos hc2] at h;obtain ⟨r2,hr3,h⟩:=Option.bind_eq_some_iff.1 h;simp only [go_sem,seval,hc2,hr3];refine aw rfl (fun hc4=>?_) (fun hc4=>?_)
 ·rw [if_neg (ne_true_of_eq_false hc4)] at h;simp only [go_sem,seval,hc4];refine hZ _ (pp (Wk_ret (pp ?_)));cases h;simp only [go_sem,seval];exact ⟨_,rfl,RokI.h,PureI.h⟩
 rw [if_pos hc4] at h;simp only [go_sem,seval,hc4];refine hZ _ (pp (Wk_ret (pp ?_)));cases h;simp only [go_sem,seval];exact ⟨_,rfl,RokI.h,PureI.h⟩
def oN (N:Nat):FnS:=⟨[],true,fn2 (decI .i64) (decI .i64) fun q0 q1=>(kO N q0 q1).map fun r=>.val (.bool r),false⟩
attribute [go_sem] oN
theorem vw (N:Nat):FSOk Try.prog 60 (oN N):=ok2 (fun q0 q1 r h=>by
 obtain ⟨r',hr,rfl⟩:=Option.map_eq_some_iff.1 h;exact yx N q0 q1 r' hr) (ar) (ar)


theorem vg (N:Nat) (a0:Int) (r:Bool) (h:gm N a0=some r):Con Try.prog 61 [] true [.val (.int .i64 a0)] (.val (.bool r)):=by
 refine ay (G:=(glist [])) Try.func61 rfl (by decide) (by kernel_rfl) gn [] mix (Nat.le_of_ble_eq_true rfl) ?_;simp only [Try.f61];unfold gm at h;refine Ws fun Z hZ=>?_;simp only [go_sem,seval];refine hZ _ (pp (Ws fun Z hZ=>?_));simp only [go_sem,seval];refine hZ _ (pp (Wk_ret (pp ?_)));cases h;simp only [go_sem,seval];exact ⟨_,rfl,RokI.h,PureI.h⟩
def jh (N:Nat):FnS:=⟨[],true,fn1 (decI .i64) fun q0=>(gm N q0).map fun r=>.val (.bool r),false⟩
attribute [go_sem] jh
theorem mN (N:Nat):FSOk Try.prog 61 (jh N):=ok1 (fun q0 r h=>by
 obtain ⟨r',hr,rfl⟩:=Option.map_eq_some_iff.1 h;exact vg N q0 r' hr) (ar)


noncomputable def lT (N d f:Nat):Option FnS:=glist [(27,60,oN N),(47,61,jh N),(50,61,jh N)] d f
attribute [go_sem] lT
theorem qC (N:Nat) (a0:(List Int)) (a1:Int) (r:Int × Bool) (h:dN N a0 a1=some r):Con Try.prog 31 [] true [.sl false none 1 none (a0.map (rowI .i64)),.val (.int .i64 a1)] (.tup [.val (.int .i64 r.1),.val (.bool r.2)]):=by
 refine ay (G:=(lT N)) Try.func31 rfl (by decide) (by kernel_rfl) (gc 27 (vw N) (gc 47 (mN N) (gc 50 (mN N) gn))) [] mix (Nat.le_of_ble_eq_true rfl) ?_;simp only [Try.f31];unfold dN at h;refine Ws fun Z hZ=>?_;simp only [go_sem,seval];refine hZ _ (pp (Ws fun Z hZ=>?_));simp only [go_sem,seval];refine hZ _ (pp (Ws fun Z hZ=>?_));simp only [go_sem,seval];refine hZ _ (pp (Wk_seq (ak (sV (fun (b:Int × Int)=>⟨tab 54 (updT (updT (updT (updT (updT deadT 0 (.sl false none 1 none (a0.map (rowI .i64)))) 1 (.val (.int .i64 a1))) 6 (.val (.int .i64 ((a0.length:Nat):Int)))) 7 (.val (.int .i64 b.1))) 8 (.val (.int .i64 b.2))),RZ⟩) (0,((a0.length:Nat):Int)) h ?_ ?_))))
 ·refine wr ?_ ?_<;>repeat' first|rfl|constructor
 rintro n ⟨v2,v3⟩ h -;cases n with
 | zero=>simp [dh] at h
 | succ n=>
 simp only [dh] at h;refine Wk_seq (Ws fun Z hZ=>?_);simp only [go_sem,seval];refine hZ _ (pp (aQ rfl (fun hc1=>?_) (fun hc1=>?_)))
 ·have hc1d:=decide_eq_true hc1;rw [if_pos hc1] at h;refine ag (pp (ak (Ws fun Z hZ=>?_)));simp only [go_sem,seval,hc1d];refine hZ _ (pp (Wk_seq ?_));obtain ⟨x9,hb2,hx3,h⟩:=da h;obtain ⟨r10,hr4,h⟩:=Option.bind_eq_some_iff.1 h;refine aa fun Z hZ=>?_;simp only [go_sem,seval,hb2,hx3,hr4];refine hZ _ (pp (au rfl (fun hc5=>?_) (fun hc5=>?_)))
  ·rw [if_pos hc5] at h;refine aa fun Z hZ=>?_;simp only [go_sem,seval,hc5];refine hZ _ (pp (⟨_,Nat.lt_succ_self _,(IntKind.i64.wrap ((IntKind.i64.wrap (shrI .u64 (IntKind.u64.wrap (IntKind.i64.wrap (v2+v3))) 1))+1),v3),?_,h⟩));refine wr ?_ ?_<;>repeat' first|rfl|constructor
  rw [if_neg (ne_true_of_eq_false hc5)] at h;refine aa fun Z hZ=>?_;simp only [go_sem,seval,hc5];refine hZ _ (pp (⟨_,Nat.lt_succ_self _,(v2,IntKind.i64.wrap (shrI .u64 (IntKind.u64.wrap (IntKind.i64.wrap (v2+v3))) 1)),?_,h⟩));refine wr ?_ ?_<;>repeat' first|rfl|constructor
 have hc1d:=decide_eq_false hc1;rw [if_neg hc1] at h;refine ba (pp ?_);unfold fw at h;refine Ws fun Z hZ=>?_;simp only [go_sem,seval,hc1d];refine sw (ae rfl) (fun hc6=>?_) (fun hc6=>?_)
 ·have hc6d:=decide_eq_false hc6;rw [if_neg hc6] at h;simp only [go_sem,seval,hc6d];refine hZ _ (pp (Wk_ret (pp ?_)));cases h;simp only [go_sem,seval];exact ⟨_,rfl,RokI.h,PureI.h⟩
 have hc6d:=decide_eq_true hc6;rw [if_pos hc6] at h;obtain ⟨x11,hb7,hx8,h⟩:=da h;simp only [go_sem,seval,hb7,hx8];refine ae rfl (fun hc9=>?_) (fun hc9=>?_)
 ·have hc9d:=decide_eq_true hc9;rw [if_pos hc9] at h;simp only [go_sem,seval,hc9d];refine hZ _ (pp (Wk_ret (pp ?_)));cases h;simp only [go_sem,seval];exact ⟨_,rfl,RokI.h,PureI.h⟩
 have hc9d:=decide_eq_false hc9;rw [if_neg hc9] at h;obtain ⟨r12,hr10,h⟩:=Option.bind_eq_some_iff.1 h;simp only [go_sem,seval,hb7,hx8,hc9d,hr10];refine bf rfl (fun hc11=>?_) (fun hc11=>?_)
 ·rw [if_pos hc11] at h;obtain ⟨r13,hr12,h⟩:=Option.bind_eq_some_iff.1 h;simp only [go_sem,seval,hc11,hr12];refine hZ _ (pp (Wk_ret (pp ?_)));cases h;simp only [go_sem,seval];exact ⟨_,rfl,RokI.h,PureI.h⟩
 rw [if_neg (ne_true_of_eq_false hc11)] at h;simp only [go_sem,seval,hc11];refine hZ _ (pp (Wk_ret (pp ?_)));cases h;simp only [go_sem,seval];exact ⟨_,rfl,RokI.h,PureI.h⟩
def ij (N:Nat):FnS:=⟨[],true,fn2 (decL 1 (dec1 (decI .i64))) (decI .i64) fun q0 q1=>(dN N q0 q1).map fun r=>.tup [.val (.int .i64 r.1),.val (.bool r.2)],false⟩
attribute [go_sem] ij
theorem pb (N:Nat):FSOk Try.prog 31 (ij N):=ok2 (fun q0 q1 r h=>by
 obtain ⟨r',hr,rfl⟩:=Option.map_eq_some_iff.1 h;exact qC N q0 q1 r' hr) (fun h=>aq (br .i64) h) (ar)


def dj:FnS:={ own:=[true,true],pure:=false,fn:=fun _=>none,peek:=true }
theorem aM:dj.own=[true,true]:=rfl
theorem aL:dj.peek=true:=rfl
theorem qs:PeekOk Try.prog 62:=
 yY (fn:=Try.f62) (tS:=23) (tR:=4) (e:=3) (size:=1) Try.func62 rfl rfl (by kernel_rfl) (by kernel_rfl) (by kernel_rfl) (by kernel_rfl)
theorem m9:FSOk Try.prog 62 dj:=⟨(fun cs r h=>by simp [dj] at h),fun _=>qs⟩
noncomputable def eF:Env:={ T:=tiOf Try.prog,G:=fun d f=>if d=67/\f=62 then some dj else none }
theorem db:eF.T=tiOf Try.prog:=rfl
theorem b9 (d:Nat):eF.F d=none:=rfl
theorem b8 (d f:Nat):eF.L d f=none:=rfl
theorem bY:eF.G 67 62=some dj:=rfl
theorem sD:GOk Try.prog { T:=tiOf Try.prog,G:=eF.G }:=by
 refine ⟨?_,fun _ _ _ h=>by cases h⟩;intro d f fs hfs;simp only [eF] at hfs;split at hfs
 ·rename_i hc; obtain ⟨rfl,rfl⟩:=hc; obtain rfl:=Option.some.inj hfs; exact m9
 cases hfs
theorem tZ:FunOk Try.prog 32 Try.f32 Try.f32.body.get! := ⟨Try.func32,rfl,by decide,by kernel_rfl⟩
set_option maxHeartbeats 4000000 in
theorem ue {α:Type} (row:α->List C) (ok:RowOk row) (l:List α) (i:Nat) (x:α) (k:Nat) (r:List α) (hr:r=l.take i++[x]++l.drop i) (hi:i<=l.length) (hsz:(l.length+1) * 8<=140737488355328) (hk1:l.length<=k) (hk2:k<=maxLen) :
  Con Try.prog 32 [true,false,true] false [.sl true none 1 (some k) (l.map row),.val (.int .i64 i),.sl true none 1 none ([x].map row)] (.sl true none 1 none (r.map row)):=by
 refine yp (E:=eF) (sO Try.prog _) sD mix tZ (Nat.le_of_ble_eq_true rfl) ?_;intro _;rw [pX (by simp)];rw [show entryF [true,false,true] [C.sl true none 1 (some k) (l.map row),C.val (.int .i64 i),C.sl true none 1 none ([x].map row)]=(updT (updT (updT deadT 0 (.pal 0 [] 0 l.length none)) 1 (.val (.int .i64 i))) 2 (.pal 2 [] 0 1 none)) from by funext t; match t with|0=>simp [entryF,ky,viewD,updT]|1=>rfl|2=>rfl|t+3=>rfl];rw [show R0 [true,false,true] [C.sl true none 1 (some k) (l.map row),C.val (.int .i64 i),C.sl true none 1 none ([x].map row)]=upd (upd RZ 0 (C.sl true none 1 (some k) (l.map row))) 2 (C.sl true none 1 none ([x].map row)) from by funext t; match t with|0=>rfl|1=>rfl|2=>rfl|t+3=>rfl];apply yT;simp only [Try.f32,Option.get!];have hi1:(i:Int)<=(l.length:Int):=by omega
 have hi2:i<=l.length:=hi;have h10:(((1:Nat):Int)=0)=False:=by simp
 have hp:(row x).all Abs.plainCell=true:=ok.plain x;have hf:(row x).map C.frz=(row x):=ok.frz x;have hpD:(row x).all plainD=true:=by have:=(RowOk.allD ok [x]); simpa using this
 have hw1:IntKind.i64.wrap ((l.length:Int)+((1:Nat):Int))=((l.length+1:Nat):Int):=by rw [eB (by omega) (by omega)]; rfl
 have hlt0:(l.take i).length=i:=by simp; omega
 have hes:(1 != 0)=true:=rfl;have hm1:min 1 (l.length+1 - i)=1:=by omega
 have hm2:min (l.length - i) (l.length+1 - (i+1))=l.length - i:=by omega
 have hm3:(l.drop i).take (l.length - i)=l.drop i:=List.take_of_length_le (by simp);have hm4:i+1<=l.length+1:=by omega
 have hw2:IntKind.i64.wrap (((l.length+1:Nat):Int) - (i:Int))=((l.length+1 - i:Nat):Int):=by rw [eB (by omega) (by omega)]; omega
 have hw1b:IntKind.i64.wrap ((l.length:Int)+1)=((l.length+1:Nat):Int):=hw1;have hw3:IntKind.i64.wrap ((i:Int)+((1:Nat):Int))=((i+1:Nat):Int):=by rw [eB (by omega) (by omega)]; rfl
 have hw3b:IntKind.i64.wrap ((i:Int)+1)=((i+1:Nat):Int):=hw3;simp only [go_sem,seval,db,b9,b8,bY,hi1,hi2,h10,Nat.le_refl,hp,hf,hpD,RowOk.frzRows ok,RowOk.all ok,RowOk.allPlain ok,RowOk.allD ok,aA,RX_cap,dw,altX,roomS,roomC,cutC,copyX,bw,av,extOf,Ext.all,peekX,aT,Option.map_some,hw1,hw2,hw3,hw1b,hw3b,Nat.min_self,Nat.zero_le,Nat.sub_zero,deepV,bne_self_eq_false,List.isEmpty_nil,decide_not,List.length_replicate,hlt0,hm1,hm2,hm3,hm4,aM,aL,Nat.not_succ_le_self];refine wI rfl ?_;simp only [go_sem,seval,db,b9,b8,bY,hi1,hi2,h10,Nat.le_refl,hp,hf,hpD,RowOk.frzRows ok,RowOk.all ok,RowOk.allPlain ok,RowOk.allD ok,aA,RX_cap,dw,altX,roomS,roomC,cutC,copyX,bw,av,extOf,Ext.all,peekX,aT,Option.map_some,hw1,hw2,hw3,hw1b,hw3b,Nat.min_self,Nat.zero_le,Nat.sub_zero,deepV,bne_self_eq_false,List.isEmpty_nil,decide_not,List.length_replicate,hlt0,hm1,hm2,hm3,hm4,aM,aL,Nat.not_succ_le_self];refine mC rfl (fun hc=>?_) (fun hc=>?_)
 ·have e:i=l.length:=by omega
  subst e;simp only [go_sem,seval,db,b9,b8,bY,hi1,hi2,h10,Nat.le_refl,hp,hf,hpD,RowOk.frzRows ok,RowOk.all ok,RowOk.allPlain ok,RowOk.allD ok,aA,RX_cap,dw,altX,roomS,roomC,cutC,copyX,bw,av,extOf,Ext.all,peekX,aT,Option.map_some,hw1,hw2,hw3,hw1b,hw3b,Nat.min_self,Nat.zero_le,Nat.sub_zero,deepV,bne_self_eq_false,List.isEmpty_nil,decide_not,List.length_replicate,hlt0,hm1,hm2,hm3,hm4,aM,aL,Nat.not_succ_le_self,gy,gG,hsz];refine mw ok ?_;rw [hr];simp [List.take_of_length_le]
 ·have hc1:decide ((i:Int)=(l.length:Int))=false:=decide_eq_false hc;have hlt:i < l.length:=by omega
  simp only [go_sem,seval,db,b9,b8,bY,hi1,hi2,h10,Nat.le_refl,hp,hf,hpD,RowOk.frzRows ok,RowOk.all ok,RowOk.allPlain ok,RowOk.allD ok,aA,RX_cap,dw,altX,roomS,roomC,cutC,copyX,bw,av,extOf,Ext.all,peekX,aT,Option.map_some,hw1,hw2,hw3,hw1b,hw3b,Nat.min_self,Nat.zero_le,Nat.sub_zero,deepV,bne_self_eq_false,List.isEmpty_nil,decide_not,List.length_replicate,hlt0,hm1,hm2,hm3,hm4,aM,aL,Nat.not_succ_le_self,hc1];refine mC rfl (fun hk=>?_) (fun hk=>?_)
  ·have hk1:decide (k < l.length+1)=true:=decide_eq_true hk;have hk2:k < i+(l.length+1 - i):=by omega
   have e1:i+(l.length+1 - i)=l.length+1:=by omega
   have hi3:(i:Int)<=((l.length+1:Nat):Int):=by omega
   have hi4:i<=l.length+1:=by omega
   obtain ⟨A,hA⟩:∃ A,List.map row (List.take i l)++List.replicate (l.length+1 - i) [C.val (Value.int .i64 0)]=A:=⟨_,rfl⟩;have hAp:bz A:=by rw [<-hA]; exact fB (eL ok _) (ra _ [Value.int .i64 0] (by simp [Value.oneCell']))
   have hAl:A.length=l.length+1:=by rw [<-hA,List.length_append,List.length_map,hlt0,List.length_replicate]; omega
   obtain ⟨B,hB⟩:∃ B,aC A i [(row x)]=B:=⟨_,rfl⟩;have hBp:bz B:=by rw [<-hB]; exact eM hAp ⟨by simp [frzRows,hf],by simp [hpD]⟩
   have hBl:B.length=l.length+1:=by rw [<-hB]; simp [aC,hAl]; omega
   obtain ⟨D,hD⟩:∃ D,aC B (i+1) (List.map row (List.drop i l))=D:=⟨_,rfl⟩;have hDp:bz D:=by rw [<-hD]; exact eM hBp (eL ok _)
   have hDl:D.length=l.length+1:=by rw [<-hD]; simp [aC,hBl]; omega
   have hDe:D=(l.take i++[x]++l.drop i).map row:=by
    rw [<-hD,<-hB,<-hA,List.map_take,List.map_drop,yX (A:=l.map row) (n:=l.length) (by simp) hi2 (by simp)];simp
   simp only [go_sem,seval,db,b9,b8,bY,hi1,hi2,h10,Nat.le_refl,hp,hf,hpD,RowOk.frzRows ok,RowOk.all ok,RowOk.allPlain ok,RowOk.allD ok,aA,RX_cap,dw,altX,roomS,roomC,cutC,copyX,bw,av,extOf,Ext.all,peekX,aT,Option.map_some,hw1,hw2,hw3,hw1b,hw3b,Nat.min_self,Nat.zero_le,Nat.sub_zero,deepV,bne_self_eq_false,List.isEmpty_nil,decide_not,List.length_replicate,hlt0,hm1,hm2,hm3,hm4,aM,aL,Nat.not_succ_le_self,hc1,hk1,hk,hk2,e1,hi3,hi4,hA,hAl,hAp.1,hAp.2,hB,hBp.1,hBp.2,hBl,hD,hDp.1,hDp.2,hsz];repeat' ((with_reducible refine bN ?_ ?_); kernel_rfl)
   simp only [go_sem,seval,db,b9,b8,bY,hi1,hi2,h10,Nat.le_refl,hp,hf,hpD,RowOk.frzRows ok,RowOk.all ok,RowOk.allPlain ok,RowOk.allD ok,aA,RX_cap,dw,altX,roomS,roomC,cutC,copyX,bw,av,extOf,Ext.all,peekX,aT,Option.map_some,hw1,hw2,hw3,hw1b,hw3b,Nat.min_self,Nat.zero_le,Nat.sub_zero,deepV,bne_self_eq_false,List.isEmpty_nil,decide_not,List.length_replicate,hlt0,hm1,hm2,hm3,hm4,aM,aL,Nat.not_succ_le_self,gy,gG,hDp.1,hDp.2,hD];refine mw ok ?_;rw [hr,<-hDe,<-hDl,List.take_length]
  ·have hk1:decide (k < l.length+1)=false:=decide_eq_false hk;have hk2:¬ k < i+(l.length+1 - i):=by omega
   have hk3:l.length+1<=k:=by omega
   have e2:l.length+1 - l.length=1:=by omega
   have e3:l.length<=l.length+1:=by omega
   have hi3:(i:Int)<=((l.length+1:Nat):Int):=by omega
   have hi4:i<=l.length+1:=by omega
   have hne:¬ l.length+1 - (i+1)=0:=by omega
   have hne2:¬ l.length - i=0:=by omega
   obtain ⟨A,hA⟩:∃ A,List.map row l++[[C.dead]]=A:=⟨_,rfl⟩;have hAp:bz A:=by rw [<-hA]; exact fB (eL ok _) (rm 1 1)
   have hAl:A.length=l.length+1:=by rw [<-hA]; simp
   have hm5:min (l.length+1 - i) (l.length+1 - (i+1))=l.length - i:=by omega
   have hm5b:min (l.length+1 - i) (l.length - i)=l.length - i:=by omega
   obtain ⟨A2,hA2⟩:∃ A2,(A.drop i).take (l.length - i)=A2:=⟨_,rfl⟩;have hA2e:A2=List.map row (l.drop i):=by
    rw [<-hA2,<-hA,List.drop_append,List.length_map,show i - l.length=0 by omega,List.drop_zero,List.take_append,List.take_of_length_le (by simp),show l.length - i - (List.drop i (List.map row l)).length=0 by simp];simp [List.map_drop]
   have hA2p:(A2.all fun r=>r.all Abs.plainCell)=true:=by rw [hA2e]; exact ok.allPlain _
   have hA2f:frzRows A2=A2:=by rw [hA2e]; exact ok.frzRows _
   have hA2d:bz A2:=by rw [hA2e]; exact eL ok _
   obtain ⟨B,hB⟩:∃ B,aC A (i+1) A2=B:=⟨_,rfl⟩;have hBp:bz B:=by rw [<-hB]; exact eM hAp hA2d
   have hBl:B.length=l.length+1:=by rw [<-hB]; simp [aC,hAl,hA2e]; omega
   obtain ⟨D,hD⟩:∃ D,aC B i [(row x)]=D:=⟨_,rfl⟩;have hDp:bz D:=by rw [<-hD]; exact eM hBp ⟨by simp [frzRows,hf],by simp [hpD]⟩
   have hDl:D.length=l.length+1:=by rw [<-hD]; simp [aC,hBl]; omega
   have hDe:D=(l.take i++[x]++l.drop i).map row:=by
    rw [<-hD,<-hB,<-hA2,<-hA,wy (A:=l.map row) (n:=l.length) (by simp) hi2];simp [List.map_take,List.map_drop]
   simp only [go_sem,seval,db,b9,b8,bY,hi1,hi2,h10,Nat.le_refl,hp,hf,hpD,RowOk.frzRows ok,RowOk.all ok,RowOk.allPlain ok,RowOk.allD ok,aA,RX_cap,dw,altX,roomS,roomC,cutC,copyX,bw,av,extOf,Ext.all,peekX,aT,Option.map_some,hw1,hw2,hw3,hw1b,hw3b,Nat.min_self,Nat.zero_le,Nat.sub_zero,deepV,bne_self_eq_false,List.isEmpty_nil,decide_not,List.length_replicate,hlt0,hm1,hm2,hm3,hm4,aM,aL,Nat.not_succ_le_self,hc1,hk1,hk,hk2,hk3,e2,e3,hi3,hi4,hne,hne2,hA,hAl,hAp.1,hAp.2,hes,hA2,hA2p,hA2f,hB,hBp.1,hBp.2,hBl,hD,hDp.1,hDp.2,hDl,hm5,hm5b];refine wC rfl ?_;simp only [go_sem,seval,db,b9,b8,bY,hi1,hi2,h10,Nat.le_refl,hp,hf,hpD,RowOk.frzRows ok,RowOk.all ok,RowOk.allPlain ok,RowOk.allD ok,aA,RX_cap,dw,altX,roomS,roomC,cutC,copyX,bw,av,extOf,Ext.all,peekX,aT,Option.map_some,hw1,hw2,hw3,hw1b,hw3b,Nat.min_self,Nat.zero_le,Nat.sub_zero,deepV,bne_self_eq_false,List.isEmpty_nil,decide_not,List.length_replicate,hlt0,hm1,hm2,hm3,hm4,aM,aL,Nat.not_succ_le_self,hc1,hk1,hk,hk2,hk3,e2,e3,hi3,hi4,hne,hne2,hA,hAl,hAp.1,hAp.2,hes,hA2,hA2p,hA2f,hB,hBp.1,hBp.2,hBl,hD,hDp.1,hDp.2,hDl,hm5,hm5b];repeat' ((with_reducible refine bN ?_ ?_); kernel_rfl)
   simp only [go_sem,seval,db,b9,b8,bY,hi1,hi2,h10,Nat.le_refl,hp,hf,hpD,RowOk.frzRows ok,RowOk.all ok,RowOk.allPlain ok,RowOk.allD ok,aA,RX_cap,dw,altX,roomS,roomC,cutC,copyX,bw,av,extOf,Ext.all,peekX,aT,Option.map_some,hw1,hw2,hw3,hw1b,hw3b,Nat.min_self,Nat.zero_le,Nat.sub_zero,deepV,bne_self_eq_false,List.isEmpty_nil,decide_not,List.length_replicate,hlt0,hm1,hm2,hm3,hm4,aM,aL,Nat.not_succ_le_self,gy,gG,hDp.1,hDp.2,hD,hDl];refine mw ok ?_;rw [hr,<-hDe,<-hDl,List.take_length]
theorem uI (N:Nat) (a0:List Int) (a1:Int) (a2:List Int) (r:List Int) (h:eW N a0 a1 a2=some r) :
  Con Try.prog 32 [true,false,true] false [.sl true none 1 none (a0.map (rowI .i64)),.val (.int .i64 a1),.sl true none 1 none (a2.map (rowI .i64))] (.sl true none 1 none (r.map (rowI .i64))):=by
 unfold eW at h;obtain ⟨n,x,rfl,rfl,h1,h2,h3⟩:=pZ h;exact vC fun k hk1 hk2=>ue (rowI .i64) (fc .i64) a0 n x k r (Option.some.inj h3).symm h1 h2 (by simpa using hk1) hk2
def dW (N:Nat):FnS:={ own:=[true,false,true],pure:=false,fn:=fun cs=>match cs with
 | [c0,c1,c2]=>(decO 1 (dec1 (decI .i64)) c0).bind fun q0=>(decI .i64 c1).bind fun q1=>(decO 1 (dec1 (decI .i64)) c2).bind fun q2=>(eW N q0 q1 q2).map fun r=>.sl true none 1 none (r.map (rowI .i64))
 | _=>none }
theorem qM (N:Nat):(dW N).own=[true,false,true]:=rfl
theorem qk (N:Nat):(dW N).pure=false:=rfl
theorem ql (N:Nat):(dW N).peek=false:=rfl
attribute [go_sem] dW qM qk ql
theorem ru (N:Nat):FSOk Try.prog 32 (dW N):=by
 refine ⟨fun cs r h=>?_,fun h=>by cases h⟩;simp only [dW] at h;split at h
 ·simp only [Option.bind_eq_some_iff,Option.map_eq_some_iff] at h;obtain ⟨q0,h0,q1,h1,q2,h2,r',hr,rfl⟩:=h;exact (uI N q0 q1 q2 r' hr).argsO rfl (iH (lB (fc .i64) (br .i64) h0) (pH (ar h1) (iH (lB (fc .i64) (br .i64) h2) ot)))
 ·cases h


noncomputable def vt (N d f:Nat):Option FnS:=glist [(14,22,gp N),(18,26,jA N),(23,27,j7 N),(29,20,eG N),(38,28,ll N),(68,29,jN N),(76,30,dC N),(84,31,ij N),(97,32,dW N)] d f
attribute [go_sem] vt
theorem vo (N:Nat) (a0:(List Client)) (a1:ByteArray) (a2:Int) (r:(List Client) × Int) (h:fQ N a0 a1 a2=some r):Con Try.prog 10 [] false [.sl false none 4 none (a0.map Client.row),.val (.string a1),.val (.int .i64 a2)] (.tup [.sl true none 4 none (r.1.map Client.row),.val (.int .i64 r.2)]):=by
 refine ay (G:=(vt N)) Try.func10 rfl (by decide) (by kernel_rfl) (gc 14 (iu N) (gc 18 (kX N) (gc 23 (ma N) (gc 29 (eK N) (gc 38 (m6 N) (gc 68 (mg N) (gc 76 (qf N) (gc 84 (pb N) (gc 97 (ru N) gn))))))))) [] mix (Nat.le_of_ble_eq_true rfl) ?_;simp only [Try.f10];unfold fQ at h;refine Ws fun Z hZ=>?_;simp (config := { maxSteps := 4000000 }) only [go_sem,seval];refine hZ _ (pp (Wk_seq ?_));apply be (fun (c9:Bool)=>⟨tab 101 (updT (updT (updT (updT deadT 0 (.sl false none 4 none (a0.map Client.row))) 1 (.val (.string a1))) 2 (.val (.int .i64 a2))) 25 (.val (.bool c9))),RZ⟩)
 ·intro hJ1;obtain ⟨r10,hr2,h⟩:=Option.bind_eq_some_iff.1 h;refine aa fun Z hZ=>?_;simp (config := { maxSteps := 4000000 }) only [go_sem,seval,hr2];refine aw rfl (fun hc3=>?_) (fun hc3=>?_)
  ·first|rw [if_neg (ne_true_of_eq_false hc3)] at h|simp only [hc3,Bool.or_false,Bool.or_true,Bool.false_or,Bool.true_or,Bool.and_true,Bool.true_and,Bool.and_false,Bool.false_and,Bool.not_true,Bool.not_false,Bool.false_eq_true,if_true,if_false] at h
   simp (config := { maxSteps := 4000000 }) only [go_sem,seval,hc3];refine hZ _ (pp (hJ1 _ true ?_ h));refine wr ?_ ?_<;>repeat' first|rfl|constructor|simp only [go_sem,seval,Bool.or_self,List.length_set,Int.natCast_zero,Int.cast_ofNat_Int,hr2,hc3]
  first|rw [if_pos hc3] at h|simp only [hc3,Bool.or_false,Bool.or_true,Bool.false_or,Bool.true_or,Bool.and_true,Bool.true_and,Bool.and_false,Bool.false_and,Bool.not_true,Bool.not_false,Bool.false_eq_true,if_true,if_false] at h
  obtain ⟨r11,hr4,h⟩:=Option.bind_eq_some_iff.1 h;simp (config := { maxSteps := 4000000 }) only [go_sem,seval,hc3,hr4];refine aw rfl (fun hc5=>?_) (fun hc5=>?_)
  ·first|rw [if_neg (ne_true_of_eq_false hc5)] at h|simp only [hc5,hc3,Bool.or_false,Bool.or_true,Bool.false_or,Bool.true_or,Bool.and_true,Bool.true_and,Bool.and_false,Bool.false_and,Bool.not_true,Bool.not_false,Bool.false_eq_true,if_true,if_false] at h
   simp (config := { maxSteps := 4000000 }) only [go_sem,seval,hc5];refine hZ _ (pp (hJ1 _ true ?_ h));refine wr ?_ ?_<;>repeat' first|rfl|constructor|simp only [go_sem,seval,Bool.or_self,List.length_set,Int.natCast_zero,Int.cast_ofNat_Int,hr2,hc3,hr4,hc5]
  first|rw [if_pos hc5] at h|simp only [hc5,hc3,Bool.or_false,Bool.or_true,Bool.false_or,Bool.true_or,Bool.and_true,Bool.true_and,Bool.and_false,Bool.false_and,Bool.not_true,Bool.not_false,Bool.false_eq_true,if_true,if_false] at h
  obtain ⟨r12,hr6,h⟩:=Option.bind_eq_some_iff.1 h;simp (config := { maxSteps := 4000000 }) only [go_sem,seval,hc5,hr6];refine hZ _ (pp (hJ1 _ (!r12) ?_ h));refine wr ?_ ?_<;>repeat' first|rfl|constructor|simp only [go_sem,seval,Bool.or_self,List.length_set,Int.natCast_zero,Int.cast_ofNat_Int,hr2,hc3,hr4,hc5,hr6]
 intro c9 h;unfold fX at h;refine au rfl (fun hc7=>?_) (fun hc7=>?_)
 ·first|rw [if_pos hc7] at h|simp only [hc7,Bool.or_false,Bool.or_true,Bool.false_or,Bool.true_or,Bool.and_true,Bool.true_and,Bool.and_false,Bool.false_and,Bool.not_true,Bool.not_false,Bool.false_eq_true,if_true,if_false] at h
  refine Ws fun Z hZ=>?_;simp (config := { maxSteps := 4000000 }) only [go_sem,seval,hc7];refine hZ _ (pp (Wk_ret (pp ?_)));cases h;simp (config := { maxSteps := 4000000 }) only [go_sem,seval];exact ⟨_,rfl,(by repeat' (first|exact ROk.refl _|exact ROk.nil _|((refine ROk.of _ ?_ ?_); (focus ((repeat' (first|exact Le.refl _|exact LeL.nil|exact Le.nils|exact LeLL.refl _|refine LeLL.mapAppend ?_ ?_|refine LeLL.cons ?_ ?_|refine Le.sl ?_|refine Le.tup ?_|refine Le.agg ?_|refine LeL.cons ?_ ?_)); done)); (focus ((repeat' (first|exact NoOwn.val _|exact NoOwn.sl _ _ _ _|refine NoOwn.tup ?_|refine NoOwn.agg ?_|exact lY|refine kY ?_ ?_)); done)))|((refine ROk.own ?_ ?_); (focus ((repeat' (first|exact Le.refl _|exact LeL.nil|exact Le.nils|exact LeLL.refl _|refine LeLL.mapAppend ?_ ?_|refine LeLL.cons ?_ ?_|refine Le.sl ?_|refine Le.tup ?_|refine Le.agg ?_|refine LeL.cons ?_ ?_)); done)); (focus ((first|exact RowOk.noOwn (fc .i64) _|exact RowOk.noOwn Answer.row_ok _|exact RowOk.noOwn Client.row_ok _|exact RowOk.noOwn iR _); done)))|refine ROk.agg rfl ?_|refine ROk.tup rfl ?_|exact og|refine l7 ?_ ?_))⟩
 first|rw [if_neg (ne_true_of_eq_false hc7)] at h|simp only [hc7,Bool.or_false,Bool.or_true,Bool.false_or,Bool.true_or,Bool.and_true,Bool.true_and,Bool.and_false,Bool.false_and,Bool.not_true,Bool.not_false,Bool.false_eq_true,if_true,if_false] at h
 refine ag (pp ?_);unfold lh at h;refine Wk_seq (Wk_seq ?_);obtain ⟨r16,hr8,h⟩:=Option.bind_eq_some_iff.1 h;refine aa fun Z hZ=>?_;simp (config := { maxSteps := 4000000 }) only [go_sem,seval,hc7,hr8];refine hZ _ (pp (ak (Ws fun Z hZ=>?_)));simp (config := { maxSteps := 4000000 }) only [go_sem,seval];refine hZ _ (pp (aQ rfl (fun hc9=>?_) (fun hc9=>?_)))
 ·have hc9d:=decide_eq_true hc9;first|rw [if_pos hc9] at h|rw [if_pos hc9d] at h|simp only [hc9d,Bool.not_true,Bool.not_false,Bool.false_eq_true,if_true,if_false] at h
  refine Ws fun Z hZ=>?_;simp (config := { maxSteps := 4000000 }) only [go_sem,seval,hc9d];refine hZ _ (pp (Wk_ret (pp ?_)));cases h;simp (config := { maxSteps := 4000000 }) only [go_sem,seval];exact ⟨_,rfl,(by repeat' (first|exact ROk.refl _|exact ROk.nil _|((refine ROk.of _ ?_ ?_); (focus ((repeat' (first|exact Le.refl _|exact LeL.nil|exact Le.nils|exact LeLL.refl _|refine LeLL.mapAppend ?_ ?_|refine LeLL.cons ?_ ?_|refine Le.sl ?_|refine Le.tup ?_|refine Le.agg ?_|refine LeL.cons ?_ ?_)); done)); (focus ((repeat' (first|exact NoOwn.val _|exact NoOwn.sl _ _ _ _|refine NoOwn.tup ?_|refine NoOwn.agg ?_|exact lY|refine kY ?_ ?_)); done)))|((refine ROk.own ?_ ?_); (focus ((repeat' (first|exact Le.refl _|exact LeL.nil|exact Le.nils|exact LeLL.refl _|refine LeLL.mapAppend ?_ ?_|refine LeLL.cons ?_ ?_|refine Le.sl ?_|refine Le.tup ?_|refine Le.agg ?_|refine LeL.cons ?_ ?_)); done)); (focus ((first|exact RowOk.noOwn (fc .i64) _|exact RowOk.noOwn Answer.row_ok _|exact RowOk.noOwn Client.row_ok _|exact RowOk.noOwn iR _); done)))|refine ROk.agg rfl ?_|refine ROk.tup rfl ?_|exact og|refine l7 ?_ ?_))⟩
 have hc9d:=decide_eq_false hc9;first|rw [if_neg hc9] at h|rw [if_neg (ne_true_of_eq_false hc9d)] at h|simp only [hc9d,Bool.not_true,Bool.not_false,Bool.false_eq_true,if_true,if_false] at h
 apply be (fun (c17:Bool)=>⟨tab 101 (updT (updT (updT (updT deadT 0 (.sl false none 4 none (a0.map Client.row))) 1 (.val (.string a1))) 2 (.val (.int .i64 a2))) 32 (.val (.bool c17))),RZ⟩)
 ·intro hJ10;refine Ws fun Z hZ=>?_;simp (config := { maxSteps := 4000000 }) only [go_sem,seval,hc9d];refine hZ _ (pp (aQ rfl (fun hc11=>?_) (fun hc11=>?_)))
  ·have hc11d:=decide_eq_true hc11;first|rw [if_pos hc11] at h|rw [if_pos hc11d] at h|simp only [hc11d,Bool.not_true,Bool.not_false,Bool.false_eq_true,if_true,if_false] at h
   refine ag (pp (hJ10 _ true ?_ h));refine wr ?_ ?_<;>repeat' first|rfl|constructor|simp only [go_sem,seval,hc11d]
  have hc11d:=decide_eq_false hc11;first|rw [if_neg hc11] at h|rw [if_neg (ne_true_of_eq_false hc11d)] at h|simp only [hc11d,Bool.not_true,Bool.not_false,Bool.false_eq_true,if_true,if_false] at h
  refine aa fun Z hZ=>?_;simp (config := { maxSteps := 4000000 }) only [go_sem,seval,hc11d];refine hZ _ (pp (hJ10 _ (decide (r16=2)) ?_ h));refine wr ?_ ?_<;>repeat' first|rfl|constructor|simp only [go_sem,seval,Bool.or_self,List.length_set,Int.natCast_zero,Int.cast_ofNat_Int,hc7,hr8,hc9d,hc11d]
 intro c17 h;unfold jv at h;refine au rfl (fun hc12=>?_) (fun hc12=>?_)
 ·first|rw [if_pos hc12] at h|simp only [hc12,hc7,Bool.or_false,Bool.or_true,Bool.false_or,Bool.true_or,Bool.and_true,Bool.true_and,Bool.and_false,Bool.false_and,Bool.not_true,Bool.not_false,Bool.false_eq_true,if_true,if_false] at h
  refine Ws fun Z hZ=>?_;simp (config := { maxSteps := 4000000 }) only [go_sem,seval,hc12];refine hZ _ (pp (Wk_ret (pp ?_)));cases h;simp (config := { maxSteps := 4000000 }) only [go_sem,seval];exact ⟨_,rfl,(by repeat' (first|exact ROk.refl _|exact ROk.nil _|((refine ROk.of _ ?_ ?_); (focus ((repeat' (first|exact Le.refl _|exact LeL.nil|exact Le.nils|exact LeLL.refl _|refine LeLL.mapAppend ?_ ?_|refine LeLL.cons ?_ ?_|refine Le.sl ?_|refine Le.tup ?_|refine Le.agg ?_|refine LeL.cons ?_ ?_)); done)); (focus ((repeat' (first|exact NoOwn.val _|exact NoOwn.sl _ _ _ _|refine NoOwn.tup ?_|refine NoOwn.agg ?_|exact lY|refine kY ?_ ?_)); done)))|((refine ROk.own ?_ ?_); (focus ((repeat' (first|exact Le.refl _|exact LeL.nil|exact Le.nils|exact LeLL.refl _|refine LeLL.mapAppend ?_ ?_|refine LeLL.cons ?_ ?_|refine Le.sl ?_|refine Le.tup ?_|refine Le.agg ?_|refine LeL.cons ?_ ?_)); done)); (focus ((first|exact RowOk.noOwn (fc .i64) _|exact RowOk.noOwn Answer.row_ok _|exact RowOk.noOwn Client.row_ok _|exact RowOk.noOwn iR _); done)))|refine ROk.agg rfl ?_|refine ROk.tup rfl ?_|exact og|refine l7 ?_ ?_))⟩
 first|rw [if_neg (ne_true_of_eq_false hc12)] at h|simp only [hc12,hc7,Bool.or_false,Bool.or_true,Bool.false_or,Bool.true_or,Bool.and_true,Bool.true_and,Bool.and_false,Bool.false_and,Bool.not_true,Bool.not_false,Bool.false_eq_true,if_true,if_false] at h
 refine ag (pp ?_);unfold mX at h;refine Wk_seq ?_;obtain ⟨r18,hr13,h⟩:=Option.bind_eq_some_iff.1 h;refine aa fun Z hZ=>?_;simp (config := { maxSteps := 4000000 }) only [go_sem,seval,hc12,hr13];refine hZ _ (pp (Wk_seq ?_));apply m8 (fun (c24:Bool) (c25:Bool)=>⟨tab 101 (updT (updT (updT (updT (updT (updT deadT 0 (.sl false none 4 none (a0.map Client.row))) 1 (.val (.string a1))) 2 (.val (.int .i64 a2))) 8 (.val (.int .i64 r18.1))) 9 (.val (.bool c24))) 66 (.val (.bool c25))),RZ⟩)
 ·intro hJ14;refine dc fun Z hZ=>?_;simp (config := { maxSteps := 4000000 }) only [go_sem,seval];repeat with_reducible refine bN (by kernel_rfl) ?_
  refine sw (bf rfl) (fun hc15=>?_) (fun hc15=>?_)
  ·first|rw [if_neg (ne_true_of_eq_false hc15)] at h|simp only [hc15,hc7,hc12,Bool.or_false,Bool.or_true,Bool.false_or,Bool.true_or,Bool.and_true,Bool.true_and,Bool.and_false,Bool.false_and,Bool.not_true,Bool.not_false,Bool.false_eq_true,if_true,if_false] at h
   simp (config := { maxSteps := 4000000 }) only [go_sem,seval,hc15];repeat with_reducible refine bN (by kernel_rfl) ?_
   refine hZ _ (by kernel_rfl) (pp (hJ14 _ false (decide (((a0.length:Nat):Int)=32)) ?_ h));refine wr ?_ ?_<;>repeat' first|rfl|constructor|simp only [go_sem,seval,Bool.or_self,List.length_set,Int.natCast_zero,Int.cast_ofNat_Int,hc7,hr8,hc9d,hc12,hr13,hc15]
  first|rw [if_pos hc15] at h|simp only [hc15,hc7,hc12,Bool.or_false,Bool.or_true,Bool.false_or,Bool.true_or,Bool.and_true,Bool.true_and,Bool.and_false,Bool.false_and,Bool.not_true,Bool.not_false,Bool.false_eq_true,if_true,if_false] at h
  obtain ⟨x26,hb16,hx17,h⟩:=da h;simp (config := { maxSteps := 4000000 }) only [go_sem,seval,hc15,hb16,hx17];repeat with_reducible refine bN (by kernel_rfl) ?_
  refine ae rfl (fun hc18=>?_) (fun hc18=>?_)
  ·have hc18d:=decide_eq_true hc18;first|rw [if_pos hc18] at h|rw [if_pos hc18d] at h|simp only [hc18d,Bool.not_true,Bool.not_false,Bool.false_eq_true,if_true,if_false] at h
   simp (config := { maxSteps := 4000000 }) only [go_sem,seval,hc18d];repeat with_reducible refine bN (by kernel_rfl) ?_
   refine hZ _ (by kernel_rfl) (pp (hJ14 _ true true ?_ h));refine wr ?_ ?_<;>repeat' first|rfl|constructor|simp only [go_sem,seval,Bool.or_self,List.length_set,Int.natCast_zero,Int.cast_ofNat_Int,hc7,hr8,hc9d,hc12,hr13,hc15,hb16,hx17,hc18d]
  have hc18d:=decide_eq_false hc18;first|rw [if_neg hc18] at h|rw [if_neg (ne_true_of_eq_false hc18d)] at h|simp only [hc18d,Bool.not_true,Bool.not_false,Bool.false_eq_true,if_true,if_false] at h
  simp (config := { maxSteps := 4000000 }) only [go_sem,seval,hc18d];repeat with_reducible refine bN (by kernel_rfl) ?_
  refine hZ _ (by kernel_rfl) (pp (hJ14 _ true false ?_ h));refine wr ?_ ?_<;>repeat' first|rfl|constructor|simp only [go_sem,seval,Bool.or_self,List.length_set,Int.natCast_zero,Int.cast_ofNat_Int,hc7,hr8,hc9d,hc12,hr13,hc15,hb16,hx17,hc18d]
 intro c24 c25 h;unfold jq at h;refine au rfl (fun hc19=>?_) (fun hc19=>?_)
 ·first|rw [if_pos hc19] at h|simp only [hc19,hc7,hc12,Bool.or_false,Bool.or_true,Bool.false_or,Bool.true_or,Bool.and_true,Bool.true_and,Bool.and_false,Bool.false_and,Bool.not_true,Bool.not_false,Bool.false_eq_true,if_true,if_false] at h
  refine Ws fun Z hZ=>?_;simp (config := { maxSteps := 4000000 }) only [go_sem,seval,hc19];refine hZ _ (pp (Wk_ret (pp ?_)));cases h;simp (config := { maxSteps := 4000000 }) only [go_sem,seval];exact ⟨_,rfl,(by repeat' (first|exact ROk.refl _|exact ROk.nil _|((refine ROk.of _ ?_ ?_); (focus ((repeat' (first|exact Le.refl _|exact LeL.nil|exact Le.nils|exact LeLL.refl _|refine LeLL.mapAppend ?_ ?_|refine LeLL.cons ?_ ?_|refine Le.sl ?_|refine Le.tup ?_|refine Le.agg ?_|refine LeL.cons ?_ ?_)); done)); (focus ((repeat' (first|exact NoOwn.val _|exact NoOwn.sl _ _ _ _|refine NoOwn.tup ?_|refine NoOwn.agg ?_|exact lY|refine kY ?_ ?_)); done)))|((refine ROk.own ?_ ?_); (focus ((repeat' (first|exact Le.refl _|exact LeL.nil|exact Le.nils|exact LeLL.refl _|refine LeLL.mapAppend ?_ ?_|refine LeLL.cons ?_ ?_|refine Le.sl ?_|refine Le.tup ?_|refine Le.agg ?_|refine LeL.cons ?_ ?_)); done)); (focus ((first|exact RowOk.noOwn (fc .i64) _|exact RowOk.noOwn Answer.row_ok _|exact RowOk.noOwn Client.row_ok _|exact RowOk.noOwn iR _); done)))|refine ROk.agg rfl ?_|refine ROk.tup rfl ?_|exact og|refine l7 ?_ ?_))⟩
 first|rw [if_neg (ne_true_of_eq_false hc19)] at h|simp only [hc19,hc7,hc12,Bool.or_false,Bool.or_true,Bool.false_or,Bool.true_or,Bool.and_true,Bool.true_and,Bool.and_false,Bool.false_and,Bool.not_true,Bool.not_false,Bool.false_eq_true,if_true,if_false] at h
 refine ag (pp ?_);unfold jx at h;refine Wk_seq ?_;obtain ⟨r27,hr20,h⟩:=Option.bind_eq_some_iff.1 h;refine aa fun Z hZ=>?_;simp (config := { maxSteps := 4000000 }) only [go_sem,seval,hc19,hr20];refine hZ _ (pp (Wk_seq (Ws fun Z hZ=>?_)));simp (config := { maxSteps := 4000000 }) only [go_sem,seval];refine hZ _ (pp (sw (de rfl) (fun hc21=>?_) (fun hc21=>?_)))
 ·first|rw [if_pos hc21] at h|simp only [hc21,hc7,hc12,hc19,Bool.or_false,Bool.or_true,Bool.false_or,Bool.true_or,Bool.and_true,Bool.true_and,Bool.and_false,Bool.false_and,Bool.not_true,Bool.not_false,Bool.false_eq_true,if_true,if_false] at h
  refine ag (pp (Wk_seq ?_));obtain ⟨x32,hb28,hx29,h⟩:=da h;obtain ⟨r33,hr30,h⟩:=Option.bind_eq_some_iff.1 h;refine aa fun Z hZ=>?_;simp (config := { maxSteps := 4000000 }) only [go_sem,seval,hc21,hb28,hx29,hr30];refine hZ _ (pp (Wk_seq ?_));obtain ⟨r34,hr31,h⟩:=Option.bind_eq_some_iff.1 h;refine aa fun Z hZ=>?_;simp (config := { maxSteps := 4000000 }) only [go_sem,seval,hb28,hx29,yQ (row:=Client.rowD) (rx:=[.val (.string x32.Name),.val (.int .i64 x32.Low),.sl true none 1 none (x32.Open.map (rowI .i64)),.sl true none 10 none (x32.Done.map Answer.row)]) hx29 rfl rfl,fx (row:=Client.rowD) _ hx29,iU (row:=Client.rowD) hx29 rfl,hr31];refine hZ _ (pp (Ws fun Z hZ=>?_));simp (config := { maxSteps := 4000000 }) only [go_sem,seval];refine hZ _ (pp (js (tX (n:=68) (Client.mk x32.Name x32.Low r34 x32.Done) (by simp only [go_sem,seval]; rfl) rfl rfl) (js (qE (row:=Client.row) (n:=68) (by simp only [go_sem,seval]; rfl) (by simp only [rK,qH,go_sem,seval]; rfl)) (Wk_ret (pp ?_)))));cases h;simp (config := { maxSteps := 4000000 }) only [go_sem,seval];exact ⟨_,rfl,(by repeat' (first|exact ROk.refl _|exact ROk.nil _|((refine ROk.of _ ?_ ?_); (focus ((repeat' (first|exact Le.refl _|exact LeL.nil|exact Le.nils|exact LeLL.refl _|refine LeLL.mapAppend ?_ ?_|refine LeLL.cons ?_ ?_|refine Le.sl ?_|refine Le.tup ?_|refine Le.agg ?_|refine LeL.cons ?_ ?_)); done)); (focus ((repeat' (first|exact NoOwn.val _|exact NoOwn.sl _ _ _ _|refine NoOwn.tup ?_|refine NoOwn.agg ?_|exact lY|refine kY ?_ ?_)); done)))|((refine ROk.own ?_ ?_); (focus ((repeat' (first|exact Le.refl _|exact LeL.nil|exact Le.nils|exact LeLL.refl _|refine LeLL.mapAppend ?_ ?_|refine LeLL.cons ?_ ?_|refine Le.sl ?_|refine Le.tup ?_|refine Le.agg ?_|refine LeL.cons ?_ ?_)); done)); (focus ((first|exact RowOk.noOwn (fc .i64) _|exact RowOk.noOwn Answer.row_ok _|exact RowOk.noOwn Client.row_ok _|exact RowOk.noOwn iR _); done)))|refine ROk.agg rfl ?_|refine ROk.tup rfl ?_|exact og|refine l7 ?_ ?_))⟩
 first|rw [if_neg (ne_true_of_eq_false hc21)] at h|simp only [hc21,hc7,hc12,hc19,Bool.or_false,Bool.or_true,Bool.false_or,Bool.true_or,Bool.and_true,Bool.true_and,Bool.and_false,Bool.false_and,Bool.not_true,Bool.not_false,Bool.false_eq_true,if_true,if_false] at h
 refine js (qE (row:=Client.row) (n:=68) (by simp only [go_sem,seval]; rfl) (by simp only [rK,qH,go_sem,seval]; rfl)) ?_;obtain ⟨r28,hr22,h⟩:=Option.bind_eq_some_iff.1 h;have hx23:=pN hr22;refine aa fun Z hZ=>?_;simp (config := { maxSteps := 4000000 }) only [go_sem,seval,hc21,hr22];refine hZ _ (pp (js (zf 76 [((r18.1).toNat,2)] 1 (by simp only [go_sem,seval,fx (row:=Client.row) _ hx23]) (by simp only [go_sem,seval,iU (row:=Client.row) hx23 rfl]; try rfl)) (js (zf 76 [((r18.1).toNat,3)] 10 (by simp only [go_sem,seval,fx (row:=Client.row) _ hx23]) (by simp only [go_sem,seval,iU (row:=Client.row) hx23 rfl]; try rfl)) (Wk_seq ?_))));obtain ⟨x29,hb24,hx25,h⟩:=da h;obtain rfl:=AY hx23 hx25;obtain ⟨r30,hr26,h⟩:=Option.bind_eq_some_iff.1 h;refine aa fun Z hZ=>?_;simp (config := { maxSteps := 4000000 }) only [go_sem,seval,fx (row:=Client.row) _ hx23,hb24,hr26];refine hZ _ (pp (Wk_seq ?_));obtain ⟨r31,hr27,h⟩:=Option.bind_eq_some_iff.1 h;refine aa fun Z hZ=>?_;simp (config := { maxSteps := 4000000 }) only [go_sem,seval,fx (row:=Client.row) _ hx23,iU (row:=Client.row) hx23 rfl,hb24,hr27];refine hZ _ (pp (Ws fun Z hZ=>?_));simp (config := { maxSteps := 4000000 }) only [go_sem,seval];refine hZ _ (pp (js (Du (n:=76) (Client.mk a1 0 r31 []) [.val (.string a1),.val (.int .i64 0),.sl false none 1 none (r31.map (rowI .i64)),.sl false none 10 none []] (by simp only [go_sem,seval]; rfl) rfl) (Wk_ret (pp ?_))));cases h;simp (config := { maxSteps := 4000000 }) only [go_sem,seval];exact ⟨_,rfl,(by repeat' (first|exact ROk.refl _|exact ROk.nil _|((refine ROk.of _ ?_ ?_); (focus ((repeat' (first|exact Le.refl _|exact LeL.nil|exact Le.nils|exact LeLL.refl _|refine LeLL.mapAppend ?_ ?_|refine LeLL.cons ?_ ?_|refine Le.sl ?_|refine Le.tup ?_|refine Le.agg ?_|refine LeL.cons ?_ ?_)); done)); (focus ((repeat' (first|exact NoOwn.val _|exact NoOwn.sl _ _ _ _|refine NoOwn.tup ?_|refine NoOwn.agg ?_|exact lY|refine kY ?_ ?_)); done)))|((refine ROk.own ?_ ?_); (focus ((repeat' (first|exact Le.refl _|exact LeL.nil|exact Le.nils|exact LeLL.refl _|refine LeLL.mapAppend ?_ ?_|refine LeLL.cons ?_ ?_|refine Le.sl ?_|refine Le.tup ?_|refine Le.agg ?_|refine LeL.cons ?_ ?_)); done)); (focus ((first|exact RowOk.noOwn (fc .i64) _|exact RowOk.noOwn Answer.row_ok _|exact RowOk.noOwn Client.row_ok _|exact RowOk.noOwn iR _); done)))|refine ROk.agg rfl ?_|refine ROk.tup rfl ?_|exact og|refine l7 ?_ ?_))⟩
def lk (N:Nat):FnS:=⟨[],false,fn3 (decL 4 Client.dec) decS (decI .i64) fun q0 q1 q2=>(fQ N q0 q1 q2).map fun r=>.tup [.sl false none 4 none (r.1.map Client.row),.val (.int .i64 r.2)],false⟩
attribute [go_sem] lk
theorem m5 (N:Nat):FSOk Try.prog 10 (lk N):=ok3 (fun q0 q1 q2 r h=>by
 obtain ⟨r',hr,rfl⟩:=Option.map_eq_some_iff.1 h;exact (vo N q0 q1 q2 r' hr).res (by first|((try simp only [go_sem]); exact RokI.h)|(repeat' (first|exact ROk.refl _|exact ROk.nil _|((refine ROk.of _ ?_ ?_); (focus ((repeat' (first|exact Le.refl _|exact LeL.nil|exact Le.nils|exact LeLL.refl _|refine LeLL.mapAppend ?_ ?_|refine LeLL.cons ?_ ?_|refine Le.sl ?_|refine Le.tup ?_|refine Le.agg ?_|refine LeL.cons ?_ ?_)); done)); (focus ((repeat' (first|exact NoOwn.val _|exact NoOwn.sl _ _ _ _|refine NoOwn.tup ?_|refine NoOwn.agg ?_|exact lY|refine kY ?_ ?_)); done)))|((refine ROk.own ?_ ?_); (focus ((repeat' (first|exact Le.refl _|exact LeL.nil|exact Le.nils|exact LeLL.refl _|refine LeLL.mapAppend ?_ ?_|refine LeLL.cons ?_ ?_|refine Le.sl ?_|refine Le.tup ?_|refine Le.agg ?_|refine LeL.cons ?_ ?_)); done)); (focus ((first|exact RowOk.noOwn (fc .i64) _|exact RowOk.noOwn Answer.row_ok _|exact RowOk.noOwn Client.row_ok _|exact RowOk.noOwn iR _); done)))|refine ROk.agg rfl ?_|refine ROk.tup rfl ?_|exact og|refine l7 ?_ ?_)))) (fun h=>aq Client.dec_le h) (aW) (ar)

def sK (N:Nat):FnS:=⟨[],false,fn3 (decL 4 Client.dec) decS (decI .i64) fun q0 q1 q2=>(fQ N q0 q1 q2).map fun r=>.tup [.sl true none 4 none (r.1.map Client.row),.val (.int .i64 r.2)],false⟩
attribute [go_sem] sK
theorem Eh (N:Nat):FSOk Try.prog 10 (sK N):=ok3 (fun q0 q1 q2 r h=>by
 obtain ⟨r',hr,rfl⟩:=Option.map_eq_some_iff.1 h;exact vo N q0 q1 q2 r' hr) (fun h=>aq Client.dec_le h) (aW) (ar)


theorem wB (N:Nat) (a0:Int) (c0_0:ByteArray) (c0_1:Int) (c0_2:(List Int)) (c0_3:Int) (c0_4:Int) (c0_5:Int) (c0_6:ByteArray) (c0_7:(List Int)) (c0_8:(List ByteArray)) (r:Bool) (h:gw N a0 c0_0 c0_1 c0_2 c0_3 c0_4 c0_5 c0_6 c0_7 c0_8=some r):Con Try.prog 38 [] true [.val (.int .i64 a0),.iref 9 [[.val (.string c0_0),.val (.int .i64 c0_1),.sl false none 1 none (c0_2.map (rowI .i64)),.val (.int .i64 c0_3),.val (.int .i64 c0_4),.val (.int .i64 c0_5),.val (.string c0_6),.sl false none 1 none (c0_7.map (rowI .i64)),.sl false none 1 none (c0_8.map rowS)]] 0 0] (.val (.bool r)):=by
 refine ay (G:=(glist [])) Try.func38 rfl (by decide) (by kernel_rfl) gn [] mix (Nat.le_of_ble_eq_true rfl) ?_;simp only [Try.f38];unfold gw at h;refine Ws fun Z hZ=>?_;simp only [go_sem,seval];refine hZ _ (pp (Ws fun Z hZ=>?_));simp only [go_sem,seval];refine hZ _ (pp (Wk_ret (pp ?_)));cases h;simp only [go_sem,seval];exact ⟨_,rfl,RokI.h,PureI.h⟩
def ir (N:Nat):FnS:={ own:=[],pure:=true,fn:=fun cs=>match cs with
 | [c0,.iref 9 [[c1_0,c1_1,c1_2,c1_3,c1_4,c1_5,c1_6,c1_7,c1_8]] 0 0]=>((decI .i64) c0).bind fun qc0=>(decS c1_0).bind fun qc1_0=>((decI .i64) c1_1).bind fun qc1_1=>((decL 1 (dec1 (decI .i64))) c1_2).bind fun qc1_2=>((decI .i64) c1_3).bind fun qc1_3=>((decI .i64) c1_4).bind fun qc1_4=>((decI .i64) c1_5).bind fun qc1_5=>(decS c1_6).bind fun qc1_6=>((decL 1 (dec1 (decI .i64))) c1_7).bind fun qc1_7=>((decL 1 (dec1 decS)) c1_8).bind fun qc1_8=>(gw N qc0 qc1_0 qc1_1 qc1_2 qc1_3 qc1_4 qc1_5 qc1_6 qc1_7 qc1_8).map fun r=>.val (.bool r)
 | _=>none }
attribute [go_sem] ir
theorem oJ (N:Nat):FSOk Try.prog 38 (ir N):=by
 refine ⟨fun cs r h=>?_,fun h=>by cases h⟩;simp only [ir] at h;split at h
 ·simp only [Option.bind_eq_some_iff,Option.map_eq_some_iff] at h;obtain ⟨q0,h0,q1,h1,q2,h2,q3,h3,q4,h4,q5,h5,q6,h6,q7,h7,q8,h8,q9,h9,r',hr,rfl⟩:=h;exact ((wB N q0 q1 q2 q3 q4 q5 q6 q7 q8 q9 r' hr).args (LeL.cons (ar h0) (LeL.cons (Le.iref1 (LeL.cons (aW h1) (LeL.cons (ar h2) (LeL.cons (aq (br .i64) h3) (LeL.cons (ar h4) (LeL.cons (ar h5) (LeL.cons (ar h6) (LeL.cons (aW h7) (LeL.cons (aq (br .i64) h8) (LeL.cons (aq ki h9) (LeL.nil))))))))))) (LeL.nil))))
 ·cases h


noncomputable def gD (N d f:Nat):Option FnS:=glist [(16,38,ir N)] d f
attribute [go_sem] gD
theorem lU (N:Nat) (a0:(List Int)) (k1_0_0:ByteArray) (k1_0_1:Int) (k1_0_2:(List Int)) (k1_0_3:Int) (k1_0_4:Int) (k1_0_5:Int) (k1_0_6:ByteArray) (k1_0_7:(List Int)) (k1_0_8:(List ByteArray)) (r:Int) (h:bZ N a0 k1_0_0 k1_0_1 k1_0_2 k1_0_3 k1_0_4 k1_0_5 k1_0_6 k1_0_7 k1_0_8=some r):Con Try.prog 64 [] true [.sl false none 1 none (a0.map (rowI .i64)),.clo 38 [.iref 9 [[.val (.string k1_0_0),.val (.int .i64 k1_0_1),.sl false none 1 none (k1_0_2.map (rowI .i64)),.val (.int .i64 k1_0_3),.val (.int .i64 k1_0_4),.val (.int .i64 k1_0_5),.val (.string k1_0_6),.sl false none 1 none (k1_0_7.map (rowI .i64)),.sl false none 1 none (k1_0_8.map rowS)]] 0 0]] (.val (.int .i64 r)):=by
 refine ay (G:=(gD N)) Try.func64 rfl (by decide) (by kernel_rfl) (gc 16 (oJ N) gn) [] mix (Nat.le_of_ble_eq_true rfl) ?_;simp only [Try.f64];unfold bZ at h;refine Ws fun Z hZ=>?_;simp only [go_sem,seval];refine hZ _ (pp (Wk_seq (Ws fun Z hZ=>?_)));simp only [go_sem,seval];refine hZ _ (pp (ak (bS fun hreal2=>?_)));have hl1:=hreal2.lenT 0 (by decide) (by simp only [go_sem,seval]; rfl);first|rw [List.length_map] at hl1|rw [bo] at hl1|rw [<-List.map_append,List.length_map] at hl1
 refine bJ (fun (v2:Nat) (b:Unit)=>⟨tab 19 (updT (updT (updT (updT deadT 0 (.sl false none 1 none (a0.map (rowI .i64)))) 1 (.clo 38 [.iref 9 [[.val (.string k1_0_0),.val (.int .i64 k1_0_1),.sl false none 1 none (k1_0_2.map (rowI .i64)),.val (.int .i64 k1_0_3),.val (.int .i64 k1_0_4),.val (.int .i64 k1_0_5),.val (.string k1_0_6),.sl false none 1 none (k1_0_7.map (rowI .i64)),.sl false none 1 none (k1_0_8.map rowS)]] 0 0])) 7 (.val (.int .i64 ((a0.length:Nat):Int)))) 8 (.val (.int .i64 ((v2:Nat):Int)))),RZ⟩) () h ?_ ?_
 ·refine wr ?_ ?_<;>repeat' first|rfl|constructor
 rintro v2 ⟨⟩ hi3 h -;rcases (aU a0 v2 hi3).symm with ⟨hi3',_,hd6⟩|⟨x5,hi3',hx4,hd6⟩
 ·rw [hd6] at h;simp only [bk] at h;refine Ws fun Z hZ=>?_;simp only [go_sem,seval,hi3'];refine hZ _ (pp (Wk_seq ?_));try simp only [Int.ofNat_lt,hi3',if_true,if_false] at h
  refine aN rfl (ba (pp (Ws fun Z hZ=>?_)));simp only [go_sem,seval];refine hZ _ (pp (Wk_ret (pp ?_)));cases h;simp only [go_sem,seval];exact ⟨_,rfl,RokI.h,PureI.h⟩
 rw [hd6] at h;simp only [bk] at h;have hw5:=aY hi3' hl1;refine Ws fun Z hZ=>?_;simp only [go_sem,seval,hi3'];refine hZ _ (pp (Wk_seq ?_));try simp only [Int.ofNat_lt,hi3',if_true,if_false] at h
 refine aR rfl (ag (pp (Wk_seq (ak (Ws fun Z hZ=>?_)))));simp only [go_sem,seval];refine hZ _ (pp (Wk_seq ?_));try rw [gx_nat hx4] at h
 obtain ⟨r1,hr7,h⟩:=Option.bind_eq_some_iff.1 h;refine aa fun Z hZ=>?_;simp only [go_sem,seval,hx4,hi3',hr7];refine hZ _ (pp (au rfl (fun hc8=>?_) (fun hc8=>?_)))
 ·rw [if_pos hc8] at h;refine Ws fun Z hZ=>?_;simp only [go_sem,seval,hc8];refine hZ _ (pp (Wk_ret (pp ?_)));cases h;simp only [go_sem,seval];exact ⟨_,rfl,RokI.h,PureI.h⟩
 rw [if_neg (ne_true_of_eq_false hc8)] at h;refine ag (pp (aa fun Z hZ=>?_));simp only [go_sem,seval,hw5,hc8];refine hZ _ (pp ?_);first|refine ⟨(),?_,h⟩|refine ⟨hi3',(),?_,h⟩
 refine wr ?_ ?_<;>repeat' first|rfl|constructor
def dF (N:Nat):FnS:={ own:=[],pure:=true,fn:=fun cs=>match cs with
 | [c0,.clo 38 [.iref 9 [[k1_0_0,k1_0_1,k1_0_2,k1_0_3,k1_0_4,k1_0_5,k1_0_6,k1_0_7,k1_0_8]] 0 0]]=>((decL 1 (dec1 (decI .i64))) c0).bind fun qc0=>(decS k1_0_0).bind fun qk1_0_0=>((decI .i64) k1_0_1).bind fun qk1_0_1=>((decL 1 (dec1 (decI .i64))) k1_0_2).bind fun qk1_0_2=>((decI .i64) k1_0_3).bind fun qk1_0_3=>((decI .i64) k1_0_4).bind fun qk1_0_4=>((decI .i64) k1_0_5).bind fun qk1_0_5=>(decS k1_0_6).bind fun qk1_0_6=>((decL 1 (dec1 (decI .i64))) k1_0_7).bind fun qk1_0_7=>((decL 1 (dec1 decS)) k1_0_8).bind fun qk1_0_8=>(bZ N qc0 qk1_0_0 qk1_0_1 qk1_0_2 qk1_0_3 qk1_0_4 qk1_0_5 qk1_0_6 qk1_0_7 qk1_0_8).map fun r=>.val (.int .i64 r)
 | _=>none }
attribute [go_sem] dF
theorem kQ (N:Nat):FSOk Try.prog 64 (dF N):=by
 refine ⟨fun cs r h=>?_,fun h=>by cases h⟩;simp only [dF] at h;split at h
 ·simp only [Option.bind_eq_some_iff,Option.map_eq_some_iff] at h;obtain ⟨q0,h0,q1,h1,q2,h2,q3,h3,q4,h4,q5,h5,q6,h6,q7,h7,q8,h8,q9,h9,r',hr,rfl⟩:=h;exact ((lU N q0 q1 q2 q3 q4 q5 q6 q7 q8 q9 r' hr).args (LeL.cons (aq (br .i64) h0) (LeL.cons (Le.clo (LeL.cons (Le.iref1 (LeL.cons (aW h1) (LeL.cons (ar h2) (LeL.cons (aq (br .i64) h3) (LeL.cons (ar h4) (LeL.cons (ar h5) (LeL.cons (ar h6) (LeL.cons (aW h7) (LeL.cons (aq (br .i64) h8) (LeL.cons (aq ki h9) (LeL.nil))))))))))) (LeL.nil))) (LeL.nil))))
 ·cases h


noncomputable def ga (N d f:Nat):Option FnS:=glist [(10,64,dF N),(28,38,ir N)] d f
attribute [go_sem] ga
theorem lI (N:Nat) (a0:(List Int)) (k1_0_0:ByteArray) (k1_0_1:Int) (k1_0_2:(List Int)) (k1_0_3:Int) (k1_0_4:Int) (k1_0_5:Int) (k1_0_6:ByteArray) (k1_0_7:(List Int)) (k1_0_8:(List ByteArray)) (r:(List Int)) (h:bu N a0 k1_0_0 k1_0_1 k1_0_2 k1_0_3 k1_0_4 k1_0_5 k1_0_6 k1_0_7 k1_0_8=some r):Con Try.prog 37 [true,false] true [.sl true none 1 none (a0.map (rowI .i64)),.clo 38 [.iref 9 [[.val (.string k1_0_0),.val (.int .i64 k1_0_1),.sl false none 1 none (k1_0_2.map (rowI .i64)),.val (.int .i64 k1_0_3),.val (.int .i64 k1_0_4),.val (.int .i64 k1_0_5),.val (.string k1_0_6),.sl false none 1 none (k1_0_7.map (rowI .i64)),.sl false none 1 none (k1_0_8.map rowS)]] 0 0]] (.sl true none 1 none (r.map (rowI .i64))):=by
 refine A6 (G:=(ga N)) (L:=noL) Try.func37 rfl (by decide) (by kernel_rfl) (gc 10 (kQ N) (gc 28 (oJ N) gn)) (fun _ _ _ h=>by cases h) [] mix (Nat.le_of_ble_eq_true rfl) ?_;rw [show entryF [true,false] [.sl true none 1 none (a0.map (rowI .i64)),.clo 38 [.iref 9 [[.val (.string k1_0_0),.val (.int .i64 k1_0_1),.sl false none 1 none (k1_0_2.map (rowI .i64)),.val (.int .i64 k1_0_3),.val (.int .i64 k1_0_4),.val (.int .i64 k1_0_5),.val (.string k1_0_6),.sl false none 1 none (k1_0_7.map (rowI .i64)),.sl false none 1 none (k1_0_8.map rowS)]] 0 0]]=(updT (updT deadT 0 (.pal 0 [] 0 a0.length none)) 1 (.clo 38 [.iref 9 [[.val (.string k1_0_0),.val (.int .i64 k1_0_1),.sl false none 1 none (k1_0_2.map (rowI .i64)),.val (.int .i64 k1_0_3),.val (.int .i64 k1_0_4),.val (.int .i64 k1_0_5),.val (.string k1_0_6),.sl false none 1 none (k1_0_7.map (rowI .i64)),.sl false none 1 none (k1_0_8.map rowS)]] 0 0])) from by funext t; match t with|0=>simp [entryF,ky,viewD,updT]|1=>rfl|t+2=>rfl];rw [show R0 [true,false] [.sl true none 1 none (a0.map (rowI .i64)),.clo 38 [.iref 9 [[.val (.string k1_0_0),.val (.int .i64 k1_0_1),.sl false none 1 none (k1_0_2.map (rowI .i64)),.val (.int .i64 k1_0_3),.val (.int .i64 k1_0_4),.val (.int .i64 k1_0_5),.val (.string k1_0_6),.sl false none 1 none (k1_0_7.map (rowI .i64)),.sl false none 1 none (k1_0_8.map rowS)]] 0 0]]=upd RZ 0 (.sl true none 1 none (a0.map (rowI .i64))) from by funext t; match t with|0=>rfl|1=>rfl|t+2=>rfl];simp only [Try.f37];unfold bu at h;refine Ws fun Z hZ=>?_;simp only [go_sem,seval];refine hZ _ (pp (Wk_seq ?_));obtain ⟨r1,hr1,h⟩:=Option.bind_eq_some_iff.1 h;refine aa fun Z hZ=>?_;simp only [go_sem,seval,hr1];refine hZ _ (pp (Wk_seq (Ws fun Z hZ=>?_)));simp only [go_sem,seval];refine hZ _ (pp (aQ rfl (fun hc2=>?_) (fun hc2=>?_)))
 ·have hc2d:=decide_eq_true hc2;rw [if_pos hc2] at h;refine Ws fun Z hZ=>?_;simp only [go_sem,seval,hc2d];refine hZ _ (pp (Wk_ret (pp ?_)));cases h;simp only [go_sem,seval,gy];exact ⟨_,rfl,RokI.h,KeepI.h,PureI.h⟩
 have hc2d:=decide_eq_false hc2;rw [if_neg hc2] at h;refine ag (pp (Wk_seq (Ws fun Z hZ=>?_)));simp only [go_sem,seval,hc2d];refine hZ _ (pp (ak (sV (fun (b:List Int × Int × Int)=>⟨tab 42 (updT (updT (updT (updT deadT 0 (.pal 0 [] 0 b.1.length none)) 1 (.clo 38 [.iref 9 [[.val (.string k1_0_0),.val (.int .i64 k1_0_1),.sl false none 1 none (k1_0_2.map (rowI .i64)),.val (.int .i64 k1_0_3),.val (.int .i64 k1_0_4),.val (.int .i64 k1_0_5),.val (.string k1_0_6),.sl false none 1 none (k1_0_7.map (rowI .i64)),.sl false none 1 none (k1_0_8.map rowS)]] 0 0])) 5 (.val (.int .i64 b.2.1))) 6 (.val (.int .i64 b.2.2))),(upd RZ 0 (.sl true none 1 none (b.1.map (rowI .i64))))⟩) (a0,r1,IntKind.i64.wrap (r1+1)) h ?_ ?_)))
 ·refine wr ?_ ?_<;>repeat' first|rfl|constructor|simp only [go_sem,seval,Bool.or_self,List.length_set,Int.natCast_zero,Int.cast_ofNat_Int,hr1,hc2d]
 rintro n ⟨l4,v5,v6⟩ h -;cases n with
 | zero=>simp [aS] at h
 | succ n=>
 simp only [aS] at h;refine Wk_seq (Ws fun Z hZ=>?_);simp only [go_sem,seval];refine hZ _ (pp (sw (aQ rfl) (fun hc3=>?_) (fun hc3=>?_)))
 ·have hc3d:=decide_eq_false hc3;rw [if_neg hc3] at h;refine ba (pp ?_);unfold bL at h;refine Wk_seq ?_;obtain ⟨hs12,h⟩:=tN h;try simp only [Int.toNat_natCast] at hs12 h
  refine aa fun Z hZ=>?_;simp only [go_sem,seval,hc3d,hs12,Nat.zero_le,Ag (row:=(rowI .i64)) (z:=0) (rz:=[.val (.int .i64 0)]) (k:=(v5).toNat) (l:=l4) (by have:=hs12; omega) rfl,altX,clearX,aA,RowOk.allD (fc .i64)];refine hZ _ (pp (Wk_seq ?_));obtain ⟨hs13,h⟩:=tN h;try simp only [Int.toNat_zero] at hs13 h
  refine aa fun Z hZ=>?_;simp only [go_sem,seval,hs12,Nat.sub_zero,deepV,hs13];refine hZ _ (pp (Wk_ret (pp ?_)));cases h;simp only [go_sem,seval,gy];exact ⟨_,rfl,RokI.h,KeepI.h,PureI.h⟩
 have hc3d:=decide_eq_true hc3;rw [if_pos hc3] at h;refine ag (pp (Wk_seq (ak (Wk_seq ?_))));obtain ⟨x13,hb4,hx5,h⟩:=da h;refine aa fun Z hZ=>?_;simp only [go_sem,seval,hb4,hx5];refine hZ _ (pp (Wk_seq ?_));obtain ⟨r14,hr6,h⟩:=Option.bind_eq_some_iff.1 h;refine aa fun Z hZ=>?_;simp only [go_sem,seval,hr6];refine hZ _ (pp (sw (de rfl) (fun hc7=>?_) (fun hc7=>?_)))
 ·rw [if_pos hc7] at h;refine ag (pp (aa fun Z hZ=>?_));simp only [go_sem,seval,hc7];refine hZ _ (pp (⟨_,Nat.lt_succ_self _,(l4,v5,IntKind.i64.wrap (v6+1)),?_,h⟩));refine wr ?_ ?_<;>repeat' first|rfl|constructor|simp only [go_sem,seval,Bool.or_self,List.length_set,Int.natCast_zero,Int.cast_ofNat_Int,hr1,hc2d,hc3d,hb4,hx5,hr6,hc7]
 rw [if_neg (ne_true_of_eq_false hc7)] at h;refine Wk_seq ?_;obtain ⟨x15,hb8,hx9,h⟩:=da h;have hx11:=yB (y:=x13) hx9;refine aa fun Z hZ=>?_;simp only [go_sem,seval,hc7,hb8,hx9,pU (row:=(rowI .i64)) (y:=x13) (rx:=[.val (.int .i64 x15)]) (ry:=[.val (.int .i64 x13)]) hx9 rfl rfl];refine hZ _ (pp (aa fun Z hZ=>?_));simp only [go_sem,seval];refine hZ _ (pp (aa fun Z hZ=>?_));simp only [go_sem,seval];refine hZ _ (pp (⟨_,Nat.lt_succ_self _,((l4.set ((v5).toNat) x13),IntKind.i64.wrap (v5+1),IntKind.i64.wrap (v6+1)),?_,h⟩));refine wr ?_ ?_<;>repeat' first|rfl|constructor|simp only [go_sem,seval,List.length_set]
def aP (N:Nat):FnS:={ own:=[true,false],pure:=true,fn:=fun cs=>match cs with
 | [c0,.clo 38 [.iref 9 [[k1_0_0,k1_0_1,k1_0_2,k1_0_3,k1_0_4,k1_0_5,k1_0_6,k1_0_7,k1_0_8]] 0 0]]=>((decO 1 (dec1 (decI .i64))) c0).bind fun q0=>(decS k1_0_0).bind fun q1=>((decI .i64) k1_0_1).bind fun q2=>((decL 1 (dec1 (decI .i64))) k1_0_2).bind fun q3=>((decI .i64) k1_0_3).bind fun q4=>((decI .i64) k1_0_4).bind fun q5=>((decI .i64) k1_0_5).bind fun q6=>(decS k1_0_6).bind fun q7=>((decL 1 (dec1 (decI .i64))) k1_0_7).bind fun q8=>((decL 1 (dec1 decS)) k1_0_8).bind fun q9=>(bu N q0 q1 q2 q3 q4 q5 q6 q7 q8 q9).map fun r=>.sl true none 1 none (r.map (rowI .i64))
 | _=>none }
theorem ko (N:Nat):(aP N).own=[true,false]:=rfl
theorem jP (N:Nat):(aP N).pure=true:=rfl
theorem jF (N:Nat):(aP N).peek=false:=rfl
attribute [go_sem] aP ko jP jF
theorem kA (N:Nat):FSOk Try.prog 37 (aP N):=by
 refine ⟨fun cs r h=>?_,fun h=>by cases h⟩;simp only [aP] at h;split at h
 ·simp only [Option.bind_eq_some_iff,Option.map_eq_some_iff] at h;obtain ⟨q0,h0,q1,h1,q2,h2,q3,h3,q4,h4,q5,h5,q6,h6,q7,h7,q8,h8,q9,h9,r',hr,rfl⟩:=h;exact (lI N q0 q1 q2 q3 q4 q5 q6 q7 q8 q9 r' hr).argsO rfl (iH (lB (fc .i64) (br .i64) h0) (pH (Le.clo (LeL.cons (Le.iref1 (LeL.cons (aW h1) (LeL.cons (ar h2) (LeL.cons (aq (br .i64) h3) (LeL.cons (ar h4) (LeL.cons (ar h5) (LeL.cons (ar h6) (LeL.cons (aW h7) (LeL.cons (aq (br .i64) h8) (LeL.cons (aq ki h9) (LeL.nil))))))))))) (LeL.nil))) (ot)))
 ·cases h


def bT:FnS:={ own:=[true,true],pure:=false,fn:=fun _=>none,peek:=true }
theorem aK:bT.own=[true,true]:=rfl
theorem aE:bT.peek=true:=rfl
theorem oZ:PeekOk Try.prog 65:=
 yY (fn:=Try.f65) (tS:=54) (tR:=4) (e:=58) (size:=10) Try.func65 rfl rfl (by kernel_rfl) (by kernel_rfl) (by kernel_rfl) (by kernel_rfl)
theorem mD:FSOk Try.prog 65 bT:=⟨(fun cs r h=>by simp [bT] at h),fun _=>oZ⟩
noncomputable def dT:Env:={ T:=tiOf Try.prog,G:=fun d f=>if d=67/\f=65 then some bT else none }
theorem bH:dT.T=tiOf Try.prog:=rfl
theorem bG (d:Nat):dT.F d=none:=rfl
theorem bE (d f:Nat):dT.L d f=none:=rfl
theorem bI:dT.G 67 65=some bT:=rfl
theorem qN:GOk Try.prog { T:=tiOf Try.prog,G:=dT.G }:=by
 refine ⟨?_,fun _ _ _ h=>by cases h⟩;intro d f fs hfs;simp only [dT] at hfs;split at hfs
 ·rename_i hc; obtain ⟨rfl,rfl⟩:=hc; obtain rfl:=Option.some.inj hfs; exact mD
 cases hfs
theorem rC:FunOk Try.prog 39 Try.f39 Try.f39.body.get! := ⟨Try.func39,rfl,by decide,by kernel_rfl⟩
set_option maxHeartbeats 4000000 in
theorem rJ {α:Type} (row:α->List C) (ok:RowOk row) (l:List α) (i:Nat) (x:α) (k:Nat) (r:List α) (hr:r=l.take i++[x]++l.drop i) (hi:i<=l.length) (hsz:(l.length+1) * 144<=140737488355328) (hk1:l.length<=k) (hk2:k<=maxLen) :
  Con Try.prog 39 [true,false,true] false [.sl true none 10 (some k) (l.map row),.val (.int .i64 i),.sl true none 10 none ([x].map row)] (.sl true none 10 none (r.map row)):=by
 refine yp (E:=dT) (sO Try.prog _) qN mix rC (Nat.le_of_ble_eq_true rfl) ?_;intro _;rw [pX (by simp)];rw [show entryF [true,false,true] [C.sl true none 10 (some k) (l.map row),C.val (.int .i64 i),C.sl true none 10 none ([x].map row)]=(updT (updT (updT deadT 0 (.pal 0 [] 0 l.length none)) 1 (.val (.int .i64 i))) 2 (.pal 2 [] 0 1 none)) from by funext t; match t with|0=>simp [entryF,ky,viewD,updT]|1=>rfl|2=>rfl|t+3=>rfl];rw [show R0 [true,false,true] [C.sl true none 10 (some k) (l.map row),C.val (.int .i64 i),C.sl true none 10 none ([x].map row)]=upd (upd RZ 0 (C.sl true none 10 (some k) (l.map row))) 2 (C.sl true none 10 none ([x].map row)) from by funext t; match t with|0=>rfl|1=>rfl|2=>rfl|t+3=>rfl];apply yT;simp only [Try.f39,Option.get!];have hi1:(i:Int)<=(l.length:Int):=by omega
 have hi2:i<=l.length:=hi;have h10:(((1:Nat):Int)=0)=False:=by simp
 have hp:(row x).all Abs.plainCell=true:=ok.plain x;have hf:(row x).map C.frz=(row x):=ok.frz x;have hpD:(row x).all plainD=true:=by have:=(RowOk.allD ok [x]); simpa using this
 have hw1:IntKind.i64.wrap ((l.length:Int)+((1:Nat):Int))=((l.length+1:Nat):Int):=by rw [eB (by omega) (by omega)]; rfl
 have hlt0:(l.take i).length=i:=by simp; omega
 have hes:(10 != 0)=true:=rfl;have hm1:min 1 (l.length+1 - i)=1:=by omega
 have hm2:min (l.length - i) (l.length+1 - (i+1))=l.length - i:=by omega
 have hm3:(l.drop i).take (l.length - i)=l.drop i:=List.take_of_length_le (by simp);have hm4:i+1<=l.length+1:=by omega
 have hw2:IntKind.i64.wrap (((l.length+1:Nat):Int) - (i:Int))=((l.length+1 - i:Nat):Int):=by rw [eB (by omega) (by omega)]; omega
 have hw1b:IntKind.i64.wrap ((l.length:Int)+1)=((l.length+1:Nat):Int):=hw1;have hw3:IntKind.i64.wrap ((i:Int)+((1:Nat):Int))=((i+1:Nat):Int):=by rw [eB (by omega) (by omega)]; rfl
 have hw3b:IntKind.i64.wrap ((i:Int)+1)=((i+1:Nat):Int):=hw3;simp only [go_sem,seval,bH,bG,bE,bI,hi1,hi2,h10,Nat.le_refl,hp,hf,hpD,RowOk.frzRows ok,RowOk.all ok,RowOk.allPlain ok,RowOk.allD ok,aA,RX_cap,dw,altX,roomS,roomC,cutC,copyX,bw,av,extOf,Ext.all,peekX,aT,Option.map_some,hw1,hw2,hw3,hw1b,hw3b,Nat.min_self,Nat.zero_le,Nat.sub_zero,deepV,bne_self_eq_false,List.isEmpty_nil,decide_not,List.length_replicate,hlt0,hm1,hm2,hm3,hm4,aK,aE,Nat.not_succ_le_self];refine wI rfl ?_;simp only [go_sem,seval,bH,bG,bE,bI,hi1,hi2,h10,Nat.le_refl,hp,hf,hpD,RowOk.frzRows ok,RowOk.all ok,RowOk.allPlain ok,RowOk.allD ok,aA,RX_cap,dw,altX,roomS,roomC,cutC,copyX,bw,av,extOf,Ext.all,peekX,aT,Option.map_some,hw1,hw2,hw3,hw1b,hw3b,Nat.min_self,Nat.zero_le,Nat.sub_zero,deepV,bne_self_eq_false,List.isEmpty_nil,decide_not,List.length_replicate,hlt0,hm1,hm2,hm3,hm4,aK,aE,Nat.not_succ_le_self];refine mC rfl (fun hc=>?_) (fun hc=>?_)
 ·have e:i=l.length:=by omega
  subst e;simp only [go_sem,seval,bH,bG,bE,bI,hi1,hi2,h10,Nat.le_refl,hp,hf,hpD,RowOk.frzRows ok,RowOk.all ok,RowOk.allPlain ok,RowOk.allD ok,aA,RX_cap,dw,altX,roomS,roomC,cutC,copyX,bw,av,extOf,Ext.all,peekX,aT,Option.map_some,hw1,hw2,hw3,hw1b,hw3b,Nat.min_self,Nat.zero_le,Nat.sub_zero,deepV,bne_self_eq_false,List.isEmpty_nil,decide_not,List.length_replicate,hlt0,hm1,hm2,hm3,hm4,aK,aE,Nat.not_succ_le_self,gy,gG,hsz];refine mw ok ?_;rw [hr];simp [List.take_of_length_le]
 ·have hc1:decide ((i:Int)=(l.length:Int))=false:=decide_eq_false hc;have hlt:i < l.length:=by omega
  simp only [go_sem,seval,bH,bG,bE,bI,hi1,hi2,h10,Nat.le_refl,hp,hf,hpD,RowOk.frzRows ok,RowOk.all ok,RowOk.allPlain ok,RowOk.allD ok,aA,RX_cap,dw,altX,roomS,roomC,cutC,copyX,bw,av,extOf,Ext.all,peekX,aT,Option.map_some,hw1,hw2,hw3,hw1b,hw3b,Nat.min_self,Nat.zero_le,Nat.sub_zero,deepV,bne_self_eq_false,List.isEmpty_nil,decide_not,List.length_replicate,hlt0,hm1,hm2,hm3,hm4,aK,aE,Nat.not_succ_le_self,hc1];refine mC rfl (fun hk=>?_) (fun hk=>?_)
  ·have hk1:decide (k < l.length+1)=true:=decide_eq_true hk;have hk2:k < i+(l.length+1 - i):=by omega
   have e1:i+(l.length+1 - i)=l.length+1:=by omega
   have hi3:(i:Int)<=((l.length+1:Nat):Int):=by omega
   have hi4:i<=l.length+1:=by omega
   obtain ⟨A,hA⟩:∃ A,List.map row (List.take i l)++List.replicate (l.length+1 - i) [C.val (Value.int .i64 0),C.val (Value.string ⟨#[]⟩),C.val (Value.int .i64 0),C.val (Value.slice none 0 0),C.val (Value.int .i64 0),C.val (Value.int .i64 0),C.val (Value.int .i64 0),C.val (Value.string ⟨#[]⟩),C.val (Value.slice none 0 0),C.val (Value.slice none 0 0)]=A:=⟨_,rfl⟩;have hAp:bz A:=by rw [<-hA]; exact fB (eL ok _) (ra _ [Value.int .i64 0,Value.string ⟨#[]⟩,Value.int .i64 0,Value.slice none 0 0,Value.int .i64 0,Value.int .i64 0,Value.int .i64 0,Value.string ⟨#[]⟩,Value.slice none 0 0,Value.slice none 0 0] (by simp [Value.oneCell']))
   have hAl:A.length=l.length+1:=by rw [<-hA,List.length_append,List.length_map,hlt0,List.length_replicate]; omega
   obtain ⟨B,hB⟩:∃ B,aC A i [(row x)]=B:=⟨_,rfl⟩;have hBp:bz B:=by rw [<-hB]; exact eM hAp ⟨by simp [frzRows,hf],by simp [hpD]⟩
   have hBl:B.length=l.length+1:=by rw [<-hB]; simp [aC,hAl]; omega
   obtain ⟨D,hD⟩:∃ D,aC B (i+1) (List.map row (List.drop i l))=D:=⟨_,rfl⟩;have hDp:bz D:=by rw [<-hD]; exact eM hBp (eL ok _)
   have hDl:D.length=l.length+1:=by rw [<-hD]; simp [aC,hBl]; omega
   have hDe:D=(l.take i++[x]++l.drop i).map row:=by
    rw [<-hD,<-hB,<-hA,List.map_take,List.map_drop,yX (A:=l.map row) (n:=l.length) (by simp) hi2 (by simp)];simp
   simp only [go_sem,seval,bH,bG,bE,bI,hi1,hi2,h10,Nat.le_refl,hp,hf,hpD,RowOk.frzRows ok,RowOk.all ok,RowOk.allPlain ok,RowOk.allD ok,aA,RX_cap,dw,altX,roomS,roomC,cutC,copyX,bw,av,extOf,Ext.all,peekX,aT,Option.map_some,hw1,hw2,hw3,hw1b,hw3b,Nat.min_self,Nat.zero_le,Nat.sub_zero,deepV,bne_self_eq_false,List.isEmpty_nil,decide_not,List.length_replicate,hlt0,hm1,hm2,hm3,hm4,aK,aE,Nat.not_succ_le_self,hc1,hk1,hk,hk2,e1,hi3,hi4,hA,hAl,hAp.1,hAp.2,hB,hBp.1,hBp.2,hBl,hD,hDp.1,hDp.2,hsz];repeat' ((with_reducible refine bN ?_ ?_); kernel_rfl)
   simp only [go_sem,seval,bH,bG,bE,bI,hi1,hi2,h10,Nat.le_refl,hp,hf,hpD,RowOk.frzRows ok,RowOk.all ok,RowOk.allPlain ok,RowOk.allD ok,aA,RX_cap,dw,altX,roomS,roomC,cutC,copyX,bw,av,extOf,Ext.all,peekX,aT,Option.map_some,hw1,hw2,hw3,hw1b,hw3b,Nat.min_self,Nat.zero_le,Nat.sub_zero,deepV,bne_self_eq_false,List.isEmpty_nil,decide_not,List.length_replicate,hlt0,hm1,hm2,hm3,hm4,aK,aE,Nat.not_succ_le_self,gy,gG,hDp.1,hDp.2,hD];refine mw ok ?_;rw [hr,<-hDe,<-hDl,List.take_length]
  ·have hk1:decide (k < l.length+1)=false:=decide_eq_false hk;have hk2:¬ k < i+(l.length+1 - i):=by omega
   have hk3:l.length+1<=k:=by omega
   have e2:l.length+1 - l.length=1:=by omega
   have e3:l.length<=l.length+1:=by omega
   have hi3:(i:Int)<=((l.length+1:Nat):Int):=by omega
   have hi4:i<=l.length+1:=by omega
   have hne:¬ l.length+1 - (i+1)=0:=by omega
   have hne2:¬ l.length - i=0:=by omega
   obtain ⟨A,hA⟩:∃ A,List.map row l++[[C.dead,C.dead,C.dead,C.dead,C.dead,C.dead,C.dead,C.dead,C.dead,C.dead]]=A:=⟨_,rfl⟩;have hAp:bz A:=by rw [<-hA]; exact fB (eL ok _) (rm 1 10)
   have hAl:A.length=l.length+1:=by rw [<-hA]; simp
   have hm5:min (l.length+1 - i) (l.length+1 - (i+1))=l.length - i:=by omega
   have hm5b:min (l.length+1 - i) (l.length - i)=l.length - i:=by omega
   obtain ⟨A2,hA2⟩:∃ A2,(A.drop i).take (l.length - i)=A2:=⟨_,rfl⟩;have hA2e:A2=List.map row (l.drop i):=by
    rw [<-hA2,<-hA,List.drop_append,List.length_map,show i - l.length=0 by omega,List.drop_zero,List.take_append,List.take_of_length_le (by simp),show l.length - i - (List.drop i (List.map row l)).length=0 by simp];simp [List.map_drop]
   have hA2p:(A2.all fun r=>r.all Abs.plainCell)=true:=by rw [hA2e]; exact ok.allPlain _
   have hA2f:frzRows A2=A2:=by rw [hA2e]; exact ok.frzRows _
   have hA2d:bz A2:=by rw [hA2e]; exact eL ok _
   obtain ⟨B,hB⟩:∃ B,aC A (i+1) A2=B:=⟨_,rfl⟩;have hBp:bz B:=by rw [<-hB]; exact eM hAp hA2d
   have hBl:B.length=l.length+1:=by rw [<-hB]; simp [aC,hAl,hA2e]; omega
   obtain ⟨D,hD⟩:∃ D,aC B i [(row x)]=D:=⟨_,rfl⟩;have hDp:bz D:=by rw [<-hD]; exact eM hBp ⟨by simp [frzRows,hf],by simp [hpD]⟩
   have hDl:D.length=l.length+1:=by rw [<-hD]; simp [aC,hBl]; omega
   have hDe:D=(l.take i++[x]++l.drop i).map row:=by
    rw [<-hD,<-hB,<-hA2,<-hA,wy (A:=l.map row) (n:=l.length) (by simp) hi2];simp [List.map_take,List.map_drop]
   simp only [go_sem,seval,bH,bG,bE,bI,hi1,hi2,h10,Nat.le_refl,hp,hf,hpD,RowOk.frzRows ok,RowOk.all ok,RowOk.allPlain ok,RowOk.allD ok,aA,RX_cap,dw,altX,roomS,roomC,cutC,copyX,bw,av,extOf,Ext.all,peekX,aT,Option.map_some,hw1,hw2,hw3,hw1b,hw3b,Nat.min_self,Nat.zero_le,Nat.sub_zero,deepV,bne_self_eq_false,List.isEmpty_nil,decide_not,List.length_replicate,hlt0,hm1,hm2,hm3,hm4,aK,aE,Nat.not_succ_le_self,hc1,hk1,hk,hk2,hk3,e2,e3,hi3,hi4,hne,hne2,hA,hAl,hAp.1,hAp.2,hes,hA2,hA2p,hA2f,hB,hBp.1,hBp.2,hBl,hD,hDp.1,hDp.2,hDl,hm5,hm5b];refine wC rfl ?_;simp only [go_sem,seval,bH,bG,bE,bI,hi1,hi2,h10,Nat.le_refl,hp,hf,hpD,RowOk.frzRows ok,RowOk.all ok,RowOk.allPlain ok,RowOk.allD ok,aA,RX_cap,dw,altX,roomS,roomC,cutC,copyX,bw,av,extOf,Ext.all,peekX,aT,Option.map_some,hw1,hw2,hw3,hw1b,hw3b,Nat.min_self,Nat.zero_le,Nat.sub_zero,deepV,bne_self_eq_false,List.isEmpty_nil,decide_not,List.length_replicate,hlt0,hm1,hm2,hm3,hm4,aK,aE,Nat.not_succ_le_self,hc1,hk1,hk,hk2,hk3,e2,e3,hi3,hi4,hne,hne2,hA,hAl,hAp.1,hAp.2,hes,hA2,hA2p,hA2f,hB,hBp.1,hBp.2,hBl,hD,hDp.1,hDp.2,hDl,hm5,hm5b];repeat' ((with_reducible refine bN ?_ ?_); kernel_rfl)
   simp only [go_sem,seval,bH,bG,bE,bI,hi1,hi2,h10,Nat.le_refl,hp,hf,hpD,RowOk.frzRows ok,RowOk.all ok,RowOk.allPlain ok,RowOk.allD ok,aA,RX_cap,dw,altX,roomS,roomC,cutC,copyX,bw,av,extOf,Ext.all,peekX,aT,Option.map_some,hw1,hw2,hw3,hw1b,hw3b,Nat.min_self,Nat.zero_le,Nat.sub_zero,deepV,bne_self_eq_false,List.isEmpty_nil,decide_not,List.length_replicate,hlt0,hm1,hm2,hm3,hm4,aK,aE,Nat.not_succ_le_self,gy,gG,hDp.1,hDp.2,hD,hDl];refine mw ok ?_;rw [hr,<-hDe,<-hDl,List.take_length]
theorem sx (N:Nat) (a0:List Answer) (a1:Int) (a2:List Answer) (r:List Answer) (h:eN N a0 a1 a2=some r) :
  Con Try.prog 39 [true,false,true] false [.sl true none 10 none (a0.map Answer.row),.val (.int .i64 a1),.sl true none 10 none (a2.map Answer.row)] (.sl true none 10 none (r.map Answer.row)):=by
 unfold eN at h;obtain ⟨n,x,rfl,rfl,h1,h2,h3⟩:=pZ h;exact vC fun k hk1 hk2=>rJ Answer.row Answer.row_ok a0 n x k r (Option.some.inj h3).symm h1 h2 (by simpa using hk1) hk2
def dB (N:Nat):FnS:={ own:=[true,false,true],pure:=false,fn:=fun cs=>match cs with
 | [c0,c1,c2]=>(decO 10 Answer.dec c0).bind fun q0=>(decI .i64 c1).bind fun q1=>(decO 10 Answer.dec c2).bind fun q2=>(eN N q0 q1 q2).map fun r=>.sl true none 10 none (r.map Answer.row)
 | _=>none }
theorem pI (N:Nat):(dB N).own=[true,false,true]:=rfl
theorem o6 (N:Nat):(dB N).pure=false:=rfl
theorem pc (N:Nat):(dB N).peek=false:=rfl
attribute [go_sem] dB pI o6 pc
theorem qc (N:Nat):FSOk Try.prog 39 (dB N):=by
 refine ⟨fun cs r h=>?_,fun h=>by cases h⟩;simp only [dB] at h;split at h
 ·simp only [Option.bind_eq_some_iff,Option.map_eq_some_iff] at h;obtain ⟨q0,h0,q1,h1,q2,h2,r',hr,rfl⟩:=h;exact (sx N q0 q1 q2 r' hr).argsO rfl (iH (lB Answer.row_ok Answer.dec_le h0) (pH (ar h1) (iH (lB Answer.row_ok Answer.dec_le h2) ot)))
 ·cases h


noncomputable def s6 (N d f:Nat):Option FnS:=glist [(13,22,gp N),(17,24,gb N),(26,20,eG N),(29,29,jN N),(34,28,ll N),(46,37,aP N),(80,40,jg N),(83,39,dB N)] d f
attribute [go_sem] s6
theorem sL (N:Nat) (a0:(List Client)) (a1:Reply) (r:(List Client) × Int) (h:fj N a0 a1=some r):Con Try.prog 12 [] false [.sl false none 4 none (a0.map Client.row),.agg (Reply.row a1)] (.tup [.sl true none 4 none (r.1.map Client.row),.val (.int .i64 r.2)]):=by
 refine ay (G:=(s6 N)) Try.func12 rfl (by decide) (by kernel_rfl) (gc 13 (iu N) (gc 17 (kv N) (gc 26 (eK N) (gc 29 (mg N) (gc 34 (m6 N) (gc 46 (kA N) (gc 80 (mR N) (gc 83 (qc N) gn)))))))) [] mix (Nat.le_of_ble_eq_true rfl) ?_;simp only [Try.f12];unfold fj at h;refine Ws fun Z hZ=>?_;simp only [go_sem,seval];refine hZ _ (pp (Wk_seq (ak ?_)));apply be (fun (c8:Bool)=>⟨tab 87 (updT (updT (updT deadT 0 (.sl false none 4 none (a0.map Client.row))) 3 (.pref 3 [] 0 0)) 11 (.val (.bool c8))),(upd RZ 3 (.sl true none 9 (some 1) [Reply.row a1]))⟩)
 ·intro hJ1;obtain ⟨r9,hr2,h⟩:=Option.bind_eq_some_iff.1 h;refine aa fun Z hZ=>?_;simp only [go_sem,seval,hr2];refine aw rfl (fun hc3=>?_) (fun hc3=>?_)
  ·rw [if_neg (ne_true_of_eq_false hc3)] at h;simp only [go_sem,seval,hc3];refine hZ _ (pp (hJ1 _ true ?_ h));refine wr ?_ ?_<;>repeat' first|rfl|constructor
  rw [if_pos hc3] at h;obtain ⟨r10,hr4,h⟩:=Option.bind_eq_some_iff.1 h;simp only [go_sem,seval,hc3,hr4];refine hZ _ (pp (hJ1 _ (!r10) ?_ h));refine wr ?_ ?_<;>repeat' first|rfl|constructor
 intro c8 h;unfold j4 at h;refine au rfl (fun hc5=>?_) (fun hc5=>?_)
 ·rw [if_pos hc5] at h;refine Ws fun Z hZ=>?_;simp only [go_sem,seval,hc5];refine hZ _ (pp (Wk_ret (pp ?_)));cases h;simp only [go_sem,seval];exact ⟨_,rfl,RokI.h⟩
 rw [if_neg (ne_true_of_eq_false hc5)] at h;refine Wk_seq ?_;obtain ⟨r11,hr6,h⟩:=Option.bind_eq_some_iff.1 h;refine aa fun Z hZ=>?_;simp only [go_sem,seval,hc5,hr6];refine hZ _ (pp (ja rfl (fun hc7=>?_) (fun hc7=>?_)))
 ·have hc7d:=decide_eq_false hc7;rw [if_neg hc7] at h;refine Ws fun Z hZ=>?_;simp only [go_sem,seval,hc7d];refine hZ _ (pp (Wk_ret (pp ?_)));cases h;simp only [go_sem,seval];exact ⟨_,rfl,RokI.h⟩
 have hc7d:=decide_eq_true hc7;rw [if_pos hc7] at h;refine ag (pp ?_);unfold lS at h;refine Wk_seq ?_;obtain ⟨r12,hr8,h⟩:=Option.bind_eq_some_iff.1 h;refine aa fun Z hZ=>?_;simp only [go_sem,seval,hc7d,hr8];refine hZ _ (pp (Wk_seq ?_));obtain ⟨r13,hr9,h⟩:=Option.bind_eq_some_iff.1 h;refine aa fun Z hZ=>?_;simp only [go_sem,seval,hr9];refine hZ _ (pp (Wk_seq ?_));obtain ⟨x14,hb10,hx11,h⟩:=da h;refine aa fun Z hZ=>?_;simp only [go_sem,seval,hb10];refine hZ _ (pp (Wk_seq ?_));obtain ⟨r15,hr12,h⟩:=Option.bind_eq_some_iff.1 h;refine aa fun Z hZ=>?_;simp only [go_sem,seval,hx11,yQ (row:=Client.rowD) (rx:=[.val (.string x14.Name),.val (.int .i64 x14.Low),.sl true none 1 none (x14.Open.map (rowI .i64)),.sl true none 10 none (x14.Done.map Answer.row)]) hx11 rfl rfl,fx (row:=Client.rowD) _ hx11,iU (row:=Client.rowD) hx11 rfl,hr12];refine hZ _ (pp (Ws fun Z hZ=>?_));simp only [go_sem,seval];refine hZ _ (pp ?_);apply be (fun (v23:Int)=>⟨tab 87 (updT (updT (updT (updT deadT 3 (.pref 3 [] 0 0)) 6 (.pal 29 [] 0 r12.length none)) 9 (.pref 29 [] ((r13.1).toNat) 0)) 10 (.val (.int .i64 v23))),(upd (upd RZ 3 (.sl true none 9 (some 1) [Reply.row a1])) 29 (.sl true none 4 none ((r12.map Client.rowD).set ((r13.1).toNat) [.val (.string x14.Name),.val (.int .i64 x14.Low),.sl true none 1 none (r15.map (rowI .i64)),.sl true none 10 none (x14.Done.map Answer.row)])))⟩)
 ·intro hJ13;refine ak (bS fun hreal15=>?_);have hl14:=hreal15.lenAt 29 [((r13.1).toNat,3)] (by simp only [go_sem,seval,fx (row:=Client.rowD) _ hx11]; rfl);first|rw [List.length_map] at hl14|rw [bo] at hl14|rw [<-List.map_append,List.length_map] at hl14
  refine bJ (fun (v12:Nat) (b:Unit)=>⟨tab 87 (updT (updT (updT (updT deadT 3 (.pref 3 [] 0 0)) 6 (.pal 29 [] 0 r12.length none)) 9 (.pref 29 [] ((r13.1).toNat) 0)) 10 (.val (.int .i64 ((v12:Nat):Int)))),(upd (upd RZ 3 (.sl true none 9 (some 1) [Reply.row a1])) 29 (.sl true none 4 none ((r12.map Client.rowD).set ((r13.1).toNat) [.val (.string x14.Name),.val (.int .i64 x14.Low),.sl true none 1 none (r15.map (rowI .i64)),.sl true none 10 none (x14.Done.map Answer.row)])))⟩) () h ?_ ?_
  ·refine wr ?_ ?_<;>repeat' first|rfl|constructor
  rintro v12 ⟨⟩ hi16 h -;rcases (aU x14.Done v12 hi16).symm with ⟨hi16',_,hd19⟩|⟨x16,hi16',hx17,hd19⟩
  ·rw [hd19] at h;simp only [gS] at h;refine Wk_seq (Wk_seq ?_);try simp only [Int.ofNat_lt,hi16',if_true,if_false] at h
   refine dc fun Z hZ=>?_;simp only [go_sem,seval,fx (row:=Client.rowD) _ hx11,hi16'];repeat with_reducible refine bN (by kernel_rfl) ?_
   refine hZ _ (by kernel_rfl) (pp (aN rfl ?_));first|rw [if_pos (rfl:true=true)] at h|rw [if_neg Bool.false_ne_true] at h|skip
   refine ba (pp (hJ13 _ ((v12:Nat):Int) ?_ h));refine wr ?_ ?_<;>repeat' first|rfl|constructor
  rw [hd19] at h;simp only [gS] at h;have hw18:=aY hi16' hl14;refine Wk_seq (Wk_seq ?_);try simp only [Int.ofNat_lt,hi16',if_true,if_false] at h
  try rw [gx_nat hx17] at h
  refine dc fun Z hZ=>?_;simp only [go_sem,seval,fx (row:=Client.rowD) _ hx11,hx17,hi16'];repeat with_reducible refine bN (by kernel_rfl) ?_
  refine hZ _ (by kernel_rfl) (pp (sw (aQ rfl) (fun hc20=>?_) (fun hc20=>?_)))
  ·have hc20d:=decide_eq_false hc20;rw [if_neg hc20] at h;refine ba (pp (hJ13 _ ((v12:Nat):Int) ?_ h));refine wr ?_ ?_<;>repeat' first|rfl|constructor
  have hc20d:=decide_eq_true hc20;rw [if_pos hc20] at h;refine ag (pp (ak (aa fun Z hZ=>?_)));simp only [go_sem,seval,hw18,hc20d];refine hZ _ (pp ?_);first|refine ⟨(),?_,h⟩|refine ⟨hi16',(),?_,h⟩
  refine wr ?_ ?_<;>repeat' first|rfl|constructor
 intro v23 h;unfold oU at h;refine Wk_seq (De [0,1,2,3,4,5,6,7,8] [9,10,11] [] [12,13,14,15] [29,3] (by kernel_rfl) fun Z hZ Y hY=>?_);simp only [go_sem,seval,fx (row:=Client.rowD) _ hx11];refine hY _ (by kernel_rfl) (tT (by simp only [go_sem,seval,chkA,Option.isNone,Bool.and_true]; try rfl) fun Y hY=>?_);obtain ⟨r24,hr21,h⟩:=Option.bind_eq_some_iff.1 h;simp only [go_sem,seval,hr21];refine hY _ (by kernel_rfl) (tT (by kernel_rfl) fun Y hY=>?_);simp only [go_sem,seval];refine hY _ (by kernel_rfl) (tT (by kernel_rfl) fun Y hY=>?_);simp only [go_sem,seval];refine hY _ (by kernel_rfl) (Cg ?_);obtain ⟨r25,hr22,h⟩:=Option.bind_eq_some_iff.1 h;simp only [go_sem,seval,fx (row:=Client.rowD) _ hx11,iU (row:=Client.rowD) hx11 rfl,hr22];refine hZ _ (pp (Ws fun Z hZ=>?_));simp only [go_sem,seval];refine hZ _ (pp (js (tX (n:=29) (Client.mk x14.Name x14.Low r15 r25) (by simp only [go_sem,seval]; rfl) rfl rfl) (js (qE (row:=Client.row) (n:=29) (by simp only [go_sem,seval]; rfl) (by simp only [rK,qH,go_sem,seval]; rfl)) (Wk_ret (pp ?_)))));cases h;simp only [go_sem,seval];exact ⟨_,rfl,RokI.h⟩
def lP (N:Nat):FnS:=⟨[],false,fn2 (decL 4 Client.dec) Reply.decA fun q0 q1=>(fj N q0 q1).map fun r=>.tup [.sl false none 4 none (r.1.map Client.row),.val (.int .i64 r.2)],false⟩
attribute [go_sem] lP
theorem p7 (N:Nat):FSOk Try.prog 12 (lP N):=ok2 (fun q0 q1 r h=>by
 obtain ⟨r',hr,rfl⟩:=Option.map_eq_some_iff.1 h;exact (sL N q0 q1 r' hr).res (by (try simp only [go_sem]); exact RokI.h)) (fun h=>aq Client.dec_le h) (Reply.decA_le)

def qV (N:Nat):FnS:=⟨[],false,fn2 (decL 4 Client.dec) Reply.decA fun q0 q1=>(fj N q0 q1).map fun r=>.tup [.sl true none 4 none (r.1.map Client.row),.val (.int .i64 r.2)],false⟩
attribute [go_sem] qV
theorem Dg (N:Nat):FSOk Try.prog 12 (qV N):=ok2 (fun q0 q1 r h=>by
 obtain ⟨r',hr,rfl⟩:=Option.map_eq_some_iff.1 h;exact sL N q0 q1 r' hr) (fun h=>aq Client.dec_le h) (Reply.decA_le)


noncomputable def uF (N d f:Nat):Option FnS:=glist [(14,44,lM N)] d f
attribute [go_sem] uF
theorem zQ (N:Nat) (a0:(List Client)) (a1:ByteArray) (a2:Int) (r:Reply × Bool) (h:iI N a0 a1 a2=some r):Con Try.prog 16 [] false [.sl false none 4 none (a0.map Client.row),.val (.string a1),.val (.int .i64 a2)] (.tup [.agg (Reply.row r.1),.val (.bool r.2)]):=by
 refine ay (G:=(uF N)) Try.func16 rfl (by decide) (by kernel_rfl) (gc 14 (p9 N) gn) [] mix (Nat.le_of_ble_eq_true rfl) ?_;simp only [Try.f16];unfold iI at h;refine Ws fun Z hZ=>?_;simp only [go_sem,seval];refine hZ _ (pp (Wk_seq ?_));obtain ⟨r1,hr1,h⟩:=Option.bind_eq_some_iff.1 h;refine aa fun Z hZ=>?_;simp only [go_sem,seval,hr1];refine hZ _ (pp (Ws fun Z hZ=>?_));simp only [go_sem,seval];refine hZ _ (pp (Wk_ret (pp ?_)));cases h;simp only [go_sem,seval];exact ⟨_,rfl,RokI.h⟩
def mv (N:Nat):FnS:=⟨[],false,fn3 (decL 4 Client.dec) decS (decI .i64) fun q0 q1 q2=>(iI N q0 q1 q2).map fun r=>.tup [.agg (Reply.row r.1),.val (.bool r.2)],false⟩
attribute [go_sem] mv
theorem qy (N:Nat):FSOk Try.prog 16 (mv N):=ok3 (fun q0 q1 q2 r h=>by
 obtain ⟨r',hr,rfl⟩:=Option.map_eq_some_iff.1 h;exact zQ N q0 q1 q2 r' hr) (fun h=>aq Client.dec_le h) (aW) (ar)


noncomputable def pf (N d f:Nat):Option FnS:=glist [(13,22,gp N),(17,26,jA N),(22,27,j7 N),(28,28,ll N),(54,29,jN N),(73,42,tC N)] d f
attribute [go_sem] pf
theorem pe (N:Nat) (a0:(List Client)) (a1:ByteArray) (a2:Int) (r:(List Client) × Int) (h:dL N a0 a1 a2=some r):Con Try.prog 14 [] false [.sl false none 4 none (a0.map Client.row),.val (.string a1),.val (.int .i64 a2)] (.tup [.sl true none 4 none (r.1.map Client.row),.val (.int .i64 r.2)]):=by
 refine ay (G:=(pf N)) Try.func14 rfl (by decide) (by kernel_rfl) (gc 13 (iu N) (gc 17 (kX N) (gc 22 (ma N) (gc 28 (m6 N) (gc 54 (mg N) (gc 73 (zB N) gn)))))) [] mix (Nat.le_of_ble_eq_true rfl) ?_;simp only [Try.f14];unfold dL at h;refine Ws fun Z hZ=>?_;simp only [go_sem,seval];refine hZ _ (pp (Wk_seq ?_));apply be (fun (c9:Bool)=>⟨tab 77 (updT (updT (updT (updT deadT 0 (.sl false none 4 none (a0.map Client.row))) 1 (.val (.string a1))) 2 (.val (.int .i64 a2))) 24 (.val (.bool c9))),RZ⟩)
 ·intro hJ1;obtain ⟨r10,hr2,h⟩:=Option.bind_eq_some_iff.1 h;refine aa fun Z hZ=>?_;simp only [go_sem,seval,hr2];refine aw rfl (fun hc3=>?_) (fun hc3=>?_)
  ·rw [if_neg (ne_true_of_eq_false hc3)] at h;simp only [go_sem,seval,hc3];refine hZ _ (pp (hJ1 _ true ?_ h));refine wr ?_ ?_<;>repeat' first|rfl|constructor
  rw [if_pos hc3] at h;obtain ⟨r11,hr4,h⟩:=Option.bind_eq_some_iff.1 h;simp only [go_sem,seval,hc3,hr4];refine aw rfl (fun hc5=>?_) (fun hc5=>?_)
  ·rw [if_neg (ne_true_of_eq_false hc5)] at h;simp only [go_sem,seval,hc5];refine hZ _ (pp (hJ1 _ true ?_ h));refine wr ?_ ?_<;>repeat' first|rfl|constructor
  rw [if_pos hc5] at h;obtain ⟨r12,hr6,h⟩:=Option.bind_eq_some_iff.1 h;simp only [go_sem,seval,hc5,hr6];refine hZ _ (pp (hJ1 _ (!r12) ?_ h));refine wr ?_ ?_<;>repeat' first|rfl|constructor
 intro c9 h;unfold dQ at h;refine au rfl (fun hc7=>?_) (fun hc7=>?_)
 ·rw [if_pos hc7] at h;refine Ws fun Z hZ=>?_;simp only [go_sem,seval,hc7];refine hZ _ (pp (Wk_ret (pp ?_)));cases h;simp only [go_sem,seval];exact ⟨_,rfl,RokI.h⟩
 rw [if_neg (ne_true_of_eq_false hc7)] at h;refine ag (pp ?_);unfold fN at h;refine Wk_seq ?_;obtain ⟨r13,hr8,h⟩:=Option.bind_eq_some_iff.1 h;refine aa fun Z hZ=>?_;simp only [go_sem,seval,hc7,hr8];refine hZ _ (pp (Wk_seq (ak (Ws fun Z hZ=>?_))));simp only [go_sem,seval];refine hZ _ (pp (de rfl (fun hc9=>?_) (fun hc9=>?_)))
 ·rw [if_neg (ne_true_of_eq_false hc9)] at h;refine Ws fun Z hZ=>?_;simp only [go_sem,seval,hc9];refine hZ _ (pp (Wk_ret (pp ?_)));cases h;simp only [go_sem,seval];exact ⟨_,rfl,RokI.h⟩
 rw [if_pos hc9] at h;apply be (fun (c20:Bool)=>⟨tab 77 (updT (updT (updT (updT deadT 0 (.sl false none 4 none (a0.map Client.row))) 2 (.val (.int .i64 a2))) 8 (.val (.int .i64 r13.1))) 34 (.val (.bool c20))),RZ⟩)
 ·intro hJ10;obtain ⟨x21,hb11,hx12,h⟩:=da h;refine aa fun Z hZ=>?_;simp only [go_sem,seval,hc9,hb11,hx12];refine sw (ae rfl) (fun hc13=>?_) (fun hc13=>?_)
  ·have hc13d:=decide_eq_false hc13;rw [if_neg hc13] at h;simp only [go_sem,seval,hc13d];refine hZ _ (pp (hJ10 _ false ?_ h));refine wr ?_ ?_<;>repeat' first|rfl|constructor
  have hc13d:=decide_eq_true hc13;rw [if_pos hc13] at h;obtain ⟨x22,hb14,hx15,h⟩:=da h;try simp only [Int.toNat_zero] at hx15
  try simp only [Int.ofNat_lt,Int.natCast_nonneg,true_and] at hb14
  simp only [go_sem,seval,hb11,hx12,hb14,hx15];refine hZ _ (pp (hJ10 _ (decide (x22<=a2)) ?_ h));refine wr ?_ ?_<;>repeat' first|rfl|constructor
 intro c20 h;unfold eS at h;refine au rfl (fun hc16=>?_) (fun hc16=>?_)
 ·rw [if_pos hc16] at h;refine Ws fun Z hZ=>?_;simp only [go_sem,seval,hc16];refine hZ _ (pp (Wk_ret (pp ?_)));cases h;simp only [go_sem,seval];exact ⟨_,rfl,RokI.h⟩
 rw [if_neg (ne_true_of_eq_false hc16)] at h;refine ag (pp ?_);unfold fO at h;refine Wk_seq ?_;obtain ⟨r23,hr17,h⟩:=Option.bind_eq_some_iff.1 h;refine aa fun Z hZ=>?_;simp only [go_sem,seval,hc16,hr17];refine hZ _ (pp ?_);obtain ⟨x24,hb18,hx19,h⟩:=da h;refine D6 3 10 57 [0,1,2] [3,4] (Nat.le_of_ble_eq_true rfl) rfl rfl (by kernel_rfl) fun Y hY=>?_;simp only [go_sem,seval,hb18];refine hY _ ⟨54,r23.length,((r13.1).toNat),_,_,_,_,(by simp only [go_sem,seval]<;>rfl),(by have:=hb18; omega),(by simp only [go_sem,seval]<;>rfl),(by simp only [go_sem,seval]<;>rfl),by decide,fun b0 off0 k0 Z hZ=>?_⟩
 simp only [go_sem,seval];refine hZ _ ?_;refine BQ [0,1] [2,3,4,5] [6] [7,8,9] 71 11 11 54 ((r13.1).toNat) (by kernel_rfl) (by kernel_rfl) (by kernel_rfl) (by simp only [go_sem]<;>rfl) (by simp only [go_sem,seval]<;>rfl) (by have:=hb18; omega) (by simp only [go_sem,seval]<;>rfl) (by simp only [go_sem,seval]<;>rfl) (by simp only [go_sem,seval]<;>rfl) rfl fun Z hZ Y hY=>?_
 simp only [go_sem,seval,hx19];refine hY _ (by kernel_rfl) (tT (by kernel_rfl) fun Y hY=>?_);simp only [go_sem,seval];refine hY _ (by kernel_rfl) (Cg ?_);simp only [go_sem,seval,hx19,yQ (row:=Client.rowD) (rx:=[.val (.string x24.Name),.val (.int .i64 x24.Low),.sl true none 1 none (x24.Open.map (rowI .i64)),.sl true none 10 none (x24.Done.map Answer.row)]) hx19 rfl rfl];refine hZ _ ?_;refine Bz [0,1] [2,3,4,5] [7,8,9] 6 71 11 11 54 ((r13.1).toNat) (by kernel_rfl) (by kernel_rfl) (by kernel_rfl) (by simp only [go_sem]<;>rfl) (by simp only [go_sem,seval]<;>rfl) (by have:=hb18; omega) (by simp only [go_sem,seval]<;>rfl) (by simp only [go_sem,seval]<;>rfl) (by simp only [go_sem,seval]<;>rfl) rfl fun Z hZ Y hY=>?_
 simp only [go_sem,seval,fx (row:=Client.rowD) _ hx19];obtain ⟨r25,hr20,h⟩:=Option.bind_eq_some_iff.1 h;obtain ⟨hd21,rfl⟩:=Bx hr20;refine hY _ (by kernel_rfl) (FB 73 42 43 x24.Done.length [(((r13.1).toNat),3)] (tC N) (x24.Done.map Answer.row) 10 ((r23.map Client.rowD).set ((r13.1).toNat) [.val (.string x24.Name),.val (.int .i64 (if a2 > x24.Low then a2 else x24.Low)),.sl true none 1 none (x24.Open.map (rowI .i64)),.dead]) [.val (.string x24.Name),.val (.int .i64 (if a2 > x24.Low then a2 else x24.Low)),.sl true none 1 none (x24.Open.map (rowI .i64)),.dead] [.dead,.val (.int .i64 (if a2 > x24.Low then a2 else x24.Low)),.dead,.dead] (V.fIdx (fun a:Answer=>V.kq (if a2 > x24.Low then a2 else x24.Low) a.Seq) x24.Done) ⟨rfl,rfl,rfl,rfl,?_,?_,rfl,rfl,by decide,by decide,by decide,by decide,?_,?_,?_,?_,?_,?_,rfl,V.less_low,V.fIdx_nodup _ _,?_,V.answer_one _,V.del_raw N _ _ hd21.2 hd21.1,?_,?_⟩)
 ·simp only [go_sem,seval]<;>rfl
 ·rfl
 ·simp only [go_sem,seval,Bool.or_self,fx (row:=Client.rowD) _ hx19,iU (row:=Client.rowD) hx19 rfl]<;>rfl
 ·simp only [go_sem,seval,iU (row:=Client.rowD) hx19 rfl]<;>rfl
 ·simp only [go_sem,seval,iU (row:=Client.rowD) hx19 rfl]<;>rfl
 ·simp only [go_sem,seval,iU (row:=Client.rowD) hx19 rfl]<;>rfl
 ·simp only [List.length_set,List.length_map]
 ·simp only [go_sem,seval,fx (row:=Client.rowD) _ hx19]
 ·intro k hk; simpa using V.fIdx_lt _ _ k hk
 ·kernel_rfl
 rw [V.fIdx_pick];simp only [go_sem,seval,fx (row:=Client.rowD) _ hx19,iU (row:=Client.rowD) hx19 rfl];refine hZ _ ?_;refine Wk.pinned (Ws fun Z hZ=>?_);simp only [go_sem,seval];refine hZ _ (pp (js (tX (n:=54) (Client.mk x24.Name (if a2 > x24.Low then a2 else x24.Low) x24.Open (x24.Done.filter fun a=>V.kq (if a2 > x24.Low then a2 else x24.Low) a.Seq)) (by simp only [go_sem,seval]; rfl) rfl rfl) ?_));refine js (qE (row:=Client.row) (n:=54) (by simp only [go_sem,seval]; rfl) (by simp only [rK,qH,go_sem,seval]; rfl)) (Wk_ret (pp ?_));cases h;simp only [go_sem,seval];exact ⟨_,rfl,RokI.h⟩
def iB (N:Nat):FnS:=⟨[],false,fn3 (decL 4 Client.dec) decS (decI .i64) fun q0 q1 q2=>(dL N q0 q1 q2).map fun r=>.tup [.sl false none 4 none (r.1.map Client.row),.val (.int .i64 r.2)],false⟩
attribute [go_sem] iB
theorem mL (N:Nat):FSOk Try.prog 14 (iB N):=ok3 (fun q0 q1 q2 r h=>by
 obtain ⟨r',hr,rfl⟩:=Option.map_eq_some_iff.1 h;exact (pe N q0 q1 q2 r' hr).res (by (try simp only [go_sem]); exact RokI.h)) (fun h=>aq Client.dec_le h) (aW) (ar)

def oE (N:Nat):FnS:=⟨[],false,fn3 (decL 4 Client.dec) decS (decI .i64) fun q0 q1 q2=>(dL N q0 q1 q2).map fun r=>.tup [.sl true none 4 none (r.1.map Client.row),.val (.int .i64 r.2)],false⟩
attribute [go_sem] oE
theorem Ak (N:Nat):FSOk Try.prog 14 (oE N):=ok3 (fun q0 q1 q2 r h=>by
 obtain ⟨r',hr,rfl⟩:=Option.map_eq_some_iff.1 h;exact pe N q0 q1 q2 r' hr) (fun h=>aq Client.dec_le h) (aW) (ar)


noncomputable def ui (N d f:Nat):Option FnS:=glist [(12,10,lk N),(17,10,lk N),(24,12,lP N),(29,16,mv N),(34,14,iB N),(62,20,eG N),(67,20,eG N),(72,20,eG N),(77,20,eG N)] d f
attribute [go_sem] ui
theorem zU (N:Nat)  (r:Bool) (h:mO N  = some r):Con Try.prog 7 [] true [] (.val (.bool r)):=by
 refine ay (G:=(ui N)) Try.func7 rfl (by decide) (by kernel_rfl) (gc 12 (m5 N) (gc 17 (m5 N) (gc 24 (p7 N) (gc 29 (qy N) (gc 34 (mL N) (gc 62 (eK N) (gc 67 (eK N) (gc 72 (eK N) (gc 77 (eK N) gn))))))))) [] mix (Nat.le_of_ble_eq_true rfl) ?_;simp only [Try.f7];unfold mO at h;refine Ws fun Z hZ=>?_;simp only [go_sem,seval];refine hZ _ (pp (Wk_seq ?_));obtain ⟨r1,hr1,h⟩:=Option.bind_eq_some_iff.1 h;refine aa fun Z hZ=>?_;simp only [go_sem,seval,hr1];refine hZ _ (pp (Wk_seq ?_));obtain ⟨r2,hr2,h⟩:=Option.bind_eq_some_iff.1 h;refine aa fun Z hZ=>?_;simp only [go_sem,seval,hr2];refine hZ _ (pp (Wk_seq ?_));obtain ⟨r3,hr3,h⟩:=Option.bind_eq_some_iff.1 h;refine aa fun Z hZ=>?_;simp only [go_sem,seval,hr3];refine hZ _ (pp (Wk_seq ?_));obtain ⟨r4,hr4,h⟩:=Option.bind_eq_some_iff.1 h;refine aa fun Z hZ=>?_;simp only [go_sem,seval,hr4];refine hZ _ (pp (Wk_seq ?_));obtain ⟨r5,hr5,h⟩:=Option.bind_eq_some_iff.1 h;refine aa fun Z hZ=>?_;simp only [go_sem,seval,hr5];refine hZ _ (pp (Ws fun Z hZ=>?_));simp only [go_sem,seval];refine sw (ae rfl) (fun hc6=>?_) (fun hc6=>?_)
 ·have hc6d:=decide_eq_false hc6;rw [if_neg hc6] at h;simp only [go_sem,seval,hc6d];refine hZ _ (pp (Wk_ret (pp ?_)));cases h;simp only [go_sem,seval];exact ⟨_,rfl,RokI.h,PureI.h⟩
 have hc6d:=decide_eq_true hc6;rw [if_pos hc6] at h;simp only [go_sem,seval,hc6d];refine sw (ae rfl) (fun hc7=>?_) (fun hc7=>?_)
 ·have hc7d:=decide_eq_false hc7;rw [if_neg hc7] at h;simp only [go_sem,seval,hc7d];refine hZ _ (pp (Wk_ret (pp ?_)));cases h;simp only [go_sem,seval];exact ⟨_,rfl,RokI.h,PureI.h⟩
 have hc7d:=decide_eq_true hc7;rw [if_pos hc7] at h;simp only [go_sem,seval,hc7d];refine sw (ae rfl) (fun hc8=>?_) (fun hc8=>?_)
 ·have hc8d:=decide_eq_false hc8;rw [if_neg hc8] at h;simp only [go_sem,seval,hc8d];refine hZ _ (pp (Wk_ret (pp ?_)));cases h;simp only [go_sem,seval];exact ⟨_,rfl,RokI.h,PureI.h⟩
 have hc8d:=decide_eq_true hc8;rw [if_pos hc8] at h;simp only [go_sem,seval,hc8d];refine sw (bf rfl) (fun hc9=>?_) (fun hc9=>?_)
 ·rw [if_neg (ne_true_of_eq_false hc9)] at h;simp only [go_sem,seval,hc9];refine hZ _ (pp (Wk_ret (pp ?_)));cases h;simp only [go_sem,seval];exact ⟨_,rfl,RokI.h,PureI.h⟩
 rw [if_pos hc9] at h;simp only [go_sem,seval,hc9];refine sw (ae rfl) (fun hc10=>?_) (fun hc10=>?_)
 ·have hc10d:=decide_eq_false hc10;rw [if_neg hc10] at h;simp only [go_sem,seval,hc10d];refine hZ _ (pp (Wk_ret (pp ?_)));cases h;simp only [go_sem,seval];exact ⟨_,rfl,RokI.h,PureI.h⟩
 have hc10d:=decide_eq_true hc10;rw [if_pos hc10] at h;simp only [go_sem,seval,hc10d];refine sw (ae rfl) (fun hc11=>?_) (fun hc11=>?_)
 ·have hc11d:=decide_eq_false hc11;rw [if_neg hc11] at h;simp only [go_sem,seval,hc11d];refine hZ _ (pp (Wk_ret (pp ?_)));cases h;simp only [go_sem,seval];exact ⟨_,rfl,RokI.h,PureI.h⟩
 have hc11d:=decide_eq_true hc11;rw [if_pos hc11] at h;obtain ⟨r6,hr12,h⟩:=Option.bind_eq_some_iff.1 h;simp only [go_sem,seval,hc11d,hr12];refine sw (ae rfl) (fun hc13=>?_) (fun hc13=>?_)
 ·have hc13d:=decide_eq_false hc13;rw [if_neg hc13] at h;simp only [go_sem,seval,hc13d];refine hZ _ (pp (Wk_ret (pp ?_)));cases h;simp only [go_sem,seval];exact ⟨_,rfl,RokI.h,PureI.h⟩
 have hc13d:=decide_eq_true hc13;rw [if_pos hc13] at h;obtain ⟨r7,hr14,h⟩:=Option.bind_eq_some_iff.1 h;simp only [go_sem,seval,hc13d,hr14];refine sw (ae rfl) (fun hc15=>?_) (fun hc15=>?_)
 ·have hc15d:=decide_eq_false hc15;rw [if_neg hc15] at h;simp only [go_sem,seval,hc15d];refine hZ _ (pp (Wk_ret (pp ?_)));cases h;simp only [go_sem,seval];exact ⟨_,rfl,RokI.h,PureI.h⟩
 have hc15d:=decide_eq_true hc15;rw [if_pos hc15] at h;obtain ⟨r8,hr16,h⟩:=Option.bind_eq_some_iff.1 h;simp only [go_sem,seval,hc15d,hr16];refine ae rfl (fun hc17=>?_) (fun hc17=>?_)
 ·have hc17d:=decide_eq_true hc17;rw [if_pos hc17] at h;obtain ⟨r9,hr18,h⟩:=Option.bind_eq_some_iff.1 h;simp only [go_sem,seval,hc17d,hr18];refine hZ _ (pp (Wk_ret (pp ?_)));cases h;simp only [go_sem,seval];exact ⟨_,rfl,RokI.h,PureI.h⟩
 have hc17d:=decide_eq_false hc17;rw [if_neg hc17] at h;simp only [go_sem,seval,hc17d];refine hZ _ (pp (Wk_ret (pp ?_)));cases h;simp only [go_sem,seval];exact ⟨_,rfl,RokI.h,PureI.h⟩
def ml (N:Nat):FnS:={ own:=[],pure:=true,fn:=fun cs=>match cs with
 | [] =>  (mO N ).map fun r=>.val (.bool r)
 | _=>none }
attribute [go_sem] ml
theorem vZ (N:Nat):FSOk Try.prog 7 (ml N):=by
 refine ⟨fun cs r h=>?_,fun h=>by cases h⟩;simp only [ml] at h;split at h
 ·simp only [Option.map_eq_some_iff] at h;obtain ⟨r',hr,rfl⟩:=h;exact ((zU N  r' hr).args (LeL.nil))
 ·cases h


theorem zI (N:Nat) (a0:Reply) (r:Bool) (h:kj N a0=some r):Con Try.prog 9 [] true [.agg (Reply.row a0)] (.val (.bool r)):=by
 refine ay (G:=(glist [])) Try.func9 rfl (by decide) (by kernel_rfl) gn [] mix (Nat.le_of_ble_eq_true rfl) ?_;simp only [Try.f9];unfold kj at h;refine Ws fun Z hZ=>?_;simp only [go_sem,seval];refine hZ _ (pp (Wk_seq (Ws fun Z hZ=>?_)));simp only [go_sem,seval];refine hZ _ (pp (ak (bS fun hreal2=>?_)));have hl1:=hreal2.cell 1 8 (by simp only [go_sem,seval]; rfl) rfl;first|rw [List.length_map] at hl1|rw [bo] at hl1|rw [<-List.map_append,List.length_map] at hl1
 refine bJ (fun (v2:Nat) (b:Unit)=>⟨tab 51 (updT (updT deadT 1 (.pref 1 [] 0 0)) 3 (.val (.int .i64 ((v2:Nat):Int)))),(upd RZ 1 (.sl true none 9 (some 1) [Reply.row a0]))⟩) () h ?_ ?_
 ·refine wr ?_ ?_<;>repeat' first|rfl|constructor
 rintro v2 ⟨⟩ hi3 h -;rcases (aU a0.Value_.L v2 hi3) with ⟨x5,hi3',hx4,hd6⟩|⟨hi3',_,hd6⟩
 ·rw [hd6] at h;simp only [iQ] at h;have hw5:=aY hi3' hl1;refine Wk_seq (Ws fun Z hZ=>?_);simp only [go_sem,seval,hi3'];refine hZ _ (pp ?_);try simp only [Int.ofNat_lt,hi3',if_true,if_false] at h
  refine aR rfl (ag (pp (Wk_seq (ak (Wk_seq ?_)))));try rw [gx_nat hx4] at h
  refine aa fun Z hZ=>?_;simp only [go_sem,seval,hx4,hi3'];refine hZ _ (pp (aQ rfl (fun hc7=>?_) (fun hc7=>?_)))
  ·have hc7d:=decide_eq_true hc7;rw [if_pos hc7] at h;refine Ws fun Z hZ=>?_;simp only [go_sem,seval,hc7d];refine hZ _ (pp (Wk_ret (pp ?_)));cases h;simp only [go_sem,seval];exact ⟨_,rfl,RokI.h,PureI.h⟩
  have hc7d:=decide_eq_false hc7;rw [if_neg hc7] at h;refine ag (pp (aa fun Z hZ=>?_));simp only [go_sem,seval,hw5,hc7d];refine hZ _ (pp ?_);first|refine ⟨(),?_,h⟩|refine ⟨hi3',(),?_,h⟩
  refine wr ?_ ?_<;>repeat' first|rfl|constructor
 rw [hd6] at h;simp only [iQ] at h;refine Wk_seq (Ws fun Z hZ=>?_);simp only [go_sem,seval,hi3'];refine hZ _ (pp ?_);try simp only [Int.ofNat_lt,hi3',if_true,if_false] at h
 refine aN rfl (ba (pp ?_));unfold pP at h;refine Ws fun Z hZ=>?_;simp only [go_sem,seval];refine sw (ae rfl) (fun hc8=>?_) (fun hc8=>?_)
 ·have hc8d:=decide_eq_false hc8;rw [if_neg hc8] at h;simp only [go_sem,seval,hc8d];refine hZ _ (pp (Wk_ret (pp ?_)));cases h;simp only [go_sem,seval];exact ⟨_,rfl,RokI.h,PureI.h⟩
 have hc8d:=decide_eq_true hc8;rw [if_pos hc8] at h;simp only [go_sem,seval,hc8d];refine sw (ae rfl) (fun hc9=>?_) (fun hc9=>?_)
 ·have hc9d:=decide_eq_false hc9;rw [if_neg hc9] at h;simp only [go_sem,seval,hc9d];refine hZ _ (pp (Wk_ret (pp ?_)));cases h;simp only [go_sem,seval];exact ⟨_,rfl,RokI.h,PureI.h⟩
 have hc9d:=decide_eq_true hc9;rw [if_pos hc9] at h;simp only [go_sem,seval,hc9d];refine sw (ae rfl) (fun hc10=>?_) (fun hc10=>?_)
 ·have hc10d:=decide_eq_false hc10;rw [if_neg hc10] at h;simp only [go_sem,seval,hc10d];refine hZ _ (pp (Wk_ret (pp ?_)));cases h;simp only [go_sem,seval];exact ⟨_,rfl,RokI.h,PureI.h⟩
 have hc10d:=decide_eq_true hc10;rw [if_pos hc10] at h;simp only [go_sem,seval,hc10d];refine ae rfl (fun hc11=>?_) (fun hc11=>?_)
 ·have hc11d:=decide_eq_true hc11;rw [if_pos hc11] at h;simp only [go_sem,seval,hc11d];refine hZ _ (pp (Wk_ret (pp ?_)));cases h;simp only [go_sem,seval];exact ⟨_,rfl,RokI.h,PureI.h⟩
 have hc11d:=decide_eq_false hc11;rw [if_neg hc11] at h;simp only [go_sem,seval,hc11d];refine hZ _ (pp (Wk_ret (pp ?_)));cases h;simp only [go_sem,seval];exact ⟨_,rfl,RokI.h,PureI.h⟩
def mF (N:Nat):FnS:=⟨[],true,fn1 Reply.decA fun q0=>(kj N q0).map fun r=>.val (.bool r),false⟩
attribute [go_sem] mF
theorem qw (N:Nat):FSOk Try.prog 9 (mF N):=ok1 (fun q0 r h=>by
 obtain ⟨r',hr,rfl⟩:=Option.map_eq_some_iff.1 h;exact zI N q0 r' hr) (Reply.decA_le)


noncomputable def uz (N d f:Nat):Option FnS:=glist [(55,9,mF N)] d f
attribute [go_sem] uz
theorem zT (N:Nat) (a0:(List Client)) (r:Bool) (h:lC N a0=some r):Con Try.prog 8 [] true [.sl false none 4 none (a0.map Client.row)] (.val (.bool r)):=by
 refine ay (G:=(uz N)) Try.func8 rfl (by decide) (by kernel_rfl) (gc 55 (qw N) gn) [] mix (Nat.le_of_ble_eq_true rfl) ?_;simp only [Try.f8];unfold lC at h;refine Ws fun Z hZ=>?_;simp only [go_sem,seval];refine hZ _ (pp (Wk_seq (Ws fun Z hZ=>?_)));simp only [go_sem,seval];refine hZ _ (pp (ak (bS fun hreal2=>?_)));have hl1:=hreal2.lenT 0 (by decide) (by simp only [go_sem,seval]; rfl);first|rw [List.length_map] at hl1|rw [bo] at hl1|rw [<-List.map_append,List.length_map] at hl1
 refine bJ (fun (v2:Nat) (b:Unit)=>⟨tab 60 (updT (updT deadT 0 (.sl false none 4 none (a0.map Client.row))) 3 (.val (.int .i64 ((v2:Nat):Int)))),RZ⟩) () h ?_ ?_
 ·refine wr ?_ ?_<;>repeat' first|rfl|constructor
 rintro v2 ⟨⟩ hi3 h -;rcases (aU a0 v2 hi3).symm with ⟨hi3',_,hd6⟩|⟨x5,hi3',hx4,hd6⟩
 ·rw [hd6] at h;simp only [fE] at h;refine Wk_seq (Ws fun Z hZ=>?_);simp only [go_sem,seval,hi3'];refine hZ _ (pp ?_);try simp only [Int.ofNat_lt,hi3',if_true,if_false] at h
  refine aN rfl (ba (pp (Ws fun Z hZ=>?_)));simp only [go_sem,seval];refine hZ _ (pp (Wk_ret (pp ?_)));cases h;simp only [go_sem,seval];exact ⟨_,rfl,RokI.h,PureI.h⟩
 rw [hd6] at h;simp only [fE] at h;have hw5:=aY hi3' hl1;refine Wk_seq (Ws fun Z hZ=>?_);simp only [go_sem,seval,hi3'];refine hZ _ (pp ?_);try simp only [Int.ofNat_lt,hi3',if_true,if_false] at h
 refine aR rfl (ag (pp (Wk_seq (ak (Wk_seq ?_)))));apply be (fun (c3:Bool)=>⟨tab 60 (updT (updT (updT deadT 0 (.sl false none 4 none (a0.map Client.row))) 3 (.val (.int .i64 ((v2:Nat):Int)))) 35 (.val (.bool c3))),RZ⟩)
 ·intro hJ7;try rw [gx_nat hx4] at h
  refine aa fun Z hZ=>?_;simp only [go_sem,seval,hx4,hi3'];refine ae rfl (fun hc8=>?_) (fun hc8=>?_)
  ·have hc8d:=decide_eq_true hc8;rw [if_pos hc8] at h;simp only [go_sem,seval,hc8d];refine hZ _ (pp (hJ7 _ true ?_ h));refine wr ?_ ?_<;>repeat' first|rfl|constructor
  have hc8d:=decide_eq_false hc8;rw [if_neg hc8] at h;try rw [gx_nat hx4] at h
  simp only [go_sem,seval,hx4,hi3',hc8d];refine ae rfl (fun hc9=>?_) (fun hc9=>?_)
  ·have hc9d:=decide_eq_true hc9;rw [if_pos hc9] at h;simp only [go_sem,seval,hc9d];refine hZ _ (pp (hJ7 _ true ?_ h));refine wr ?_ ?_<;>repeat' first|rfl|constructor
  have hc9d:=decide_eq_false hc9;rw [if_neg hc9] at h;try rw [gx_nat hx4] at h
  simp only [go_sem,seval,hx4,hi3',hc9d];refine hZ _ (pp (hJ7 _ (decide (40 < ((x5.Done.length:Nat):Int))) ?_ h));refine wr ?_ ?_<;>repeat' first|rfl|constructor
 intro c3 h;unfold kC at h;refine au rfl (fun hc10=>?_) (fun hc10=>?_)
 ·rw [if_pos hc10] at h;refine Ws fun Z hZ=>?_;simp only [go_sem,seval,hc10];refine hZ _ (pp (Wk_ret (pp ?_)));cases h;simp only [go_sem,seval];exact ⟨_,rfl,RokI.h,PureI.h⟩
 rw [if_neg (ne_true_of_eq_false hc10)] at h;refine ag (pp ?_);unfold kH at h;refine Ws fun Z hZ=>?_;simp only [go_sem,seval,hc10];refine hZ _ (pp (ak (sV (fun (b:Int)=>⟨tab 60 (updT (updT (updT deadT 0 (.sl false none 4 none (a0.map Client.row))) 3 (.val (.int .i64 ((v2:Nat):Int)))) 4 (.val (.int .i64 b))),RZ⟩) 0 h ?_ ?_)))
 ·refine wr ?_ ?_<;>repeat' first|rfl|constructor
 rintro n v11 h -;cases n with
 | zero=>simp [iJ] at h
 | succ n=>
 simp only [iJ] at h;refine Wk_seq (Wk_seq ?_);try rw [gx_nat hx4] at h
 refine aa fun Z hZ=>?_;simp only [go_sem,seval,hx4,hi3'];refine hZ _ (pp (sw (aQ rfl) (fun hc11=>?_) (fun hc11=>?_)))
 ·have hc11d:=decide_eq_false hc11;rw [if_neg hc11] at h;refine ba (pp (aa fun Z hZ=>?_));simp only [go_sem,seval,hw5,hc11d];refine hZ _ (pp ?_);first|refine ⟨(),?_,h⟩|refine ⟨hi3',(),?_,h⟩
  refine wr ?_ ?_<;>repeat' first|rfl|constructor
 have hc11d:=decide_eq_true hc11;rw [if_pos hc11] at h;refine ag (pp (Wk_seq (ak (Wk_seq ?_))));try rw [gx_nat hx4] at h
 obtain ⟨x4,hb12,hx13,h⟩:=da h;obtain ⟨r5,hr14,h⟩:=Option.bind_eq_some_iff.1 h;refine aa fun Z hZ=>?_;simp only [go_sem,seval,hx4,hi3',hb12,hx13,hr14];refine hZ _ (pp (de rfl (fun hc15=>?_) (fun hc15=>?_)))
 ·rw [if_neg (ne_true_of_eq_false hc15)] at h;refine Ws fun Z hZ=>?_;simp only [go_sem,seval,hc15];refine hZ _ (pp (Wk_ret (pp ?_)));cases h;simp only [go_sem,seval];exact ⟨_,rfl,RokI.h,PureI.h⟩
 rw [if_pos hc15] at h;refine ag (pp (aa fun Z hZ=>?_));simp only [go_sem,seval,hc15];refine hZ _ (pp (⟨_,Nat.lt_succ_self _,(IntKind.i64.wrap (v11+1)),?_,h⟩));refine wr ?_ ?_<;>repeat' first|rfl|constructor
def pF (N:Nat):FnS:=⟨[],true,fn1 (decL 4 Client.dec) fun q0=>(lC N q0).map fun r=>.val (.bool r),false⟩
attribute [go_sem] pF
theorem wa (N:Nat):FSOk Try.prog 8 (pF N):=ok1 (fun q0 r h=>by
 obtain ⟨r',hr,rfl⟩:=Option.map_eq_some_iff.1 h;exact zT N q0 r' hr) (fun h=>aq Client.dec_le h)


theorem vS (N:Nat) (a0:ByteArray) (r:Bool) (h:eH N a0=some r):Con Try.prog 33 [] true [.val (.string a0)] (.val (.bool r)):=by
 refine ay (G:=(glist [])) Try.func33 rfl (by decide) (by kernel_rfl) gn [] mix (Nat.le_of_ble_eq_true rfl) ?_;simp only [Try.f33];unfold eH at h;refine Ws fun Z hZ=>?_;simp only [go_sem,seval];refine hZ _ (pp (Ws fun Z hZ=>?_));simp only [go_sem,seval];refine ae rfl (fun hc1=>?_) (fun hc1=>?_)
 ·have hc1d:=decide_eq_true hc1;rw [if_pos hc1] at h;simp only [go_sem,seval,hc1d];refine hZ _ (pp (Wk_ret (pp ?_)));cases h;simp only [go_sem,seval];exact ⟨_,rfl,RokI.h,PureI.h⟩
 have hc1d:=decide_eq_false hc1;rw [if_neg hc1] at h;simp only [go_sem,seval,hc1d];refine hZ _ (pp (Wk_ret (pp ?_)));cases h;simp only [go_sem,seval];exact ⟨_,rfl,RokI.h,PureI.h⟩
def fH (N:Nat):FnS:=⟨[],true,fn1 decS fun q0=>(eH N q0).map fun r=>.val (.bool r),false⟩
attribute [go_sem] fH
theorem gY (N:Nat):FSOk Try.prog 33 (fH N):=ok1 (fun q0 r h=>by
 obtain ⟨r',hr,rfl⟩:=Option.map_eq_some_iff.1 h;exact vS N q0 r' hr) (aW)


theorem A5 (N:Nat) (a0:(List Int)) (a1:Int) (r:Int) (h:oP N a0 a1=some r):Con Try.prog 70 [] true [.sl false none 1 none (a0.map (rowI .i64)),.val (.int .i64 a1)] (.val (.int .i64 r)):=by
 refine ay (G:=(glist [])) Try.func70 rfl (by decide) (by kernel_rfl) gn [] mix (Nat.le_of_ble_eq_true rfl) ?_;simp only [Try.f70];unfold oP at h;refine Ws fun Z hZ=>?_;simp only [go_sem,seval];refine hZ _ (pp (Wk_seq (Ws fun Z hZ=>?_)));simp only [go_sem,seval];refine hZ _ (pp (ak (bS fun hreal2=>?_)));have hl1:=hreal2.lenT 0 (by decide) (by simp only [go_sem,seval]; rfl);first|rw [List.length_map] at hl1|rw [bo] at hl1|rw [<-List.map_append,List.length_map] at hl1
 refine bJ (fun (v2:Nat) (b:Unit)=>⟨tab 19 (updT (updT (updT deadT 0 (.sl false none 1 none (a0.map (rowI .i64)))) 1 (.val (.int .i64 a1))) 5 (.val (.int .i64 ((v2:Nat):Int)))),RZ⟩) () h ?_ ?_
 ·refine wr ?_ ?_<;>repeat' first|rfl|constructor
 rintro v2 ⟨⟩ hi3 h -;rcases (aU a0 v2 hi3).symm with ⟨hi3',_,hd6⟩|⟨x5,hi3',hx4,hd6⟩
 ·rw [hd6] at h;simp only [jy] at h;refine Wk_seq (Ws fun Z hZ=>?_);simp only [go_sem,seval,hi3'];refine hZ _ (pp ?_);try simp only [Int.ofNat_lt,hi3',if_true,if_false] at h
  refine aN rfl (ba (pp (Ws fun Z hZ=>?_)));simp only [go_sem,seval];refine hZ _ (pp (Wk_ret (pp ?_)));cases h;simp only [go_sem,seval];exact ⟨_,rfl,RokI.h,PureI.h⟩
 rw [hd6] at h;simp only [jy] at h;have hw5:=aY hi3' hl1;refine Wk_seq (Ws fun Z hZ=>?_);simp only [go_sem,seval,hi3'];refine hZ _ (pp ?_);try simp only [Int.ofNat_lt,hi3',if_true,if_false] at h
 refine aR rfl (ag (pp (Wk_seq (ak (Wk_seq ?_)))));try rw [gx_nat hx4] at h
 refine aa fun Z hZ=>?_;simp only [go_sem,seval,hx4,hi3'];refine hZ _ (pp (aQ rfl (fun hc7=>?_) (fun hc7=>?_)))
 ·have hc7d:=decide_eq_true hc7;rw [if_pos hc7] at h;refine Ws fun Z hZ=>?_;simp only [go_sem,seval,hc7d];refine hZ _ (pp (Wk_ret (pp ?_)));cases h;simp only [go_sem,seval];exact ⟨_,rfl,RokI.h,PureI.h⟩
 have hc7d:=decide_eq_false hc7;rw [if_neg hc7] at h;refine ag (pp (aa fun Z hZ=>?_));simp only [go_sem,seval,hw5,hc7d];refine hZ _ (pp ?_);first|refine ⟨(),?_,h⟩|refine ⟨hi3',(),?_,h⟩
 refine wr ?_ ?_<;>repeat' first|rfl|constructor
def qp (N:Nat):FnS:=⟨[],true,fn2 (decL 1 (dec1 (decI .i64))) (decI .i64) fun q0 q1=>(oP N q0 q1).map fun r=>.val (.int .i64 r),false⟩
attribute [go_sem] qp
theorem wP (N:Nat):FSOk Try.prog 70 (qp N):=ok2 (fun q0 q1 r h=>by
 obtain ⟨r',hr,rfl⟩:=Option.map_eq_some_iff.1 h;exact A5 N q0 q1 r' hr) (fun h=>aq (br .i64) h) (ar)


noncomputable def se (N d f:Nat):Option FnS:=glist [(7,70,qp N)] d f
attribute [go_sem] se
theorem yi (N:Nat) (a0:(List Int)) (a1:Int) (r:Bool) (h:fq N a0 a1=some r):Con Try.prog 48 [] true [.sl false none 1 none (a0.map (rowI .i64)),.val (.int .i64 a1)] (.val (.bool r)):=by
 refine ay (G:=(se N)) Try.func48 rfl (by decide) (by kernel_rfl) (gc 7 (wP N) gn) [] mix (Nat.le_of_ble_eq_true rfl) ?_;simp only [Try.f48];unfold fq at h;refine Ws fun Z hZ=>?_;simp only [go_sem,seval];refine hZ _ (pp (Wk_seq ?_));obtain ⟨r1,hr1,h⟩:=Option.bind_eq_some_iff.1 h;refine aa fun Z hZ=>?_;simp only [go_sem,seval,hr1];refine hZ _ (pp (Wk_ret (pp ?_)));cases h;simp only [go_sem,seval];exact ⟨_,rfl,RokI.h,PureI.h⟩
def iV (N:Nat):FnS:=⟨[],true,fn2 (decL 1 (dec1 (decI .i64))) (decI .i64) fun q0 q1=>(fq N q0 q1).map fun r=>.val (.bool r),false⟩
attribute [go_sem] iV
theorem lH (N:Nat):FSOk Try.prog 48 (iV N):=ok2 (fun q0 q1 r h=>by
 obtain ⟨r',hr,rfl⟩:=Option.map_eq_some_iff.1 h;exact yi N q0 q1 r' hr) (fun h=>aq (br .i64) h) (ar)


theorem vY (N:Nat) (a0:Value) (r:Bool) (h:gU N a0=some r):Con Try.prog 52 [] true [.agg (Value.row a0)] (.val (.bool r)):=by
 refine ay (G:=(glist [])) Try.func52 rfl (by decide) (by kernel_rfl) gn [] mix (Nat.le_of_ble_eq_true rfl) ?_;simp only [Try.f52];unfold gU at h;refine Ws fun Z hZ=>?_;simp only [go_sem,seval];refine hZ _ (pp (Wk_seq ?_));apply be (fun (c3:Bool)=>⟨tab 104 (updT (updT deadT 1 (.pref 1 [] 0 0)) 48 (.val (.bool c3))),(upd RZ 1 (.sl true none 5 (some 1) [Value.row a0]))⟩)
 ·intro hJ1;refine aa fun Z hZ=>?_;simp only [go_sem,seval];refine sw (az rfl) (fun hc2=>?_) (fun hc2=>?_)
  ·have hc2d:=decide_eq_true hc2;rw [if_pos hc2] at h;simp only [go_sem,seval,hc2d];refine sw (az rfl) (fun hc25=>?_) (fun hc25=>?_)
   ·have hc25d:=decide_eq_true hc25;rw [if_pos hc25] at h;simp only [go_sem,seval,hc25d];refine sw (az rfl) (fun hc31=>?_) (fun hc31=>?_)
    ·have hc31d:=decide_eq_true hc31;rw [if_pos hc31] at h;simp only [go_sem,seval,hc31d];refine az rfl (fun hc34=>?_) (fun hc34=>?_)
     ·have hc34d:=decide_eq_false hc34;rw [if_neg hc34] at h;simp only [go_sem,seval,hc34d];refine hZ _ (pp (hJ1 _ (decide (0 < ((a0.L.length:Nat):Int))) ?_ h));refine wr ?_ ?_<;>repeat' first|rfl|constructor
     have hc34d:=decide_eq_true hc34;rw [if_pos hc34] at h;simp only [go_sem,seval,hc34d];refine hZ _ (pp (hJ1 _ false ?_ h));refine wr ?_ ?_<;>repeat' first|rfl|constructor
    have hc31d:=decide_eq_false hc31;rw [if_neg hc31] at h;simp only [go_sem,seval,hc31d];refine ae rfl (fun hc32=>?_) (fun hc32=>?_)
    ·have hc32d:=decide_eq_true hc32;rw [if_pos hc32] at h;simp only [go_sem,seval,hc32d];refine hZ _ (pp (hJ1 _ true ?_ h));refine wr ?_ ?_<;>repeat' first|rfl|constructor
    have hc32d:=decide_eq_false hc32;rw [if_neg hc32] at h;simp only [go_sem,seval,hc32d];refine az rfl (fun hc33=>?_) (fun hc33=>?_)
    ·have hc33d:=decide_eq_false hc33;rw [if_neg hc33] at h;simp only [go_sem,seval,hc33d];refine hZ _ (pp (hJ1 _ (decide (0 < ((a0.L.length:Nat):Int))) ?_ h));refine wr ?_ ?_<;>repeat' first|rfl|constructor
    have hc33d:=decide_eq_true hc33;rw [if_pos hc33] at h;simp only [go_sem,seval,hc33d];refine hZ _ (pp (hJ1 _ false ?_ h));refine wr ?_ ?_<;>repeat' first|rfl|constructor
   have hc25d:=decide_eq_false hc25;rw [if_neg hc25] at h;simp only [go_sem,seval,hc25d];refine aw rfl (fun hc26=>?_) (fun hc26=>?_)
   ·rw [if_neg (ne_true_of_eq_false hc26)] at h;simp only [go_sem,seval,hc26];refine hZ _ (pp (hJ1 _ true ?_ h));refine wr ?_ ?_<;>repeat' first|rfl|constructor
   rw [if_pos hc26] at h;simp only [go_sem,seval,hc26];refine sw (az rfl) (fun hc27=>?_) (fun hc27=>?_)
   ·have hc27d:=decide_eq_true hc27;rw [if_pos hc27] at h;simp only [go_sem,seval,hc27d];refine az rfl (fun hc30=>?_) (fun hc30=>?_)
    ·have hc30d:=decide_eq_false hc30;rw [if_neg hc30] at h;simp only [go_sem,seval,hc30d];refine hZ _ (pp (hJ1 _ (decide (0 < ((a0.L.length:Nat):Int))) ?_ h));refine wr ?_ ?_<;>repeat' first|rfl|constructor
    have hc30d:=decide_eq_true hc30;rw [if_pos hc30] at h;simp only [go_sem,seval,hc30d];refine hZ _ (pp (hJ1 _ false ?_ h));refine wr ?_ ?_<;>repeat' first|rfl|constructor
   have hc27d:=decide_eq_false hc27;rw [if_neg hc27] at h;simp only [go_sem,seval,hc27d];refine ae rfl (fun hc28=>?_) (fun hc28=>?_)
   ·have hc28d:=decide_eq_true hc28;rw [if_pos hc28] at h;simp only [go_sem,seval,hc28d];refine hZ _ (pp (hJ1 _ true ?_ h));refine wr ?_ ?_<;>repeat' first|rfl|constructor
   have hc28d:=decide_eq_false hc28;rw [if_neg hc28] at h;simp only [go_sem,seval,hc28d];refine az rfl (fun hc29=>?_) (fun hc29=>?_)
   ·have hc29d:=decide_eq_false hc29;rw [if_neg hc29] at h;simp only [go_sem,seval,hc29d];refine hZ _ (pp (hJ1 _ (decide (0 < ((a0.L.length:Nat):Int))) ?_ h));refine wr ?_ ?_<;>repeat' first|rfl|constructor
   have hc29d:=decide_eq_true hc29;rw [if_pos hc29] at h;simp only [go_sem,seval,hc29d];refine hZ _ (pp (hJ1 _ false ?_ h));refine wr ?_ ?_<;>repeat' first|rfl|constructor
  have hc2d:=decide_eq_false hc2;rw [if_neg hc2] at h;simp only [go_sem,seval,hc2d];refine sw (az rfl) (fun hc3=>?_) (fun hc3=>?_)
  ·have hc3d:=decide_eq_true hc3;rw [if_pos hc3] at h;simp only [go_sem,seval,hc3d];refine sw (az rfl) (fun hc15=>?_) (fun hc15=>?_)
   ·have hc15d:=decide_eq_true hc15;rw [if_pos hc15] at h;simp only [go_sem,seval,hc15d];refine sw (az rfl) (fun hc21=>?_) (fun hc21=>?_)
    ·have hc21d:=decide_eq_true hc21;rw [if_pos hc21] at h;simp only [go_sem,seval,hc21d];refine az rfl (fun hc24=>?_) (fun hc24=>?_)
     ·have hc24d:=decide_eq_false hc24;rw [if_neg hc24] at h;simp only [go_sem,seval,hc24d];refine hZ _ (pp (hJ1 _ (decide (0 < ((a0.L.length:Nat):Int))) ?_ h));refine wr ?_ ?_<;>repeat' first|rfl|constructor
     have hc24d:=decide_eq_true hc24;rw [if_pos hc24] at h;simp only [go_sem,seval,hc24d];refine hZ _ (pp (hJ1 _ false ?_ h));refine wr ?_ ?_<;>repeat' first|rfl|constructor
    have hc21d:=decide_eq_false hc21;rw [if_neg hc21] at h;simp only [go_sem,seval,hc21d];refine ae rfl (fun hc22=>?_) (fun hc22=>?_)
    ·have hc22d:=decide_eq_true hc22;rw [if_pos hc22] at h;simp only [go_sem,seval,hc22d];refine hZ _ (pp (hJ1 _ true ?_ h));refine wr ?_ ?_<;>repeat' first|rfl|constructor
    have hc22d:=decide_eq_false hc22;rw [if_neg hc22] at h;simp only [go_sem,seval,hc22d];refine az rfl (fun hc23=>?_) (fun hc23=>?_)
    ·have hc23d:=decide_eq_false hc23;rw [if_neg hc23] at h;simp only [go_sem,seval,hc23d];refine hZ _ (pp (hJ1 _ (decide (0 < ((a0.L.length:Nat):Int))) ?_ h));refine wr ?_ ?_<;>repeat' first|rfl|constructor
    have hc23d:=decide_eq_true hc23;rw [if_pos hc23] at h;simp only [go_sem,seval,hc23d];refine hZ _ (pp (hJ1 _ false ?_ h));refine wr ?_ ?_<;>repeat' first|rfl|constructor
   have hc15d:=decide_eq_false hc15;rw [if_neg hc15] at h;simp only [go_sem,seval,hc15d];refine aw rfl (fun hc16=>?_) (fun hc16=>?_)
   ·rw [if_neg (ne_true_of_eq_false hc16)] at h;simp only [go_sem,seval,hc16];refine hZ _ (pp (hJ1 _ true ?_ h));refine wr ?_ ?_<;>repeat' first|rfl|constructor
   rw [if_pos hc16] at h;simp only [go_sem,seval,hc16];refine sw (az rfl) (fun hc17=>?_) (fun hc17=>?_)
   ·have hc17d:=decide_eq_true hc17;rw [if_pos hc17] at h;simp only [go_sem,seval,hc17d];refine az rfl (fun hc20=>?_) (fun hc20=>?_)
    ·have hc20d:=decide_eq_false hc20;rw [if_neg hc20] at h;simp only [go_sem,seval,hc20d];refine hZ _ (pp (hJ1 _ (decide (0 < ((a0.L.length:Nat):Int))) ?_ h));refine wr ?_ ?_<;>repeat' first|rfl|constructor
    have hc20d:=decide_eq_true hc20;rw [if_pos hc20] at h;simp only [go_sem,seval,hc20d];refine hZ _ (pp (hJ1 _ false ?_ h));refine wr ?_ ?_<;>repeat' first|rfl|constructor
   have hc17d:=decide_eq_false hc17;rw [if_neg hc17] at h;simp only [go_sem,seval,hc17d];refine ae rfl (fun hc18=>?_) (fun hc18=>?_)
   ·have hc18d:=decide_eq_true hc18;rw [if_pos hc18] at h;simp only [go_sem,seval,hc18d];refine hZ _ (pp (hJ1 _ true ?_ h));refine wr ?_ ?_<;>repeat' first|rfl|constructor
   have hc18d:=decide_eq_false hc18;rw [if_neg hc18] at h;simp only [go_sem,seval,hc18d];refine az rfl (fun hc19=>?_) (fun hc19=>?_)
   ·have hc19d:=decide_eq_false hc19;rw [if_neg hc19] at h;simp only [go_sem,seval,hc19d];refine hZ _ (pp (hJ1 _ (decide (0 < ((a0.L.length:Nat):Int))) ?_ h));refine wr ?_ ?_<;>repeat' first|rfl|constructor
   have hc19d:=decide_eq_true hc19;rw [if_pos hc19] at h;simp only [go_sem,seval,hc19d];refine hZ _ (pp (hJ1 _ false ?_ h));refine wr ?_ ?_<;>repeat' first|rfl|constructor
  have hc3d:=decide_eq_false hc3;rw [if_neg hc3] at h;simp only [go_sem,seval,hc3d];refine az rfl (fun hc4=>?_) (fun hc4=>?_)
  ·have hc4d:=decide_eq_false hc4;rw [if_neg hc4] at h;simp only [go_sem,seval,hc4d];refine hZ _ (pp (hJ1 _ true ?_ h));refine wr ?_ ?_<;>repeat' first|rfl|constructor
  have hc4d:=decide_eq_true hc4;rw [if_pos hc4] at h;simp only [go_sem,seval,hc4d];refine sw (az rfl) (fun hc5=>?_) (fun hc5=>?_)
  ·have hc5d:=decide_eq_true hc5;rw [if_pos hc5] at h;simp only [go_sem,seval,hc5d];refine sw (az rfl) (fun hc11=>?_) (fun hc11=>?_)
   ·have hc11d:=decide_eq_true hc11;rw [if_pos hc11] at h;simp only [go_sem,seval,hc11d];refine az rfl (fun hc14=>?_) (fun hc14=>?_)
    ·have hc14d:=decide_eq_false hc14;rw [if_neg hc14] at h;simp only [go_sem,seval,hc14d];refine hZ _ (pp (hJ1 _ (decide (0 < ((a0.L.length:Nat):Int))) ?_ h));refine wr ?_ ?_<;>repeat' first|rfl|constructor
    have hc14d:=decide_eq_true hc14;rw [if_pos hc14] at h;simp only [go_sem,seval,hc14d];refine hZ _ (pp (hJ1 _ false ?_ h));refine wr ?_ ?_<;>repeat' first|rfl|constructor
   have hc11d:=decide_eq_false hc11;rw [if_neg hc11] at h;simp only [go_sem,seval,hc11d];refine ae rfl (fun hc12=>?_) (fun hc12=>?_)
   ·have hc12d:=decide_eq_true hc12;rw [if_pos hc12] at h;simp only [go_sem,seval,hc12d];refine hZ _ (pp (hJ1 _ true ?_ h));refine wr ?_ ?_<;>repeat' first|rfl|constructor
   have hc12d:=decide_eq_false hc12;rw [if_neg hc12] at h;simp only [go_sem,seval,hc12d];refine az rfl (fun hc13=>?_) (fun hc13=>?_)
   ·have hc13d:=decide_eq_false hc13;rw [if_neg hc13] at h;simp only [go_sem,seval,hc13d];refine hZ _ (pp (hJ1 _ (decide (0 < ((a0.L.length:Nat):Int))) ?_ h));refine wr ?_ ?_<;>repeat' first|rfl|constructor
   have hc13d:=decide_eq_true hc13;rw [if_pos hc13] at h;simp only [go_sem,seval,hc13d];refine hZ _ (pp (hJ1 _ false ?_ h));refine wr ?_ ?_<;>repeat' first|rfl|constructor
  have hc5d:=decide_eq_false hc5;rw [if_neg hc5] at h;simp only [go_sem,seval,hc5d];refine aw rfl (fun hc6=>?_) (fun hc6=>?_)
  ·rw [if_neg (ne_true_of_eq_false hc6)] at h;simp only [go_sem,seval,hc6];refine hZ _ (pp (hJ1 _ true ?_ h));refine wr ?_ ?_<;>repeat' first|rfl|constructor
  rw [if_pos hc6] at h;simp only [go_sem,seval,hc6];refine sw (az rfl) (fun hc7=>?_) (fun hc7=>?_)
  ·have hc7d:=decide_eq_true hc7;rw [if_pos hc7] at h;simp only [go_sem,seval,hc7d];refine az rfl (fun hc10=>?_) (fun hc10=>?_)
   ·have hc10d:=decide_eq_false hc10;rw [if_neg hc10] at h;simp only [go_sem,seval,hc10d];refine hZ _ (pp (hJ1 _ (decide (0 < ((a0.L.length:Nat):Int))) ?_ h));refine wr ?_ ?_<;>repeat' first|rfl|constructor
   have hc10d:=decide_eq_true hc10;rw [if_pos hc10] at h;simp only [go_sem,seval,hc10d];refine hZ _ (pp (hJ1 _ false ?_ h));refine wr ?_ ?_<;>repeat' first|rfl|constructor
  have hc7d:=decide_eq_false hc7;rw [if_neg hc7] at h;simp only [go_sem,seval,hc7d];refine ae rfl (fun hc8=>?_) (fun hc8=>?_)
  ·have hc8d:=decide_eq_true hc8;rw [if_pos hc8] at h;simp only [go_sem,seval,hc8d];refine hZ _ (pp (hJ1 _ true ?_ h));refine wr ?_ ?_<;>repeat' first|rfl|constructor
  have hc8d:=decide_eq_false hc8;rw [if_neg hc8] at h;simp only [go_sem,seval,hc8d];refine az rfl (fun hc9=>?_) (fun hc9=>?_)
  ·have hc9d:=decide_eq_false hc9;rw [if_neg hc9] at h;simp only [go_sem,seval,hc9d];refine hZ _ (pp (hJ1 _ (decide (0 < ((a0.L.length:Nat):Int))) ?_ h));refine wr ?_ ?_<;>repeat' first|rfl|constructor
  have hc9d:=decide_eq_true hc9;rw [if_pos hc9] at h;simp only [go_sem,seval,hc9d];refine hZ _ (pp (hJ1 _ false ?_ h));refine wr ?_ ?_<;>repeat' first|rfl|constructor
 intro c3 h;unfold ai at h;refine au rfl (fun hc35=>?_) (fun hc35=>?_)
 ·rw [if_pos hc35] at h;refine Ws fun Z hZ=>?_;simp only [go_sem,seval,hc35];refine hZ _ (pp (Wk_ret (pp ?_)));cases h;simp only [go_sem,seval];exact ⟨_,rfl,RokI.h,PureI.h⟩
 rw [if_neg (ne_true_of_eq_false hc35)] at h;refine ag (pp ?_);unfold aj at h;refine Wk_seq ?_;apply be (fun (c6:Bool)=>⟨tab 104 (updT (updT deadT 1 (.pref 1 [] 0 0)) 89 (.val (.bool c6))),(upd RZ 1 (.sl true none 5 (some 1) [Value.row a0]))⟩)
 ·intro hJ36;refine aa fun Z hZ=>?_;simp only [go_sem,seval,hc35];refine ae rfl (fun hc37=>?_) (fun hc37=>?_)
  ·have hc37d:=decide_eq_true hc37;rw [if_pos hc37] at h;simp only [go_sem,seval,hc37d];refine hZ _ (pp (hJ36 _ true ?_ h));refine wr ?_ ?_<;>repeat' first|rfl|constructor
  have hc37d:=decide_eq_false hc37;rw [if_neg hc37] at h;simp only [go_sem,seval,hc37d];refine ae rfl (fun hc38=>?_) (fun hc38=>?_)
  ·have hc38d:=decide_eq_true hc38;rw [if_pos hc38] at h;simp only [go_sem,seval,hc38d];refine hZ _ (pp (hJ36 _ true ?_ h));refine wr ?_ ?_<;>repeat' first|rfl|constructor
  have hc38d:=decide_eq_false hc38;rw [if_neg hc38] at h;simp only [go_sem,seval,hc38d];refine sw (ae rfl) (fun hc39=>?_) (fun hc39=>?_)
  ·have hc39d:=decide_eq_false hc39;rw [if_neg hc39] at h;simp only [go_sem,seval,hc39d];refine ae rfl (fun hc46=>?_) (fun hc46=>?_)
   ·have hc46d:=decide_eq_true hc46;rw [if_pos hc46] at h;simp only [go_sem,seval,hc46d];refine hZ _ (pp (hJ36 _ true ?_ h));refine wr ?_ ?_<;>repeat' first|rfl|constructor
   have hc46d:=decide_eq_false hc46;rw [if_neg hc46] at h;simp only [go_sem,seval,hc46d];refine ae rfl (fun hc47=>?_) (fun hc47=>?_)
   ·have hc47d:=decide_eq_true hc47;rw [if_pos hc47] at h;simp only [go_sem,seval,hc47d];refine hZ _ (pp (hJ36 _ true ?_ h));refine wr ?_ ?_<;>repeat' first|rfl|constructor
   have hc47d:=decide_eq_false hc47;rw [if_neg hc47] at h;simp only [go_sem,seval,hc47d];refine hZ _ (pp (hJ36 _ (decide (16 < ((a0.L.length:Nat):Int))) ?_ h));refine wr ?_ ?_<;>repeat' first|rfl|constructor
  have hc39d:=decide_eq_true hc39;rw [if_pos hc39] at h;simp only [go_sem,seval,hc39d];refine sw (az rfl) (fun hc40=>?_) (fun hc40=>?_)
  ·have hc40d:=decide_eq_true hc40;rw [if_pos hc40] at h;simp only [go_sem,seval,hc40d];refine ae rfl (fun hc44=>?_) (fun hc44=>?_)
   ·have hc44d:=decide_eq_true hc44;rw [if_pos hc44] at h;simp only [go_sem,seval,hc44d];refine hZ _ (pp (hJ36 _ true ?_ h));refine wr ?_ ?_<;>repeat' first|rfl|constructor
   have hc44d:=decide_eq_false hc44;rw [if_neg hc44] at h;simp only [go_sem,seval,hc44d];refine ae rfl (fun hc45=>?_) (fun hc45=>?_)
   ·have hc45d:=decide_eq_true hc45;rw [if_pos hc45] at h;simp only [go_sem,seval,hc45d];refine hZ _ (pp (hJ36 _ true ?_ h));refine wr ?_ ?_<;>repeat' first|rfl|constructor
   have hc45d:=decide_eq_false hc45;rw [if_neg hc45] at h;simp only [go_sem,seval,hc45d];refine hZ _ (pp (hJ36 _ (decide (16 < ((a0.L.length:Nat):Int))) ?_ h));refine wr ?_ ?_<;>repeat' first|rfl|constructor
  have hc40d:=decide_eq_false hc40;rw [if_neg hc40] at h;simp only [go_sem,seval,hc40d];refine az rfl (fun hc41=>?_) (fun hc41=>?_)
  ·have hc41d:=decide_eq_false hc41;rw [if_neg hc41] at h;simp only [go_sem,seval,hc41d];refine hZ _ (pp (hJ36 _ true ?_ h));refine wr ?_ ?_<;>repeat' first|rfl|constructor
  have hc41d:=decide_eq_true hc41;rw [if_pos hc41] at h;simp only [go_sem,seval,hc41d];refine ae rfl (fun hc42=>?_) (fun hc42=>?_)
  ·have hc42d:=decide_eq_true hc42;rw [if_pos hc42] at h;simp only [go_sem,seval,hc42d];refine hZ _ (pp (hJ36 _ true ?_ h));refine wr ?_ ?_<;>repeat' first|rfl|constructor
  have hc42d:=decide_eq_false hc42;rw [if_neg hc42] at h;simp only [go_sem,seval,hc42d];refine ae rfl (fun hc43=>?_) (fun hc43=>?_)
  ·have hc43d:=decide_eq_true hc43;rw [if_pos hc43] at h;simp only [go_sem,seval,hc43d];refine hZ _ (pp (hJ36 _ true ?_ h));refine wr ?_ ?_<;>repeat' first|rfl|constructor
  have hc43d:=decide_eq_false hc43;rw [if_neg hc43] at h;simp only [go_sem,seval,hc43d];refine hZ _ (pp (hJ36 _ (decide (16 < ((a0.L.length:Nat):Int))) ?_ h));refine wr ?_ ?_<;>repeat' first|rfl|constructor
 intro c6 h;unfold bg at h;refine au rfl (fun hc48=>?_) (fun hc48=>?_)
 ·rw [if_pos hc48] at h;refine Ws fun Z hZ=>?_;simp only [go_sem,seval,hc48];refine hZ _ (pp (Wk_ret (pp ?_)));cases h;simp only [go_sem,seval];exact ⟨_,rfl,RokI.h,PureI.h⟩
 rw [if_neg (ne_true_of_eq_false hc48)] at h;refine ag (pp ?_);unfold bj at h;refine Wk_seq (Ws fun Z hZ=>?_);simp only [go_sem,seval,hc48];refine hZ _ (pp (ak (bS fun hreal50=>?_)));have hl49:=hreal50.cell 1 4 (by simp only [go_sem,seval]; rfl) rfl;first|rw [List.length_map] at hl49|rw [bo] at hl49|rw [<-List.map_append,List.length_map] at hl49
 refine bJ (fun (v8:Nat) (b:Unit)=>⟨tab 104 (updT (updT deadT 1 (.pref 1 [] 0 0)) 3 (.val (.int .i64 ((v8:Nat):Int)))),(upd RZ 1 (.sl true none 5 (some 1) [Value.row a0]))⟩) () h ?_ ?_
 ·refine wr ?_ ?_<;>repeat' first|rfl|constructor
 rintro v8 ⟨⟩ hi51 h -;rcases (aU a0.L v8 hi51).symm with ⟨hi51',_,hd54⟩|⟨x11,hi51',hx52,hd54⟩
 ·rw [hd54] at h;simp only [fI] at h;refine Wk_seq (Ws fun Z hZ=>?_);simp only [go_sem,seval,hi51'];refine hZ _ (pp ?_);try simp only [Int.ofNat_lt,hi51',if_true,if_false] at h
  refine aN rfl (ba (pp (Ws fun Z hZ=>?_)));simp only [go_sem,seval];refine hZ _ (pp (Wk_ret (pp ?_)));cases h;simp only [go_sem,seval];exact ⟨_,rfl,RokI.h,PureI.h⟩
 rw [hd54] at h;simp only [fI] at h;have hw53:=aY hi51' hl49;refine Wk_seq (Ws fun Z hZ=>?_);simp only [go_sem,seval,hi51'];refine hZ _ (pp ?_);try simp only [Int.ofNat_lt,hi51',if_true,if_false] at h
 refine aR rfl (ag (pp (Wk_seq (ak (Wk_seq ?_)))));try rw [gx_nat hx52] at h
 refine aa fun Z hZ=>?_;simp only [go_sem,seval,hx52,hi51'];refine hZ _ (pp (aQ rfl (fun hc55=>?_) (fun hc55=>?_)))
 ·have hc55d:=decide_eq_true hc55;rw [if_pos hc55] at h;refine Ws fun Z hZ=>?_;simp only [go_sem,seval,hc55d];refine hZ _ (pp (Wk_ret (pp ?_)));cases h;simp only [go_sem,seval];exact ⟨_,rfl,RokI.h,PureI.h⟩
 have hc55d:=decide_eq_false hc55;rw [if_neg hc55] at h;refine ag (pp (aa fun Z hZ=>?_));simp only [go_sem,seval,hw53,hc55d];refine hZ _ (pp ?_);first|refine ⟨(),?_,h⟩|refine ⟨hi51',(),?_,h⟩
 refine wr ?_ ?_<;>repeat' first|rfl|constructor
def l6 (N:Nat):FnS:=⟨[],true,fn1 Value.decA fun q0=>(gU N q0).map fun r=>.val (.bool r),false⟩
attribute [go_sem] l6
theorem s9 (N:Nat):FSOk Try.prog 52 (l6 N):=ok1 (fun q0 r h=>by
 obtain ⟨r',hr,rfl⟩:=Option.map_eq_some_iff.1 h;exact vY N q0 r' hr) (Value.decA_le)


noncomputable def pW (N d f:Nat):Option FnS:=glist [(5,33,fH N),(35,52,l6 N)] d f
attribute [go_sem] pW
theorem vn (N:Nat) (a0:Reply) (r:Bool) (h:eg N a0=some r):Con Try.prog 25 [] true [.agg (Reply.row a0)] (.val (.bool r)):=by
 refine ay (G:=(pW N)) Try.func25 rfl (by decide) (by kernel_rfl) (gc 5 (gY N) (gc 35 (s9 N) gn)) [] mix (Nat.le_of_ble_eq_true rfl) ?_;simp only [Try.f25];unfold eg at h;refine Ws fun Z hZ=>?_;simp only [go_sem,seval];refine hZ _ (pp (Wk_seq ?_));obtain ⟨r1,hr1,h⟩:=Option.bind_eq_some_iff.1 h;refine aa fun Z hZ=>?_;simp only [go_sem,seval,hr1];refine sw (bf rfl) (fun hc2=>?_) (fun hc2=>?_)
 ·rw [if_neg (ne_true_of_eq_false hc2)] at h;simp only [go_sem,seval,hc2];refine hZ _ (pp (Wk_ret (pp ?_)));cases h;simp only [go_sem,seval];exact ⟨_,rfl,RokI.h,PureI.h⟩
 rw [if_pos hc2] at h;simp only [go_sem,seval,hc2];refine sw (ae rfl) (fun hc3=>?_) (fun hc3=>?_)
 ·have hc3d:=decide_eq_false hc3;rw [if_neg hc3] at h;simp only [go_sem,seval,hc3d];refine hZ _ (pp (Wk_ret (pp ?_)));cases h;simp only [go_sem,seval];exact ⟨_,rfl,RokI.h,PureI.h⟩
 have hc3d:=decide_eq_true hc3;rw [if_pos hc3] at h;simp only [go_sem,seval,hc3d];refine sw (ae rfl) (fun hc4=>?_) (fun hc4=>?_)
 ·have hc4d:=decide_eq_false hc4;rw [if_neg hc4] at h;simp only [go_sem,seval,hc4d];refine hZ _ (pp (Wk_ret (pp ?_)));cases h;simp only [go_sem,seval];exact ⟨_,rfl,RokI.h,PureI.h⟩
 have hc4d:=decide_eq_true hc4;rw [if_pos hc4] at h;simp only [go_sem,seval,hc4d];refine sw (ae rfl) (fun hc5=>?_) (fun hc5=>?_)
 ·have hc5d:=decide_eq_false hc5;rw [if_neg hc5] at h;simp only [go_sem,seval,hc5d];refine hZ _ (pp (Wk_ret (pp ?_)));cases h;simp only [go_sem,seval];exact ⟨_,rfl,RokI.h,PureI.h⟩
 have hc5d:=decide_eq_true hc5;rw [if_pos hc5] at h;simp only [go_sem,seval,hc5d];refine sw (ae rfl) (fun hc6=>?_) (fun hc6=>?_)
 ·have hc6d:=decide_eq_false hc6;rw [if_neg hc6] at h;simp only [go_sem,seval,hc6d];refine hZ _ (pp (Wk_ret (pp ?_)));cases h;simp only [go_sem,seval];exact ⟨_,rfl,RokI.h,PureI.h⟩
 have hc6d:=decide_eq_true hc6;rw [if_pos hc6] at h;simp only [go_sem,seval,hc6d];refine sw (ae rfl) (fun hc7=>?_) (fun hc7=>?_)
 ·have hc7d:=decide_eq_false hc7;rw [if_neg hc7] at h;simp only [go_sem,seval,hc7d];refine hZ _ (pp (Wk_ret (pp ?_)));cases h;simp only [go_sem,seval];exact ⟨_,rfl,RokI.h,PureI.h⟩
 have hc7d:=decide_eq_true hc7;rw [if_pos hc7] at h;obtain ⟨r2,hr8,h⟩:=Option.bind_eq_some_iff.1 h;simp only [go_sem,seval,hc7d,hr8];refine sw (bf rfl) (fun hc9=>?_) (fun hc9=>?_)
 ·rw [if_neg (ne_true_of_eq_false hc9)] at h;simp only [go_sem,seval,hc9];refine hZ _ (pp (Wk_ret (pp ?_)));cases h;simp only [go_sem,seval];exact ⟨_,rfl,RokI.h,PureI.h⟩
 rw [if_pos hc9] at h;simp only [go_sem,seval,hc9];refine ae rfl (fun hc10=>?_) (fun hc10=>?_)
 ·have hc10d:=decide_eq_true hc10;rw [if_pos hc10] at h;simp only [go_sem,seval,hc10d];refine hZ _ (pp (Wk_ret (pp ?_)));cases h;simp only [go_sem,seval];exact ⟨_,rfl,RokI.h,PureI.h⟩
 have hc10d:=decide_eq_false hc10;rw [if_neg hc10] at h;simp only [go_sem,seval,hc10d];refine hZ _ (pp (Wk_ret (pp ?_)));cases h;simp only [go_sem,seval];exact ⟨_,rfl,RokI.h,PureI.h⟩
def gf (N:Nat):FnS:=⟨[],true,fn1 Reply.decA fun q0=>(eg N q0).map fun r=>.val (.bool r),false⟩
attribute [go_sem] gf
theorem kg (N:Nat):FSOk Try.prog 25 (gf N):=ok1 (fun q0 r h=>by
 obtain ⟨r',hr,rfl⟩:=Option.map_eq_some_iff.1 h;exact vn N q0 r' hr) (Reply.decA_le)

end Go.Proofs.Yteldkhmcgloafaa
