/- Walks: each function computes its model. No condition. -/
import Derived.Test.YtekgpnhfhkhpaaaGreatB
import Derived.Test.YtekgpnhfhkhpaaaGreatWA
/- Each Go function computes its model: proofs laid by a program of ours. -/
set_option maxHeartbeats 40000000
set_option synthInstance.maxHeartbeats 2000000
set_option synthInstance.maxSize 4000
set_option linter.unusedSimpArgs false
set_option linter.unusedVariables false
set_option maxRecDepth 100000
namespace Go.Proofs.YtekgpnhfhkhpaaaGreat
open Go Go.Proofs Go.Abs
noncomputable def u7 (N d f:Nat):Option FnS:=glist [(13,11,jb N),(26,12,iU N),(31,12,iU N),(36,13,mv N),(42,14,lw N),(67,15,mB N),(75,8,lz N),(83,16,mA N),(98,12,iU N)] d f
attribute [go_sem] u7
theorem Ao (N:Nat)  (r:Bool) (h:mR N  = some r):Con Tryz.prog 5 [] true [] (.val (.bool r)):=by
 refine aT (G:=(u7 N)) Tryz.func5 rfl (by decide) (by kernel_rfl) (gc 13 (mL N) (gc 26 (kr N) (gc 31 (kr N) (gc 36 (qf N) (gc 42 (po N) (gc 67 (qd N) (gc 75 (pI N) (gc 83 (qa N) (gc 98 (kr N) gn))))))))) [(11,true),(82,true),(97,true)] mix (Nat.le_of_ble_eq_true rfl) ?_;simp only [Tryz.f5];unfold mR at h;refine Ws fun Z hZ=>?_;simp (config := { maxSteps := 4000000 }) only [go_sem,seval];refine hZ _ (pp (Ws fun Z hZ=>?_));simp (config := { maxSteps := 4000000 }) only [go_sem,seval];refine hZ _ (pp (Wk_seq ?_));obtain ⟨r1,hr1,h⟩:=Option.bind_eq_some_iff.1 h;refine ai fun Z hZ=>?_;simp (config := { maxSteps := 4000000 }) only [go_sem,seval,hr1];refine hZ _ (pp (Wk_seq ?_));apply dc (fun (c12:Bool)=>⟨tab 101 (updT (updT (updT deadT 1 (.sl false none 3 (some 3) ([(ah.mk 1 1 1),(ah.mk 2 1 1),(ah.mk 1 2 1)].map ah.row))) 2 (.sl false none 2 none (r1.map ae.row))) 39 (.val (.bool c12))),RZ⟩)
 ·intro hJ2;refine ai fun Z hZ=>?_;simp (config := { maxSteps := 4000000 }) only [go_sem,seval];refine i7 rfl (fun hc3=>?_) (fun hc3=>?_)
  ·have hc3d:=decide_eq_false hc3;first|rw [if_neg hc3] at h|rw [if_neg (ne_true_of_eq_false hc3d)] at h|simp only [hc3d,Bool.not_true,Bool.not_false,Bool.false_eq_true,if_true,if_false] at h
   simp (config := { maxSteps := 4000000 }) only [go_sem,seval,hc3d];refine hZ _ (pp (hJ2 _ true ?_ h));refine wr ?_ ?_<;>repeat' first|rfl|constructor|simp only [go_sem,seval,Bool.or_self,List.length_set,Int.natCast_zero,Int.cast_ofNat_Int,hr1,hc3d]
  have hc3d:=decide_eq_true hc3;first|rw [if_pos hc3] at h|rw [if_pos hc3d] at h|simp only [hc3d,Bool.not_true,Bool.not_false,Bool.false_eq_true,if_true,if_false] at h
  obtain ⟨x13,hb4,hx5,h⟩:=aJ h;try simp only [Int.toNat_zero] at hx5
  try simp only [Int.ofNat_lt,Int.natCast_nonneg,true_and] at hb4
  simp (config := { maxSteps := 4000000 }) only [go_sem,seval,hc3d,hb4,hx5];refine eV rfl (fun hc6=>?_) (fun hc6=>?_)
  ·first|rw [if_neg (ne_true_of_eq_false hc6)] at h|simp only [hc6,Bool.or_false,Bool.or_true,Bool.false_or,Bool.true_or,Bool.and_true,Bool.true_and,Bool.and_false,Bool.false_and,Bool.not_true,Bool.not_false,Bool.false_eq_true,if_true,if_false] at h
   simp (config := { maxSteps := 4000000 }) only [go_sem,seval,hc6];refine hZ _ (pp (hJ2 _ true ?_ h));refine wr ?_ ?_<;>repeat' first|rfl|constructor|simp only [go_sem,seval,Bool.or_self,List.length_set,Int.natCast_zero,Int.cast_ofNat_Int,hr1,hc3d,hb4,hx5,hc6]
  first|rw [if_pos hc6] at h|simp only [hc6,Bool.or_false,Bool.or_true,Bool.false_or,Bool.true_or,Bool.and_true,Bool.true_and,Bool.and_false,Bool.false_and,Bool.not_true,Bool.not_false,Bool.false_eq_true,if_true,if_false] at h
  obtain ⟨r14,hr7,h⟩:=Option.bind_eq_some_iff.1 h;simp (config := { maxSteps := 4000000 }) only [go_sem,seval,hc6,hr7];refine i7 rfl (fun hc8=>?_) (fun hc8=>?_)
  ·have hc8d:=decide_eq_false hc8;first|rw [if_neg hc8] at h|rw [if_neg (ne_true_of_eq_false hc8d)] at h|simp only [hc8d,Bool.not_true,Bool.not_false,Bool.false_eq_true,if_true,if_false] at h
   simp (config := { maxSteps := 4000000 }) only [go_sem,seval,hc8d];refine hZ _ (pp (hJ2 _ true ?_ h));refine wr ?_ ?_<;>repeat' first|rfl|constructor|simp only [go_sem,seval,Bool.or_self,List.length_set,Int.natCast_zero,Int.cast_ofNat_Int,hr1,hc3d,hb4,hx5,hc6,hr7,hc8d]
  have hc8d:=decide_eq_true hc8;first|rw [if_pos hc8] at h|rw [if_pos hc8d] at h|simp only [hc8d,Bool.not_true,Bool.not_false,Bool.false_eq_true,if_true,if_false] at h
  obtain ⟨r15,hr9,h⟩:=Option.bind_eq_some_iff.1 h;simp (config := { maxSteps := 4000000 }) only [go_sem,seval,hc8d,hr9];refine i7 rfl (fun hc10=>?_) (fun hc10=>?_)
  ·have hc10d:=decide_eq_false hc10;first|rw [if_neg hc10] at h|rw [if_neg (ne_true_of_eq_false hc10d)] at h|simp only [hc10d,Bool.not_true,Bool.not_false,Bool.false_eq_true,if_true,if_false] at h
   simp (config := { maxSteps := 4000000 }) only [go_sem,seval,hc10d];refine hZ _ (pp (hJ2 _ true ?_ h));refine wr ?_ ?_<;>repeat' first|rfl|constructor|simp only [go_sem,seval,Bool.or_self,List.length_set,Int.natCast_zero,Int.cast_ofNat_Int,hr1,hc3d,hb4,hx5,hc6,hr7,hc8d,hr9,hc10d]
  have hc10d:=decide_eq_true hc10;first|rw [if_pos hc10] at h|rw [if_pos hc10d] at h|simp only [hc10d,Bool.not_true,Bool.not_false,Bool.false_eq_true,if_true,if_false] at h
  obtain ⟨r16,hr11,h⟩:=Option.bind_eq_some_iff.1 h;simp (config := { maxSteps := 4000000 }) only [go_sem,seval,hc10d,hr11];refine hZ _ (pp (hJ2 _ (!decide (((r16.length:Nat):Int)=2)) ?_ h));refine wr ?_ ?_<;>repeat' first|rfl|constructor|simp only [go_sem,seval,Bool.or_self,List.length_set,Int.natCast_zero,Int.cast_ofNat_Int,hr1,hc3d,hb4,hx5,hc6,hr7,hc8d,hr9,hc10d,hr11]
 intro c12 h;unfold jn at h;refine ar rfl (fun hc12=>?_) (fun hc12=>?_)
 ·first|rw [if_pos hc12] at h|simp only [hc12,Bool.or_false,Bool.or_true,Bool.false_or,Bool.true_or,Bool.and_true,Bool.true_and,Bool.and_false,Bool.false_and,Bool.not_true,Bool.not_false,Bool.false_eq_true,if_true,if_false] at h
  refine Ws fun Z hZ=>?_;simp (config := { maxSteps := 4000000 }) only [go_sem,seval,hc12];refine hZ _ (pp (Wk_ret (pp ?_)));cases h;simp (config := { maxSteps := 4000000 }) only [go_sem,seval];exact ⟨_,rfl,(by exact ROk.refl _),(by repeat' (first|exact PureC.val _|refine PureC.tup ?_|refine PureC.agg ?_|exact fi|refine aY ?_ ?_))⟩
 first|rw [if_neg (ne_true_of_eq_false hc12)] at h|simp only [hc12,Bool.or_false,Bool.or_true,Bool.false_or,Bool.true_or,Bool.and_true,Bool.true_and,Bool.and_false,Bool.false_and,Bool.not_true,Bool.not_false,Bool.false_eq_true,if_true,if_false] at h
 refine aj (pp ?_);unfold jx at h;refine Wk_seq ?_;obtain ⟨r17,hr13,h⟩:=Option.bind_eq_some_iff.1 h;refine ai fun Z hZ=>?_;simp (config := { maxSteps := 4000000 }) only [go_sem,seval,hc12,hr13];refine hZ _ (pp (Wk_seq ?_));apply dc (fun (c24:Bool)=>⟨tab 101 (updT (updT (updT deadT 1 (.sl false none 3 (some 3) ([(ah.mk 1 1 1),(ah.mk 2 1 1),(ah.mk 1 2 1)].map ah.row))) 2 (.sl false none 2 none (r1.map ae.row))) 64 (.val (.bool c24))),RZ⟩)
 ·intro hJ14;refine ai fun Z hZ=>?_;simp (config := { maxSteps := 4000000 }) only [go_sem,seval];refine i7 rfl (fun hc15=>?_) (fun hc15=>?_)
  ·have hc15d:=decide_eq_false hc15;first|rw [if_neg hc15] at h|rw [if_neg (ne_true_of_eq_false hc15d)] at h|simp only [hc15d,Bool.not_true,Bool.not_false,Bool.false_eq_true,if_true,if_false] at h
   simp (config := { maxSteps := 4000000 }) only [go_sem,seval,hc15d];refine hZ _ (pp (hJ14 _ true ?_ h));refine wr ?_ ?_<;>repeat' first|rfl|constructor|simp only [go_sem,seval,Bool.or_self,List.length_set,Int.natCast_zero,Int.cast_ofNat_Int,hr1,hc12,hr13,hc15d]
  have hc15d:=decide_eq_true hc15;first|rw [if_pos hc15] at h|rw [if_pos hc15d] at h|simp only [hc15d,Bool.not_true,Bool.not_false,Bool.false_eq_true,if_true,if_false] at h
  obtain ⟨x25,hb16,hx17,h⟩:=aJ h;try simp only [Int.toNat_zero] at hx17
  try simp only [Int.ofNat_lt,Int.natCast_nonneg,true_and] at hb16
  simp (config := { maxSteps := 4000000 }) only [go_sem,seval,hc15d,hb16,hx17];refine i7 rfl (fun hc18=>?_) (fun hc18=>?_)
  ·have hc18d:=decide_eq_false hc18;first|rw [if_neg hc18] at h|rw [if_neg (ne_true_of_eq_false hc18d)] at h|simp only [hc18d,Bool.not_true,Bool.not_false,Bool.false_eq_true,if_true,if_false] at h
   simp (config := { maxSteps := 4000000 }) only [go_sem,seval,hc18d];refine hZ _ (pp (hJ14 _ true ?_ h));refine wr ?_ ?_<;>repeat' first|rfl|constructor|simp only [go_sem,seval,Bool.or_self,List.length_set,Int.natCast_zero,Int.cast_ofNat_Int,hr1,hc12,hr13,hc15d,hb16,hx17,hc18d]
  have hc18d:=decide_eq_true hc18;first|rw [if_pos hc18] at h|rw [if_pos hc18d] at h|simp only [hc18d,Bool.not_true,Bool.not_false,Bool.false_eq_true,if_true,if_false] at h
  simp (config := { maxSteps := 4000000 }) only [go_sem,seval,hc18d];refine i7 rfl (fun hc19=>?_) (fun hc19=>?_)
  ·have hc19d:=decide_eq_false hc19;first|rw [if_neg hc19] at h|rw [if_neg (ne_true_of_eq_false hc19d)] at h|simp only [hc19d,Bool.not_true,Bool.not_false,Bool.false_eq_true,if_true,if_false] at h
   simp (config := { maxSteps := 4000000 }) only [go_sem,seval,hc19d];refine hZ _ (pp (hJ14 _ true ?_ h));refine wr ?_ ?_<;>repeat' first|rfl|constructor|simp only [go_sem,seval,Bool.or_self,List.length_set,Int.natCast_zero,Int.cast_ofNat_Int,hr1,hc12,hr13,hc15d,hb16,hx17,hc18d,hc19d]
  have hc19d:=decide_eq_true hc19;first|rw [if_pos hc19] at h|rw [if_pos hc19d] at h|simp only [hc19d,Bool.not_true,Bool.not_false,Bool.false_eq_true,if_true,if_false] at h
  obtain ⟨x26,hb20,hx21,h⟩:=aJ h;try simp only [Int.toNat_zero] at hx21
  try simp only [Int.ofNat_lt,Int.natCast_nonneg,true_and] at hb20
  simp (config := { maxSteps := 4000000 }) only [go_sem,seval,hb16,hc19d,hb20,hx21];refine hZ _ (pp (hJ14 _ (!decide (x26=2)) ?_ h));refine wr ?_ ?_<;>repeat' first|rfl|constructor|simp only [go_sem,seval,Bool.or_self,List.length_set,Int.natCast_zero,Int.cast_ofNat_Int,hr1,hc12,hr13,hc15d,hb16,hx17,hc18d,hc19d,hb20,hx21]
 intro c24 h;unfold kE at h;refine ar rfl (fun hc22=>?_) (fun hc22=>?_)
 ·first|rw [if_pos hc22] at h|simp only [hc22,hc12,Bool.or_false,Bool.or_true,Bool.false_or,Bool.true_or,Bool.and_true,Bool.true_and,Bool.and_false,Bool.false_and,Bool.not_true,Bool.not_false,Bool.false_eq_true,if_true,if_false] at h
  refine Ws fun Z hZ=>?_;simp (config := { maxSteps := 4000000 }) only [go_sem,seval,hc22];refine hZ _ (pp (Wk_ret (pp ?_)));cases h;simp (config := { maxSteps := 4000000 }) only [go_sem,seval];exact ⟨_,rfl,(by exact ROk.refl _),(by repeat' (first|exact PureC.val _|refine PureC.tup ?_|refine PureC.agg ?_|exact fi|refine aY ?_ ?_))⟩
 first|rw [if_neg (ne_true_of_eq_false hc22)] at h|simp only [hc22,hc12,Bool.or_false,Bool.or_true,Bool.false_or,Bool.true_or,Bool.and_true,Bool.true_and,Bool.and_false,Bool.false_and,Bool.not_true,Bool.not_false,Bool.false_eq_true,if_true,if_false] at h
 refine aj (pp ?_);unfold kF at h;refine Wk_seq (Wk_seq ?_);obtain ⟨r31,hr23,h⟩:=Option.bind_eq_some_iff.1 h;refine ai fun Z hZ=>?_;simp (config := { maxSteps := 4000000 }) only [go_sem,seval,hc22,hr23];refine hZ _ (pp ?_);apply dc (fun (c33:Bool)=>⟨tab 101 (updT (updT deadT 1 (.sl false none 3 (some 3) ([(ah.mk 1 1 1),(ah.mk 2 1 1),(ah.mk 1 2 1)].map ah.row))) 78 (.val (.bool c33))),RZ⟩)
 ·intro hJ24;refine ai fun Z hZ=>?_;simp (config := { maxSteps := 4000000 }) only [go_sem,seval];refine eV rfl (fun hc25=>?_) (fun hc25=>?_)
  ·first|rw [if_neg (ne_true_of_eq_false hc25)] at h|simp only [hc25,hc12,hc22,Bool.or_false,Bool.or_true,Bool.false_or,Bool.true_or,Bool.and_true,Bool.true_and,Bool.and_false,Bool.false_and,Bool.not_true,Bool.not_false,Bool.false_eq_true,if_true,if_false] at h
   simp (config := { maxSteps := 4000000 }) only [go_sem,seval,hc25];refine hZ _ (pp (hJ24 _ true ?_ h));refine wr ?_ ?_<;>repeat' first|rfl|constructor|simp only [go_sem,seval,Bool.or_self,List.length_set,Int.natCast_zero,Int.cast_ofNat_Int,hr1,hc12,hr13,hc22,hr23,hc25]
  first|rw [if_pos hc25] at h|simp only [hc25,hc12,hc22,Bool.or_false,Bool.or_true,Bool.false_or,Bool.true_or,Bool.and_true,Bool.true_and,Bool.and_false,Bool.false_and,Bool.not_true,Bool.not_false,Bool.false_eq_true,if_true,if_false] at h
  obtain ⟨r34,hr26,h⟩:=Option.bind_eq_some_iff.1 h;simp (config := { maxSteps := 4000000 }) only [go_sem,seval,hc25,hr26];refine hZ _ (pp (hJ24 _ (!decide (((r34.length:Nat):Int)=2)) ?_ h));refine wr ?_ ?_<;>repeat' first|rfl|constructor|simp only [go_sem,seval,Bool.or_self,List.length_set,Int.natCast_zero,Int.cast_ofNat_Int,hr1,hc12,hr13,hc22,hr23,hc25,hr26]
 intro c33 h;unfold oH at h;refine ar rfl (fun hc27=>?_) (fun hc27=>?_)
 ·first|rw [if_pos hc27] at h|simp only [hc27,hc12,hc22,Bool.or_false,Bool.or_true,Bool.false_or,Bool.true_or,Bool.and_true,Bool.true_and,Bool.and_false,Bool.false_and,Bool.not_true,Bool.not_false,Bool.false_eq_true,if_true,if_false] at h
  refine Ws fun Z hZ=>?_;simp (config := { maxSteps := 4000000 }) only [go_sem,seval,hc27];refine hZ _ (pp (Wk_ret (pp ?_)));cases h;simp (config := { maxSteps := 4000000 }) only [go_sem,seval];exact ⟨_,rfl,(by exact ROk.refl _),(by repeat' (first|exact PureC.val _|refine PureC.tup ?_|refine PureC.agg ?_|exact fi|refine aY ?_ ?_))⟩
 first|rw [if_neg (ne_true_of_eq_false hc27)] at h|simp only [hc27,hc12,hc22,Bool.or_false,Bool.or_true,Bool.false_or,Bool.true_or,Bool.and_true,Bool.true_and,Bool.and_false,Bool.false_and,Bool.not_true,Bool.not_false,Bool.false_eq_true,if_true,if_false] at h
 refine aj (pp ?_);unfold ow at h;refine Wk_seq ?_;obtain ⟨ha28,h⟩:=br h;simp only [List.length_cons,List.length_nil,Nat.zero_add,Nat.reduceAdd] at ha28;obtain ⟨r35,hr29,h⟩:=Option.bind_eq_some_iff.1 h;try simp only [List.cons_append,List.nil_append] at hr29
 refine ai fun Z hZ=>?_;simp (config := { maxSteps := 4000000 }) only [go_sem,seval,hc27,ha28,Nat.lt_succ_self,hr29];refine hZ _ (pp (Ws fun Z hZ=>?_));simp (config := { maxSteps := 4000000 }) only [go_sem,seval];refine sw (bn rfl) (fun hc30=>?_) (fun hc30=>?_)
 ·have hc30d:=decide_eq_false hc30;first|rw [if_neg hc30] at h|rw [if_neg (ne_true_of_eq_false hc30d)] at h|simp only [hc30d,Bool.not_true,Bool.not_false,Bool.false_eq_true,if_true,if_false] at h
  simp (config := { maxSteps := 4000000 }) only [go_sem,seval,Nat.lt_succ_self,hc30d];refine hZ _ (pp (Wk_ret (pp ?_)));cases h;simp (config := { maxSteps := 4000000 }) only [go_sem,seval];exact ⟨_,rfl,(by exact ROk.refl _),(by repeat' (first|exact PureC.val _|refine PureC.tup ?_|refine PureC.agg ?_|exact fi|refine aY ?_ ?_))⟩
 have hc30d:=decide_eq_true hc30;first|rw [if_pos hc30] at h|rw [if_pos hc30d] at h|simp only [hc30d,Bool.not_true,Bool.not_false,Bool.false_eq_true,if_true,if_false] at h
 obtain ⟨x36,hb31,hx32,h⟩:=aJ h;try simp only [Int.toNat_zero] at hx32
 try simp only [Int.ofNat_lt,Int.natCast_nonneg,true_and] at hb31
 simp (config := { maxSteps := 4000000 }) only [go_sem,seval,hc30d,hb31,hx32];refine sw (bn rfl) (fun hc33=>?_) (fun hc33=>?_)
 ·have hc33d:=decide_eq_false hc33;first|rw [if_neg hc33] at h|rw [if_neg (ne_true_of_eq_false hc33d)] at h|simp only [hc33d,Bool.not_true,Bool.not_false,Bool.false_eq_true,if_true,if_false] at h
  simp (config := { maxSteps := 4000000 }) only [go_sem,seval,Nat.lt_succ_self,hc33d];refine hZ _ (pp (Wk_ret (pp ?_)));cases h;simp (config := { maxSteps := 4000000 }) only [go_sem,seval];exact ⟨_,rfl,(by exact ROk.refl _),(by repeat' (first|exact PureC.val _|refine PureC.tup ?_|refine PureC.agg ?_|exact fi|refine aY ?_ ?_))⟩
 have hc33d:=decide_eq_true hc33;first|rw [if_pos hc33] at h|rw [if_pos hc33d] at h|simp only [hc33d,Bool.not_true,Bool.not_false,Bool.false_eq_true,if_true,if_false] at h
 obtain ⟨ha34,h⟩:=br h;simp only [List.length_cons,List.length_nil,Nat.zero_add,Nat.reduceAdd] at ha34;obtain ⟨r37,hr35,h⟩:=Option.bind_eq_some_iff.1 h;try simp only [List.cons_append,List.nil_append] at hr35
 simp (config := { maxSteps := 4000000 }) only [go_sem,seval,ha28,Nat.lt_succ_self,hc33d,hr35];refine hZ _ (pp (Wk_ret (pp ?_)));cases h;simp (config := { maxSteps := 4000000 }) only [go_sem,seval];exact ⟨_,rfl,(by exact ROk.refl _),(by repeat' (first|exact PureC.val _|refine PureC.tup ?_|refine PureC.agg ?_|exact fi|refine aY ?_ ?_))⟩
noncomputable def oq (N:Nat):FnS:={ own:=[],pure:=true,fn:=fun cs=>match cs with
 | [] =>  (mR N ).map fun r=>.val (.bool r)
 | _=>none }
attribute [go_sem] oq
theorem wG (N:Nat):FSOk Tryz.prog 5 (oq N):=by
 refine ⟨fun cs r h=>?_,fun h=>by cases h⟩;simp only [oq] at h;split at h
 ·simp only [Option.map_eq_some_iff] at h;obtain ⟨r',hr,rfl⟩:=h;exact ((Ao N  r' hr).args (LeL.nil))
 ·cases h


theorem yC (N:Nat) (a0:Int) (r:Bool) (h:i5 N a0=some r):Con Tryz.prog 86 [] true [.val (.int .i64 a0)] (.val (.bool r)):=by
 refine aT (G:=(glist [])) Tryz.func86 rfl (by decide) (by kernel_rfl) gn [] mix (Nat.le_of_ble_eq_true rfl) ?_;simp only [Tryz.f86];unfold i5 at h;refine Ws fun Z hZ=>?_;simp only [go_sem,seval];refine hZ _ (pp (Ws fun Z hZ=>?_));simp only [go_sem,seval];refine bn rfl (fun hc1=>?_) (fun hc1=>?_)
 ·have hc1d:=decide_eq_true hc1;rw [if_pos hc1] at h;simp only [go_sem,seval,hc1d];refine hZ _ (pp (Wk_ret (pp ?_)));cases h;simp only [go_sem,seval];exact ⟨_,rfl,RokI.h,PureI.h⟩
 have hc1d:=decide_eq_false hc1;rw [if_neg hc1] at h;simp only [go_sem,seval,hc1d];refine hZ _ (pp (Wk_ret (pp ?_)));cases h;simp only [go_sem,seval];exact ⟨_,rfl,RokI.h,PureI.h⟩
def kO (N:Nat):FnS:=⟨[],true,fn1 (decI .i64) fun q0=>(i5 N q0).map fun r=>.val (.bool r),false⟩
attribute [go_sem] kO
theorem mT (N:Nat):FSOk Tryz.prog 86 (kO N):=ok1 (fun q0 r h=>by
 obtain ⟨r',hr,rfl⟩:=Option.map_eq_some_iff.1 h;exact yC N q0 r' hr) (aw)


theorem yl (N:Nat) (a0:(List Int)) (a1:Int) (r:Bool) (h:bc N a0 a1=some r):Con Tryz.prog 29 [] true [.sl false none 1 none (a0.map (rowI .i64)),.val (.int .i64 a1)] (.val (.bool r)):=by
 refine aT (G:=(glist [])) Tryz.func29 rfl (by decide) (by kernel_rfl) gn [] mix (Nat.le_of_ble_eq_true rfl) ?_;simp only [Tryz.f29];unfold bc at h;refine Ws fun Z hZ=>?_;simp only [go_sem,seval];refine hZ _ (pp (Wk_seq (Ws fun Z hZ=>?_)));simp only [go_sem,seval];refine hZ _ (pp (ak (dE fun hreal2=>?_)));have hl1:=hreal2.lenT 0 (by decide) (by simp only [go_sem,seval]; rfl);first|rw [List.length_map] at hl1|rw [dD] at hl1|rw [<-List.map_append,List.length_map] at hl1
 refine dz (fun (v2:Nat) (b:Unit)=>⟨tab 18 (updT (updT (updT deadT 0 (.sl false none 1 none (a0.map (rowI .i64)))) 1 (.val (.int .i64 a1))) 5 (.val (.int .i64 ((v2:Nat):Int)))),RZ⟩) () h ?_ ?_
 ·refine wr ?_ ?_<;>repeat' first|rfl|constructor
 rintro v2 ⟨⟩ hi3 h -;rcases (bx a0 v2 hi3).symm with ⟨hi3',_,hd6⟩|⟨x5,hi3',hx4,hd6⟩
 ·rw [hd6] at h;simp only [fV] at h;refine Wk_seq (Ws fun Z hZ=>?_);simp only [go_sem,seval,hi3'];refine hZ _ (pp ?_);try simp only [Int.ofNat_lt,hi3',if_true,if_false] at h
  refine a8 rfl (aP (pp (Ws fun Z hZ=>?_)));simp only [go_sem,seval];refine hZ _ (pp (Wk_ret (pp ?_)));cases h;simp only [go_sem,seval];exact ⟨_,rfl,RokI.h,PureI.h⟩
 rw [hd6] at h;simp only [fV] at h;have hw5:=bu hi3' hl1;refine Wk_seq (Ws fun Z hZ=>?_);simp only [go_sem,seval,hi3'];refine hZ _ (pp ?_);try simp only [Int.ofNat_lt,hi3',if_true,if_false] at h
 refine bp rfl (aj (pp (Wk_seq (ak (Wk_seq ?_)))));try rw [gx_nat hx4] at h
 refine ai fun Z hZ=>?_;simp only [go_sem,seval,hx4,hi3'];refine hZ _ (pp (am rfl (fun hc7=>?_) (fun hc7=>?_)))
 ·have hc7d:=decide_eq_true hc7;rw [if_pos hc7] at h;refine Ws fun Z hZ=>?_;simp only [go_sem,seval,hc7d];refine hZ _ (pp (Wk_ret (pp ?_)));cases h;simp only [go_sem,seval];exact ⟨_,rfl,RokI.h,PureI.h⟩
 have hc7d:=decide_eq_false hc7;rw [if_neg hc7] at h;refine aj (pp (ai fun Z hZ=>?_));simp only [go_sem,seval,hw5,hc7d];refine hZ _ (pp ?_);first|refine ⟨(),?_,h⟩|refine ⟨hi3',(),?_,h⟩
 refine wr ?_ ?_<;>repeat' first|rfl|constructor
def aV (N:Nat):FnS:=⟨[],true,fn2 (decL 1 (dec1 (decI .i64))) (decI .i64) fun q0 q1=>(bc N q0 q1).map fun r=>.val (.bool r),false⟩
attribute [go_sem] aV
theorem aR (N:Nat):FSOk Tryz.prog 29 (aV N):=ok2 (fun q0 q1 r h=>by
 obtain ⟨r',hr,rfl⟩:=Option.map_eq_some_iff.1 h;exact yl N q0 q1 r' hr) (fun h=>aq (aH .i64) h) (aw)


theorem uD (N:Nat) (a0:ac) (a1:Int) (r:Int) (h:eH N a0 a1=some r):Con Tryz.prog 48 [] true [.iref 6 [[.sl false none 3 none (a0.piles.map aa.row),.sl false none 1 none (a0.seen.map (rowI .i64)),.sl false none 2 none (a0.deps.map ae.row),.sl false none 1 none (a0.committed.map (rowI .i64)),.sl false none 1 none (a0.aborted.map (rowI .i64)),.sl false none 1 none (a0.prepared.map (rowI .i64))]] 0 0,.val (.int .i64 a1)] (.val (.int .i64 r)):=by
 refine aT (G:=(glist [])) Tryz.func48 rfl (by decide) (by kernel_rfl) gn [] mix (Nat.le_of_ble_eq_true rfl) ?_;simp only [Tryz.f48];unfold eH at h;refine Ws fun Z hZ=>?_;simp only [go_sem,seval];refine hZ _ (pp (Wk_seq (Ws fun Z hZ=>?_)));simp only [go_sem,seval];refine hZ _ (pp (ak (fQ (fun (b:Int)=>⟨tab 26 (updT (updT (updT deadT 0 (.iref 6 [[.sl false none 3 none (a0.piles.map aa.row),.sl false none 1 none (a0.seen.map (rowI .i64)),.sl false none 2 none (a0.deps.map ae.row),.sl false none 1 none (a0.committed.map (rowI .i64)),.sl false none 1 none (a0.aborted.map (rowI .i64)),.sl false none 1 none (a0.prepared.map (rowI .i64))]] 0 0)) 1 (.val (.int .i64 a1))) 5 (.val (.int .i64 b))),RZ⟩) 0 h ?_ ?_)))
 ·refine wr ?_ ?_<;>repeat' first|rfl|constructor
 rintro n v2 h -;cases n with
 | zero=>simp [fw] at h
 | succ n=>
 simp only [fw] at h;refine Wk_seq (Ws fun Z hZ=>?_);simp only [go_sem,seval];refine hZ _ (pp (sw (am rfl) (fun hc1=>?_) (fun hc1=>?_)))
 ·have hc1d:=decide_eq_false hc1;rw [if_neg hc1] at h;refine aP (pp (Ws fun Z hZ=>?_));simp only [go_sem,seval,hc1d];refine hZ _ (pp (Wk_ret (pp ?_)));cases h;simp only [go_sem,seval];exact ⟨_,rfl,RokI.h,PureI.h⟩
 have hc1d:=decide_eq_true hc1;rw [if_pos hc1] at h;refine aj (pp (Wk_seq (ak (Wk_seq ?_))));obtain ⟨x1,hb2,hx3,h⟩:=aJ h;refine ai fun Z hZ=>?_;simp only [go_sem,seval,hb2,hx3];refine hZ _ (pp (am rfl (fun hc4=>?_) (fun hc4=>?_)))
 ·have hc4d:=decide_eq_true hc4;rw [if_pos hc4] at h;refine Ws fun Z hZ=>?_;simp only [go_sem,seval,hc4d];refine hZ _ (pp (Wk_ret (pp ?_)));cases h;simp only [go_sem,seval];exact ⟨_,rfl,RokI.h,PureI.h⟩
 have hc4d:=decide_eq_false hc4;rw [if_neg hc4] at h;refine aj (pp (ai fun Z hZ=>?_));simp only [go_sem,seval,hc4d];refine hZ _ (pp (⟨_,Nat.lt_succ_self _,(IntKind.i64.wrap (v2+1)),?_,h⟩));refine wr ?_ ?_<;>repeat' first|rfl|constructor
def gY (N:Nat):FnS:=⟨[],true,fn2 (decPt 6 ac.dec) (decI .i64) fun q0 q1=>(eH N q0 q1).map fun r=>.val (.int .i64 r),false⟩
attribute [go_sem] gY
theorem kL (N:Nat):FSOk Tryz.prog 48 (gY N):=ok2 (fun q0 q1 r h=>by
 obtain ⟨r',hr,rfl⟩:=Option.map_eq_some_iff.1 h;exact uD N q0 q1 r' hr) (fun h=>kV ac.dec_le h) (aw)


theorem zw (N:Nat) (a0:(List ae)) (a1:ae) (r:(List ae)) (h:l8 N a0 a1=some r):Con Tryz.prog 103 [true,false] true [.sl true none 2 none (a0.map ae.row),.agg [.val (.int .i64 a1.e0),.val (.int .i64 a1.e1)]] (.sl true none 2 none (r.map ae.row)):=by
 refine ql (G:=(glist [])) (L:=noL) Tryz.func103 rfl (by decide) (by kernel_rfl) gn (fun _ _ _ h=>by cases h) [] mix (Nat.le_of_ble_eq_true rfl) ?_;rw [show entryF [true,false] [.sl true none 2 none (a0.map ae.row),.agg [.val (.int .i64 a1.e0),.val (.int .i64 a1.e1)]]=(updT (updT deadT 0 (.pal 0 [] 0 a0.length none)) 1 (.agg [.val (.int .i64 a1.e0),.val (.int .i64 a1.e1)])) from by funext t; match t with|0=>simp [entryF,iS,viewD,updT]|1=>rfl|t+2=>rfl];rw [show R0 [true,false] [.sl true none 2 none (a0.map ae.row),.agg [.val (.int .i64 a1.e0),.val (.int .i64 a1.e1)]]=upd RZ 0 (.sl true none 2 none (a0.map ae.row)) from by funext t; match t with|0=>rfl|1=>rfl|t+2=>rfl];simp only [Tryz.f103];unfold l8 at h;refine Ws fun Z hZ=>?_;simp (config := { maxSteps := 4000000 }) only [go_sem,seval];refine hZ _ (pp (Ws fun Z hZ=>?_));simp (config := { maxSteps := 4000000 }) only [go_sem,seval];refine hZ _ (pp (Wk_seq (ak (fQ (fun (b:Int)=>⟨tab 73 (updT (updT (updT deadT 0 (.pal 0 [] 0 a0.length none)) 3 (.pref 3 [] 0 0)) 5 (.val (.int .i64 b))),(upd (upd RZ 0 (.sl true none 2 none (a0.map ae.row))) 3 (.sl true none 2 (some 1) [[.val (.int .i64 a1.e0),.val (.int .i64 a1.e1)]]))⟩) ((a0.length:Nat):Int) h ?_ ?_))))
 ·refine wr ?_ ?_<;>repeat' first|rfl|constructor|simp only [go_sem,seval,Bool.or_self,List.length_set,Int.natCast_zero,Int.cast_ofNat_Int]
 rintro n v2 h -;cases n with
 | zero=>simp [eF] at h
 | succ n=>
 simp only [eF] at h;refine Wk_seq ?_;apply dc (fun (c8:Bool)=>⟨tab 73 (updT (updT (updT (updT deadT 0 (.pal 0 [] 0 a0.length none)) 3 (.pref 3 [] 0 0)) 5 (.val (.int .i64 v2))) 43 (.val (.bool c8))),(upd (upd RZ 0 (.sl true none 2 none (a0.map ae.row))) 3 (.sl true none 2 (some 1) [[.val (.int .i64 a1.e0),.val (.int .i64 a1.e1)]]))⟩)
 ·intro hJ1;refine da fun Z hZ=>?_;simp (config := { maxSteps := 4000000 }) only [go_sem,seval];repeat with_reducible refine dR (by kernel_rfl) ?_
  refine sw (bn rfl) (fun hc2=>?_) (fun hc2=>?_)
  ·have hc2d:=decide_eq_false hc2;first|rw [if_neg hc2] at h|rw [if_neg (ne_true_of_eq_false hc2d)] at h|simp only [hc2d,Bool.not_true,Bool.not_false,Bool.false_eq_true,if_true,if_false] at h
   simp (config := { maxSteps := 4000000 }) only [go_sem,seval,hc2d];repeat with_reducible refine dR (by kernel_rfl) ?_
   refine hZ _ (by kernel_rfl) (pp (hJ1 _ false ?_ h));refine wr ?_ ?_<;>repeat' first|rfl|constructor|simp only [go_sem,seval,Bool.or_self,List.length_set,Int.natCast_zero,Int.cast_ofNat_Int,hc2d]
  have hc2d:=decide_eq_true hc2;first|rw [if_pos hc2] at h|rw [if_pos hc2d] at h|simp only [hc2d,Bool.not_true,Bool.not_false,Bool.false_eq_true,if_true,if_false] at h
  obtain ⟨x9,hb3,hx4,h⟩:=aJ h;simp (config := { maxSteps := 4000000 }) only [go_sem,seval,hc2d,hb3,hx4];repeat with_reducible refine dR (by kernel_rfl) ?_
  refine bn rfl (fun hc5=>?_) (fun hc5=>?_)
  ·have hc5d:=decide_eq_true hc5;first|rw [if_pos hc5] at h|rw [if_pos hc5d] at h|simp only [hc5d,Bool.not_true,Bool.not_false,Bool.false_eq_true,if_true,if_false] at h
   simp (config := { maxSteps := 4000000 }) only [go_sem,seval,hc5d];repeat with_reducible refine dR (by kernel_rfl) ?_
   refine hZ _ (by kernel_rfl) (pp (hJ1 _ true ?_ h));refine wr ?_ ?_<;>repeat' first|rfl|constructor|simp only [go_sem,seval,Bool.or_self,List.length_set,Int.natCast_zero,Int.cast_ofNat_Int,hc2d,hb3,hx4,hc5d]
  have hc5d:=decide_eq_false hc5;first|rw [if_neg hc5] at h|rw [if_neg (ne_true_of_eq_false hc5d)] at h|simp only [hc5d,Bool.not_true,Bool.not_false,Bool.false_eq_true,if_true,if_false] at h
  simp (config := { maxSteps := 4000000 }) only [go_sem,seval,hb3,hx4,hc5d];repeat with_reducible refine dR (by kernel_rfl) ?_
  refine bn rfl (fun hc6=>?_) (fun hc6=>?_)
  ·have hc6d:=decide_eq_true hc6;first|rw [if_pos hc6] at h|rw [if_pos hc6d] at h|simp only [hc6d,Bool.not_true,Bool.not_false,Bool.false_eq_true,if_true,if_false] at h
   simp (config := { maxSteps := 4000000 }) only [go_sem,seval,hb3,hx4,hc6d];repeat with_reducible refine dR (by kernel_rfl) ?_
   refine hZ _ (by kernel_rfl) (pp (hJ1 _ (decide (a1.e1<=x9.e1)) ?_ h));refine wr ?_ ?_<;>repeat' first|rfl|constructor|simp only [go_sem,seval,Bool.or_self,List.length_set,Int.natCast_zero,Int.cast_ofNat_Int,hc2d,hb3,hx4,hc5d,hc6d]
  have hc6d:=decide_eq_false hc6;first|rw [if_neg hc6] at h|rw [if_neg (ne_true_of_eq_false hc6d)] at h|simp only [hc6d,Bool.not_true,Bool.not_false,Bool.false_eq_true,if_true,if_false] at h
  simp (config := { maxSteps := 4000000 }) only [go_sem,seval,hc6d];repeat with_reducible refine dR (by kernel_rfl) ?_
  refine hZ _ (by kernel_rfl) (pp (hJ1 _ false ?_ h));refine wr ?_ ?_<;>repeat' first|rfl|constructor|simp only [go_sem,seval,Bool.or_self,List.length_set,Int.natCast_zero,Int.cast_ofNat_Int,hc2d,hb3,hx4,hc5d,hc6d]
 intro c8 h;unfold jQ at h;refine ar rfl (fun hc7=>?_) (fun hc7=>?_)
 ·first|rw [if_pos hc7] at h|simp only [hc7,Bool.or_false,Bool.or_true,Bool.false_or,Bool.true_or,Bool.and_true,Bool.true_and,Bool.and_false,Bool.false_and,Bool.not_true,Bool.not_false,Bool.false_eq_true,if_true,if_false] at h
  refine aj (pp (ak (ai fun Z hZ=>?_)));simp (config := { maxSteps := 4000000 }) only [go_sem,seval,hc7];refine hZ _ (pp (⟨_,Nat.lt_succ_self _,(IntKind.i64.wrap (v2 - 1)),?_,h⟩));refine wr ?_ ?_<;>repeat' first|rfl|constructor|simp only [go_sem,seval,Bool.or_self,List.length_set,Int.natCast_zero,Int.cast_ofNat_Int,hc7]
 first|rw [if_neg (ne_true_of_eq_false hc7)] at h|simp only [hc7,Bool.or_false,Bool.or_true,Bool.false_or,Bool.true_or,Bool.and_true,Bool.true_and,Bool.and_false,Bool.false_and,Bool.not_true,Bool.not_false,Bool.false_eq_true,if_true,if_false] at h
 refine aP (pp ?_);unfold mX at h;refine Wk_seq ?_;apply dc (fun (c14:Bool)=>⟨tab 73 (updT (updT (updT (updT deadT 0 (.pal 0 [] 0 a0.length none)) 3 (.pref 3 [] 0 0)) 5 (.val (.int .i64 v2))) 57 (.val (.bool c14))),(upd (upd RZ 0 (.sl true none 2 none (a0.map ae.row))) 3 (.sl true none 2 (some 1) [[.val (.int .i64 a1.e0),.val (.int .i64 a1.e1)]]))⟩)
 ·intro hJ8;refine da fun Z hZ=>?_;simp (config := { maxSteps := 4000000 }) only [go_sem,seval,hc7];repeat with_reducible refine dR (by kernel_rfl) ?_
  refine bn rfl (fun hc9=>?_) (fun hc9=>?_)
  ·have hc9d:=decide_eq_true hc9;first|rw [if_pos hc9] at h|rw [if_pos hc9d] at h|simp only [hc9d,Bool.not_true,Bool.not_false,Bool.false_eq_true,if_true,if_false] at h
   obtain ⟨x15,hb10,hx11,h⟩:=aJ h;simp (config := { maxSteps := 4000000 }) only [go_sem,seval,hb10,hx11];repeat with_reducible refine dR (by kernel_rfl) ?_
   refine hZ _ (by kernel_rfl) (pp (hJ8 _ (decide (x15.e0=a1.e0) && decide (x15.e1=a1.e1)) ?_ h));refine wr ?_ ?_<;>repeat' first|rfl|constructor|simp only [go_sem,seval,Bool.or_self,List.length_set,Int.natCast_zero,Int.cast_ofNat_Int,hc7,hc9d,hb10,hx11]
  have hc9d:=decide_eq_false hc9;first|rw [if_neg hc9] at h|rw [if_neg (ne_true_of_eq_false hc9d)] at h|simp only [hc9d,Bool.not_true,Bool.not_false,Bool.false_eq_true,if_true,if_false] at h
  simp (config := { maxSteps := 4000000 }) only [go_sem,seval,hc9d];repeat with_reducible refine dR (by kernel_rfl) ?_
  refine hZ _ (by kernel_rfl) (pp (hJ8 _ false ?_ h));refine wr ?_ ?_<;>repeat' first|rfl|constructor|simp only [go_sem,seval,Bool.or_self,List.length_set,Int.natCast_zero,Int.cast_ofNat_Int,hc7,hc9d]
 intro c14 h;unfold lA at h;refine ar rfl (fun hc12=>?_) (fun hc12=>?_)
 ·first|rw [if_pos hc12] at h|simp only [hc12,hc7,Bool.or_false,Bool.or_true,Bool.false_or,Bool.true_or,Bool.and_true,Bool.true_and,Bool.and_false,Bool.false_and,Bool.not_true,Bool.not_false,Bool.false_eq_true,if_true,if_false] at h
  refine Ws fun Z hZ=>?_;simp (config := { maxSteps := 4000000 }) only [go_sem,seval,hc12];refine hZ _ (pp (Wk_ret (pp ?_)));cases h;simp (config := { maxSteps := 4000000 }) only [go_sem,seval,fA];exact ⟨_,rfl,RokI.h,KeepI.h,PureI.h⟩
 first|rw [if_neg (ne_true_of_eq_false hc12)] at h|simp only [hc12,hc7,Bool.or_false,Bool.or_true,Bool.false_or,Bool.true_or,Bool.and_true,Bool.true_and,Bool.and_false,Bool.false_and,Bool.not_true,Bool.not_false,Bool.false_eq_true,if_true,if_false] at h
 refine aj (pp ?_);unfold lD at h;refine Wk_seq ?_;obtain ⟨hs13,h⟩:=gL h;try simp only [Int.toNat_natCast] at hs13 h
 first|obtain ⟨ha14,h⟩:=uZ h|(obtain ⟨ha14,h⟩:=br h; rw [List.nil_append] at h)
 simp only [Nat.reduceAdd] at ha14;refine ai fun Z hZ=>?_;simp (config := { maxSteps := 4000000 }) only [go_sem,seval,hc12,hs13,Nat.zero_le,ha14];refine hZ _ (pp (Wk_seq (ed [0,1,2,4,7] [3,5] [[5,3]] [6,8,9] [] (by kernel_rfl) fun Z hZ Y hY=>?_)));simp (config := { maxSteps := 4000000 }) only [go_sem,seval];refine hY _ (by kernel_rfl) (ba (by kernel_rfl) fun Y hY=>?_);obtain ⟨hs15,ht16,h⟩:=uz h;try simp only [Int.toNat_natCast] at hs15 ht16 h
 simp (config := { maxSteps := 4000000 }) only [go_sem,seval,hs13,Nat.sub_zero,Nat.zero_le,Nat.le_refl];refine hY _ (by kernel_rfl) (ba (by kernel_rfl) fun Y hY=>?_);simp (config := { maxSteps := 4000000 }) only [go_sem,seval,Nat.le_refl];refine hY _ (by kernel_rfl) (ya (sC:=⟨tab 73 (updT (updT (updT (updT (updT (updT (updT (updT (updT (updT (updT (updT (updT (updT (updT (updT deadT 0 (.pal 0 [] 0 a0.length none)) 3 (.pref 3 [] 0 0)) 5 (.val (.int .i64 v2))) 6 (.pal 63 [] 0 (((a0.drop ((v2).toNat)).take (a0.length - (v2).toNat)).length) none)) 57 (.val (.bool false))) 60 (.pal 0 [] 0 a0.length none)) 61 (.val (.int .i64 v2))) 62 (.pal 0 [] ((v2).toNat) (a0.length - (v2).toNat) none)) 63 (.pal 63 [] 0 (((a0.drop ((v2).toNat)).take (a0.length - (v2).toNat)).length) none)) 64 (.pal 0 [] 0 a0.length none)) 65 (.val (.int .i64 v2))) 66 (.val (.int .i64 v2))) 67 (.pal 0 [] 0 ((v2).toNat) (some ((v2).toNat)))) 68 (.agg [.val (.int .i64 a1.e0),.val (.int .i64 a1.e1)])) 69 (.pal 69 [] 0 ([a1].length) none)) 71 (.pal 63 [] 0 (((a0.drop ((v2).toNat)).take (a0.length - (v2).toNat)).length) none)),(upd (upd (upd (upd RZ 0 (.sl true none 2 none (a0.map ae.row))) 3 (.sl true none 2 (some 1) [[.val (.int .i64 a1.e0),.val (.int .i64 a1.e1)]])) 63 (.sl true none 2 none (((a0.drop ((v2).toNat)).take (a0.length - (v2).toNat)).map ae.row))) 69 (.sl true none 2 (some 1) ([a1].map ae.row)))⟩) ?_ ?_ ?_)
 ·try simp only [mu,lv,go_sem,seval]
  refine wr ?_ ?_<;>repeat' first|rfl|constructor|simp only [go_sem,seval,Bool.or_self,List.length_set,Int.natCast_zero,Int.cast_ofNat_Int,hc7,hc12,hs13,Nat.sub_zero,Nat.zero_le,ha14,hs15,ht16,slt_lt ht16,Nat.le_refl]
 ·refine ⟨?_,trivial⟩
  ·refine dN (by kernel_rfl) fun Y hY=>?_;simp (config := { maxSteps := 4000000 }) only [go_sem,seval,Nat.le_refl];refine hY _ (by kernel_rfl) (dN (by kernel_rfl) fun Y hY=>?_);simp (config := { maxSteps := 4000000 }) only [go_sem,seval,hs13,Nat.sub_zero,Nat.zero_le,Nat.le_refl];refine hY _ (by kernel_rfl) (qJ ?_);try simp only [mu,lv,go_sem,seval]
   refine wr ?_ ?_<;>repeat' first|rfl|constructor|simp only [go_sem,seval,Bool.or_self,List.length_set,Int.natCast_zero,Int.cast_ofNat_Int,hc7,hc12,hs13,Nat.sub_zero,Nat.zero_le,ha14,hs15,ht16,slt_lt ht16,Nat.le_refl]
 obtain ⟨ha17,h⟩:=br h;simp only [List.length_cons,List.length_nil,Nat.zero_add,Nat.reduceAdd] at ha17;obtain ⟨ha18,h⟩:=br h;simp only [List.length_append,List.length_cons,List.length_nil,Nat.zero_add,Nat.reduceAdd] at ha18;simp (config := { maxSteps := 4000000 }) only [go_sem,seval,ha17,ha18];refine hZ _ (pp (Wk_ret (pp ?_)));cases h;simp (config := { maxSteps := 4000000 }) only [go_sem,seval,fA];exact ⟨_,rfl,RokI.h,KeepI.h,PureI.h⟩
def gD (N:Nat):FnS:={ own:=[true,false],pure:=true,fn:=fun cs=>match cs with
 | [c0,c1]=>((decO 2 ae.dec) c0).bind fun q0=>(ae.decA c1).bind fun q1=>(l8 N q0 q1).map fun r=>.sl true none 2 none (r.map ae.row)
 | _=>none }
theorem uB (N:Nat):(gD N).own=[true,false]:=rfl
theorem tM (N:Nat):(gD N).pure=true:=rfl
theorem tU (N:Nat):(gD N).peek=false:=rfl
attribute [go_sem] gD uB tM tU
theorem vr (N:Nat):FSOk Tryz.prog 103 (gD N):=by
 refine ⟨fun cs r h=>?_,fun h=>by cases h⟩;simp only [gD] at h;split at h
 ·simp only [Option.bind_eq_some_iff,Option.map_eq_some_iff] at h;obtain ⟨q0,h0,q1,h1,r',hr,rfl⟩:=h;exact (zw N q0 q1 r' hr).argsO rfl (m4 (qo ae.row_ok ae.dec_le h0) (qm (ae.decA_le h1) (oc)))
 ·cases h


noncomputable def pR (N d f:Nat):Option FnS:=glist [(14,29,aV N),(18,48,gY N),(96,103,gD N)] d f
attribute [go_sem] pR
theorem uJ (N:Nat) (a0:ac) (a1:ah) (r:Bool × ac) (h:gQ N a0 a1=some r):ConL Tryz.prog 87 1 [.sl true none 6 (some 1) [ac.rowD a0],.agg (ah.row a1)] (.val (.bool r.1)) [.sl true none 6 (some 1) [ac.rowD r.2]]:=by
 refine fD (G:=(pR N)) (L:=noL) Tryz.func87 rfl (by decide) (by kernel_rfl) 1 (by kernel_rfl) (gc 14 (aR N) (gc 18 (kL N) (gc 96 (vr N) gn))) (fun _ _ _ h=>by cases h) [] mix (Nat.le_of_ble_eq_true rfl) (Nat.le_of_ble_eq_true rfl) rfl rfl ?_;simp only [Tryz.f87];unfold gQ at h;refine Ws fun Z hZ=>?_;simp only [go_sem,seval];refine hZ _ (pp (Wk_seq (Wk_seq ?_)));obtain ⟨r1,hr1,h⟩:=Option.bind_eq_some_iff.1 h;refine da fun Z hZ=>?_;simp only [go_sem,seval,hr1];repeat with_reducible refine dR (by kernel_rfl) ?_
 refine hZ _ (by kernel_rfl) (pp (ar rfl (fun hc2=>?_) (fun hc2=>?_)))
 ·rw [if_pos hc2] at h;refine Ws fun Z hZ=>?_;simp only [go_sem,seval,hc2];refine hZ _ (pp (Wk_ret (pp ?_)));obtain rfl:=Option.some.inj h;refine dj (.inl rfl) (Weak.refl _) (by simp only [go_sem,seval]; rfl) (by simp only [go_sem,seval]; rfl) (by (try simp only [go_sem,seval]); first|exact Le.refl _|exact LeI.h) ?_;exact dn (by simp only [go_sem,seval]<;>rfl) (by simp only [go_sem,seval]<;>rfl) (el_nil)
 rw [if_neg (ne_true_of_eq_false hc2)] at h;refine aj (pp (Wk_seq ?_));obtain ⟨r2,hr3,h⟩:=Option.bind_eq_some_iff.1 h;refine ai fun Z hZ=>?_;simp only [go_sem,seval,hc2,hr3];refine hZ _ (pp ?_);apply pd (fun (l4:List aa) (v5:Int)=>⟨tab 119 (updT (updT (updT deadT 0 (.pref 0 [] 0 0)) 3 (.pref 3 [] 0 0)) 5 (.val (.int .i64 v5))),(upd (upd RZ 0 (.sl true none 6 (some 1) [[.sl true none 3 none (l4.map aa.rowD),.sl true none 1 none (a0.seen.map (rowI .i64)),.sl true none 2 none (a0.deps.map ae.row),.sl true none 1 none (a0.committed.map (rowI .i64)),.sl true none 1 none (a0.aborted.map (rowI .i64)),.sl true none 1 none (a0.prepared.map (rowI .i64))]])) 3 (.sl true none 3 (some 1) [ah.row a1]))⟩)
 ·intro hJ4;refine Ws fun Z hZ=>?_;simp only [go_sem,seval];refine hZ _ (pp (sw (am rfl) (fun hc5=>?_) (fun hc5=>?_)))
  ·have hc5d:=decide_eq_false hc5;rw [if_neg hc5] at h;refine aj (pp (hJ4 _ a0.piles r2 ?_ h));refine wr ?_ ?_<;>repeat' first|rfl|constructor|simp only [go_sem,seval,Bool.or_self,List.length_set,Int.natCast_zero,Int.cast_ofNat_Int,hr1,hc2,hr3,hc5d]
  have hc5d:=decide_eq_true hc5;rw [if_pos hc5] at h;refine Wk_seq (ed [0,1,2,3,4,5,6] [7,8] [] [9,10,11,12] [0] (by kernel_rfl) fun Z hZ Y hY=>?_);simp only [go_sem,seval,hc5d];refine hY _ (by kernel_rfl) (ba (by kernel_rfl) fun Y hY=>?_);simp only [go_sem,seval];refine hY _ (by kernel_rfl) (ba (by kernel_rfl) fun Y hY=>?_);simp only [go_sem,seval];refine hY _ (by kernel_rfl) (jW ?_);obtain ⟨ha6,h⟩:=br h;simp only [List.length_cons,List.length_nil,Nat.zero_add,Nat.reduceAdd] at ha6;simp only [go_sem,seval,ha6];refine hZ _ (pp (gb (fE 0 [(0,0),(a0.piles.length,1)] 1 (by simp only [go_sem,seval,vQ]) (by simp only [go_sem,seval,vU]; try rfl)) (gb (fE 0 [(0,0),(a0.piles.length,2)] 1 (by simp only [go_sem,seval,vQ]) (by simp only [go_sem,seval,vU]; try rfl)) (ai fun Z hZ=>?_))));simp only [go_sem,seval];refine hZ _ (pp (hJ4 _ (a0.piles++[(aa.mk a1.Actor [] [])]) (IntKind.i64.wrap ((((a0.piles++[(aa.mk a1.Actor [] [])]).length:Nat):Int) - 1)) ?_ h));refine wr ?_ ?_<;>repeat' first|rfl|constructor|simp only [go_sem,seval]
 intro l4 v5 h;unfold fu at h;refine Wk_seq ?_;obtain ⟨x6,hb7,hx8,h⟩:=aJ h;refine ai fun Z hZ=>?_;simp only [go_sem,seval,hb7];refine hZ _ (pp (Ws fun Z hZ=>?_));simp only [go_sem,seval,hx8];refine hZ _ (pp (Wk_seq ?_));apply dc (fun (c11:Bool)=>⟨tab 119 (updT (updT (updT (updT (updT deadT 0 (.pref 0 [] 0 0)) 3 (.pref 3 [] 0 0)) 6 (.pref 0 [(0,0)] ((v5).toNat) 0)) 7 (.val (.int .i64 ((x6.txns.length:Nat):Int)))) 64 (.val (.bool c11))),(upd (upd RZ 0 (.sl true none 6 (some 1) [[.sl true none 3 none (l4.map aa.rowD),.sl true none 1 none (a0.seen.map (rowI .i64)),.sl true none 2 none (a0.deps.map ae.row),.sl true none 1 none (a0.committed.map (rowI .i64)),.sl true none 1 none (a0.aborted.map (rowI .i64)),.sl true none 1 none (a0.prepared.map (rowI .i64))]])) 3 (.sl true none 3 (some 1) [ah.row a1]))⟩)
 ·intro hJ9;refine da fun Z hZ=>?_;simp only [go_sem,seval];refine bn rfl (fun hc10=>?_) (fun hc10=>?_)
  ·have hc10d:=decide_eq_true hc10;rw [if_pos hc10] at h;obtain ⟨x12,hb11,hx12,h⟩:=aJ h;simp only [go_sem,seval,hx8,hc10d,hb11,hx12];refine hZ _ (by kernel_rfl) (pp (hJ9 _ (decide (x12=a1.Txn)) ?_ h));refine wr ?_ ?_<;>repeat' first|rfl|constructor|simp only [go_sem,seval,Bool.or_self,List.length_set,Int.natCast_zero,Int.cast_ofNat_Int,hr1,hc2,hr3,hb7,hx8,hc10d,hb11,hx12]
  have hc10d:=decide_eq_false hc10;rw [if_neg hc10] at h;simp only [go_sem,seval,hc10d];refine hZ _ (by kernel_rfl) (pp (hJ9 _ false ?_ h));refine wr ?_ ?_<;>repeat' first|rfl|constructor|simp only [go_sem,seval,Bool.or_self,List.length_set,Int.natCast_zero,Int.cast_ofNat_Int,hr1,hc2,hr3,hb7,hx8,hc10d]
 intro c11 h;unfold iw at h;refine ar rfl (fun hc13=>?_) (fun hc13=>?_)
 ·rw [if_pos hc13] at h;refine Ws fun Z hZ=>?_;simp only [go_sem,seval,hc13];refine hZ _ (pp (Wk_ret (pp ?_)));obtain rfl:=Option.some.inj h;refine dj (.inl rfl) (Weak.refl _) (by simp only [go_sem,seval]; rfl) (by simp only [go_sem,seval]; rfl) (by (try simp only [go_sem,seval]); first|exact Le.refl _|exact LeI.h) ?_;exact dn (by simp only [go_sem,seval]<;>rfl) (by simp only [go_sem,seval]<;>rfl) (el_nil)
 rw [if_neg (ne_true_of_eq_false hc13)] at h;refine aj (pp ?_);unfold ir at h;refine Wk_seq ?_;apply dc (fun (c17:Bool)=>⟨tab 119 (updT (updT (updT (updT (updT deadT 0 (.pref 0 [] 0 0)) 3 (.pref 3 [] 0 0)) 6 (.pref 0 [(0,0)] ((v5).toNat) 0)) 7 (.val (.int .i64 ((x6.txns.length:Nat):Int)))) 77 (.val (.bool c17))),(upd (upd RZ 0 (.sl true none 6 (some 1) [[.sl true none 3 none (l4.map aa.rowD),.sl true none 1 none (a0.seen.map (rowI .i64)),.sl true none 2 none (a0.deps.map ae.row),.sl true none 1 none (a0.committed.map (rowI .i64)),.sl true none 1 none (a0.aborted.map (rowI .i64)),.sl true none 1 none (a0.prepared.map (rowI .i64))]])) 3 (.sl true none 3 (some 1) [ah.row a1]))⟩)
 ·intro hJ14;refine ai fun Z hZ=>?_;simp only [go_sem,seval,hc13];refine bn rfl (fun hc15=>?_) (fun hc15=>?_)
  ·have hc15d:=decide_eq_true hc15;rw [if_pos hc15] at h;obtain ⟨x18,hb16,hx17,h⟩:=aJ h;simp only [go_sem,seval,hx8,hc15d,hb16,hx17];refine hZ _ (pp (hJ14 _ (!x18) ?_ h));refine wr ?_ ?_<;>repeat' first|rfl|constructor|simp only [go_sem,seval,Bool.or_self,List.length_set,Int.natCast_zero,Int.cast_ofNat_Int,hr1,hc2,hr3,hb7,hx8,hc13,hc15d,hb16,hx17]
  have hc15d:=decide_eq_false hc15;rw [if_neg hc15] at h;simp only [go_sem,seval,hc15d];refine hZ _ (pp (hJ14 _ false ?_ h));refine wr ?_ ?_<;>repeat' first|rfl|constructor|simp only [go_sem,seval,Bool.or_self,List.length_set,Int.natCast_zero,Int.cast_ofNat_Int,hr1,hc2,hr3,hb7,hx8,hc13,hc15d]
 intro c17 h;unfold ig at h;refine ar rfl (fun hc18=>?_) (fun hc18=>?_)
 ·rw [if_pos hc18] at h;refine Ws fun Z hZ=>?_;simp only [go_sem,seval,hc18];refine hZ _ (pp (Wk_ret (pp ?_)));obtain rfl:=Option.some.inj h;refine dj (.inl rfl) (Weak.refl _) (by simp only [go_sem,seval]; rfl) (by simp only [go_sem,seval]; rfl) (by (try simp only [go_sem,seval]); first|exact Le.refl _|exact LeI.h) ?_;exact dn (by simp only [go_sem,seval]<;>rfl) (by simp only [go_sem,seval]<;>rfl) (el_nil)
 rw [if_neg (ne_true_of_eq_false hc18)] at h;refine aj (pp ?_);unfold iy at h;apply dc (fun (l21:List ae)=>⟨tab 119 (updT (updT (updT deadT 0 (.pref 0 [] 0 0)) 3 (.pref 3 [] 0 0)) 6 (.pref 0 [(0,0)] ((v5).toNat) 0)),(upd (upd RZ 0 (.sl true none 6 (some 1) [[.sl true none 3 none (l4.map aa.rowD),.sl true none 1 none (a0.seen.map (rowI .i64)),.sl true none 2 none (l21.map ae.row),.sl true none 1 none (a0.committed.map (rowI .i64)),.sl true none 1 none (a0.aborted.map (rowI .i64)),.sl true none 1 none (a0.prepared.map (rowI .i64))]])) 3 (.sl true none 3 (some 1) [ah.row a1]))⟩)
 ·intro hJ19;refine Ws fun Z hZ=>?_;simp only [go_sem,seval,hc18];refine hZ _ (pp (sw (am rfl) (fun hc20=>?_) (fun hc20=>?_)))
  ·have hc20d:=decide_eq_false hc20;rw [if_neg hc20] at h;refine aj (pp (hJ19 _ a0.deps ?_ h));refine wr ?_ ?_<;>repeat' first|rfl|constructor|simp only [go_sem,seval,Bool.or_self,List.length_set,Int.natCast_zero,Int.cast_ofNat_Int,hr1,hc2,hr3,hb7,hx8,hc13,hc18,hc20d]
  have hc20d:=decide_eq_true hc20;rw [if_pos hc20] at h;refine ed [0,1,2,3,4,5,6,7,8,9,10,11] [12,13,14,15] [] [16,17,18,19] [0] (by kernel_rfl) fun Z hZ Y hY=>?_;simp only [go_sem,seval,hx8,hc20d];refine hY _ (by kernel_rfl) (ba (by kernel_rfl) fun Y hY=>?_);simp only [go_sem,seval];refine hY _ (by kernel_rfl) (ba (by kernel_rfl) fun Y hY=>?_);obtain ⟨x22,hb21,hx22,h⟩:=aJ h;simp only [go_sem,seval,hx8,hb21];refine hY _ (by kernel_rfl) (ba (by kernel_rfl) fun Y hY=>?_);simp only [go_sem,seval,hx8,hx22];refine hY _ (by kernel_rfl) (ba (by kernel_rfl) fun Y hY=>?_);simp only [go_sem,seval];refine hY _ (by kernel_rfl) (jW ?_);obtain ⟨r23,hr23,h⟩:=Option.bind_eq_some_iff.1 h;simp only [go_sem,seval,hr23];refine hZ _ (pp (hJ19 _ r23 ?_ h));refine wr ?_ ?_<;>repeat' first|rfl|constructor|simp only [go_sem,seval,Bool.or_self,List.length_set,Int.natCast_zero,Int.cast_ofNat_Int,hr1,hc2,hr3,hb7,hx8,hc13,hc18,hc20d,hb21,hx22,hr23]
 intro l21 h;unfold iz at h;refine Wk_seq (ed [0,1,2,3,4,5,6] [7] [] [8,9,10,11] [] (by kernel_rfl) fun Z hZ Y hY=>?_);simp only [go_sem,seval,hx8];refine hY _ (by kernel_rfl) (ba (by kernel_rfl) fun Y hY=>?_);simp only [go_sem,seval];refine hY _ (by kernel_rfl) (jW ?_);obtain ⟨ha24,h⟩:=br h;simp only [List.length_cons,List.length_nil,Nat.zero_add,Nat.reduceAdd] at ha24;simp only [go_sem,seval,hx8,ha24,jV (row:=aa.rowD) (rx:=[.val (.int .i64 x6.actor),.sl true none 1 none (x6.txns.map (rowI .i64)),.sl true none 1 none (x6.prepared.map rowB)]) hx8 rfl rfl,db (row:=aa.rowD) _ hx8,fU (row:=aa.rowD) hx8 rfl];refine hZ _ (pp (Wk_seq ?_));obtain ⟨ha25,h⟩:=br h;simp only [List.length_cons,List.length_nil,Nat.zero_add] at ha25;refine ai fun Z hZ=>?_;simp only [go_sem,seval,db (row:=aa.rowD) _ hx8,fU (row:=aa.rowD) hx8 rfl,ha25];refine hZ _ (pp (Ws fun Z hZ=>?_));simp only [go_sem,seval];refine hZ _ (pp (Wk_ret (pp ?_)));obtain rfl:=Option.some.inj h;refine dj (.inl rfl) (Weak.trans (pq (n:=0) (c':=.sl true none 6 (some 1) [[.sl true none 3 none ((l4.set ((v5).toNat) (aa.mk x6.actor (x6.txns++[a1.Txn]) (x6.prepared++[false]))).map aa.rowD),.sl true none 1 none (a0.seen.map (rowI .i64)),.sl true none 2 none (l21.map ae.row),.sl true none 1 none (a0.committed.map (rowI .i64)),.sl true none 1 none (a0.aborted.map (rowI .i64)),.sl true none 1 none (a0.prepared.map (rowI .i64))]]) (by simp only [go_sem,seval]; rfl) (by first|(simp only [gi (row:=aa.rowD) (l:=l4) (i:=((v5).toNat)) (y:=(aa.mk x6.actor (x6.txns++[a1.Txn]) (x6.prepared++[false]))) (rc:=[.val (.int .i64 x6.actor),.sl true none 1 none ((x6.txns++[a1.Txn]).map (rowI .i64)),.sl true none 1 none ((x6.prepared++[false]).map rowB)]) rfl]; done)|(simp only [gi (row:=aa.rowD) (l:=l4) (i:=((v5).toNat)) (y:=(aa.mk x6.actor (x6.txns++[a1.Txn]) (x6.prepared++[false]))) (rc:=[.val (.int .i64 x6.actor),.sl true none 1 none ((x6.txns++[a1.Txn]).map (rowI .i64)),.sl true none 1 none ((x6.prepared++[false]).map rowB)]) rfl,List.map_append,List.map_cons,List.map_nil]<;>rfl)|(rw [<-gi (row:=aa.rowD) (l:=l4) (i:=((v5).toNat)) (y:=(aa.mk x6.actor (x6.txns++[a1.Txn]) (x6.prepared++[false]))) (rc:=[.val (.int .i64 x6.actor),.sl true none 1 none ((x6.txns++[a1.Txn]).map (rowI .i64)),.sl true none 1 none ((x6.prepared++[false]).map rowB)]) rfl]; simp only [List.map_append,List.map_cons,List.map_nil]<;>rfl))) (Weak.refl _)) (by simp only [go_sem,seval]; rfl) (by simp only [go_sem,seval]; rfl) (by (try simp only [go_sem,seval]); first|exact Le.refl _|exact LeI.h) ?_
 exact dn (by simp only [go_sem,seval,Bool.or_self]<;>rfl) (by simp only [go_sem,seval]<;>rfl) (el_nil)
def jP (N:Nat):FnL:=⟨1,fun cs rest=>match cs,rest with
 | [v0],[c1]=>(varE 6 ac.decE v0).bind fun q0=>(ah.decA c1).bind fun q1=>(gQ N q0 q1).map fun r=>(.val (.bool r.1),[.sl true none 6 (some 1) [ac.rowD r.2]])
 | _,_=>none,true⟩
attribute [go_sem] jP
theorem rV (N:Nat):FLOk Tryz.prog 87 (jP N):=by
 refine flOkP (Nat.succ_ne_zero _) ?_;intro cs rest r ls hlen h;simp only [jP] at h;split at h
 ·simp only [Option.bind_eq_some_iff,Option.map_eq_some_iff] at h;obtain ⟨q0,h0,q1,h1,r',hr,he⟩:=h;cases he;obtain rfl:=oz ac.decE_eq h0;exact ⟨ConL.restLe rfl ((LeL.cons (ah.decA_le h1) (LeL.nil))) (uJ N q0 q1 r' hr),rfl,PureIL.h⟩
 ·cases h


theorem ze (N:Nat) (a0:aa) (a1:Int) (r:Int) (h:j4 N a0 a1=some r):Con Tryz.prog 61 [] true [.agg (aa.row a0),.val (.int .i64 a1)] (.val (.int .i64 r)):=by
 refine aT (G:=(glist [])) Tryz.func61 rfl (by decide) (by kernel_rfl) gn [] mix (Nat.le_of_ble_eq_true rfl) ?_;simp only [Tryz.f61];unfold j4 at h;refine Ws fun Z hZ=>?_;simp only [go_sem,seval];refine hZ _ (pp (Wk_seq (Ws fun Z hZ=>?_)));simp only [go_sem,seval];refine hZ _ (pp (ak (dE fun hreal2=>?_)));have hl1:=hreal2.cell 2 1 (by simp only [go_sem,seval]; rfl) rfl;first|rw [List.length_map] at hl1|rw [dD] at hl1|rw [<-List.map_append,List.length_map] at hl1
 refine dz (fun (v2:Nat) (b:Unit)=>⟨tab 21 (updT (updT (updT deadT 1 (.val (.int .i64 a1))) 2 (.pref 2 [] 0 0)) 5 (.val (.int .i64 ((v2:Nat):Int)))),(upd RZ 2 (.sl true none 3 (some 1) [aa.row a0]))⟩) () h ?_ ?_
 ·refine wr ?_ ?_<;>repeat' first|rfl|constructor
 rintro v2 ⟨⟩ hi3 h -;rcases (bx a0.txns v2 hi3).symm with ⟨hi3',_,hd6⟩|⟨x5,hi3',hx4,hd6⟩
 ·rw [hd6] at h;simp only [jm] at h;refine Wk_seq (Ws fun Z hZ=>?_);simp only [go_sem,seval,hi3'];refine hZ _ (pp ?_);try simp only [Int.ofNat_lt,hi3',if_true,if_false] at h
  refine a8 rfl (aP (pp (Ws fun Z hZ=>?_)));simp only [go_sem,seval];refine hZ _ (pp (Wk_ret (pp ?_)));cases h;simp only [go_sem,seval];exact ⟨_,rfl,RokI.h,PureI.h⟩
 rw [hd6] at h;simp only [jm] at h;have hw5:=bu hi3' hl1;refine Wk_seq (Ws fun Z hZ=>?_);simp only [go_sem,seval,hi3'];refine hZ _ (pp ?_);try simp only [Int.ofNat_lt,hi3',if_true,if_false] at h
 refine bp rfl (aj (pp (Wk_seq (ak (Wk_seq ?_)))));try rw [gx_nat hx4] at h
 refine ai fun Z hZ=>?_;simp only [go_sem,seval,hx4,hi3'];refine hZ _ (pp (am rfl (fun hc7=>?_) (fun hc7=>?_)))
 ·have hc7d:=decide_eq_true hc7;rw [if_pos hc7] at h;refine Ws fun Z hZ=>?_;simp only [go_sem,seval,hc7d];refine hZ _ (pp (Wk_ret (pp ?_)));cases h;simp only [go_sem,seval];exact ⟨_,rfl,RokI.h,PureI.h⟩
 have hc7d:=decide_eq_false hc7;rw [if_neg hc7] at h;refine aj (pp (ai fun Z hZ=>?_));simp only [go_sem,seval,hw5,hc7d];refine hZ _ (pp ?_);first|refine ⟨(),?_,h⟩|refine ⟨hi3',(),?_,h⟩
 refine wr ?_ ?_<;>repeat' first|rfl|constructor
def kK (N:Nat):FnS:=⟨[],true,fn2 aa.decA (decI .i64) fun q0 q1=>(j4 N q0 q1).map fun r=>.val (.int .i64 r),false⟩
attribute [go_sem] kK
theorem mS (N:Nat):FSOk Tryz.prog 61 (kK N):=ok2 (fun q0 q1 r h=>by
 obtain ⟨r',hr,rfl⟩:=Option.map_eq_some_iff.1 h;exact ze N q0 q1 r' hr) (aa.decA_le) (aw)


noncomputable def oM (N d f:Nat):Option FnS:=glist [(10,48,gY N),(22,61,kK N),(54,29,aV N)] d f
attribute [go_sem] oM
theorem sj (N:Nat) (a0:ac) (a1:ah) (r:Bool × ac) (h:fo N a0 a1=some r):ConL Tryz.prog 88 1 [.sl true none 6 (some 1) [ac.rowD a0],.agg (ah.row a1)] (.val (.bool r.1)) [.sl true none 6 (some 1) [ac.rowD r.2]]:=by
 refine fD (G:=(oM N)) (L:=noL) Tryz.func88 rfl (by decide) (by kernel_rfl) 1 (by kernel_rfl) (gc 10 (kL N) (gc 22 (mS N) (gc 54 (aR N) gn))) (fun _ _ _ h=>by cases h) [] mix (Nat.le_of_ble_eq_true rfl) (Nat.le_of_ble_eq_true rfl) rfl rfl ?_;simp only [Tryz.f88];unfold fo at h;refine Ws fun Z hZ=>?_;simp only [go_sem,seval];refine hZ _ (pp (Wk_seq ?_));obtain ⟨r1,hr1,h⟩:=Option.bind_eq_some_iff.1 h;refine ai fun Z hZ=>?_;simp only [go_sem,seval,hr1];refine hZ _ (pp (Wk_seq (Ws fun Z hZ=>?_)));simp only [go_sem,seval];refine hZ _ (pp (am rfl (fun hc2=>?_) (fun hc2=>?_)))
 ·have hc2d:=decide_eq_true hc2;rw [if_pos hc2] at h;refine Ws fun Z hZ=>?_;simp only [go_sem,seval,hc2d];refine hZ _ (pp (Wk_ret (pp ?_)));obtain rfl:=Option.some.inj h;refine dj (.inl rfl) (Weak.refl _) (by simp only [go_sem,seval]; rfl) (by simp only [go_sem,seval]; rfl) (by (try simp only [go_sem,seval]); first|exact Le.refl _|exact LeI.h) ?_;exact dn (by simp only [go_sem,seval]<;>rfl) (by simp only [go_sem,seval]<;>rfl) (el_nil)
 have hc2d:=decide_eq_false hc2;rw [if_neg hc2] at h;refine aj (pp (Wk_seq ?_));obtain ⟨x2,hb3,hx4,h⟩:=aJ h;obtain ⟨r3,hr5,h⟩:=Option.bind_eq_some_iff.1 h;refine da fun Z hZ=>?_;simp only [go_sem,seval,hc2d,hb3,hx4,hr5];repeat with_reducible refine dR (by kernel_rfl) ?_
 refine hZ _ (by kernel_rfl) (pp (Wk_seq ?_));apply dc (fun (c8:Bool)=>⟨tab 67 (updT (updT (updT (updT (updT deadT 0 (.pref 0 [] 0 0)) 3 (.pref 3 [] 0 0)) 5 (.val (.int .i64 r1))) 6 (.val (.int .i64 r3))) 37 (.val (.bool c8))),(upd (upd RZ 0 (.sl true none 6 (some 1) [[.sl true none 3 none (a0.piles.map aa.rowD),.sl true none 1 none (a0.seen.map (rowI .i64)),.sl true none 2 none (a0.deps.map ae.row),.sl true none 1 none (a0.committed.map (rowI .i64)),.sl true none 1 none (a0.aborted.map (rowI .i64)),.sl true none 1 none (a0.prepared.map (rowI .i64))]])) 3 (.sl true none 3 (some 1) [ah.row a1]))⟩)
 ·intro hJ6;refine ai fun Z hZ=>?_;simp only [go_sem,seval];refine bn rfl (fun hc7=>?_) (fun hc7=>?_)
  ·have hc7d:=decide_eq_true hc7;rw [if_pos hc7] at h;simp only [go_sem,seval,hc7d];refine hZ _ (pp (hJ6 _ true ?_ h));refine wr ?_ ?_<;>repeat' first|rfl|constructor
  have hc7d:=decide_eq_false hc7;rw [if_neg hc7] at h;obtain ⟨x9,hb8,hx9,h⟩:=aJ h;simp only [go_sem,seval,hb3,hx4,hc7d,hb8,hx9];refine hZ _ (pp (hJ6 _ x9 ?_ h));refine wr ?_ ?_<;>repeat' first|rfl|constructor
 intro c8 h;unfold fI at h;refine ar rfl (fun hc10=>?_) (fun hc10=>?_)
 ·rw [if_pos hc10] at h;refine Ws fun Z hZ=>?_;simp only [go_sem,seval,hc10];refine hZ _ (pp (Wk_ret (pp ?_)));obtain rfl:=Option.some.inj h;refine dj (.inl rfl) (Weak.refl _) (by simp only [go_sem,seval]; rfl) (by simp only [go_sem,seval]; rfl) (by (try simp only [go_sem,seval]); first|exact Le.refl _|exact LeI.h) ?_;exact dn (by simp only [go_sem,seval]<;>rfl) (by simp only [go_sem,seval]<;>rfl) (el_nil)
 rw [if_neg (ne_true_of_eq_false hc10)] at h;refine aj (pp ?_);unfold iT at h;refine Wk_seq ?_;obtain ⟨x10,hb11,hx12,h⟩:=aJ h;obtain rfl:=Bk hx4 hx12;obtain ⟨x11,hb13,hx14,h⟩:=aJ h;have hx16:=tA (y:=true) hx14;refine ai fun Z hZ=>?_;simp only [go_sem,seval,hb3,hx4,hc10,hb13,hx14,pa (row:=rowB) (y:=true) (rx:=[.val (.bool x11)]) (ry:=[.val (.bool true)]) hx14 rfl rfl,jV (row:=aa.rowD) (rx:=[.val (.int .i64 x2.actor),.sl true none 1 none (x2.txns.map (rowI .i64)),.sl true none 1 none (x2.prepared.map rowB)]) hx4 rfl rfl];refine hZ _ (pp (Wk_seq (Wk_seq ?_)));obtain ⟨r12,hr17,h⟩:=Option.bind_eq_some_iff.1 h;refine da fun Z hZ=>?_;simp only [go_sem,seval,hr17];repeat with_reducible refine dR (by kernel_rfl) ?_
 refine hZ _ (by kernel_rfl) (pp (sw (bW rfl) (fun hc18=>?_) (fun hc18=>?_)))
 ·rw [if_pos hc18] at h;refine aj (pp (Ws fun Z hZ=>?_));simp only [go_sem,seval,hc18];refine hZ _ (pp (Wk_ret (pp ?_)));obtain rfl:=Option.some.inj h;refine dj (.inl rfl) (Weak.trans (pq (n:=0) (c':=.sl true none 6 (some 1) [[.sl true none 3 none ((a0.piles.set ((r1).toNat) (aa.mk x2.actor x2.txns (x2.prepared.set ((r3).toNat) true))).map aa.rowD),.sl true none 1 none (a0.seen.map (rowI .i64)),.sl true none 2 none (a0.deps.map ae.row),.sl true none 1 none (a0.committed.map (rowI .i64)),.sl true none 1 none (a0.aborted.map (rowI .i64)),.sl true none 1 none (a0.prepared.map (rowI .i64))]]) (by simp only [go_sem,seval]; rfl) (by first|(simp only [gi (row:=aa.rowD) (l:=a0.piles) (i:=((r1).toNat)) (y:=(aa.mk x2.actor x2.txns (x2.prepared.set ((r3).toNat) true))) (rc:=[.val (.int .i64 x2.actor),.sl true none 1 none (x2.txns.map (rowI .i64)),.sl true none 1 none ((x2.prepared.set ((r3).toNat) true).map rowB)]) rfl]; done)|(simp only [gi (row:=aa.rowD) (l:=a0.piles) (i:=((r1).toNat)) (y:=(aa.mk x2.actor x2.txns (x2.prepared.set ((r3).toNat) true))) (rc:=[.val (.int .i64 x2.actor),.sl true none 1 none (x2.txns.map (rowI .i64)),.sl true none 1 none ((x2.prepared.set ((r3).toNat) true).map rowB)]) rfl,List.map_append,List.map_cons,List.map_nil]<;>rfl)|(rw [<-gi (row:=aa.rowD) (l:=a0.piles) (i:=((r1).toNat)) (y:=(aa.mk x2.actor x2.txns (x2.prepared.set ((r3).toNat) true))) (rc:=[.val (.int .i64 x2.actor),.sl true none 1 none (x2.txns.map (rowI .i64)),.sl true none 1 none ((x2.prepared.set ((r3).toNat) true).map rowB)]) rfl]; simp only [List.map_append,List.map_cons,List.map_nil]<;>rfl))) (Weak.refl _)) (by simp only [go_sem,seval]; rfl) (by simp only [go_sem,seval]; rfl) (by (try simp only [go_sem,seval]); first|exact Le.refl _|exact LeI.h) ?_
  exact dn (by simp only [go_sem,seval]<;>rfl) (by simp only [go_sem,seval]<;>rfl) (el_nil)
 rw [if_neg (ne_true_of_eq_false hc18)] at h;refine ed [0,1,2,3,4,5,6] [7] [] [8,9,10,11] [] (by kernel_rfl) fun Z hZ Y hY=>?_;simp only [go_sem,seval,hc18];refine hY _ (by kernel_rfl) (ba (by kernel_rfl) fun Y hY=>?_);simp only [go_sem,seval];refine hY _ (by kernel_rfl) (jW ?_);obtain ⟨ha19,h⟩:=br h;simp only [List.length_cons,List.length_nil,Nat.zero_add,Nat.reduceAdd] at ha19;simp only [go_sem,seval,ha19];refine hZ _ (pp (Ws fun Z hZ=>?_));simp only [go_sem,seval];refine hZ _ (pp (Wk_ret (pp ?_)));obtain rfl:=Option.some.inj h;refine dj (.inl rfl) (Weak.trans (pq (n:=0) (c':=.sl true none 6 (some 1) [[.sl true none 3 none ((a0.piles.set ((r1).toNat) (aa.mk x2.actor x2.txns (x2.prepared.set ((r3).toNat) true))).map aa.rowD),.sl true none 1 none (a0.seen.map (rowI .i64)),.sl true none 2 none (a0.deps.map ae.row),.sl true none 1 none (a0.committed.map (rowI .i64)),.sl true none 1 none (a0.aborted.map (rowI .i64)),.sl true none 1 none ((a0.prepared++[a1.Txn]).map (rowI .i64))]]) (by simp only [go_sem,seval]; rfl) (by first|(simp only [gi (row:=aa.rowD) (l:=a0.piles) (i:=((r1).toNat)) (y:=(aa.mk x2.actor x2.txns (x2.prepared.set ((r3).toNat) true))) (rc:=[.val (.int .i64 x2.actor),.sl true none 1 none (x2.txns.map (rowI .i64)),.sl true none 1 none ((x2.prepared.set ((r3).toNat) true).map rowB)]) rfl]; done)|(simp only [gi (row:=aa.rowD) (l:=a0.piles) (i:=((r1).toNat)) (y:=(aa.mk x2.actor x2.txns (x2.prepared.set ((r3).toNat) true))) (rc:=[.val (.int .i64 x2.actor),.sl true none 1 none (x2.txns.map (rowI .i64)),.sl true none 1 none ((x2.prepared.set ((r3).toNat) true).map rowB)]) rfl,List.map_append,List.map_cons,List.map_nil]<;>rfl)|(rw [<-gi (row:=aa.rowD) (l:=a0.piles) (i:=((r1).toNat)) (y:=(aa.mk x2.actor x2.txns (x2.prepared.set ((r3).toNat) true))) (rc:=[.val (.int .i64 x2.actor),.sl true none 1 none (x2.txns.map (rowI .i64)),.sl true none 1 none ((x2.prepared.set ((r3).toNat) true).map rowB)]) rfl]; simp only [List.map_append,List.map_cons,List.map_nil]<;>rfl))) (Weak.refl _)) (by simp only [go_sem,seval]; rfl) (by simp only [go_sem,seval]; rfl) (by (try simp only [go_sem,seval]); first|exact Le.refl _|exact LeI.h) ?_
 exact dn (by simp only [go_sem,seval,Bool.or_self]<;>rfl) (by simp only [go_sem,seval]<;>rfl) (el_nil)
def iM (N:Nat):FnL:=⟨1,fun cs rest=>match cs,rest with
 | [v0],[c1]=>(varE 6 ac.decE v0).bind fun q0=>(ah.decA c1).bind fun q1=>(fo N q0 q1).map fun r=>(.val (.bool r.1),[.sl true none 6 (some 1) [ac.rowD r.2]])
 | _,_=>none,true⟩
attribute [go_sem] iM
theorem qR (N:Nat):FLOk Tryz.prog 88 (iM N):=by
 refine flOkP (Nat.succ_ne_zero _) ?_;intro cs rest r ls hlen h;simp only [iM] at h;split at h
 ·simp only [Option.bind_eq_some_iff,Option.map_eq_some_iff] at h;obtain ⟨q0,h0,q1,h1,r',hr,he⟩:=h;cases he;obtain rfl:=oz ac.decE_eq h0;exact ⟨ConL.restLe rfl ((LeL.cons (ah.decA_le h1) (LeL.nil))) (sj N q0 q1 r' hr),rfl,PureIL.h⟩
 ·cases h


noncomputable def qg (N d f:Nat):Option FnS:=glist [(27,61,kK N)] d f
attribute [go_sem] qg
theorem vt (N:Nat) (a0:ac) (a1:Int) (a2:Bool) (r:Bool) (h:eY N a0 a1 a2=some r):Con Tryz.prog 47 [] true [.iref 6 [[.sl false none 3 none (a0.piles.map aa.row),.sl false none 1 none (a0.seen.map (rowI .i64)),.sl false none 2 none (a0.deps.map ae.row),.sl false none 1 none (a0.committed.map (rowI .i64)),.sl false none 1 none (a0.aborted.map (rowI .i64)),.sl false none 1 none (a0.prepared.map (rowI .i64))]] 0 0,.val (.int .i64 a1),.val (.bool a2)] (.val (.bool r)):=by
 refine aT (G:=(qg N)) Tryz.func47 rfl (by decide) (by kernel_rfl) (gc 27 (mS N) gn) [] mix (Nat.le_of_ble_eq_true rfl) ?_;simp only [Tryz.f47];unfold eY at h;refine Ws fun Z hZ=>?_;simp only [go_sem,seval];refine hZ _ (pp (Ws fun Z hZ=>?_));simp only [go_sem,seval];refine hZ _ (pp (Wk_seq (Ws fun Z hZ=>?_)));simp only [go_sem,seval];refine hZ _ (pp (ak (fQ (fun (b:Bool × Bool × Int)=>⟨tab 50 (updT (updT (updT (updT (updT deadT 0 (.iref 6 [[.sl false none 3 none (a0.piles.map aa.row),.sl false none 1 none (a0.seen.map (rowI .i64)),.sl false none 2 none (a0.deps.map ae.row),.sl false none 1 none (a0.committed.map (rowI .i64)),.sl false none 1 none (a0.aborted.map (rowI .i64)),.sl false none 1 none (a0.prepared.map (rowI .i64))]] 0 0)) 1 (.val (.int .i64 a1))) 2 (.val (.bool b.1))) 7 (.val (.bool b.2.1))) 8 (.val (.int .i64 b.2.2))),RZ⟩) (a2,false,0) h ?_ ?_)))
 ·refine wr ?_ ?_<;>repeat' first|rfl|constructor
 rintro n ⟨c2,c3,v4⟩ h -;cases n with
 | zero=>simp [dF] at h
 | succ n=>
 simp only [dF] at h;refine Wk_seq (Ws fun Z hZ=>?_);simp only [go_sem,seval];refine hZ _ (pp (sw (am rfl) (fun hc1=>?_) (fun hc1=>?_)))
 ·have hc1d:=decide_eq_false hc1;rw [if_neg hc1] at h;refine aP (pp (Ws fun Z hZ=>?_));simp only [go_sem,seval,hc1d];refine hZ _ (pp (Wk_ret (pp ?_)));cases h;simp only [go_sem,seval];exact ⟨_,rfl,RokI.h,PureI.h⟩
 have hc1d:=decide_eq_true hc1;rw [if_pos hc1] at h;refine aj (pp (Wk_seq (ak (Wk_seq ?_))));obtain ⟨x1,hb2,hx3,h⟩:=aJ h;obtain ⟨r2,hr4,h⟩:=Option.bind_eq_some_iff.1 h;refine ai fun Z hZ=>?_;simp only [go_sem,seval,hb2,hx3,hr4];refine hZ _ (pp (Wk_seq (Ws fun Z hZ=>?_)));simp only [go_sem,seval];refine hZ _ (pp (am rfl (fun hc5=>?_) (fun hc5=>?_)))
 ·have hc5d:=decide_eq_true hc5;rw [if_pos hc5] at h;refine aP (pp (ai fun Z hZ=>?_));simp only [go_sem,seval,hc5d];refine hZ _ (pp (⟨_,Nat.lt_succ_self _,(c2,c3,IntKind.i64.wrap (v4+1)),?_,h⟩));refine wr ?_ ?_<;>repeat' first|rfl|constructor
 have hc5d:=decide_eq_false hc5;rw [if_neg hc5] at h;refine aj (pp (Ws fun Z hZ=>?_));simp only [go_sem,seval,hc5d];refine hZ _ (pp ?_);apply pd (fun (c4:Bool) (c5:Bool)=>⟨tab 50 (updT (updT (updT (updT (updT (updT deadT 0 (.iref 6 [[.sl false none 3 none (a0.piles.map aa.row),.sl false none 1 none (a0.seen.map (rowI .i64)),.sl false none 2 none (a0.deps.map ae.row),.sl false none 1 none (a0.committed.map (rowI .i64)),.sl false none 1 none (a0.aborted.map (rowI .i64)),.sl false none 1 none (a0.prepared.map (rowI .i64))]] 0 0)) 1 (.val (.int .i64 a1))) 2 (.val (.bool c4))) 7 (.val (.bool true))) 8 (.val (.int .i64 v4))) 48 (.val (.bool c5))),RZ⟩)
 ·intro hJ6;obtain ⟨x6,hb7,hx8,h⟩:=aJ h;refine ai fun Z hZ=>?_;simp only [go_sem,seval,hb2,hx3,hb7,hx8];refine eV rfl (fun hc9=>?_) (fun hc9=>?_)
  ·rw [if_neg (ne_true_of_eq_false hc9)] at h;simp only [go_sem,seval,hc9];refine hZ _ (pp (hJ6 _ c2 true ?_ h));refine wr ?_ ?_<;>repeat' first|rfl|constructor
  rw [if_pos hc9] at h;simp only [go_sem,seval,hc9];refine bI rfl (fun hc10=>?_) (fun hc10=>?_)
  ·rw [if_pos hc10] at h;simp only [go_sem,seval,hc10];refine hZ _ (pp (hJ6 _ true (decide (0 < r2)) ?_ h));refine wr ?_ ?_<;>repeat' first|rfl|constructor
  rw [if_neg (ne_true_of_eq_false hc10)] at h;simp only [go_sem,seval,hc10];refine hZ _ (pp (hJ6 _ false false ?_ h));refine wr ?_ ?_<;>repeat' first|rfl|constructor
 intro c4 c5 h;unfold iE at h;refine ar rfl (fun hc11=>?_) (fun hc11=>?_)
 ·rw [if_pos hc11] at h;refine Ws fun Z hZ=>?_;simp only [go_sem,seval,hc11];refine hZ _ (pp (Wk_ret (pp ?_)));cases h;simp only [go_sem,seval];exact ⟨_,rfl,RokI.h,PureI.h⟩
 rw [if_neg (ne_true_of_eq_false hc11)] at h;refine aj (pp (ai fun Z hZ=>?_));simp only [go_sem,seval,hc11];refine hZ _ (pp (⟨_,Nat.lt_succ_self _,(c4,true,IntKind.i64.wrap (v4+1)),?_,h⟩));refine wr ?_ ?_<;>repeat' first|rfl|constructor
def iR (N:Nat):FnS:=⟨[],true,fn3 (decPt 6 ac.dec) (decI .i64) decB fun q0 q1 q2=>(eY N q0 q1 q2).map fun r=>.val (.bool r),false⟩
attribute [go_sem] iR
theorem lk (N:Nat):FSOk Tryz.prog 47 (iR N):=ok3 (fun q0 q1 q2 r h=>by
 obtain ⟨r',hr,rfl⟩:=Option.map_eq_some_iff.1 h;exact vt N q0 q1 q2 r' hr) (fun h=>kV ac.dec_le h) (aw) (Cr)


noncomputable def pL (N d f:Nat):Option FnS:=glist [(23,61,kK N)] d f
attribute [go_sem] pL
theorem ut (N:Nat) (a0:ac) (a1:Int) (r:ac) (h:dG N a0 a1=some r):ConL Tryz.prog 46 1 [.sl true none 6 (some 1) [ac.rowD a0],.val (.int .i64 a1)] (.tup []) [.sl true none 6 (some 1) [ac.rowD r]]:=by
 refine fD (G:=(pL N)) (L:=noL) Tryz.func46 rfl (by decide) (by kernel_rfl) 1 (by kernel_rfl) (gc 23 (mS N) gn) (fun _ _ _ h=>by cases h) [] mix (Nat.le_of_ble_eq_true rfl) (Nat.le_of_ble_eq_true rfl) rfl rfl ?_;simp only [Tryz.f46];unfold dG at h;refine Ws fun Z hZ=>?_;simp only [go_sem,seval];refine hZ _ (pp (ak (fQ (fun (b:List aa × Int)=>⟨tab 86 (updT (updT (updT deadT 0 (.pref 0 [] 0 0)) 1 (.val (.int .i64 a1))) 4 (.val (.int .i64 b.2))),(upd RZ 0 (.sl true none 6 (some 1) [[.sl true none 3 none (b.1.map aa.rowD),.sl true none 1 none (a0.seen.map (rowI .i64)),.sl true none 2 none (a0.deps.map ae.row),.sl true none 1 none (a0.committed.map (rowI .i64)),.sl true none 1 none (a0.aborted.map (rowI .i64)),.sl true none 1 none (a0.prepared.map (rowI .i64))]]))⟩) (a0.piles,0) h ?_ ?_)))
 ·refine wr ?_ ?_<;>repeat' first|rfl|constructor
 rintro n ⟨l1,v2⟩ h -;cases n with
 | zero=>simp [eA] at h
 | succ n=>
 simp only [eA] at h;refine Wk_seq (Ws fun Z hZ=>?_);simp only [go_sem,seval];refine hZ _ (pp (sw (am rfl) (fun hc1=>?_) (fun hc1=>?_)))
 ·have hc1d:=decide_eq_false hc1;rw [if_neg hc1] at h;refine aP (pp ?_);obtain rfl:=Option.some.inj h;refine dj (.inr rfl) (Weak.refl _) (by simp only [go_sem,seval,hc1d]; rfl) (by simp only [go_sem,seval]; rfl) (by (try simp only [go_sem,seval]); first|exact Le.refl _|exact LeI.h) ?_;exact dn (by simp only [go_sem,seval,hc1d]<;>rfl) (by simp only [go_sem,seval]<;>rfl) (el_nil)
 have hc1d:=decide_eq_true hc1;rw [if_pos hc1] at h;refine aj (pp (Wk_seq (ak (Wk_seq ?_))));obtain ⟨x1,hb2,hx3,h⟩:=aJ h;obtain ⟨r2,hr4,h⟩:=Option.bind_eq_some_iff.1 h;refine ai fun Z hZ=>?_;simp only [go_sem,seval,hb2,hx3,hr4];refine hZ _ (pp (Wk_seq (Ws fun Z hZ=>?_)));simp only [go_sem,seval];refine hZ _ (pp (am rfl (fun hc5=>?_) (fun hc5=>?_)))
 ·have hc5d:=decide_eq_true hc5;rw [if_pos hc5] at h;refine aP (pp (ai fun Z hZ=>?_));simp only [go_sem,seval,hc5d];refine hZ _ (pp (⟨_,Nat.lt_succ_self _,(l1,IntKind.i64.wrap (v2+1)),?_,h⟩));refine wr ?_ ?_<;>repeat' first|rfl|constructor
 have hc5d:=decide_eq_false hc5;rw [if_neg hc5] at h;refine aj (pp (Wk_seq (ed [0,1,2,3,4,5,6,7,8,9,10,11,12,13,14,16,17,18,19,20,21,22,23,24] [15,25,26,27] [[25,15,26,27],[25,26,15,27]] [28,29,30] [0] (by kernel_rfl) fun Z hZ Y hY=>?_)));simp only [go_sem,seval,hb2,hx3,hc5d];refine hY _ (by kernel_rfl) (ba (by kernel_rfl) fun Y hY=>?_);obtain ⟨hs6,ht7,h⟩:=uz h;try simp only [Int.toNat_natCast] at hs6 ht7 h
 simp only [go_sem,seval,hx3,hs6,Nat.sub_zero,Nat.zero_le,Nat.le_refl];refine hY _ (by kernel_rfl) (ba (by kernel_rfl) fun Y hY=>?_);simp only [go_sem,seval];refine hY _ (by kernel_rfl) (ba (by kernel_rfl) fun Y hY=>?_);obtain ⟨hs8,h⟩:=gL h;try simp only [Int.toNat_natCast] at hs8 h
 simp only [go_sem,seval,hx3,Nat.le_refl,hs8];refine hY _ (by kernel_rfl) (ba (by simp only [go_sem,seval,hx3,chkA,baseN,headB,srcB,Option.isNone,Bool.and_true]; try rfl) fun Y hY=>?_);obtain ⟨ha9,h⟩:=br h;simp only [Nat.reduceAdd] at ha9;simp only [go_sem,seval,hx3,ha9,jV (row:=aa.rowD) (rx:=[.val (.int .i64 x1.actor),.sl true none 1 none (x1.txns.map (rowI .i64)),.sl true none 1 none (x1.prepared.map rowB)]) hx3 rfl rfl];refine hY _ (by kernel_rfl) (ya (sC:=⟨tab 86 (updT (updT (updT (updT (updT (updT (updT (updT (updT (updT (updT (updT (updT (updT (updT (updT (updT (updT (updT (updT (updT (updT (updT (updT (updT (updT (updT (updT (updT (updT (updT (updT (updT (updT (updT (updT (updT (updT (updT (updT (updT (updT (updT (updT (updT deadT 0 (.pref 0 [] 0 0)) 1 (.val (.int .i64 a1))) 4 (.val (.int .i64 v2))) 5 (.val (.int .i64 r2))) 6 (.val (.int .i64 v2))) 7 (.pref 0 [] 0 0)) 8 (.pref 0 [] 0 0)) 9 (.pref 0 [] 0 0)) 10 (.pal 0 [(0,0)] 0 l1.length none)) 11 (.val (.int .i64 ((l1.length:Nat):Int)))) 12 (.val (.bool true))) 15 (.pref 0 [] 0 0)) 16 (.pref 0 [] 0 0)) 17 (.pref 0 [] 0 0)) 18 (.pal 0 [(0,0)] 0 l1.length none)) 19 (.val (.int .i64 v2))) 20 (.pref 0 [(0,0)] ((v2).toNat) 0)) 22 (.val (.int .i64 a1))) 23 (.val (.int .i64 r2))) 24 (.val (.int .i64 r2))) 25 (.val (.bool false))) 26 (.pref 0 [] 0 0)) 27 (.pref 0 [] 0 0)) 28 (.pref 0 [] 0 0)) 29 (.pal 0 [(0,0)] 0 l1.length none)) 30 (.val (.int .i64 v2))) 31 (.pref 0 [] 0 0)) 32 (.pref 0 [] 0 0)) 33 (.pref 0 [] 0 0)) 34 (.pal 0 [(0,0)] 0 l1.length none)) 35 (.val (.int .i64 v2))) 36 (.pref 0 [(0,0)] ((v2).toNat) 0)) 37 (.pref 0 [(0,0)] ((v2).toNat) 1)) 39 (.val (.int .i64 r2))) 40 (.val (.int .i64 r2))) 42 (.pref 0 [] 0 0)) 43 (.pref 0 [] 0 0)) 44 (.pref 0 [] 0 0)) 45 (.pal 0 [(0,0)] 0 l1.length none)) 46 (.val (.int .i64 v2))) 47 (.pref 0 [(0,0)] ((v2).toNat) 0)) 48 (.pref 0 [(0,0)] ((v2).toNat) 1)) 50 (.val (.int .i64 r2))) 51 (.val (.int .i64 (IntKind.i64.wrap (r2+1))))) 53 (.pal 53 [] 0 (((x1.txns.take ((r2).toNat))++((x1.txns.drop ((IntKind.i64.wrap (r2+1)).toNat)).take (x1.txns.length - (IntKind.i64.wrap (r2+1)).toNat))).length) none)),(upd (upd RZ 0 (.sl true none 6 (some 1) [[.sl true none 3 none ((l1.map aa.rowD).set ((v2).toNat) [.val (.int .i64 x1.actor),.dead,.sl true none 1 none (x1.prepared.map rowB)]),.sl true none 1 none (a0.seen.map (rowI .i64)),.sl true none 2 none (a0.deps.map ae.row),.sl true none 1 none (a0.committed.map (rowI .i64)),.sl true none 1 none (a0.aborted.map (rowI .i64)),.sl true none 1 none (a0.prepared.map (rowI .i64))]])) 53 (.sl true none 1 none (((x1.txns.take ((r2).toNat))++((x1.txns.drop ((IntKind.i64.wrap (r2+1)).toNat)).take (x1.txns.length - (IntKind.i64.wrap (r2+1)).toNat))).map (rowI .i64))))⟩) ?_ ?_ ?_)
 ·try simp only [mu,lv,go_sem,seval]
  refine wr ?_ ?_<;>repeat' first|rfl|constructor|simp only [go_sem,seval,Bool.or_self,List.length_set,Int.natCast_zero,Int.cast_ofNat_Int,hc1d,hb2,hx3,hr4,hc5d,hs6,ht7,slt_lt ht7,Nat.sub_zero,Nat.zero_le,Nat.le_refl,hs8,ha9,jV (row:=aa.rowD) (rx:=[.val (.int .i64 x1.actor),.sl true none 1 none (x1.txns.map (rowI .i64)),.sl true none 1 none (x1.prepared.map rowB)]) hx3 rfl rfl,db (row:=aa.rowD) _ hx3,fU (row:=aa.rowD) hx3 rfl]
 ·refine ⟨?_,?_,trivial⟩
  ·refine dN (by kernel_rfl) fun Y hY=>?_;simp only [go_sem,seval];refine hY _ (by kernel_rfl) (dN (by kernel_rfl) fun Y hY=>?_);simp only [go_sem,seval,hx3,hs6,Nat.sub_zero,Nat.zero_le,Nat.le_refl];refine hY _ (by kernel_rfl) (dN (by kernel_rfl) fun Y hY=>?_);simp only [go_sem,seval,hx3,Nat.le_refl,hs8];refine hY _ (by kernel_rfl) (dN (by simp only [go_sem,seval,hx3,chkA,baseN,headB,srcB,Option.isNone,Bool.and_true]; try rfl) fun Y hY=>?_);simp only [go_sem,seval,hx3,ha9,jV (row:=aa.rowD) (rx:=[.val (.int .i64 x1.actor),.sl true none 1 none (x1.txns.map (rowI .i64)),.sl true none 1 none (x1.prepared.map rowB)]) hx3 rfl rfl];refine hY _ (by kernel_rfl) (qJ ?_);try simp only [mu,lv,go_sem,seval]
   refine wr ?_ ?_<;>repeat' first|rfl|constructor|simp only [go_sem,seval,Bool.or_self,List.length_set,Int.natCast_zero,Int.cast_ofNat_Int,hc1d,hb2,hx3,hr4,hc5d,hs6,ht7,slt_lt ht7,Nat.sub_zero,Nat.zero_le,Nat.le_refl,hs8,ha9,jV (row:=aa.rowD) (rx:=[.val (.int .i64 x1.actor),.sl true none 1 none (x1.txns.map (rowI .i64)),.sl true none 1 none (x1.prepared.map rowB)]) hx3 rfl rfl,db (row:=aa.rowD) _ hx3,fU (row:=aa.rowD) hx3 rfl]
  ·refine dN (by kernel_rfl) fun Y hY=>?_;simp only [go_sem,seval];refine hY _ (by kernel_rfl) (dN (by kernel_rfl) fun Y hY=>?_);simp only [go_sem,seval,hx3,Nat.le_refl,hs8];refine hY _ (by kernel_rfl) (dN (by kernel_rfl) fun Y hY=>?_);simp only [go_sem,seval,hx3,hs6,Nat.sub_zero,Nat.zero_le,Nat.le_refl];refine hY _ (by kernel_rfl) (dN (by simp only [go_sem,seval,hx3,chkA,baseN,headB,srcB,Option.isNone,Bool.and_true]; try rfl) fun Y hY=>?_);simp only [go_sem,seval,hx3,ha9,jV (row:=aa.rowD) (rx:=[.val (.int .i64 x1.actor),.sl true none 1 none (x1.txns.map (rowI .i64)),.sl true none 1 none (x1.prepared.map rowB)]) hx3 rfl rfl];refine hY _ (by kernel_rfl) (qJ ?_);try simp only [mu,lv,go_sem,seval]
   refine wr ?_ ?_<;>repeat' first|rfl|constructor|simp only [go_sem,seval,Bool.or_self,List.length_set,Int.natCast_zero,Int.cast_ofNat_Int,hc1d,hb2,hx3,hr4,hc5d,hs6,ht7,slt_lt ht7,Nat.sub_zero,Nat.zero_le,Nat.le_refl,hs8,ha9,jV (row:=aa.rowD) (rx:=[.val (.int .i64 x1.actor),.sl true none 1 none (x1.txns.map (rowI .i64)),.sl true none 1 none (x1.prepared.map rowB)]) hx3 rfl rfl,db (row:=aa.rowD) _ hx3,fU (row:=aa.rowD) hx3 rfl]
 simp only [go_sem,seval,hb2,db (row:=aa.rowD) _ hx3,fU (row:=aa.rowD) hx3 rfl];refine hZ _ (pp (ed [0,1,2,3,4,5,6,7,8,9,10,11,12,13,14,16,17,18,19,20,21,22,23,24] [15,25,26,27] [[25,15,26,27],[25,26,15,27]] [28,29,30] [0] (by kernel_rfl) fun Z hZ Y hY=>?_));simp only [go_sem,seval,hb2,Nat.le_refl,db (row:=aa.rowD) _ hx3];refine hY _ (by kernel_rfl) (ba (by kernel_rfl) fun Y hY=>?_);obtain ⟨hs10,ht11,h⟩:=uz h;try simp only [Int.toNat_natCast] at hs10 ht11 h
 simp only [go_sem,seval,hs6,Nat.sub_zero,Nat.zero_le,Nat.le_refl,db (row:=aa.rowD) _ hx3,hs10];refine hY _ (by kernel_rfl) (ba (by kernel_rfl) fun Y hY=>?_);simp only [go_sem,seval];refine hY _ (by kernel_rfl) (ba (by kernel_rfl) fun Y hY=>?_);obtain ⟨hs12,h⟩:=gL h;try simp only [Int.toNat_natCast] at hs12 h
 simp only [go_sem,seval,Nat.le_refl,hs8,db (row:=aa.rowD) _ hx3,hs12];refine hY _ (by kernel_rfl) (ba (by simp only [go_sem,seval,db (row:=aa.rowD) _ hx3,chkA,baseN,headB,srcB,Option.isNone,Bool.and_true]; try rfl) fun Y hY=>?_);obtain ⟨ha13,h⟩:=br h;simp only [Nat.zero_add] at ha13;simp only [go_sem,seval,db (row:=aa.rowD) _ hx3,fU (row:=aa.rowD) hx3 rfl,ha13];refine hY _ (by kernel_rfl) (ya (sC:=⟨tab 86 (updT (updT (updT (updT (updT (updT (updT (updT (updT (updT (updT (updT (updT (updT (updT (updT (updT (updT (updT (updT (updT (updT (updT (updT (updT (updT (updT (updT (updT (updT (updT (updT (updT (updT (updT (updT (updT (updT (updT (updT (updT (updT (updT (updT (updT (updT (updT (updT (updT (updT (updT (updT (updT (updT (updT (updT (updT (updT (updT (updT (updT (updT (updT (updT (updT (updT (updT (updT (updT (updT deadT 0 (.pref 0 [] 0 0)) 1 (.val (.int .i64 a1))) 4 (.val (.int .i64 v2))) 5 (.val (.int .i64 r2))) 6 (.val (.int .i64 v2))) 7 (.pref 0 [] 0 0)) 8 (.pref 0 [] 0 0)) 9 (.pref 0 [] 0 0)) 10 (.pal 0 [(0,0)] 0 l1.length none)) 11 (.val (.int .i64 ((l1.length:Nat):Int)))) 12 (.val (.bool true))) 15 (.pref 0 [] 0 0)) 16 (.pref 0 [] 0 0)) 17 (.pref 0 [] 0 0)) 18 (.pal 0 [(0,0)] 0 l1.length none)) 19 (.val (.int .i64 v2))) 20 (.pref 0 [(0,0)] ((v2).toNat) 0)) 22 (.val (.int .i64 a1))) 23 (.val (.int .i64 r2))) 24 (.val (.int .i64 r2))) 25 (.val (.bool false))) 26 (.pref 0 [] 0 0)) 27 (.pref 0 [] 0 0)) 28 (.pref 0 [] 0 0)) 29 (.pal 0 [(0,0)] 0 l1.length none)) 30 (.val (.int .i64 v2))) 31 (.pref 0 [] 0 0)) 32 (.pref 0 [] 0 0)) 33 (.pref 0 [] 0 0)) 34 (.pal 0 [(0,0)] 0 l1.length none)) 35 (.val (.int .i64 v2))) 36 (.pref 0 [(0,0)] ((v2).toNat) 0)) 37 (.pref 0 [(0,0)] ((v2).toNat) 1)) 39 (.val (.int .i64 r2))) 40 (.val (.int .i64 r2))) 42 (.pref 0 [] 0 0)) 43 (.pref 0 [] 0 0)) 44 (.pref 0 [] 0 0)) 45 (.pal 0 [(0,0)] 0 l1.length none)) 46 (.val (.int .i64 v2))) 47 (.pref 0 [(0,0)] ((v2).toNat) 0)) 48 (.pref 0 [(0,0)] ((v2).toNat) 1)) 50 (.val (.int .i64 r2))) 51 (.val (.int .i64 (IntKind.i64.wrap (r2+1))))) 54 (.pref 0 [(0,0)] ((v2).toNat) 0)) 55 (.pref 0 [(0,0)] ((v2).toNat) 1)) 56 (.pref 0 [] 0 0)) 57 (.pref 0 [] 0 0)) 58 (.pref 0 [] 0 0)) 59 (.pal 0 [(0,0)] 0 l1.length none)) 60 (.val (.int .i64 v2))) 61 (.pref 0 [] 0 0)) 62 (.pref 0 [] 0 0)) 63 (.pref 0 [] 0 0)) 64 (.pal 0 [(0,0)] 0 l1.length none)) 65 (.val (.int .i64 v2))) 66 (.pref 0 [(0,0)] ((v2).toNat) 0)) 67 (.pref 0 [(0,0)] ((v2).toNat) 2)) 69 (.val (.int .i64 r2))) 70 (.val (.int .i64 r2))) 72 (.pref 0 [] 0 0)) 73 (.pref 0 [] 0 0)) 74 (.pref 0 [] 0 0)) 75 (.pal 0 [(0,0)] 0 l1.length none)) 76 (.val (.int .i64 v2))) 77 (.pref 0 [(0,0)] ((v2).toNat) 0)) 78 (.pref 0 [(0,0)] ((v2).toNat) 2)) 80 (.val (.int .i64 r2))) 81 (.val (.int .i64 (IntKind.i64.wrap (r2+1))))) 83 (.pal 83 [] 0 (((x1.prepared.take ((r2).toNat))++((x1.prepared.drop ((IntKind.i64.wrap (r2+1)).toNat)).take (x1.prepared.length - (IntKind.i64.wrap (r2+1)).toNat))).length) none)),(upd (upd RZ 0 (.sl true none 6 (some 1) [[.sl true none 3 none ((l1.map aa.rowD).set ((v2).toNat) [.val (.int .i64 x1.actor),.sl true none 1 none (((x1.txns.take ((r2).toNat))++((x1.txns.drop ((IntKind.i64.wrap (r2+1)).toNat)).take (x1.txns.length - (IntKind.i64.wrap (r2+1)).toNat))).map (rowI .i64)),.dead]),.sl true none 1 none (a0.seen.map (rowI .i64)),.sl true none 2 none (a0.deps.map ae.row),.sl true none 1 none (a0.committed.map (rowI .i64)),.sl true none 1 none (a0.aborted.map (rowI .i64)),.sl true none 1 none (a0.prepared.map (rowI .i64))]])) 83 (.sl true none 1 none (((x1.prepared.take ((r2).toNat))++((x1.prepared.drop ((IntKind.i64.wrap (r2+1)).toNat)).take (x1.prepared.length - (IntKind.i64.wrap (r2+1)).toNat))).map rowB)))⟩) ?_ ?_ ?_)
 ·try simp only [mu,lv,go_sem,seval]
  refine wr ?_ ?_<;>repeat' first|rfl|constructor|simp only [go_sem,seval,Bool.or_self,List.length_set,Int.natCast_zero,Int.cast_ofNat_Int,hc1d,hb2,hx3,hr4,hc5d,hs6,ht7,slt_lt ht7,Nat.sub_zero,Nat.zero_le,Nat.le_refl,hs8,ha9,jV (row:=aa.rowD) (rx:=[.val (.int .i64 x1.actor),.sl true none 1 none (x1.txns.map (rowI .i64)),.sl true none 1 none (x1.prepared.map rowB)]) hx3 rfl rfl,db (row:=aa.rowD) _ hx3,fU (row:=aa.rowD) hx3 rfl,hs10,ht11,slt_lt ht11,hs12,ha13]
 ·refine ⟨?_,?_,trivial⟩
  ·refine dN (by kernel_rfl) fun Y hY=>?_;simp only [go_sem,seval];refine hY _ (by kernel_rfl) (dN (by kernel_rfl) fun Y hY=>?_);simp only [go_sem,seval,hs6,Nat.sub_zero,Nat.zero_le,Nat.le_refl,db (row:=aa.rowD) _ hx3,hs10];refine hY _ (by kernel_rfl) (dN (by kernel_rfl) fun Y hY=>?_);simp only [go_sem,seval,Nat.le_refl,hs8,db (row:=aa.rowD) _ hx3,hs12];refine hY _ (by kernel_rfl) (dN (by simp only [go_sem,seval,db (row:=aa.rowD) _ hx3,chkA,baseN,headB,srcB,Option.isNone,Bool.and_true]; try rfl) fun Y hY=>?_);simp only [go_sem,seval,db (row:=aa.rowD) _ hx3,fU (row:=aa.rowD) hx3 rfl,ha13];refine hY _ (by kernel_rfl) (qJ ?_);try simp only [mu,lv,go_sem,seval]
   refine wr ?_ ?_<;>repeat' first|rfl|constructor|simp only [go_sem,seval,Bool.or_self,List.length_set,Int.natCast_zero,Int.cast_ofNat_Int,hc1d,hb2,hx3,hr4,hc5d,hs6,ht7,slt_lt ht7,Nat.sub_zero,Nat.zero_le,Nat.le_refl,hs8,ha9,jV (row:=aa.rowD) (rx:=[.val (.int .i64 x1.actor),.sl true none 1 none (x1.txns.map (rowI .i64)),.sl true none 1 none (x1.prepared.map rowB)]) hx3 rfl rfl,db (row:=aa.rowD) _ hx3,fU (row:=aa.rowD) hx3 rfl,hs10,ht11,slt_lt ht11,hs12,ha13]
  ·refine dN (by kernel_rfl) fun Y hY=>?_;simp only [go_sem,seval];refine hY _ (by kernel_rfl) (dN (by kernel_rfl) fun Y hY=>?_);simp only [go_sem,seval,Nat.le_refl,hs8,db (row:=aa.rowD) _ hx3,hs12];refine hY _ (by kernel_rfl) (dN (by kernel_rfl) fun Y hY=>?_);simp only [go_sem,seval,hs6,Nat.sub_zero,Nat.zero_le,Nat.le_refl,db (row:=aa.rowD) _ hx3,hs10];refine hY _ (by kernel_rfl) (dN (by simp only [go_sem,seval,db (row:=aa.rowD) _ hx3,chkA,baseN,headB,srcB,Option.isNone,Bool.and_true]; try rfl) fun Y hY=>?_);simp only [go_sem,seval,db (row:=aa.rowD) _ hx3,fU (row:=aa.rowD) hx3 rfl,ha13];refine hY _ (by kernel_rfl) (qJ ?_);try simp only [mu,lv,go_sem,seval]
   refine wr ?_ ?_<;>repeat' first|rfl|constructor|simp only [go_sem,seval,Bool.or_self,List.length_set,Int.natCast_zero,Int.cast_ofNat_Int,hc1d,hb2,hx3,hr4,hc5d,hs6,ht7,slt_lt ht7,Nat.sub_zero,Nat.zero_le,Nat.le_refl,hs8,ha9,jV (row:=aa.rowD) (rx:=[.val (.int .i64 x1.actor),.sl true none 1 none (x1.txns.map (rowI .i64)),.sl true none 1 none (x1.prepared.map rowB)]) hx3 rfl rfl,db (row:=aa.rowD) _ hx3,fU (row:=aa.rowD) hx3 rfl,hs10,ht11,slt_lt ht11,hs12,ha13]
 simp only [go_sem,seval,hb2,db (row:=aa.rowD) _ hx3,fU (row:=aa.rowD) hx3 rfl];refine hZ _ (pp (ai fun Z hZ=>?_));simp only [go_sem,seval];refine hZ _ (pp (⟨_,Nat.lt_succ_self _,((l1.set ((v2).toNat) (aa.mk x1.actor ((x1.txns.take ((r2).toNat))++((x1.txns.drop ((IntKind.i64.wrap (r2+1)).toNat)).take (x1.txns.length - (IntKind.i64.wrap (r2+1)).toNat))) ((x1.prepared.take ((r2).toNat))++((x1.prepared.drop ((IntKind.i64.wrap (r2+1)).toNat)).take (x1.prepared.length - (IntKind.i64.wrap (r2+1)).toNat))))),IntKind.i64.wrap (v2+1)),?_,h⟩));refine Weak.trans (pq (n:=0) (c':=.sl true none 6 (some 1) [[.sl true none 3 none ((l1.set ((v2).toNat) (aa.mk x1.actor ((x1.txns.take ((r2).toNat))++((x1.txns.drop ((IntKind.i64.wrap (r2+1)).toNat)).take (x1.txns.length - (IntKind.i64.wrap (r2+1)).toNat))) ((x1.prepared.take ((r2).toNat))++((x1.prepared.drop ((IntKind.i64.wrap (r2+1)).toNat)).take (x1.prepared.length - (IntKind.i64.wrap (r2+1)).toNat))))).map aa.rowD),.sl true none 1 none (a0.seen.map (rowI .i64)),.sl true none 2 none (a0.deps.map ae.row),.sl true none 1 none (a0.committed.map (rowI .i64)),.sl true none 1 none (a0.aborted.map (rowI .i64)),.sl true none 1 none (a0.prepared.map (rowI .i64))]]) (by simp only [go_sem,seval]; rfl) (by first|(simp only [gi (row:=aa.rowD) (l:=l1) (i:=((v2).toNat)) (y:=(aa.mk x1.actor ((x1.txns.take ((r2).toNat))++((x1.txns.drop ((IntKind.i64.wrap (r2+1)).toNat)).take (x1.txns.length - (IntKind.i64.wrap (r2+1)).toNat))) ((x1.prepared.take ((r2).toNat))++((x1.prepared.drop ((IntKind.i64.wrap (r2+1)).toNat)).take (x1.prepared.length - (IntKind.i64.wrap (r2+1)).toNat))))) (rc:=[.val (.int .i64 x1.actor),.sl true none 1 none (((x1.txns.take ((r2).toNat))++((x1.txns.drop ((IntKind.i64.wrap (r2+1)).toNat)).take (x1.txns.length - (IntKind.i64.wrap (r2+1)).toNat))).map (rowI .i64)),.sl true none 1 none (((x1.prepared.take ((r2).toNat))++((x1.prepared.drop ((IntKind.i64.wrap (r2+1)).toNat)).take (x1.prepared.length - (IntKind.i64.wrap (r2+1)).toNat))).map rowB)]) rfl]; done)|(simp only [gi (row:=aa.rowD) (l:=l1) (i:=((v2).toNat)) (y:=(aa.mk x1.actor ((x1.txns.take ((r2).toNat))++((x1.txns.drop ((IntKind.i64.wrap (r2+1)).toNat)).take (x1.txns.length - (IntKind.i64.wrap (r2+1)).toNat))) ((x1.prepared.take ((r2).toNat))++((x1.prepared.drop ((IntKind.i64.wrap (r2+1)).toNat)).take (x1.prepared.length - (IntKind.i64.wrap (r2+1)).toNat))))) (rc:=[.val (.int .i64 x1.actor),.sl true none 1 none (((x1.txns.take ((r2).toNat))++((x1.txns.drop ((IntKind.i64.wrap (r2+1)).toNat)).take (x1.txns.length - (IntKind.i64.wrap (r2+1)).toNat))).map (rowI .i64)),.sl true none 1 none (((x1.prepared.take ((r2).toNat))++((x1.prepared.drop ((IntKind.i64.wrap (r2+1)).toNat)).take (x1.prepared.length - (IntKind.i64.wrap (r2+1)).toNat))).map rowB)]) rfl,List.map_append,List.map_cons,List.map_nil]<;>rfl)|(rw [<-gi (row:=aa.rowD) (l:=l1) (i:=((v2).toNat)) (y:=(aa.mk x1.actor ((x1.txns.take ((r2).toNat))++((x1.txns.drop ((IntKind.i64.wrap (r2+1)).toNat)).take (x1.txns.length - (IntKind.i64.wrap (r2+1)).toNat))) ((x1.prepared.take ((r2).toNat))++((x1.prepared.drop ((IntKind.i64.wrap (r2+1)).toNat)).take (x1.prepared.length - (IntKind.i64.wrap (r2+1)).toNat))))) (rc:=[.val (.int .i64 x1.actor),.sl true none 1 none (((x1.txns.take ((r2).toNat))++((x1.txns.drop ((IntKind.i64.wrap (r2+1)).toNat)).take (x1.txns.length - (IntKind.i64.wrap (r2+1)).toNat))).map (rowI .i64)),.sl true none 1 none (((x1.prepared.take ((r2).toNat))++((x1.prepared.drop ((IntKind.i64.wrap (r2+1)).toNat)).take (x1.prepared.length - (IntKind.i64.wrap (r2+1)).toNat))).map rowB)]) rfl]; simp only [List.map_append]<;>rfl))) ?_
 refine wr ?_ ?_<;>repeat' first|rfl|constructor
def ew (N:Nat):FnL:=⟨1,fun cs rest=>match cs,rest with
 | [v0],[c1]=>(varE 6 ac.decE v0).bind fun q0=>((decI .i64) c1).bind fun q1=>(dG N q0 q1).map fun r=>(.tup [],[.sl true none 6 (some 1) [ac.rowD r]])
 | _,_=>none,true⟩
attribute [go_sem] ew
theorem iG (N:Nat):FLOk Tryz.prog 46 (ew N):=by
 refine flOkP (Nat.succ_ne_zero _) ?_;intro cs rest r ls hlen h;simp only [ew] at h;split at h
 ·simp only [Option.bind_eq_some_iff,Option.map_eq_some_iff] at h;obtain ⟨q0,h0,q1,h1,r',hr,he⟩:=h;cases he;obtain rfl:=oz ac.decE_eq h0;exact ⟨ConL.restLe rfl ((LeL.cons (aw h1) (LeL.nil))) (ut N q0 q1 r' hr),rfl,PureIL.h⟩
 ·cases h


noncomputable def oX (N d f:Nat):Option FnS:=glist [(7,47,iR N)] d f
attribute [go_sem] oX
noncomputable def oQ (N d f:Nat):Option FnL:=llist [(11,46,ew N)] d f
attribute [go_sem] oQ
theorem tf (N:Nat) (a0:ac) (a1:Int) (r:Bool × ac) (h:fP N a0 a1=some r):ConL Tryz.prog 89 1 [.sl true none 6 (some 1) [ac.rowD a0],.val (.int .i64 a1)] (.val (.bool r.1)) [.sl true none 6 (some 1) [ac.rowD r.2]]:=by
 refine fD (G:=(oX N)) (L:=(oQ N)) Tryz.func89 rfl (by decide) (by kernel_rfl) 1 (by kernel_rfl) (gc 7 (lk N) gn) (lc 11 (iG N) ln) [] mix (Nat.le_of_ble_eq_true rfl) (Nat.le_of_ble_eq_true rfl) rfl rfl ?_;simp only [Tryz.f89];unfold fP at h;refine Ws fun Z hZ=>?_;simp only [go_sem,seval];refine hZ _ (pp (Wk_seq (Wk_seq ?_)));obtain ⟨r1,hr1,h⟩:=Option.bind_eq_some_iff.1 h;refine ai fun Z hZ=>?_;simp only [go_sem,seval,hr1];refine hZ _ (pp (bW rfl (fun hc2=>?_) (fun hc2=>?_)))
 ·rw [if_neg (ne_true_of_eq_false hc2)] at h;refine Ws fun Z hZ=>?_;simp only [go_sem,seval,hc2];refine hZ _ (pp (Wk_ret (pp ?_)));obtain rfl:=Option.some.inj h;refine dj (.inl rfl) (Weak.refl _) (by simp only [go_sem,seval]; rfl) (by simp only [go_sem,seval]; rfl) (by (try simp only [go_sem,seval]); first|exact Le.refl _|exact LeI.h) ?_;exact dn (by simp only [go_sem,seval]<;>rfl) (by simp only [go_sem,seval]<;>rfl) (el_nil)
 rw [if_pos hc2] at h;refine aj (pp (Wk_seq ?_));obtain ⟨r2,hr3,h⟩:=Option.bind_eq_some_iff.1 h;refine ai fun Z hZ=>?_;simp only [go_sem,seval,hc2,hr3];refine hZ _ (pp (Wk_seq ?_));obtain ⟨ha4,h⟩:=br h;simp only [List.length_cons,List.length_nil,Nat.zero_add,Nat.reduceAdd] at ha4;refine ai fun Z hZ=>?_;simp only [go_sem,seval,ha4];refine hZ _ (pp (Ws fun Z hZ=>?_));simp only [go_sem,seval];refine hZ _ (pp (Wk_ret (pp ?_)));obtain rfl:=Option.some.inj h;refine dj (.inl rfl) (Weak.refl _) (by simp only [go_sem,seval]; rfl) (by simp only [go_sem,seval]; rfl) (by (try simp only [go_sem,seval]); first|exact Le.refl _|exact LeI.h) ?_;exact dn (by simp only [go_sem,seval,Bool.or_self]<;>rfl) (by simp only [go_sem,seval]<;>rfl) (el_nil)
def i8 (N:Nat):FnL:=⟨1,fun cs rest=>match cs,rest with
 | [v0],[c1]=>(varE 6 ac.decE v0).bind fun q0=>((decI .i64) c1).bind fun q1=>(fP N q0 q1).map fun r=>(.val (.bool r.1),[.sl true none 6 (some 1) [ac.rowD r.2]])
 | _,_=>none,true⟩
attribute [go_sem] i8
theorem qT (N:Nat):FLOk Tryz.prog 89 (i8 N):=by
 refine flOkP (Nat.succ_ne_zero _) ?_;intro cs rest r ls hlen h;simp only [i8] at h;split at h
 ·simp only [Option.bind_eq_some_iff,Option.map_eq_some_iff] at h;obtain ⟨q0,h0,q1,h1,r',hr,he⟩:=h;cases he;obtain rfl:=oz ac.decE_eq h0;exact ⟨ConL.restLe rfl ((LeL.cons (aw h1) (LeL.nil))) (tf N q0 q1 r' hr),rfl,PureIL.h⟩
 ·cases h


theorem zi (N:Nat) (a0:(List Int)) (a1:Int) (r:(List Int)) (h:iK N a0 a1=some r):Con Tryz.prog 28 [true,false] true [.sl true none 1 none (a0.map (rowI .i64)),.val (.int .i64 a1)] (.sl true none 1 none (r.map (rowI .i64))):=by
 refine ql (G:=(glist [])) (L:=noL) Tryz.func28 rfl (by decide) (by kernel_rfl) gn (fun _ _ _ h=>by cases h) [] mix (Nat.le_of_ble_eq_true rfl) ?_;rw [show entryF [true,false] [.sl true none 1 none (a0.map (rowI .i64)),.val (.int .i64 a1)]=(updT (updT deadT 0 (.pal 0 [] 0 a0.length none)) 1 (.val (.int .i64 a1))) from by funext t; match t with|0=>simp [entryF,iS,viewD,updT]|1=>rfl|t+2=>rfl];rw [show R0 [true,false] [.sl true none 1 none (a0.map (rowI .i64)),.val (.int .i64 a1)]=upd RZ 0 (.sl true none 1 none (a0.map (rowI .i64))) from by funext t; match t with|0=>rfl|1=>rfl|t+2=>rfl];simp only [Tryz.f28];unfold iK at h;refine Ws fun Z hZ=>?_;simp only [go_sem,seval];refine hZ _ (pp (Ws fun Z hZ=>?_));simp only [go_sem,seval];refine hZ _ (pp (Wk_seq (ak (fQ (fun (b:Int)=>⟨tab 49 (updT (updT (updT deadT 0 (.pal 0 [] 0 a0.length none)) 1 (.val (.int .i64 a1))) 5 (.val (.int .i64 b))),(upd RZ 0 (.sl true none 1 none (a0.map (rowI .i64))))⟩) ((a0.length:Nat):Int) h ?_ ?_))))
 ·refine wr ?_ ?_<;>repeat' first|rfl|constructor
 rintro n v2 h -;cases n with
 | zero=>simp [iL] at h
 | succ n=>
 simp only [iL] at h;refine Wk_seq ?_;apply dc (fun (c8:Bool)=>⟨tab 49 (updT (updT (updT (updT deadT 0 (.pal 0 [] 0 a0.length none)) 1 (.val (.int .i64 a1))) 5 (.val (.int .i64 v2))) 19 (.val (.bool c8))),(upd RZ 0 (.sl true none 1 none (a0.map (rowI .i64))))⟩)
 ·intro hJ1;refine ai fun Z hZ=>?_;simp only [go_sem,seval];refine bn rfl (fun hc2=>?_) (fun hc2=>?_)
  ·have hc2d:=decide_eq_true hc2;rw [if_pos hc2] at h;obtain ⟨x9,hb3,hx4,h⟩:=aJ h;simp only [go_sem,seval,hc2d,hb3,hx4];refine hZ _ (pp (hJ1 _ (decide (a1<=x9)) ?_ h));refine wr ?_ ?_<;>repeat' first|rfl|constructor
  have hc2d:=decide_eq_false hc2;rw [if_neg hc2] at h;simp only [go_sem,seval,hc2d];refine hZ _ (pp (hJ1 _ false ?_ h));refine wr ?_ ?_<;>repeat' first|rfl|constructor
 intro c8 h;unfold mZ at h;refine ar rfl (fun hc5=>?_) (fun hc5=>?_)
 ·rw [if_pos hc5] at h;refine aj (pp (ak (ai fun Z hZ=>?_)));simp only [go_sem,seval,hc5];refine hZ _ (pp (⟨_,Nat.lt_succ_self _,(IntKind.i64.wrap (v2 - 1)),?_,h⟩));refine wr ?_ ?_<;>repeat' first|rfl|constructor
 rw [if_neg (ne_true_of_eq_false hc5)] at h;refine aP (pp ?_);unfold mV at h;refine Wk_seq ?_;apply dc (fun (c14:Bool)=>⟨tab 49 (updT (updT (updT (updT deadT 0 (.pal 0 [] 0 a0.length none)) 1 (.val (.int .i64 a1))) 5 (.val (.int .i64 v2))) 33 (.val (.bool c14))),(upd RZ 0 (.sl true none 1 none (a0.map (rowI .i64))))⟩)
 ·intro hJ6;refine ai fun Z hZ=>?_;simp only [go_sem,seval,hc5];refine bn rfl (fun hc7=>?_) (fun hc7=>?_)
  ·have hc7d:=decide_eq_true hc7;rw [if_pos hc7] at h;obtain ⟨x15,hb8,hx9,h⟩:=aJ h;simp only [go_sem,seval,hb8,hx9];refine hZ _ (pp (hJ6 _ (decide (x15=a1)) ?_ h));refine wr ?_ ?_<;>repeat' first|rfl|constructor
  have hc7d:=decide_eq_false hc7;rw [if_neg hc7] at h;simp only [go_sem,seval,hc7d];refine hZ _ (pp (hJ6 _ false ?_ h));refine wr ?_ ?_<;>repeat' first|rfl|constructor
 intro c14 h;unfold lI at h;refine ar rfl (fun hc10=>?_) (fun hc10=>?_)
 ·rw [if_pos hc10] at h;refine Ws fun Z hZ=>?_;simp only [go_sem,seval,hc10];refine hZ _ (pp (Wk_ret (pp ?_)));cases h;simp only [go_sem,seval,fA];exact ⟨_,rfl,RokI.h,KeepI.h,PureI.h⟩
 rw [if_neg (ne_true_of_eq_false hc10)] at h;refine aj (pp ?_);unfold lK at h;refine Wk_seq ?_;obtain ⟨hs11,h⟩:=gL h;try simp only [Int.toNat_natCast] at hs11 h
 first|obtain ⟨ha12,h⟩:=uZ h|(obtain ⟨ha12,h⟩:=br h; rw [List.nil_append] at h)
 simp only [Nat.reduceAdd] at ha12;refine ai fun Z hZ=>?_;simp only [go_sem,seval,hc10,hs11,Nat.zero_le,ha12];refine hZ _ (pp (Wk_seq ?_));obtain ⟨hs13,ht14,h⟩:=uz h;try simp only [Int.toNat_natCast] at hs13 ht14 h
 obtain ⟨ha15,h⟩:=br h;simp only [List.length_cons,List.length_nil,Nat.zero_add,Nat.reduceAdd] at ha15;obtain ⟨ha16,h⟩:=br h;simp only [List.length_append,List.length_cons,List.length_nil,Nat.zero_add,Nat.reduceAdd] at ha16;refine ai fun Z hZ=>?_;simp only [go_sem,seval,hs11,Nat.sub_zero,Nat.zero_le,Nat.le_refl,ha15,ha16];refine hZ _ (pp (Wk_ret (pp ?_)));cases h;simp only [go_sem,seval,fA];exact ⟨_,rfl,RokI.h,KeepI.h,PureI.h⟩
def ej (N:Nat):FnS:={ own:=[true,false],pure:=true,fn:=fun cs=>match cs with
 | [c0,c1]=>((decO 1 (dec1 (decI .i64))) c0).bind fun q0=>((decI .i64) c1).bind fun q1=>(iK N q0 q1).map fun r=>.sl true none 1 none (r.map (rowI .i64))
 | _=>none }
theorem uA (N:Nat):(ej N).own=[true,false]:=rfl
theorem tN (N:Nat):(ej N).pure=true:=rfl
theorem t8 (N:Nat):(ej N).peek=false:=rfl
attribute [go_sem] ej uA tN t8
theorem kY (N:Nat):FSOk Tryz.prog 28 (ej N):=by
 refine ⟨fun cs r h=>?_,fun h=>by cases h⟩;simp only [ej] at h;split at h
 ·simp only [Option.bind_eq_some_iff,Option.map_eq_some_iff] at h;obtain ⟨q0,h0,q1,h1,r',hr,rfl⟩:=h;exact (zi N q0 q1 r' hr).argsO rfl (m4 (qo (fq .i64) (aH .i64) h0) (qm (aw h1) (oc)))
 ·cases h


noncomputable def sI (N d f:Nat):Option FnS:=glist [(20,28,ej N),(34,29,aV N),(42,29,aV N),(51,28,ej N)] d f
attribute [go_sem] sI
theorem sK (N:Nat) (a0:(List ae)) (a1:(List Int)) (r:(List Int)) (h:eS N a0 a1=some r):Con Tryz.prog 9 [] true [.sl false none 2 none (a0.map ae.row),.sl false none 1 none (a1.map (rowI .i64))] (.sl true none 1 none (r.map (rowI .i64))):=by
 refine aT (G:=(sI N)) Tryz.func9 rfl (by decide) (by kernel_rfl) (gc 20 (kY N) (gc 34 (aR N) (gc 42 (aR N) (gc 51 (kY N) gn)))) [] mix (Nat.le_of_ble_eq_true rfl) ?_;simp only [Tryz.f9];unfold eS at h;refine Ws fun Z hZ=>?_;simp only [go_sem,seval];refine hZ _ (pp (Ws fun Z hZ=>?_));simp only [go_sem,seval];refine hZ _ (pp (Wk_seq (Ws fun Z hZ=>?_)));simp only [go_sem,seval];refine hZ _ (pp (ak (dE fun hreal2=>?_)));have hl1:=hreal2.lenT 1 (by decide) (by simp only [go_sem,seval]; rfl);first|rw [List.length_map] at hl1|rw [dD] at hl1|rw [<-List.map_append,List.length_map] at hl1
 refine dz (fun (v3:Nat) (b:List Int)=>⟨tab 53 (updT (updT (updT (updT deadT 0 (.sl false none 2 none (a0.map ae.row))) 1 (.sl false none 1 none (a1.map (rowI .i64)))) 5 (.pal 20 [] 0 b.length none)) 6 (.val (.int .i64 ((v3:Nat):Int)))),(upd RZ 20 (.sl true none 1 none (b.map (rowI .i64))))⟩) [] h ?_ ?_
 ·refine Weak.trans (lE 5 20 1 (by simp only [go_sem,seval]) (by simp only [go_sem,seval])) ?_;refine wr ?_ ?_<;>repeat' first|rfl|constructor
 rintro v3 l2 hi3 h -;rcases (bx a1 v3 hi3) with ⟨x6,hi3',hx4,hd6⟩|⟨hi3',_,hd6⟩
 ·rw [hd6] at h;simp only [jk] at h;have hw5:=bu hi3' hl1;refine Wk_seq (Ws fun Z hZ=>?_);simp only [go_sem,seval,hi3'];refine hZ _ (pp ?_);try simp only [Int.ofNat_lt,hi3',if_true,if_false] at h
  refine bp rfl (aj (pp (Wk_seq (ak ?_))));try rw [gx_nat hx4] at h
  obtain ⟨r9,hr7,h⟩:=Option.bind_eq_some_iff.1 h;refine ai fun Z hZ=>?_;simp only [go_sem,seval,hx4,hi3',hr7];refine hZ _ (pp (ai fun Z hZ=>?_));simp only [go_sem,seval,hw5];refine hZ _ (pp ?_);first|refine ⟨r9,?_,h⟩|refine ⟨hi3',r9,?_,h⟩
  refine wr ?_ ?_<;>repeat' first|rfl|constructor
 rw [hd6] at h;simp only [jk] at h;refine Wk_seq (Ws fun Z hZ=>?_);simp only [go_sem,seval,hi3'];refine hZ _ (pp ?_);try simp only [Int.ofNat_lt,hi3',if_true,if_false] at h
 refine a8 rfl (aP (pp ?_));unfold mD at h;refine Wk_seq (Ws fun Z hZ=>?_);simp only [go_sem,seval];refine hZ _ (pp (ak (fQ (fun (b:List Int × Bool)=>⟨tab 53 (updT (updT (updT deadT 0 (.sl false none 2 none (a0.map ae.row))) 5 (.pal 20 [] 0 b.1.length none)) 7 (.val (.bool b.2))),(upd RZ 20 (.sl true none 1 none (b.1.map (rowI .i64))))⟩) (l2,true) h ?_ ?_)))
 ·refine wr ?_ ?_<;>repeat' first|rfl|constructor
 rintro n ⟨l12,c13⟩ h -;cases n with
 | zero=>simp [fB] at h
 | succ n=>
 simp only [fB] at h;refine Wk_seq (Ws fun Z hZ=>?_);simp only [go_sem,seval];refine hZ _ (pp (sw (ar rfl) (fun hc8=>?_) (fun hc8=>?_)))
 ·rw [if_neg (ne_true_of_eq_false hc8)] at h;refine aP (pp (Ws fun Z hZ=>?_));simp only [go_sem,seval,hc8];refine hZ _ (pp (Wk_ret (pp ?_)));cases h;simp only [go_sem,seval];exact ⟨_,rfl,RokI.h,PureI.h⟩
 rw [if_pos hc8] at h;refine aj (pp (ak (Ws fun Z hZ=>?_)));simp only [go_sem,seval,hc8];refine hZ _ (pp (Ws fun Z hZ=>?_));simp only [go_sem,seval];refine hZ _ (pp (ak (dE fun hreal10=>?_)));have hl9:=hreal10.lenT 0 (by decide) (by simp only [go_sem,seval]; rfl);first|rw [List.length_map] at hl9|rw [dD] at hl9|rw [<-List.map_append,List.length_map] at hl9
 refine dz (fun (v18:Nat) (b:List Int × Bool)=>⟨tab 53 (updT (updT (updT (updT deadT 0 (.sl false none 2 none (a0.map ae.row))) 5 (.pal 20 [] 0 b.1.length none)) 7 (.val (.bool b.2))) 8 (.val (.int .i64 ((v18:Nat):Int)))),(upd RZ 20 (.sl true none 1 none (b.1.map (rowI .i64))))⟩) (l12,false) h ?_ ?_
 ·refine wr ?_ ?_<;>repeat' first|rfl|constructor
 rintro v18 ⟨l16,c17⟩ hi11 h -;rcases (bx a0 v18 hi11).symm with ⟨hi11',_,hd14⟩|⟨x21,hi11',hx12,hd14⟩
 ·rw [hd14] at h;simp only [fy] at h;refine Wk_seq (Ws fun Z hZ=>?_);simp only [go_sem,seval,hi11'];refine hZ _ (pp ?_);try simp only [Int.ofNat_lt,hi3',hi11',if_true,if_false] at h
  refine a8 rfl (aP (pp (⟨_,Nat.lt_succ_self _,(l16,c17),?_,h⟩)));refine wr ?_ ?_<;>repeat' first|rfl|constructor
 rw [hd14] at h;simp only [fy] at h;have hw13:=bu hi11' hl9;refine Wk_seq (Ws fun Z hZ=>?_);simp only [go_sem,seval,hi11'];refine hZ _ (pp ?_);try simp only [Int.ofNat_lt,hi3',hi11',if_true,if_false] at h
 refine bp rfl (aj (pp (Wk_seq (ak ?_))));apply dc (fun (c12:Bool)=>⟨tab 53 (updT (updT (updT (updT (updT deadT 0 (.sl false none 2 none (a0.map ae.row))) 5 (.pal 20 [] 0 l16.length none)) 7 (.val (.bool c17))) 8 (.val (.int .i64 ((v18:Nat):Int)))) 44 (.val (.bool c12))),(upd RZ 20 (.sl true none 1 none (l16.map (rowI .i64))))⟩)
 ·intro hJ15;try rw [gx_nat hx12] at h
  obtain ⟨r13,hr16,h⟩:=Option.bind_eq_some_iff.1 h;refine ai fun Z hZ=>?_;simp only [go_sem,seval,hx12,hi11',hr16];refine bI rfl (fun hc17=>?_) (fun hc17=>?_)
  ·rw [if_pos hc17] at h;try rw [gx_nat hx12] at h
   obtain ⟨r14,hr18,h⟩:=Option.bind_eq_some_iff.1 h;simp only [go_sem,seval,hx12,hi11',hc17,hr18];refine hZ _ (pp (hJ15 _ (!r14) ?_ h));refine wr ?_ ?_<;>repeat' first|rfl|constructor
  rw [if_neg (ne_true_of_eq_false hc17)] at h;simp only [go_sem,seval,hc17];refine hZ _ (pp (hJ15 _ false ?_ h));refine wr ?_ ?_<;>repeat' first|rfl|constructor
 intro c12 h;unfold jo at h;refine sw (ar rfl) (fun hc19=>?_) (fun hc19=>?_)
 ·rw [if_neg (ne_true_of_eq_false hc19)] at h;refine aj (pp (ai fun Z hZ=>?_));simp only [go_sem,seval,hw13,hc19];refine hZ _ (pp ?_);first|refine ⟨(l16,c17),?_,h⟩|refine ⟨hi11',(l16,c17),?_,h⟩
  refine wr ?_ ?_<;>repeat' first|rfl|constructor
 rw [if_pos hc19] at h;refine Wk_seq ?_;try rw [gx_nat hx12] at h
 obtain ⟨r15,hr20,h⟩:=Option.bind_eq_some_iff.1 h;refine ai fun Z hZ=>?_;simp only [go_sem,seval,hx12,hi11',hc19,hr20];refine hZ _ (pp (ai fun Z hZ=>?_));simp only [go_sem,seval];refine hZ _ (pp (ai fun Z hZ=>?_));simp only [go_sem,seval,hw13];refine hZ _ (pp ?_);first|refine ⟨(r15,true),?_,h⟩|refine ⟨hi11',(r15,true),?_,h⟩
 refine Weak.trans (ta 5 51 20 (by decide) (by decide) (by simp only [go_sem,seval]) (by simp only [go_sem,seval]; rfl) (by simp only [go_sem,seval]; rfl) (by first|(simp; done)|simp only [go_sem,seval,Bool.or_self,List.length_set,Int.natCast_zero,Int.cast_ofNat_Int,hi3',hc8,hx12,hi11',hw13,hc19,hr20])) ?_;refine wr ?_ ?_<;>repeat' first|rfl|constructor
def kQ (N:Nat):FnS:=⟨[],true,fn2 (decL 2 ae.dec) (decL 1 (dec1 (decI .i64))) fun q0 q1=>(eS N q0 q1).map fun r=>.sl false none 1 none (r.map (rowI .i64)),false⟩
attribute [go_sem] kQ
theorem mU (N:Nat):FSOk Tryz.prog 9 (kQ N):=ok2 (fun q0 q1 r h=>by
 obtain ⟨r',hr,rfl⟩:=Option.map_eq_some_iff.1 h;exact (sK N q0 q1 r' hr).res (by (try simp only [go_sem]); exact RokI.h)) (fun h=>aq ae.dec_le h) (fun h=>aq (aH .i64) h)

def rk (N:Nat):FnS:=⟨[],true,fn2 (decL 2 ae.dec) (decL 1 (dec1 (decI .i64))) fun q0 q1=>(eS N q0 q1).map fun r=>.sl true none 1 none (r.map (rowI .i64)),false⟩
attribute [go_sem] rk
theorem CZ (N:Nat):FSOk Tryz.prog 9 (rk N):=ok2 (fun q0 q1 r h=>by
 obtain ⟨r',hr,rfl⟩:=Option.map_eq_some_iff.1 h;exact sK N q0 q1 r' hr) (fun h=>aq ae.dec_le h) (fun h=>aq (aH .i64) h)


noncomputable def pz (N d f:Nat):Option FnS:=glist [(12,9,kQ N),(27,29,aV N),(38,29,aV N)] d f
attribute [go_sem] pz
noncomputable def pw (N d f:Nat):Option FnL:=llist [(46,46,ew N)] d f
attribute [go_sem] pw
theorem tE (N:Nat) (a0:ac) (a1:Int) (r:ac) (h:gh N a0 a1=some r):ConL Tryz.prog 90 1 [.sl true none 6 (some 1) [ac.rowD a0],.val (.int .i64 a1)] (.tup []) [.sl true none 6 (some 1) [ac.rowD r]]:=by
 refine fD (G:=(pz N)) (L:=(pw N)) Tryz.func90 rfl (by decide) (by kernel_rfl) 1 (by kernel_rfl) (gc 12 (mU N) (gc 27 (aR N) (gc 38 (aR N) gn))) (lc 46 (iG N) ln) [] mix (Nat.le_of_ble_eq_true rfl) (Nat.le_of_ble_eq_true rfl) rfl rfl ?_;simp only [Tryz.f90];unfold gh at h;refine Wk_seq ?_;obtain ⟨r1,hr1,h⟩:=Option.bind_eq_some_iff.1 h;refine ai fun Z hZ=>?_;simp only [go_sem,seval,hr1];refine hZ _ (pp (Ws fun Z hZ=>?_));simp only [go_sem,seval];refine hZ _ (pp (ak (dE fun hreal3=>?_)));have hl2:=hreal3.lenT 4 (by decide) (by simp only [go_sem,seval]; rfl);first|rw [List.length_map] at hl2|rw [dD] at hl2|rw [<-List.map_append,List.length_map] at hl2
 refine dz (fun (v8:Nat) (b:List aa × List Int × List ae × List Int × List Int × List Int)=>⟨tab 60 (updT (updT (updT deadT 0 (.pref 0 [] 0 0)) 4 (.sl false none 1 none (r1.map (rowI .i64)))) 5 (.val (.int .i64 ((v8:Nat):Int)))),(upd RZ 0 (.sl true none 6 (some 1) [[.sl true none 3 none (b.1.map aa.rowD),.sl true none 1 none (b.2.1.map (rowI .i64)),.sl true none 2 none (b.2.2.1.map ae.row),.sl true none 1 none (b.2.2.2.1.map (rowI .i64)),.sl true none 1 none (b.2.2.2.2.1.map (rowI .i64)),.sl true none 1 none (b.2.2.2.2.2.map (rowI .i64))]]))⟩) (a0.piles,a0.seen,a0.deps,a0.committed,a0.aborted,a0.prepared) h ?_ ?_
 ·refine wr ?_ ?_<;>repeat' first|rfl|constructor|simp only [go_sem,seval,Bool.or_self,List.length_set,Int.natCast_zero,Int.cast_ofNat_Int,hr1]
 rintro v8 ⟨l2,l3,l4,l5,l6,l7⟩ hi4 h -;rcases (bx r1 v8 hi4).symm with ⟨hi4',_,hd7⟩|⟨x11,hi4',hx5,hd7⟩
 ·rw [hd7] at h;simp only [b8] at h;refine Wk_seq (Ws fun Z hZ=>?_);simp only [go_sem,seval,hi4'];refine hZ _ (pp ?_);try simp only [Int.ofNat_lt,hi4',if_true,if_false] at h
  refine a8 rfl (aP (pp ?_));obtain rfl:=Option.some.inj h;refine dj (.inr rfl) (Weak.refl _) (by simp only [go_sem,seval]; rfl) (by simp only [go_sem,seval]; rfl) (by (try simp only [go_sem,seval]); first|exact Le.refl _|exact LeI.h) ?_;exact dn (by simp only [go_sem,seval]<;>rfl) (by simp only [go_sem,seval]<;>rfl) (el_nil)
 rw [hd7] at h;simp only [b8] at h;have hw6:=bu hi4' hl2;refine Wk_seq (Ws fun Z hZ=>?_);simp only [go_sem,seval,hi4'];refine hZ _ (pp ?_);try simp only [Int.ofNat_lt,hi4',if_true,if_false] at h
 refine bp rfl (aj (pp (Wk_seq (ak ?_))));apply dc (fun (c4:Bool)=>⟨tab 60 (updT (updT (updT (updT deadT 0 (.pref 0 [] 0 0)) 4 (.sl false none 1 none (r1.map (rowI .i64)))) 5 (.val (.int .i64 ((v8:Nat):Int)))) 40 (.val (.bool c4))),(upd RZ 0 (.sl true none 6 (some 1) [[.sl true none 3 none (l2.map aa.rowD),.sl true none 1 none (l3.map (rowI .i64)),.sl true none 2 none (l4.map ae.row),.sl true none 1 none (l5.map (rowI .i64)),.sl true none 1 none (l6.map (rowI .i64)),.sl true none 1 none (l7.map (rowI .i64))]]))⟩)
 ·intro hJ8;try rw [gx_nat hx5] at h
  obtain ⟨r5,hr9,h⟩:=Option.bind_eq_some_iff.1 h;refine da fun Z hZ=>?_;simp only [go_sem,seval,hx5,hi4',hr9];repeat with_reducible refine dR (by kernel_rfl) ?_
  refine eV rfl (fun hc10=>?_) (fun hc10=>?_)
  ·rw [if_neg (ne_true_of_eq_false hc10)] at h;try rw [gx_nat hx5] at h
   obtain ⟨r6,hr11,h⟩:=Option.bind_eq_some_iff.1 h;simp only [go_sem,seval,hx5,hi4',hc10,hr11];repeat with_reducible refine dR (by kernel_rfl) ?_
   refine hZ _ (by kernel_rfl) (pp (hJ8 _ (!r6) ?_ h));refine wr ?_ ?_<;>repeat' first|rfl|constructor|simp only [go_sem,seval,Bool.or_self,List.length_set,Int.natCast_zero,Int.cast_ofNat_Int,hr1,hx5,hi4',hw6,hr9,hc10,hr11]
  rw [if_pos hc10] at h;simp only [go_sem,seval,hc10];refine hZ _ (by kernel_rfl) (pp (hJ8 _ false ?_ h));refine wr ?_ ?_<;>repeat' first|rfl|constructor|simp only [go_sem,seval,Bool.or_self,List.length_set,Int.natCast_zero,Int.cast_ofNat_Int,hr1,hx5,hi4',hw6,hr9,hc10]
 intro c4 h;unfold jE at h;refine sw (ar rfl) (fun hc12=>?_) (fun hc12=>?_)
 ·rw [if_neg (ne_true_of_eq_false hc12)] at h;refine aj (pp (ai fun Z hZ=>?_));simp only [go_sem,seval,hw6,hc12];refine hZ _ (pp ?_);first|refine ⟨(l2,l3,l4,l5,l6,l7),?_,h⟩|refine ⟨hi4',(l2,l3,l4,l5,l6,l7),?_,h⟩
  refine wr ?_ ?_<;>repeat' first|rfl|constructor|simp only [go_sem,seval,Bool.or_self,List.length_set,Int.natCast_zero,Int.cast_ofNat_Int,hr1,hx5,hi4',hw6,hc12]
 rw [if_pos hc12] at h;refine Wk_seq ?_;try rw [gx_nat hx5] at h
 obtain ⟨r7,hr13,h⟩:=Option.bind_eq_some_iff.1 h;refine ai fun Z hZ=>?_;simp only [go_sem,seval,hx5,hi4',hc12,hr13];refine hZ _ (pp ?_);try rw [gx_nat hx5] at h
 refine ed [0,1,2,3,4,5,6,7,8] [9] [] [10,11,12,13] [] (by kernel_rfl) fun Z hZ Y hY=>?_;simp only [go_sem,seval,hx5,hi4'];refine hY _ (by kernel_rfl) (ba (by kernel_rfl) fun Y hY=>?_);simp only [go_sem,seval];refine hY _ (by kernel_rfl) (jW ?_);obtain ⟨ha14,h⟩:=br h;simp only [List.length_cons,List.length_nil,Nat.zero_add,Nat.reduceAdd] at ha14;simp only [go_sem,seval,ha14];refine hZ _ (pp (ai fun Z hZ=>?_));simp only [go_sem,seval,hw6];refine hZ _ (pp ?_);first|refine ⟨(r7.piles,r7.seen,r7.deps,r7.committed,(r7.aborted++[x11]),r7.prepared),?_,h⟩|refine ⟨hi4',(r7.piles,r7.seen,r7.deps,r7.committed,(r7.aborted++[x11]),r7.prepared),?_,h⟩
 refine wr ?_ ?_<;>repeat' first|rfl|constructor|simp only [go_sem,seval]
def jA (N:Nat):FnL:=⟨1,fun cs rest=>match cs,rest with
 | [v0],[c1]=>(varE 6 ac.decE v0).bind fun q0=>((decI .i64) c1).bind fun q1=>(gh N q0 q1).map fun r=>(.tup [],[.sl true none 6 (some 1) [ac.rowD r]])
 | _,_=>none,true⟩
attribute [go_sem] jA
theorem rD (N:Nat):FLOk Tryz.prog 90 (jA N):=by
 refine flOkP (Nat.succ_ne_zero _) ?_;intro cs rest r ls hlen h;simp only [jA] at h;split at h
 ·simp only [Option.bind_eq_some_iff,Option.map_eq_some_iff] at h;obtain ⟨q0,h0,q1,h1,r',hr,he⟩:=h;cases he;obtain rfl:=oz ac.decE_eq h0;exact ⟨ConL.restLe rfl ((LeL.cons (aw h1) (LeL.nil))) (tE N q0 q1 r' hr),rfl,PureIL.h⟩
 ·cases h


noncomputable def pX (N d f:Nat):Option FnS:=glist [(8,86,kO N),(17,29,aV N),(26,29,aV N),(34,86,kO N),(44,86,kO N),(79,29,aV N)] d f
attribute [go_sem] pX
noncomputable def pZ (N d f:Nat):Option FnL:=llist [(38,87,jP N),(48,88,iM N),(59,89,i8 N),(70,90,jA N)] d f
attribute [go_sem] pZ
theorem uk (N:Nat) (a0:ac) (a1:ah) (r:Bool × ac) (h:fG N a0 a1=some r):ConL Tryz.prog 60 1 [.sl true none 6 (some 1) [ac.rowD a0],.agg (ah.row a1)] (.val (.bool r.1)) [.sl true none 6 (some 1) [ac.rowD r.2]]:=by
 refine fD (G:=(pX N)) (L:=(pZ N)) Tryz.func60 rfl (by decide) (by kernel_rfl) 1 (by kernel_rfl) (gc 8 (mT N) (gc 17 (aR N) (gc 26 (aR N) (gc 34 (mT N) (gc 44 (mT N) (gc 79 (aR N) gn)))))) (lc 38 (rV N) (lc 48 (qR N) (lc 59 (qT N) (lc 70 (rD N) ln)))) [] mix (Nat.le_of_ble_eq_true rfl) (Nat.le_of_ble_eq_true rfl) rfl rfl ?_;simp only [Tryz.f60];unfold fG at h;refine Ws fun Z hZ=>?_;simp only [go_sem,seval];refine hZ _ (pp (Wk_seq ?_));apply dc (fun (c9:Bool)=>⟨tab 94 (updT (updT (updT deadT 0 (.pref 0 [] 0 0)) 3 (.pref 3 [] 0 0)) 27 (.val (.bool c9))),(upd (upd RZ 0 (.sl true none 6 (some 1) [[.sl true none 3 none (a0.piles.map aa.rowD),.sl true none 1 none (a0.seen.map (rowI .i64)),.sl true none 2 none (a0.deps.map ae.row),.sl true none 1 none (a0.committed.map (rowI .i64)),.sl true none 1 none (a0.aborted.map (rowI .i64)),.sl true none 1 none (a0.prepared.map (rowI .i64))]])) 3 (.sl true none 3 (some 1) [ah.row a1]))⟩)
 ·intro hJ1;obtain ⟨r10,hr2,h⟩:=Option.bind_eq_some_iff.1 h;refine da fun Z hZ=>?_;simp only [go_sem,seval,hr2];repeat with_reducible refine dR (by kernel_rfl) ?_
  refine eV rfl (fun hc3=>?_) (fun hc3=>?_)
  ·rw [if_neg (ne_true_of_eq_false hc3)] at h;simp only [go_sem,seval,hc3];refine hZ _ (by kernel_rfl) (pp (hJ1 _ true ?_ h));refine wr ?_ ?_<;>repeat' first|rfl|constructor|simp only [go_sem,seval,Bool.or_self,List.length_set,Int.natCast_zero,Int.cast_ofNat_Int,hr2,hc3]
  rw [if_pos hc3] at h;obtain ⟨r11,hr4,h⟩:=Option.bind_eq_some_iff.1 h;simp only [go_sem,seval,hc3,hr4];repeat with_reducible refine dR (by kernel_rfl) ?_
  refine bI rfl (fun hc5=>?_) (fun hc5=>?_)
  ·rw [if_pos hc5] at h;simp only [go_sem,seval,hc5];refine hZ _ (by kernel_rfl) (pp (hJ1 _ true ?_ h));refine wr ?_ ?_<;>repeat' first|rfl|constructor|simp only [go_sem,seval,Bool.or_self,List.length_set,Int.natCast_zero,Int.cast_ofNat_Int,hr2,hc3,hr4,hc5]
  rw [if_neg (ne_true_of_eq_false hc5)] at h;obtain ⟨r12,hr6,h⟩:=Option.bind_eq_some_iff.1 h;simp only [go_sem,seval,hc5,hr6];repeat with_reducible refine dR (by kernel_rfl) ?_
  refine hZ _ (by kernel_rfl) (pp (hJ1 _ r12 ?_ h));refine wr ?_ ?_<;>repeat' first|rfl|constructor|simp only [go_sem,seval,Bool.or_self,List.length_set,Int.natCast_zero,Int.cast_ofNat_Int,hr2,hc3,hr4,hc5,hr6]
 intro c9 h;unfold dQ at h;refine ar rfl (fun hc7=>?_) (fun hc7=>?_)
 ·rw [if_pos hc7] at h;refine Ws fun Z hZ=>?_;simp only [go_sem,seval,hc7];refine hZ _ (pp (Wk_ret (pp ?_)));obtain rfl:=Option.some.inj h;refine dj (.inl rfl) (Weak.refl _) (by simp only [go_sem,seval]; rfl) (by simp only [go_sem,seval]; rfl) (by (try simp only [go_sem,seval]); first|exact Le.refl _|exact LeI.h) ?_;exact dn (by simp only [go_sem,seval]<;>rfl) (by simp only [go_sem,seval]<;>rfl) (el_nil)
 rw [if_neg (ne_true_of_eq_false hc7)] at h;refine aj (pp ?_);unfold iq at h;refine Ws fun Z hZ=>?_;simp only [go_sem,seval,hc7];refine hZ _ (pp ?_);apply Fc (fun (l19:List aa) (l20:List Int) (l21:List ae) (l22:List Int) (l23:List Int) (l24:List Int) (c25:Bool)=>⟨tab 94 (updT (updT (updT deadT 0 (.pref 0 [] 0 0)) 3 (.pref 3 [] 0 0)) 5 (.val (.bool c25))),(upd (upd RZ 0 (.sl true none 6 (some 1) [[.sl true none 3 none (l19.map aa.rowD),.sl true none 1 none (l20.map (rowI .i64)),.sl true none 2 none (l21.map ae.row),.sl true none 1 none (l22.map (rowI .i64)),.sl true none 1 none (l23.map (rowI .i64)),.sl true none 1 none (l24.map (rowI .i64))]])) 3 (.sl true none 3 (some 1) [ah.row a1]))⟩)
 ·intro hJ8;refine Ws fun Z hZ=>?_;simp only [go_sem,seval];refine hZ _ (pp (ak (Ws fun Z hZ=>?_)));simp only [go_sem,seval];refine hZ _ (pp (am rfl (fun hc9=>?_) (fun hc9=>?_)))
  ·have hc9d:=decide_eq_true hc9;rw [if_pos hc9] at h;obtain ⟨r26,hr10,h⟩:=Option.bind_eq_some_iff.1 h;refine ai fun Z hZ=>?_;simp only [go_sem,seval,hc9d,hr10];refine bI rfl (fun hc11=>?_) (fun hc11=>?_)
   ·rw [if_pos hc11] at h;obtain ⟨r27,hr12,h⟩:=Option.bind_eq_some_iff.1 h;simp only [go_sem,seval,hc11,hr12];refine hZ _ (pp (hJ8 _ r27.2.piles r27.2.seen r27.2.deps r27.2.committed r27.2.aborted r27.2.prepared r27.1 ?_ h));refine wr ?_ ?_<;>repeat' first|rfl|constructor|simp only [go_sem,seval,Bool.or_self,List.length_set,Int.natCast_zero,Int.cast_ofNat_Int,hc7,hc9d,hr10,hc11,hr12]
   rw [if_neg (ne_true_of_eq_false hc11)] at h;simp only [go_sem,seval,hc11];refine hZ _ (pp (hJ8 _ a0.piles a0.seen a0.deps a0.committed a0.aborted a0.prepared false ?_ h));refine wr ?_ ?_<;>repeat' first|rfl|constructor|simp only [go_sem,seval,Bool.or_self,List.length_set,Int.natCast_zero,Int.cast_ofNat_Int,hc7,hc9d,hr10,hc11]
  have hc9d:=decide_eq_false hc9;rw [if_neg hc9] at h;refine Ws fun Z hZ=>?_;simp only [go_sem,seval,hc9d];refine hZ _ (pp (am rfl (fun hc13=>?_) (fun hc13=>?_)))
  ·have hc13d:=decide_eq_true hc13;rw [if_pos hc13] at h;obtain ⟨r28,hr14,h⟩:=Option.bind_eq_some_iff.1 h;refine ai fun Z hZ=>?_;simp only [go_sem,seval,hc13d,hr14];refine bI rfl (fun hc15=>?_) (fun hc15=>?_)
   ·rw [if_pos hc15] at h;obtain ⟨r29,hr16,h⟩:=Option.bind_eq_some_iff.1 h;simp only [go_sem,seval,hc15,hr16];refine hZ _ (pp (hJ8 _ r29.2.piles r29.2.seen r29.2.deps r29.2.committed r29.2.aborted r29.2.prepared r29.1 ?_ h));refine wr ?_ ?_<;>repeat' first|rfl|constructor|simp only [go_sem,seval,Bool.or_self,List.length_set,Int.natCast_zero,Int.cast_ofNat_Int,hc7,hc9d,hc13d,hr14,hc15,hr16]
   rw [if_neg (ne_true_of_eq_false hc15)] at h;simp only [go_sem,seval,hc15];refine hZ _ (pp (hJ8 _ a0.piles a0.seen a0.deps a0.committed a0.aborted a0.prepared false ?_ h));refine wr ?_ ?_<;>repeat' first|rfl|constructor|simp only [go_sem,seval,Bool.or_self,List.length_set,Int.natCast_zero,Int.cast_ofNat_Int,hc7,hc9d,hc13d,hr14,hc15]
  have hc13d:=decide_eq_false hc13;rw [if_neg hc13] at h;refine Ws fun Z hZ=>?_;simp only [go_sem,seval,hc13d];refine hZ _ (pp (am rfl (fun hc17=>?_) (fun hc17=>?_)))
  ·have hc17d:=decide_eq_true hc17;rw [if_pos hc17] at h;refine ai fun Z hZ=>?_;simp only [go_sem,seval,hc17d];refine bn rfl (fun hc18=>?_) (fun hc18=>?_)
   ·have hc18d:=decide_eq_true hc18;rw [if_pos hc18] at h;obtain ⟨r30,hr19,h⟩:=Option.bind_eq_some_iff.1 h;simp only [go_sem,seval,hc18d,hr19];refine hZ _ (pp (hJ8 _ r30.2.piles r30.2.seen r30.2.deps r30.2.committed r30.2.aborted r30.2.prepared r30.1 ?_ h));refine wr ?_ ?_<;>repeat' first|rfl|constructor|simp only [go_sem,seval,Bool.or_self,List.length_set,Int.natCast_zero,Int.cast_ofNat_Int,hc7,hc9d,hc13d,hc17d,hc18d,hr19]
   have hc18d:=decide_eq_false hc18;rw [if_neg hc18] at h;simp only [go_sem,seval,hc18d];refine hZ _ (pp (hJ8 _ a0.piles a0.seen a0.deps a0.committed a0.aborted a0.prepared false ?_ h));refine wr ?_ ?_<;>repeat' first|rfl|constructor|simp only [go_sem,seval,Bool.or_self,List.length_set,Int.natCast_zero,Int.cast_ofNat_Int,hc7,hc9d,hc13d,hc17d,hc18d]
  have hc17d:=decide_eq_false hc17;rw [if_neg hc17] at h;refine Ws fun Z hZ=>?_;simp only [go_sem,seval,hc17d];refine hZ _ (pp (sw (am rfl) (fun hc20=>?_) (fun hc20=>?_)))
  ·have hc20d:=decide_eq_false hc20;rw [if_neg hc20] at h;refine aj (pp (hJ8 _ a0.piles a0.seen a0.deps a0.committed a0.aborted a0.prepared false ?_ h));refine wr ?_ ?_<;>repeat' first|rfl|constructor|simp only [go_sem,seval,Bool.or_self,List.length_set,Int.natCast_zero,Int.cast_ofNat_Int,hc7,hc9d,hc13d,hc17d,hc20d]
  have hc20d:=decide_eq_true hc20;rw [if_pos hc20] at h;refine Ws fun Z hZ=>?_;simp only [go_sem,seval,hc20d];refine hZ _ (pp (Ws fun Z hZ=>?_));simp only [go_sem,seval];refine hZ _ (pp (am rfl (fun hc21=>?_) (fun hc21=>?_)))
  ·have hc21d:=decide_eq_true hc21;rw [if_pos hc21] at h;obtain ⟨r31,hr22,h⟩:=Option.bind_eq_some_iff.1 h;refine ai fun Z hZ=>?_;simp only [go_sem,seval,hc21d,hr22];refine hZ _ (pp (hJ8 _ r31.piles r31.seen r31.deps r31.committed r31.aborted r31.prepared true ?_ h));refine wr ?_ ?_<;>repeat' first|rfl|constructor|simp only [go_sem,seval,Bool.or_self,List.length_set,Int.natCast_zero,Int.cast_ofNat_Int,hc7,hc9d,hc13d,hc17d,hc20d,hc21d,hr22]
  have hc21d:=decide_eq_false hc21;rw [if_neg hc21] at h;refine aj (pp (hJ8 _ a0.piles a0.seen a0.deps a0.committed a0.aborted a0.prepared false ?_ h));refine wr ?_ ?_<;>repeat' first|rfl|constructor|simp only [go_sem,seval,hc21d]
 intro l19 l20 l21 l22 l23 l24 c25 h;unfold aN at h;refine Wk_seq ?_;apply pd (fun (c33:Bool) (c34:Bool)=>⟨tab 94 (updT (updT (updT (updT deadT 0 (.pref 0 [] 0 0)) 3 (.pref 3 [] 0 0)) 5 (.val (.bool c33))) 81 (.val (.bool c34))),(upd (upd RZ 0 (.sl true none 6 (some 1) [[.sl true none 3 none (l19.map aa.rowD),.sl true none 1 none (l20.map (rowI .i64)),.sl true none 2 none (l21.map ae.row),.sl true none 1 none (l22.map (rowI .i64)),.sl true none 1 none (l23.map (rowI .i64)),.sl true none 1 none (l24.map (rowI .i64))]])) 3 (.sl true none 3 (some 1) [ah.row a1]))⟩)
 ·intro hJ23;refine da fun Z hZ=>?_;simp only [go_sem,seval];refine bI rfl (fun hc24=>?_) (fun hc24=>?_)
  ·rw [if_pos hc24] at h;obtain ⟨r35,hr25,h⟩:=Option.bind_eq_some_iff.1 h;simp only [go_sem,seval,hc24,hr25];repeat with_reducible refine dR (by kernel_rfl) ?_
   refine hZ _ (by kernel_rfl) (pp (hJ23 _ true (!r35) ?_ h));refine wr ?_ ?_<;>repeat' first|rfl|constructor|simp only [go_sem,seval,Bool.or_self,List.length_set,Int.natCast_zero,Int.cast_ofNat_Int,hc7,hc24,hr25]
  rw [if_neg (ne_true_of_eq_false hc24)] at h;simp only [go_sem,seval,hc24];refine hZ _ (by kernel_rfl) (pp (hJ23 _ false false ?_ h));refine wr ?_ ?_<;>repeat' first|rfl|constructor|simp only [go_sem,seval,Bool.or_self,List.length_set,Int.natCast_zero,Int.cast_ofNat_Int,hc7,hc24]
 intro c33 c34 h;unfold im at h;refine sw (ar rfl) (fun hc26=>?_) (fun hc26=>?_)
 ·rw [if_neg (ne_true_of_eq_false hc26)] at h;refine aj (pp (Ws fun Z hZ=>?_));simp only [go_sem,seval,hc26];refine hZ _ (pp (Wk_ret (pp ?_)));obtain rfl:=Option.some.inj h;refine dj (.inl rfl) (Weak.refl _) (by simp only [go_sem,seval]; rfl) (by simp only [go_sem,seval]; rfl) (by (try simp only [go_sem,seval]); first|exact Le.refl _|exact LeI.h) ?_;exact dn (by simp only [go_sem,seval]<;>rfl) (by simp only [go_sem,seval]<;>rfl) (el_nil)
 rw [if_pos hc26] at h;refine ed [0,1,2,3,4,5,6] [7] [] [8,9,10,11] [] (by kernel_rfl) fun Z hZ Y hY=>?_;simp only [go_sem,seval,hc26];refine hY _ (by kernel_rfl) (ba (by kernel_rfl) fun Y hY=>?_);simp only [go_sem,seval];refine hY _ (by kernel_rfl) (jW ?_);obtain ⟨ha27,h⟩:=br h;simp only [List.length_cons,List.length_nil,Nat.zero_add,Nat.reduceAdd] at ha27;simp only [go_sem,seval,ha27];refine hZ _ (pp (Ws fun Z hZ=>?_));simp only [go_sem,seval];refine hZ _ (pp (Wk_ret (pp ?_)));obtain rfl:=Option.some.inj h;refine dj (.inl rfl) (Weak.refl _) (by simp only [go_sem,seval]; rfl) (by simp only [go_sem,seval]; rfl) (by (try simp only [go_sem,seval]); first|exact Le.refl _|exact LeI.h) ?_;exact dn (by simp only [go_sem,seval,Bool.or_self]<;>rfl) (by simp only [go_sem,seval]<;>rfl) (el_nil)
def jR (N:Nat):FnL:=⟨1,fun cs rest=>match cs,rest with
 | [v0],[c1]=>(varE 6 ac.decE v0).bind fun q0=>(ah.decA c1).bind fun q1=>(fG N q0 q1).map fun r=>(.val (.bool r.1),[.sl true none 6 (some 1) [ac.rowD r.2]])
 | _,_=>none,true⟩
attribute [go_sem] jR
theorem rP (N:Nat):FLOk Tryz.prog 60 (jR N):=by
 refine flOkP (Nat.succ_ne_zero _) ?_;intro cs rest r ls hlen h;simp only [jR] at h;split at h
 ·simp only [Option.bind_eq_some_iff,Option.map_eq_some_iff] at h;obtain ⟨q0,h0,q1,h1,r',hr,he⟩:=h;cases he;obtain rfl:=oz ac.decE_eq h0;exact ⟨ConL.restLe rfl ((LeL.cons (ah.decA_le h1) (LeL.nil))) (uk N q0 q1 r' hr),rfl,PureIL.h⟩
 ·cases h


noncomputable def sU (N d f:Nat):Option FnL:=llist [(20,60,jR N)] d f
attribute [go_sem] sU
theorem zb (N:Nat) (a0:(List ah)) (r:ac × Int × Bool) (h:eu N a0=some r):ConP Tryz.prog 44 [.sl false none 3 none (a0.map ah.row)] (.tup [.pref 0 [] 0 0,.val (.int .i64 r.2.1),.val (.bool r.2.2)]) (.sl true none 6 (some 1) [ac.rowD r.1]):=by
 refine Bf (G:=(glist [])) (L:=(sU N)) Tryz.func44 rfl (by decide) (by kernel_rfl) gn (lc 20 (rP N) ln) [] mix (Nat.le_of_ble_eq_true rfl) ?_;simp only [Tryz.f44];unfold eu at h;refine Ws fun Z hZ=>?_;simp only [go_sem,seval];refine hZ _ (pp (Ws fun Z hZ=>?_));simp only [go_sem,seval];refine hZ _ (pp (gb (fE 8 [(0,0)] 3 (by simp only [go_sem,seval]) (by simp only [go_sem,seval]; try rfl)) (gb (fE 8 [(0,1)] 1 (by simp only [go_sem,seval]) (by simp only [go_sem,seval]; try rfl)) (gb (fE 8 [(0,2)] 2 (by simp only [go_sem,seval]) (by simp only [go_sem,seval]; try rfl)) (gb (fE 8 [(0,3)] 1 (by simp only [go_sem,seval]) (by simp only [go_sem,seval]; try rfl)) (gb (fE 8 [(0,4)] 1 (by simp only [go_sem,seval]) (by simp only [go_sem,seval]; try rfl)) (gb (fE 8 [(0,5)] 1 (by simp only [go_sem,seval]) (by simp only [go_sem,seval]; try rfl)) (Wk_seq (Ws fun Z hZ=>?_)))))))));simp only [go_sem,seval];refine hZ _ (pp (ak (dE fun hreal2=>?_)));have hl1:=hreal2.lenT 0 (by decide) (by simp only [go_sem,seval]; rfl);first|rw [List.length_map] at hl1|rw [dD] at hl1|rw [<-List.map_append,List.length_map] at hl1
 refine dz (fun (v8:Nat) (b:List aa × List Int × List ae × List Int × List Int × List Int)=>⟨tab 25 (updT (updT (updT deadT 0 (.sl false none 3 none (a0.map ah.row))) 5 (.pref 8 [] 0 0)) 6 (.val (.int .i64 ((v8:Nat):Int)))),(upd RZ 8 (.sl true none 6 (some 1) [[.sl true none 3 none (b.1.map aa.rowD),.sl true none 1 none (b.2.1.map (rowI .i64)),.sl true none 2 none (b.2.2.1.map ae.row),.sl true none 1 none (b.2.2.2.1.map (rowI .i64)),.sl true none 1 none (b.2.2.2.2.1.map (rowI .i64)),.sl true none 1 none (b.2.2.2.2.2.map (rowI .i64))]]))⟩) ([],[],[],[],[],[]) h ?_ ?_
 ·refine wr ?_ ?_<;>repeat' first|rfl|constructor
 rintro v8 ⟨l2,l3,l4,l5,l6,l7⟩ hi3 h -;rcases (bx a0 v8 hi3).symm with ⟨hi3',_,hd6⟩|⟨x11,hi3',hx4,hd6⟩
 ·rw [hd6] at h;simp only [gK] at h;refine Wk_seq (Ws fun Z hZ=>?_);simp only [go_sem,seval,hi3'];refine hZ _ (pp ?_);try simp only [Int.ofNat_lt,hi3',if_true,if_false] at h
  refine a8 rfl (aP (pp (Ws fun Z hZ=>?_)));simp only [go_sem,seval];refine hZ _ (pp (Wk_ret (pp ?_)));obtain rfl:=Option.some.inj h;exact wj (.inl rfl) (Weak.refl _) 8 (by simp only [go_sem,seval]<;>rfl) (by simp only [go_sem,seval]<;>rfl) (by simp only [go_sem,seval]<;>rfl)
 rw [hd6] at h;simp only [gK] at h;have hw5:=bu hi3' hl1;refine Wk_seq (Ws fun Z hZ=>?_);simp only [go_sem,seval,hi3'];refine hZ _ (pp ?_);try simp only [Int.ofNat_lt,hi3',if_true,if_false] at h
 refine bp rfl (aj (pp (Wk_seq (ak (Wk_seq ?_)))));try rw [gx_nat hx4] at h
 obtain ⟨r1,hr7,h⟩:=Option.bind_eq_some_iff.1 h;refine ai fun Z hZ=>?_;simp only [go_sem,seval,hx4,hi3',hr7];refine hZ _ (pp (bW rfl (fun hc8=>?_) (fun hc8=>?_)))
 ·rw [if_neg (ne_true_of_eq_false hc8)] at h;refine Ws fun Z hZ=>?_;simp only [go_sem,seval,hc8];refine hZ _ (pp (Wk_ret (pp ?_)));obtain rfl:=Option.some.inj h;exact wj (.inl rfl) (Weak.refl _) 8 (by simp only [go_sem,seval]<;>rfl) (by simp only [go_sem,seval]<;>rfl) (by simp only [go_sem,seval]<;>rfl)
 rw [if_pos hc8] at h;refine aj (pp (ai fun Z hZ=>?_));simp only [go_sem,seval,hw5,hc8];refine hZ _ (pp ?_);first|refine ⟨(r1.2.piles,r1.2.seen,r1.2.deps,r1.2.committed,r1.2.aborted,r1.2.prepared),?_,h⟩|refine ⟨hi3',(r1.2.piles,r1.2.seen,r1.2.deps,r1.2.committed,r1.2.aborted,r1.2.prepared),?_,h⟩
 refine wr ?_ ?_<;>repeat' first|rfl|constructor
def eM (N:Nat):FnL:=⟨0,fun cs rest=>match cs,rest with
 | [],[c0] =>  ((decL 3 ah.dec) c0).bind fun q0=>(eu N q0).map fun r=>(.tup [.pref 0 [] 0 0,.val (.int .i64 r.2.1),.val (.bool r.2.2)],[.sl true none 6 (some 1) [ac.rowD r.1]])
 | _,_=>none,false⟩
attribute [go_sem] eM
theorem gf (N:Nat):FLOk Tryz.prog 44 (eM N):=by
 refine flOkN rfl ?_;intro rest r c h;simp only [eM] at h;split at h
 ·simp only [Option.bind_eq_some_iff,Option.map_eq_some_iff] at h;obtain ⟨q0,h0,r',hr,he⟩:=h;cases he;exact ConP.le ((LeL.cons (aq ah.dec_le h0) (LeL.nil))) (zb N q0 r' hr)
 ·cases h


noncomputable def vj (N d f:Nat):Option FnL:=llist [(9,44,eM N)] d f
attribute [go_sem] vj
theorem An (N:Nat) (a0:(List ah)) (r:Int × Bool) (h:ky N a0=some r):Con Tryz.prog 17 [] true [.sl false none 3 none (a0.map ah.row)] (.tup [.val (.int .i64 r.1),.val (.bool r.2)]):=by
 refine kD (G:=(glist [])) (L:=(vj N)) Tryz.func17 rfl (by decide) (by kernel_rfl) gn (lc 9 (gf N) ln) [] mix (Nat.le_of_ble_eq_true rfl) ?_;simp only [Tryz.f17];unfold ky at h;refine Ws fun Z hZ=>?_;simp only [go_sem,seval];refine hZ _ (pp (Wk_seq ?_));obtain ⟨r1,hr1,h⟩:=Option.bind_eq_some_iff.1 h;refine ai fun Z hZ=>?_;simp only [go_sem,seval,hr1];refine hZ _ (pp (Ws fun Z hZ=>?_));simp only [go_sem,seval];refine hZ _ (pp (Wk_ret (pp ?_)));obtain rfl:=Option.some.inj h;simp only [go_sem,seval];exact ⟨_,rfl,RokI.h,PureI.h⟩
def qw (N:Nat):FnS:=⟨[],true,fn1 (decL 3 ah.dec) fun q0=>(ky N q0).map fun r=>.tup [.val (.int .i64 r.1),.val (.bool r.2)],false⟩
attribute [go_sem] qw
theorem wy (N:Nat):FSOk Tryz.prog 17 (qw N):=ok1 (fun q0 r h=>by
 obtain ⟨r',hr,rfl⟩:=Option.map_eq_some_iff.1 h;exact An N q0 r' hr) (fun h=>aq ah.dec_le h)


noncomputable def oR (N d f:Nat):Option FnS:=glist [(10,29,aV N),(16,29,aV N),(19,47,iR N),(25,29,aV N)] d f
attribute [go_sem] oR
theorem sZ (N:Nat) (a0:ac) (a1:Int) (r:Int) (h:eL N a0 a1=some r):Con Tryz.prog 45 [] true [.iref 6 [[.sl false none 3 none (a0.piles.map aa.row),.sl false none 1 none (a0.seen.map (rowI .i64)),.sl false none 2 none (a0.deps.map ae.row),.sl false none 1 none (a0.committed.map (rowI .i64)),.sl false none 1 none (a0.aborted.map (rowI .i64)),.sl false none 1 none (a0.prepared.map (rowI .i64))]] 0 0,.val (.int .i64 a1)] (.val (.int .i64 r)):=by
 refine aT (G:=(oR N)) Tryz.func45 rfl (by decide) (by kernel_rfl) (gc 10 (aR N) (gc 16 (aR N) (gc 19 (lk N) (gc 25 (aR N) gn)))) [] mix (Nat.le_of_ble_eq_true rfl) ?_;simp only [Tryz.f45];unfold eL at h;refine Ws fun Z hZ=>?_;simp only [go_sem,seval];refine hZ _ (pp (Wk_seq (Wk_seq ?_)));obtain ⟨r1,hr1,h⟩:=Option.bind_eq_some_iff.1 h;refine ai fun Z hZ=>?_;simp only [go_sem,seval,hr1];refine hZ _ (pp (ar rfl (fun hc2=>?_) (fun hc2=>?_)))
 ·rw [if_pos hc2] at h;refine Ws fun Z hZ=>?_;simp only [go_sem,seval,hc2];refine hZ _ (pp (Wk_ret (pp ?_)));cases h;simp only [go_sem,seval];exact ⟨_,rfl,RokI.h,PureI.h⟩
 rw [if_neg (ne_true_of_eq_false hc2)] at h;refine aj (pp (Wk_seq (Wk_seq ?_)));obtain ⟨r2,hr3,h⟩:=Option.bind_eq_some_iff.1 h;refine ai fun Z hZ=>?_;simp only [go_sem,seval,hc2,hr3];refine hZ _ (pp (ar rfl (fun hc4=>?_) (fun hc4=>?_)))
 ·rw [if_pos hc4] at h;refine Ws fun Z hZ=>?_;simp only [go_sem,seval,hc4];refine hZ _ (pp (Wk_ret (pp ?_)));cases h;simp only [go_sem,seval];exact ⟨_,rfl,RokI.h,PureI.h⟩
 rw [if_neg (ne_true_of_eq_false hc4)] at h;refine aj (pp (Wk_seq (Wk_seq ?_)));obtain ⟨r3,hr5,h⟩:=Option.bind_eq_some_iff.1 h;refine ai fun Z hZ=>?_;simp only [go_sem,seval,hc4,hr5];refine hZ _ (pp (ar rfl (fun hc6=>?_) (fun hc6=>?_)))
 ·rw [if_pos hc6] at h;refine Ws fun Z hZ=>?_;simp only [go_sem,seval,hc6];refine hZ _ (pp (Wk_ret (pp ?_)));cases h;simp only [go_sem,seval];exact ⟨_,rfl,RokI.h,PureI.h⟩
 rw [if_neg (ne_true_of_eq_false hc6)] at h;refine aj (pp (Wk_seq (Wk_seq ?_)));obtain ⟨r4,hr7,h⟩:=Option.bind_eq_some_iff.1 h;refine ai fun Z hZ=>?_;simp only [go_sem,seval,hc6,hr7];refine hZ _ (pp (ar rfl (fun hc8=>?_) (fun hc8=>?_)))
 ·rw [if_pos hc8] at h;refine Ws fun Z hZ=>?_;simp only [go_sem,seval,hc8];refine hZ _ (pp (Wk_ret (pp ?_)));cases h;simp only [go_sem,seval];exact ⟨_,rfl,RokI.h,PureI.h⟩
 rw [if_neg (ne_true_of_eq_false hc8)] at h;refine aj (pp (Ws fun Z hZ=>?_));simp only [go_sem,seval,hc8];refine hZ _ (pp (Wk_ret (pp ?_)));cases h;simp only [go_sem,seval];exact ⟨_,rfl,RokI.h,PureI.h⟩
def ja (N:Nat):FnS:=⟨[],true,fn2 (decPt 6 ac.dec) (decI .i64) fun q0 q1=>(eL N q0 q1).map fun r=>.val (.int .i64 r),false⟩
attribute [go_sem] ja
theorem mI (N:Nat):FSOk Tryz.prog 45 (ja N):=ok2 (fun q0 q1 r h=>by
 obtain ⟨r',hr,rfl⟩:=Option.map_eq_some_iff.1 h;exact sZ N q0 q1 r' hr) (fun h=>kV ac.dec_le h) (aw)


noncomputable def sP (N d f:Nat):Option FnS:=glist [(41,45,ja N),(52,28,ej N),(63,28,ej N),(69,9,kQ N),(81,29,aV N),(88,29,aV N),(113,29,aV N),(117,29,aV N),(122,47,iR N)] d f
attribute [go_sem] sP
noncomputable def sE (N d f:Nat):Option FnL:=llist [(18,44,eM N),(102,46,ew N),(133,46,ew N)] d f
attribute [go_sem] sE
theorem sY (N:Nat) (a0:(List ah)) (r:(List Int) × (List Int)) (h:gr N a0=some r):Con Tryz.prog 18 [] true [.sl false none 3 none (a0.map ah.row)] (.tup [.sl true none 1 none (r.1.map (rowI .i64)),.sl true none 1 none (r.2.map (rowI .i64))]):=by
 refine kD (G:=(sP N)) (L:=(sE N)) Tryz.func18 rfl (by decide) (by kernel_rfl) (gc 41 (mI N) (gc 52 (kY N) (gc 63 (kY N) (gc 69 (mU N) (gc 81 (aR N) (gc 88 (aR N) (gc 113 (aR N) (gc 117 (aR N) (gc 122 (lk N) gn))))))))) (lc 18 (gf N) (lc 102 (iG N) (lc 133 (iG N) ln))) [] mix (Nat.le_of_ble_eq_true rfl) ?_;simp only [Tryz.f18];unfold gr at h;refine Ws fun Z hZ=>?_;simp only [go_sem,seval];refine hZ _ (pp (Wk_seq ?_));obtain ⟨r1,hr1,h⟩:=Option.bind_eq_some_iff.1 h;refine ai fun Z hZ=>?_;simp only [go_sem,seval,hr1];refine hZ _ (pp (Wk_seq (Ws fun Z hZ=>?_)));simp only [go_sem,seval];refine hZ _ (pp (bW rfl (fun hc2=>?_) (fun hc2=>?_)))
 ·rw [if_neg (ne_true_of_eq_false hc2)] at h;refine Ws fun Z hZ=>?_;simp only [go_sem,seval,hc2];refine hZ _ (pp (Wk_ret (pp ?_)));obtain rfl:=Option.some.inj h;simp only [go_sem,seval];exact ⟨_,rfl,RokI.h,PureI.h⟩
 rw [if_pos hc2] at h;refine aj (pp (Ws fun Z hZ=>?_));simp only [go_sem,seval,hc2];refine hZ _ (pp (Wk_seq (Ws fun Z hZ=>?_)));simp only [go_sem,seval];refine hZ _ (pp (ak (dE fun hreal4=>?_)));have hl3:=hreal4.cell 18 1 (by simp only [go_sem,seval]; rfl) rfl;first|rw [List.length_map] at hl3|rw [dD] at hl3|rw [<-List.map_append,List.length_map] at hl3
 refine dz (fun (v6:Nat) (b:List Int × List Int)=>⟨tab 136 (updT (updT (updT (updT deadT 4 (.pref 18 [] 0 0)) 7 (.pal 52 [] 0 b.1.length none)) 8 (.pal 63 [] 0 b.2.length none)) 9 (.val (.int .i64 ((v6:Nat):Int)))),(upd (upd (upd RZ 18 (.sl true none 6 (some 1) [[.sl true none 3 none (r1.1.piles.map aa.rowD),.sl true none 1 none (r1.1.seen.map (rowI .i64)),.sl true none 2 none (r1.1.deps.map ae.row),.sl true none 1 none (r1.1.committed.map (rowI .i64)),.sl true none 1 none (r1.1.aborted.map (rowI .i64)),.sl true none 1 none (r1.1.prepared.map (rowI .i64))]])) 52 (.sl true none 1 none (b.1.map (rowI .i64)))) 63 (.sl true none 1 none (b.2.map (rowI .i64))))⟩) ([],[]) h ?_ ?_
 ·refine Weak.trans (lE 7 52 1 (by simp only [go_sem,seval]) (by simp only [go_sem,seval])) (Weak.trans (lE 8 63 1 (by simp only [go_sem,seval]) (by simp only [go_sem,seval])) ?_);refine wr ?_ ?_<;>repeat' first|rfl|constructor|simp only [go_sem,seval,Bool.or_self,List.length_set,Int.natCast_zero,Int.cast_ofNat_Int,hr1,hc2]
 rintro v6 ⟨l4,l5⟩ hi5 h -;rcases (bx r1.1.seen v6 hi5) with ⟨x9,hi5',hx6,hd8⟩|⟨hi5',_,hd8⟩
 ·rw [hd8] at h;simp only [ei] at h;have hw7:=bu hi5' hl3;refine Wk_seq (Ws fun Z hZ=>?_);simp only [go_sem,seval,hi5'];refine hZ _ (pp ?_);try simp only [Int.ofNat_lt,hi5',if_true,if_false] at h
  refine bp rfl (aj (pp (Wk_seq (ak (Wk_seq ?_)))));try rw [gx_nat hx6] at h
  obtain ⟨r15,hr9,h⟩:=Option.bind_eq_some_iff.1 h;refine ai fun Z hZ=>?_;simp only [go_sem,seval,hx6,hi5',hr9];refine hZ _ (pp (ak (Ws fun Z hZ=>?_)));simp only [go_sem,seval];refine hZ _ (pp (am rfl (fun hc10=>?_) (fun hc10=>?_)))
  ·have hc10d:=decide_eq_true hc10;rw [if_pos hc10] at h;try rw [gx_nat hx6] at h
   obtain ⟨r16,hr11,h⟩:=Option.bind_eq_some_iff.1 h;refine ai fun Z hZ=>?_;simp only [go_sem,seval,hx6,hi5',hc10d,hr11];refine hZ _ (pp (ai fun Z hZ=>?_));simp only [go_sem,seval,hw7];refine hZ _ (pp ?_);first|refine ⟨(r16,l5),?_,h⟩|refine ⟨hi5',(r16,l5),?_,h⟩
   refine wr ?_ ?_<;>repeat' first|rfl|constructor|simp only [go_sem,seval,Bool.or_self,List.length_set,Int.natCast_zero,Int.cast_ofNat_Int,hr1,hc2,hx6,hi5',hw7,hr9,hc10d,hr11]
  have hc10d:=decide_eq_false hc10;rw [if_neg hc10] at h;refine Ws fun Z hZ=>?_;simp only [go_sem,seval,hc10d];refine hZ _ (pp (am rfl (fun hc12=>?_) (fun hc12=>?_)))
  ·have hc12d:=decide_eq_true hc12;rw [if_pos hc12] at h;try rw [gx_nat hx6] at h
   obtain ⟨r17,hr13,h⟩:=Option.bind_eq_some_iff.1 h;refine ai fun Z hZ=>?_;simp only [go_sem,seval,hx6,hi5',hc12d,hr13];refine hZ _ (pp (ai fun Z hZ=>?_));simp only [go_sem,seval,hw7];refine hZ _ (pp ?_);first|refine ⟨(l4,r17),?_,h⟩|refine ⟨hi5',(l4,r17),?_,h⟩
   refine wr ?_ ?_<;>repeat' first|rfl|constructor|simp only [go_sem,seval,Bool.or_self,List.length_set,Int.natCast_zero,Int.cast_ofNat_Int,hr1,hc2,hx6,hi5',hw7,hr9,hc10d,hc12d,hr13]
  have hc12d:=decide_eq_false hc12;rw [if_neg hc12] at h;refine aj (pp (ai fun Z hZ=>?_));simp only [go_sem,seval,hw7,hc12d];refine hZ _ (pp ?_);first|refine ⟨(l4,l5),?_,h⟩|refine ⟨hi5',(l4,l5),?_,h⟩
  refine wr ?_ ?_<;>repeat' first|rfl|constructor|simp only [go_sem,seval,Bool.or_self,List.length_set,Int.natCast_zero,Int.cast_ofNat_Int,hr1,hc2,hx6,hi5',hw7,hr9,hc10d,hc12d]
 rw [hd8] at h;simp only [ei] at h;refine Wk_seq (Ws fun Z hZ=>?_);simp only [go_sem,seval,hi5'];refine hZ _ (pp ?_);try simp only [Int.ofNat_lt,hi5',if_true,if_false] at h
 refine a8 rfl (aP (pp ?_));unfold gE at h;refine Wk_seq ?_;obtain ⟨r18,hr14,h⟩:=Option.bind_eq_some_iff.1 h;refine ai fun Z hZ=>?_;simp only [go_sem,seval,hr14];refine hZ _ (pp (Ws fun Z hZ=>?_));simp only [go_sem,seval];refine hZ _ (pp (Wk_seq (Ws fun Z hZ=>?_)));simp only [go_sem,seval];refine hZ _ (pp (ak (dE fun hreal16=>?_)));have hl15:=hreal16.lenT 10 (by decide) (by simp only [go_sem,seval]; rfl);first|rw [List.length_map] at hl15|rw [dD] at hl15|rw [<-List.map_append,List.length_map] at hl15
 refine dz (fun (v28:Nat) (b:List aa × List Int × List ae × List Int × List Int × List Int × List Int)=>⟨tab 136 (updT (updT (updT (updT (updT (updT deadT 4 (.pref 18 [] 0 0)) 7 (.pal 52 [] 0 l4.length none)) 8 (.pal 63 [] 0 l5.length none)) 10 (.sl false none 1 none (r18.map (rowI .i64)))) 11 (.pal 96 [] 0 b.2.2.2.2.2.2.length none)) 12 (.val (.int .i64 ((v28:Nat):Int)))),(upd (upd (upd (upd RZ 18 (.sl true none 6 (some 1) [[.sl true none 3 none (b.1.map aa.rowD),.sl true none 1 none (b.2.1.map (rowI .i64)),.sl true none 2 none (b.2.2.1.map ae.row),.sl true none 1 none (b.2.2.2.1.map (rowI .i64)),.sl true none 1 none (b.2.2.2.2.1.map (rowI .i64)),.sl true none 1 none (b.2.2.2.2.2.1.map (rowI .i64))]])) 52 (.sl true none 1 none (l4.map (rowI .i64)))) 63 (.sl true none 1 none (l5.map (rowI .i64)))) 96 (.sl true none 1 none (b.2.2.2.2.2.2.map (rowI .i64))))⟩) (r1.1.piles,r1.1.seen,r1.1.deps,r1.1.committed,r1.1.aborted,r1.1.prepared,[]) h ?_ ?_
 ·refine Weak.trans (lE 11 96 1 (by simp only [go_sem,seval]) (by simp only [go_sem,seval])) ?_;refine wr ?_ ?_<;>repeat' first|rfl|constructor|simp only [go_sem,seval,Bool.or_self,List.length_set,Int.natCast_zero,Int.cast_ofNat_Int,hr1,hc2,hi5',hr14]
 rintro v28 ⟨l21,l22,l23,l24,l25,l26,l27⟩ hi17 h -;rcases (bx r18 v28 hi17) with ⟨x31,hi17',hx18,hd20⟩|⟨hi17',_,hd20⟩
 ·rw [hd20] at h;simp only [ek] at h;have hw19:=bu hi17' hl15;refine Wk_seq (Ws fun Z hZ=>?_);simp only [go_sem,seval,hi17'];refine hZ _ (pp ?_);try simp only [Int.ofNat_lt,hi5',hi17',if_true,if_false] at h
  refine bp rfl (aj (pp (Wk_seq (ak ?_))));apply dc (fun (c54:Bool)=>⟨tab 136 (updT (updT (updT (updT (updT (updT (updT deadT 4 (.pref 18 [] 0 0)) 7 (.pal 52 [] 0 l4.length none)) 8 (.pal 63 [] 0 l5.length none)) 10 (.sl false none 1 none (r18.map (rowI .i64)))) 11 (.pal 96 [] 0 l27.length none)) 12 (.val (.int .i64 ((v28:Nat):Int)))) 89 (.val (.bool c54))),(upd (upd (upd (upd RZ 18 (.sl true none 6 (some 1) [[.sl true none 3 none (l21.map aa.rowD),.sl true none 1 none (l22.map (rowI .i64)),.sl true none 2 none (l23.map ae.row),.sl true none 1 none (l24.map (rowI .i64)),.sl true none 1 none (l25.map (rowI .i64)),.sl true none 1 none (l26.map (rowI .i64))]])) 52 (.sl true none 1 none (l4.map (rowI .i64)))) 63 (.sl true none 1 none (l5.map (rowI .i64)))) 96 (.sl true none 1 none (l27.map (rowI .i64))))⟩)
  ·intro hJ21;try rw [gx_nat hx18] at h
   obtain ⟨r55,hr22,h⟩:=Option.bind_eq_some_iff.1 h;refine ai fun Z hZ=>?_;simp only [go_sem,seval,hx18,hi17',hr22];refine bI rfl (fun hc23=>?_) (fun hc23=>?_)
   ·rw [if_pos hc23] at h;simp only [go_sem,seval,hc23];refine hZ _ (pp (hJ21 _ true ?_ h));refine wr ?_ ?_<;>repeat' first|rfl|constructor|simp only [go_sem,seval,Bool.or_self,List.length_set,Int.natCast_zero,Int.cast_ofNat_Int,hr1,hc2,hi5',hr14,hx18,hi17',hw19,hr22,hc23]
   rw [if_neg (ne_true_of_eq_false hc23)] at h;try rw [gx_nat hx18] at h
   obtain ⟨r56,hr24,h⟩:=Option.bind_eq_some_iff.1 h;simp only [go_sem,seval,hx18,hi17',hc23,hr24];refine hZ _ (pp (hJ21 _ r56 ?_ h));refine wr ?_ ?_<;>repeat' first|rfl|constructor|simp only [go_sem,seval,Bool.or_self,List.length_set,Int.natCast_zero,Int.cast_ofNat_Int,hr1,hc2,hi5',hr14,hx18,hi17',hw19,hr22,hc23,hr24]
  intro c54 h;unfold jq at h;refine sw (ar rfl) (fun hc25=>?_) (fun hc25=>?_)
  ·rw [if_neg (ne_true_of_eq_false hc25)] at h;refine aj (pp (ai fun Z hZ=>?_));simp only [go_sem,seval,hw19,hc25];refine hZ _ (pp ?_);first|refine ⟨(l21,l22,l23,l24,l25,l26,l27),?_,h⟩|refine ⟨hi17',(l21,l22,l23,l24,l25,l26,l27),?_,h⟩
   refine wr ?_ ?_<;>repeat' first|rfl|constructor|simp only [go_sem,seval,Bool.or_self,List.length_set,Int.natCast_zero,Int.cast_ofNat_Int,hr1,hc2,hi5',hr14,hx18,hi17',hw19,hc25]
  rw [if_pos hc25] at h;refine Wk_seq ?_;try rw [gx_nat hx18] at h
  obtain ⟨ha26,h⟩:=br h;simp only [List.length_cons,List.length_nil,Nat.zero_add,Nat.reduceAdd] at ha26;refine ai fun Z hZ=>?_;simp only [go_sem,seval,hx18,hi17',hc25,ha26];refine hZ _ (pp ?_);try rw [gx_nat hx18] at h
  obtain ⟨r57,hr27,h⟩:=Option.bind_eq_some_iff.1 h;refine ai fun Z hZ=>?_;simp only [go_sem,seval,hx18,hi17',hr27];refine hZ _ (pp (ai fun Z hZ=>?_));simp only [go_sem,seval,hw19];refine hZ _ (pp ?_);first|refine ⟨(r57.piles,r57.seen,r57.deps,r57.committed,r57.aborted,r57.prepared,(l27++[x31])),?_,h⟩|refine ⟨hi17',(r57.piles,r57.seen,r57.deps,r57.committed,r57.aborted,r57.prepared,(l27++[x31])),?_,h⟩
  refine wr ?_ ?_<;>repeat' first|rfl|constructor|simp only [go_sem,seval,Bool.or_self]
 rw [hd20] at h;simp only [ek] at h;refine Wk_seq (Ws fun Z hZ=>?_);simp only [go_sem,seval,hi17'];refine hZ _ (pp ?_);try simp only [Int.ofNat_lt,hi5',hi17',if_true,if_false] at h
 refine a8 rfl (aP (pp ?_));unfold mE at h;refine Ws fun Z hZ=>?_;simp only [go_sem,seval];refine hZ _ (pp (Wk_seq (Ws fun Z hZ=>?_)));simp only [go_sem,seval];refine hZ _ (pp (ak (fQ (fun (b:List aa × List Int × List ae × List Int × List Int × List Int × List Int × Int)=>⟨tab 136 (updT (updT (updT (updT (updT deadT 4 (.pref 18 [] 0 0)) 8 (.pal 63 [] 0 l5.length none)) 11 (.pal 96 [] 0 l27.length none)) 13 (.pal 130 [] 0 b.2.2.2.2.2.2.1.length none)) 14 (.val (.int .i64 b.2.2.2.2.2.2.2))),(upd (upd (upd (upd RZ 18 (.sl true none 6 (some 1) [[.sl true none 3 none (b.1.map aa.rowD),.sl true none 1 none (b.2.1.map (rowI .i64)),.sl true none 2 none (b.2.2.1.map ae.row),.sl true none 1 none (b.2.2.2.1.map (rowI .i64)),.sl true none 1 none (b.2.2.2.2.1.map (rowI .i64)),.sl true none 1 none (b.2.2.2.2.2.1.map (rowI .i64))]])) 63 (.sl true none 1 none (l5.map (rowI .i64)))) 96 (.sl true none 1 none (l27.map (rowI .i64)))) 130 (.sl true none 1 none (b.2.2.2.2.2.2.1.map (rowI .i64))))⟩) (l21,l22,l23,l24,l25,l26,[],0) h ?_ ?_)))
 ·refine Weak.trans (lE 13 130 1 (by simp only [go_sem,seval]) (by simp only [go_sem,seval])) ?_;refine wr ?_ ?_<;>repeat' first|rfl|constructor|simp only [go_sem,seval,Bool.or_self,List.length_set,Int.natCast_zero,Int.cast_ofNat_Int,hr1,hc2,hi5',hr14,hi17']
 rintro n ⟨l55,l56,l57,l58,l59,l60,l61,v62⟩ h -;cases n with
 | zero=>simp [dA] at h
 | succ n=>
 simp only [dA] at h;refine Wk_seq (Ws fun Z hZ=>?_);simp only [go_sem,seval];refine hZ _ (pp (sw (am rfl) (fun hc28=>?_) (fun hc28=>?_)))
 ·have hc28d:=decide_eq_false hc28;rw [if_neg hc28] at h;refine aP (pp (Ws fun Z hZ=>?_));simp only [go_sem,seval,hc28d];refine hZ _ (pp (Wk_ret (pp ?_)));obtain rfl:=Option.some.inj h;simp only [go_sem,seval];exact ⟨_,rfl,RokI.h,PureI.h⟩
 have hc28d:=decide_eq_true hc28;rw [if_pos hc28] at h;refine aj (pp (ak (Wk_seq ?_)));obtain ⟨x58,hb29,hx30,h⟩:=aJ h;refine ai fun Z hZ=>?_;simp only [go_sem,seval,hb29,hx30];refine hZ _ (pp (Wk_seq ?_));apply dc (fun (c67:Bool)=>⟨tab 136 (updT (updT (updT (updT (updT (updT (updT deadT 4 (.pref 18 [] 0 0)) 8 (.pal 63 [] 0 l5.length none)) 11 (.pal 96 [] 0 l27.length none)) 13 (.pal 130 [] 0 l61.length none)) 14 (.val (.int .i64 v62))) 15 (.val (.int .i64 x58))) 124 (.val (.bool c67))),(upd (upd (upd (upd RZ 18 (.sl true none 6 (some 1) [[.sl true none 3 none (l55.map aa.rowD),.sl true none 1 none (l56.map (rowI .i64)),.sl true none 2 none (l57.map ae.row),.sl true none 1 none (l58.map (rowI .i64)),.sl true none 1 none (l59.map (rowI .i64)),.sl true none 1 none (l60.map (rowI .i64))]])) 63 (.sl true none 1 none (l5.map (rowI .i64)))) 96 (.sl true none 1 none (l27.map (rowI .i64)))) 130 (.sl true none 1 none (l61.map (rowI .i64))))⟩)
 ·intro hJ31;obtain ⟨r68,hr32,h⟩:=Option.bind_eq_some_iff.1 h;refine ai fun Z hZ=>?_;simp only [go_sem,seval,hr32];refine bI rfl (fun hc33=>?_) (fun hc33=>?_)
  ·rw [if_pos hc33] at h;simp only [go_sem,seval,hc33];refine hZ _ (pp (hJ31 _ true ?_ h));refine wr ?_ ?_<;>repeat' first|rfl|constructor|simp only [go_sem,seval,Bool.or_self,List.length_set,Int.natCast_zero,Int.cast_ofNat_Int,hr1,hc2,hi5',hr14,hi17',hc28d,hb29,hx30,hr32,hc33]
  rw [if_neg (ne_true_of_eq_false hc33)] at h;obtain ⟨r69,hr34,h⟩:=Option.bind_eq_some_iff.1 h;simp only [go_sem,seval,hc33,hr34];refine bI rfl (fun hc35=>?_) (fun hc35=>?_)
  ·rw [if_pos hc35] at h;simp only [go_sem,seval,hc35];refine hZ _ (pp (hJ31 _ true ?_ h));refine wr ?_ ?_<;>repeat' first|rfl|constructor|simp only [go_sem,seval,Bool.or_self,List.length_set,Int.natCast_zero,Int.cast_ofNat_Int,hr1,hc2,hi5',hr14,hi17',hc28d,hb29,hx30,hr32,hc33,hr34,hc35]
  rw [if_neg (ne_true_of_eq_false hc35)] at h;obtain ⟨r70,hr36,h⟩:=Option.bind_eq_some_iff.1 h;simp only [go_sem,seval,hc35,hr36];refine hZ _ (pp (hJ31 _ (!r70) ?_ h));refine wr ?_ ?_<;>repeat' first|rfl|constructor|simp only [go_sem,seval,Bool.or_self,List.length_set,Int.natCast_zero,Int.cast_ofNat_Int,hr1,hc2,hi5',hr14,hi17',hc28d,hb29,hx30,hr32,hc33,hr34,hc35,hr36]
 intro c67 h;unfold gF at h;refine ar rfl (fun hc37=>?_) (fun hc37=>?_)
 ·rw [if_pos hc37] at h;refine Ws fun Z hZ=>?_;simp only [go_sem,seval,hc37];refine hZ _ (pp (aP (pp (⟨_,Nat.lt_succ_self _,(l55,l56,l57,l58,l59,l60,l61,IntKind.i64.wrap (v62+1)),?_,h⟩))));refine wr ?_ ?_<;>repeat' first|rfl|constructor|simp only [go_sem,seval,Bool.or_self,List.length_set,Int.natCast_zero,Int.cast_ofNat_Int,hr1,hc2,hi5',hr14,hi17',hc28d,hb29,hx30,hc37]
 rw [if_neg (ne_true_of_eq_false hc37)] at h;refine aj (pp ?_);unfold kR at h;refine Wk_seq ?_;obtain ⟨ha38,h⟩:=br h;simp only [List.length_cons,List.length_nil,Nat.zero_add,Nat.reduceAdd] at ha38;refine ai fun Z hZ=>?_;simp only [go_sem,seval,hc37,ha38];refine hZ _ (pp (Wk_seq ?_));obtain ⟨r71,hr39,h⟩:=Option.bind_eq_some_iff.1 h;refine ai fun Z hZ=>?_;simp only [go_sem,seval,hr39];refine hZ _ (pp (ai fun Z hZ=>?_));simp only [go_sem,seval];refine hZ _ (pp (⟨_,Nat.lt_succ_self _,(r71.piles,r71.seen,r71.deps,r71.committed,r71.aborted,r71.prepared,(l61++[x58]),0),?_,h⟩));refine wr ?_ ?_<;>repeat' first|rfl|constructor|simp only [go_sem,seval,Bool.or_self]
def pg (N:Nat):FnS:=⟨[],true,fn1 (decL 3 ah.dec) fun q0=>(gr N q0).map fun r=>.tup [.sl false none 1 none (r.1.map (rowI .i64)),.sl false none 1 none (r.2.map (rowI .i64))],false⟩
attribute [go_sem] pg
theorem vp (N:Nat):FSOk Tryz.prog 18 (pg N):=ok1 (fun q0 r h=>by
 obtain ⟨r',hr,rfl⟩:=Option.map_eq_some_iff.1 h;exact (sY N q0 r' hr).res (by (try simp only [go_sem]); exact RokI.h)) (fun h=>aq ah.dec_le h)

def rf (N:Nat):FnS:=⟨[],true,fn1 (decL 3 ah.dec) fun q0=>(gr N q0).map fun r=>.tup [.sl true none 1 none (r.1.map (rowI .i64)),.sl true none 1 none (r.2.map (rowI .i64))],false⟩
attribute [go_sem] rf
theorem C7 (N:Nat):FSOk Tryz.prog 18 (rf N):=ok1 (fun q0 r h=>by
 obtain ⟨r',hr,rfl⟩:=Option.map_eq_some_iff.1 h;exact sY N q0 r' hr) (fun h=>aq ah.dec_le h)


theorem yH (N:Nat) (a0:(List Int)) (a1:(List Int)) (r:Bool) (h:eQ N a0 a1=some r):Con Tryz.prog 7 [] true [.sl false none 1 none (a0.map (rowI .i64)),.sl false none 1 none (a1.map (rowI .i64))] (.val (.bool r)):=by
 refine aT (G:=(glist [])) Tryz.func7 rfl (by decide) (by kernel_rfl) gn [] mix (Nat.le_of_ble_eq_true rfl) ?_;simp only [Tryz.f7];unfold eQ at h;refine Ws fun Z hZ=>?_;simp only [go_sem,seval];refine hZ _ (pp (Wk_seq (Ws fun Z hZ=>?_)));simp only [go_sem,seval];refine hZ _ (pp (oe rfl (fun hc1=>?_) (fun hc1=>?_)))
 ·have hc1d:=decide_eq_false hc1;rw [if_neg hc1] at h;refine Ws fun Z hZ=>?_;simp only [go_sem,seval,hc1d];refine hZ _ (pp (Wk_ret (pp ?_)));cases h;simp only [go_sem,seval];exact ⟨_,rfl,RokI.h,PureI.h⟩
 have hc1d:=decide_eq_true hc1;rw [if_pos hc1] at h;refine aj (pp (Wk_seq (Ws fun Z hZ=>?_)));simp only [go_sem,seval,hc1d];refine hZ _ (pp (ak (dE fun hreal3=>?_)));have hl2:=hreal3.lenT 0 (by decide) (by simp only [go_sem,seval]; rfl);first|rw [List.length_map] at hl2|rw [dD] at hl2|rw [<-List.map_append,List.length_map] at hl2
 refine dz (fun (v3:Nat) (b:Unit)=>⟨tab 26 (updT (updT (updT deadT 0 (.sl false none 1 none (a0.map (rowI .i64)))) 1 (.sl false none 1 none (a1.map (rowI .i64)))) 5 (.val (.int .i64 ((v3:Nat):Int)))),RZ⟩) () h ?_ ?_
 ·refine wr ?_ ?_<;>repeat' first|rfl|constructor
 rintro v3 ⟨⟩ hi4 h -;rcases (bx a0 v3 hi4).symm with ⟨hi4',_,hd7⟩|⟨x6,hi4',hx5,hd7⟩
 ·rw [hd7] at h;simp only [jr] at h;refine Wk_seq (Ws fun Z hZ=>?_);simp only [go_sem,seval,hi4'];refine hZ _ (pp ?_);try simp only [Int.ofNat_lt,hi4',if_true,if_false] at h
  refine a8 rfl (aP (pp (Ws fun Z hZ=>?_)));simp only [go_sem,seval];refine hZ _ (pp (Wk_ret (pp ?_)));cases h;simp only [go_sem,seval];exact ⟨_,rfl,RokI.h,PureI.h⟩
 rw [hd7] at h;simp only [jr] at h;have hw6:=bu hi4' hl2;refine Wk_seq (Ws fun Z hZ=>?_);simp only [go_sem,seval,hi4'];refine hZ _ (pp ?_);try simp only [Int.ofNat_lt,hi4',if_true,if_false] at h
 refine bp rfl (aj (pp (Wk_seq (ak (Wk_seq ?_)))));try rw [gx_nat hx5] at h
 obtain ⟨x1,hb8,hx9,h⟩:=aJ h;try simp only [Int.toNat_natCast] at hx9
 try simp only [Int.ofNat_lt,Int.natCast_nonneg,true_and] at hb8
 refine da fun Z hZ=>?_;simp only [go_sem,seval,hx5,hi4',hb8,hx9];refine hZ _ (by kernel_rfl) (pp (oe rfl (fun hc10=>?_) (fun hc10=>?_)))
 ·have hc10d:=decide_eq_false hc10;rw [if_neg hc10] at h;refine Ws fun Z hZ=>?_;simp only [go_sem,seval,hc10d];refine hZ _ (pp (Wk_ret (pp ?_)));cases h;simp only [go_sem,seval];exact ⟨_,rfl,RokI.h,PureI.h⟩
 have hc10d:=decide_eq_true hc10;rw [if_pos hc10] at h;refine aj (pp (ai fun Z hZ=>?_));simp only [go_sem,seval,hw6,hc10d];refine hZ _ (pp ?_);first|refine ⟨(),?_,h⟩|refine ⟨hi4',(),?_,h⟩
 refine wr ?_ ?_<;>repeat' first|rfl|constructor
def gJ (N:Nat):FnS:=⟨[],true,fn2 (decL 1 (dec1 (decI .i64))) (decL 1 (dec1 (decI .i64))) fun q0 q1=>(eQ N q0 q1).map fun r=>.val (.bool r),false⟩
attribute [go_sem] gJ
theorem je (N:Nat):FSOk Tryz.prog 7 (gJ N):=ok2 (fun q0 q1 r h=>by
 obtain ⟨r',hr,rfl⟩:=Option.map_eq_some_iff.1 h;exact yH N q0 q1 r' hr) (fun h=>aq (aH .i64) h) (fun h=>aq (aH .i64) h)


noncomputable def tB (N d f:Nat):Option FnS:=glist [(18,45,ja N)] d f
attribute [go_sem] tB
noncomputable def tI (N d f:Nat):Option FnL:=llist [(10,44,eM N)] d f
attribute [go_sem] tI
theorem zl (N:Nat) (a0:(List ah)) (a1:Int) (r:Int) (h:jJ N a0 a1=some r):Con Tryz.prog 19 [] true [.sl false none 3 none (a0.map ah.row),.val (.int .i64 a1)] (.val (.int .i64 r)):=by
 refine kD (G:=(tB N)) (L:=(tI N)) Tryz.func19 rfl (by decide) (by kernel_rfl) (gc 18 (mI N) gn) (lc 10 (gf N) ln) [] mix (Nat.le_of_ble_eq_true rfl) ?_;simp only [Tryz.f19];unfold jJ at h;refine Ws fun Z hZ=>?_;simp only [go_sem,seval];refine hZ _ (pp (Wk_seq ?_));obtain ⟨r1,hr1,h⟩:=Option.bind_eq_some_iff.1 h;refine ai fun Z hZ=>?_;simp only [go_sem,seval,hr1];refine hZ _ (pp (Wk_seq (Ws fun Z hZ=>?_)));simp only [go_sem,seval];refine hZ _ (pp (bW rfl (fun hc2=>?_) (fun hc2=>?_)))
 ·rw [if_neg (ne_true_of_eq_false hc2)] at h;refine Ws fun Z hZ=>?_;simp only [go_sem,seval,hc2];refine hZ _ (pp (Wk_ret (pp ?_)));obtain rfl:=Option.some.inj h;simp only [go_sem,seval];exact ⟨_,rfl,RokI.h,PureI.h⟩
 rw [if_pos hc2] at h;refine aj (pp (Wk_seq ?_));obtain ⟨r2,hr3,h⟩:=Option.bind_eq_some_iff.1 h;refine ai fun Z hZ=>?_;simp only [go_sem,seval,hc2,hr3];refine hZ _ (pp (Wk_ret (pp ?_)));obtain rfl:=Option.some.inj h;simp only [go_sem,seval];exact ⟨_,rfl,RokI.h,PureI.h⟩
def pU (N:Nat):FnS:=⟨[],true,fn2 (decL 3 ah.dec) (decI .i64) fun q0 q1=>(jJ N q0 q1).map fun r=>.val (.int .i64 r),false⟩
attribute [go_sem] pU
theorem vV (N:Nat):FSOk Tryz.prog 19 (pU N):=ok2 (fun q0 q1 r h=>by
 obtain ⟨r',hr,rfl⟩:=Option.map_eq_some_iff.1 h;exact zl N q0 q1 r' hr) (fun h=>aq ah.dec_le h) (aw)


noncomputable def wd (N d f:Nat):Option FnS:=glist [(19,48,gY N)] d f
attribute [go_sem] wd
noncomputable def vN (N d f:Nat):Option FnL:=llist [(11,44,eM N)] d f
attribute [go_sem] vN
theorem vR (N:Nat) (a0:(List ah)) (a1:Int) (r:(List Int)) (h:kq N a0 a1=some r):Con Tryz.prog 20 [] true [.sl false none 3 none (a0.map ah.row),.val (.int .i64 a1)] (.sl true none 1 none (r.map (rowI .i64))):=by
 refine kD (G:=(wd N)) (L:=(vN N)) Tryz.func20 rfl (by decide) (by kernel_rfl) (gc 19 (kL N) gn) (lc 11 (gf N) ln) [] mix (Nat.le_of_ble_eq_true rfl) ?_;simp only [Tryz.f20];unfold kq at h;refine Ws fun Z hZ=>?_;simp only [go_sem,seval];refine hZ _ (pp (Wk_seq ?_));obtain ⟨r1,hr1,h⟩:=Option.bind_eq_some_iff.1 h;refine ai fun Z hZ=>?_;simp only [go_sem,seval,hr1];refine hZ _ (pp (Wk_seq (Ws fun Z hZ=>?_)));simp only [go_sem,seval];refine hZ _ (pp (bW rfl (fun hc2=>?_) (fun hc2=>?_)))
 ·rw [if_neg (ne_true_of_eq_false hc2)] at h;refine Ws fun Z hZ=>?_;simp only [go_sem,seval,hc2];refine hZ _ (pp (Wk_ret (pp ?_)));obtain rfl:=Option.some.inj h;simp only [go_sem,seval];exact ⟨_,rfl,RokI.h,PureI.h⟩
 rw [if_pos hc2] at h;refine aj (pp (Wk_seq ?_));obtain ⟨r2,hr3,h⟩:=Option.bind_eq_some_iff.1 h;refine ai fun Z hZ=>?_;simp only [go_sem,seval,hc2,hr3];refine hZ _ (pp (Wk_seq (Ws fun Z hZ=>?_)));simp only [go_sem,seval];refine hZ _ (pp (am rfl (fun hc4=>?_) (fun hc4=>?_)))
 ·have hc4d:=decide_eq_true hc4;rw [if_pos hc4] at h;refine Ws fun Z hZ=>?_;simp only [go_sem,seval,hc4d];refine hZ _ (pp (Wk_ret (pp ?_)));obtain rfl:=Option.some.inj h;simp only [go_sem,seval];exact ⟨_,rfl,RokI.h,PureI.h⟩
 have hc4d:=decide_eq_false hc4;rw [if_neg hc4] at h;refine aj (pp (Wk_seq ?_));obtain ⟨x3,hb5,hx6,h⟩:=aJ h;first|obtain ⟨ha7,h⟩:=uZ h|(obtain ⟨ha7,h⟩:=br h; rw [List.nil_append] at h)
 simp only [Nat.reduceAdd] at ha7;refine ai fun Z hZ=>?_;simp only [go_sem,seval,hc4d,hb5,hx6,ha7];refine hZ _ (pp (Wk_ret (pp ?_)));obtain rfl:=Option.some.inj h;simp only [go_sem,seval];exact ⟨_,rfl,RokI.h,PureI.h⟩
def rb (N:Nat):FnS:=⟨[],true,fn2 (decL 3 ah.dec) (decI .i64) fun q0 q1=>(kq N q0 q1).map fun r=>.sl false none 1 none (r.map (rowI .i64)),false⟩
attribute [go_sem] rb
theorem yr (N:Nat):FSOk Tryz.prog 20 (rb N):=ok2 (fun q0 q1 r h=>by
 obtain ⟨r',hr,rfl⟩:=Option.map_eq_some_iff.1 h;exact (vR N q0 q1 r' hr).res (by (try simp only [go_sem]); exact RokI.h)) (fun h=>aq ah.dec_le h) (aw)

def tP (N:Nat):FnS:=⟨[],true,fn2 (decL 3 ah.dec) (decI .i64) fun q0 q1=>(kq N q0 q1).map fun r=>.sl true none 1 none (r.map (rowI .i64)),false⟩
attribute [go_sem] tP
theorem Ei (N:Nat):FSOk Tryz.prog 20 (tP N):=ok2 (fun q0 q1 r h=>by
 obtain ⟨r',hr,rfl⟩:=Option.map_eq_some_iff.1 h;exact vR N q0 q1 r' hr) (fun h=>aq ah.dec_le h) (aw)


noncomputable def p8 (N d f:Nat):Option FnL:=llist [(8,44,eM N)] d f
attribute [go_sem] p8
theorem pN (N:Nat) (a0:(List ah)) (r:(List ae)) (h:d9 N a0=some r):Con Tryz.prog 22 [] true [.sl false none 3 none (a0.map ah.row)] (.sl true none 2 none (r.map ae.row)):=by
 refine kD (G:=(glist [])) (L:=(p8 N)) Tryz.func22 rfl (by decide) (by kernel_rfl) gn (lc 8 (gf N) ln) [] mix (Nat.le_of_ble_eq_true rfl) ?_;simp only [Tryz.f22];unfold d9 at h;refine Ws fun Z hZ=>?_;simp only [go_sem,seval];refine hZ _ (pp (Wk_seq ?_));obtain ⟨r1,hr1,h⟩:=Option.bind_eq_some_iff.1 h;refine ai fun Z hZ=>?_;simp only [go_sem,seval,hr1];refine hZ _ (pp (Wk_seq (Ws fun Z hZ=>?_)));simp only [go_sem,seval];refine hZ _ (pp (bW rfl (fun hc2=>?_) (fun hc2=>?_)))
 ·rw [if_neg (ne_true_of_eq_false hc2)] at h;refine Ws fun Z hZ=>?_;simp only [go_sem,seval,hc2];refine hZ _ (pp (Wk_ret (pp ?_)));obtain rfl:=Option.some.inj h;simp only [go_sem,seval];exact ⟨_,rfl,RokI.h,PureI.h⟩
 rw [if_pos hc2] at h;refine aj (pp (Ws fun Z hZ=>?_));simp only [go_sem,seval,hc2];refine hZ _ (pp (Wk_ret (pp ?_)));obtain rfl:=Option.some.inj h;simp only [go_sem,seval];exact ⟨_,rfl,RokI.h,PureI.h⟩
def lY (N:Nat):FnS:=⟨[],true,fn1 (decL 3 ah.dec) fun q0=>(d9 N q0).map fun r=>.sl false none 2 none (r.map ae.row),false⟩
attribute [go_sem] lY
theorem rZ (N:Nat):FSOk Tryz.prog 22 (lY N):=ok1 (fun q0 r h=>by
 obtain ⟨r',hr,rfl⟩:=Option.map_eq_some_iff.1 h;exact (pN N q0 r' hr).res (by (try simp only [go_sem]); exact RokI.h)) (fun h=>aq ah.dec_le h)

def oY (N:Nat):FnS:=⟨[],true,fn1 (decL 3 ah.dec) fun q0=>(d9 N q0).map fun r=>.sl true none 2 none (r.map ae.row),false⟩
attribute [go_sem] oY
theorem Ax (N:Nat):FSOk Tryz.prog 22 (oY N):=ok1 (fun q0 r h=>by
 obtain ⟨r',hr,rfl⟩:=Option.map_eq_some_iff.1 h;exact pN N q0 r' hr) (fun h=>aq ah.dec_le h)


theorem wB (N:Nat) (a0:(List ae)) (a1:(List ae)) (r:Bool) (h:iN N a0 a1=some r):Con Tryz.prog 21 [] true [.sl false none 2 none (a0.map ae.row),.sl false none 2 none (a1.map ae.row)] (.val (.bool r)):=by
 refine aT (G:=(glist [])) Tryz.func21 rfl (by decide) (by kernel_rfl) gn [] mix (Nat.le_of_ble_eq_true rfl) ?_;simp only [Tryz.f21];unfold iN at h;refine Ws fun Z hZ=>?_;simp only [go_sem,seval];refine hZ _ (pp (Wk_seq (Ws fun Z hZ=>?_)));simp only [go_sem,seval];refine hZ _ (pp (oe rfl (fun hc1=>?_) (fun hc1=>?_)))
 ·have hc1d:=decide_eq_false hc1;rw [if_neg hc1] at h;refine Ws fun Z hZ=>?_;simp only [go_sem,seval,hc1d];refine hZ _ (pp (Wk_ret (pp ?_)));cases h;simp only [go_sem,seval];exact ⟨_,rfl,RokI.h,PureI.h⟩
 have hc1d:=decide_eq_true hc1;rw [if_pos hc1] at h;refine aj (pp (Wk_seq (Ws fun Z hZ=>?_)));simp only [go_sem,seval,hc1d];refine hZ _ (pp (ak (dE fun hreal3=>?_)));have hl2:=hreal3.lenT 0 (by decide) (by simp only [go_sem,seval]; rfl);first|rw [List.length_map] at hl2|rw [dD] at hl2|rw [<-List.map_append,List.length_map] at hl2
 refine dz (fun (v3:Nat) (b:Unit)=>⟨tab 26 (updT (updT (updT deadT 0 (.sl false none 2 none (a0.map ae.row))) 1 (.sl false none 2 none (a1.map ae.row))) 5 (.val (.int .i64 ((v3:Nat):Int)))),RZ⟩) () h ?_ ?_
 ·refine wr ?_ ?_<;>repeat' first|rfl|constructor
 rintro v3 ⟨⟩ hi4 h -;rcases (bx a0 v3 hi4).symm with ⟨hi4',_,hd7⟩|⟨x6,hi4',hx5,hd7⟩
 ·rw [hd7] at h;simp only [gS] at h;refine Wk_seq (Ws fun Z hZ=>?_);simp only [go_sem,seval,hi4'];refine hZ _ (pp ?_);try simp only [Int.ofNat_lt,hi4',if_true,if_false] at h
  refine a8 rfl (aP (pp (Ws fun Z hZ=>?_)));simp only [go_sem,seval];refine hZ _ (pp (Wk_ret (pp ?_)));cases h;simp only [go_sem,seval];exact ⟨_,rfl,RokI.h,PureI.h⟩
 rw [hd7] at h;simp only [gS] at h;have hw6:=bu hi4' hl2;refine Wk_seq (Ws fun Z hZ=>?_);simp only [go_sem,seval,hi4'];refine hZ _ (pp ?_);try simp only [Int.ofNat_lt,hi4',if_true,if_false] at h
 refine bp rfl (aj (pp (Wk_seq (ak (Wk_seq ?_)))));try rw [gx_nat hx5] at h
 obtain ⟨x1,hb8,hx9,h⟩:=aJ h;try simp only [Int.toNat_natCast] at hx9
 try simp only [Int.ofNat_lt,Int.natCast_nonneg,true_and] at hb8
 refine da fun Z hZ=>?_;simp only [go_sem,seval,hx5,hi4',hb8,hx9];refine hZ _ (by kernel_rfl) (pp (bW rfl (fun hc10=>?_) (fun hc10=>?_)))
 ·rw [if_neg (ne_true_of_eq_false hc10)] at h;refine Ws fun Z hZ=>?_;simp only [go_sem,seval,hc10];refine hZ _ (pp (Wk_ret (pp ?_)));cases h;simp only [go_sem,seval];exact ⟨_,rfl,RokI.h,PureI.h⟩
 rw [if_pos hc10] at h;refine aj (pp (ai fun Z hZ=>?_));simp only [go_sem,seval,hw6,hc10];refine hZ _ (pp ?_);first|refine ⟨(),?_,h⟩|refine ⟨hi4',(),?_,h⟩
 refine wr ?_ ?_<;>repeat' first|rfl|constructor
def oh (N:Nat):FnS:=⟨[],true,fn2 (decL 2 ae.dec) (decL 2 ae.dec) fun q0 q1=>(iN N q0 q1).map fun r=>.val (.bool r),false⟩
attribute [go_sem] oh
theorem tY (N:Nat):FSOk Tryz.prog 21 (oh N):=ok2 (fun q0 q1 r h=>by
 obtain ⟨r',hr,rfl⟩:=Option.map_eq_some_iff.1 h;exact wB N q0 q1 r' hr) (fun h=>aq ae.dec_le h) (fun h=>aq ae.dec_le h)


noncomputable def ve (N d f:Nat):Option FnL:=llist [(8,44,eM N)] d f
attribute [go_sem] ve
theorem vi (N:Nat) (a0:(List ah)) (r:(List Int)) (h:jG N a0=some r):Con Tryz.prog 23 [] true [.sl false none 3 none (a0.map ah.row)] (.sl true none 1 none (r.map (rowI .i64))):=by
 refine kD (G:=(glist [])) (L:=(ve N)) Tryz.func23 rfl (by decide) (by kernel_rfl) gn (lc 8 (gf N) ln) [] mix (Nat.le_of_ble_eq_true rfl) ?_;simp only [Tryz.f23];unfold jG at h;refine Ws fun Z hZ=>?_;simp only [go_sem,seval];refine hZ _ (pp (Wk_seq ?_));obtain ⟨r1,hr1,h⟩:=Option.bind_eq_some_iff.1 h;refine ai fun Z hZ=>?_;simp only [go_sem,seval,hr1];refine hZ _ (pp (Wk_seq (Ws fun Z hZ=>?_)));simp only [go_sem,seval];refine hZ _ (pp (bW rfl (fun hc2=>?_) (fun hc2=>?_)))
 ·rw [if_neg (ne_true_of_eq_false hc2)] at h;refine Ws fun Z hZ=>?_;simp only [go_sem,seval,hc2];refine hZ _ (pp (Wk_ret (pp ?_)));obtain rfl:=Option.some.inj h;simp only [go_sem,seval];exact ⟨_,rfl,RokI.h,PureI.h⟩
 rw [if_pos hc2] at h;refine aj (pp (Ws fun Z hZ=>?_));simp only [go_sem,seval,hc2];refine hZ _ (pp (Wk_ret (pp ?_)));obtain rfl:=Option.some.inj h;simp only [go_sem,seval];exact ⟨_,rfl,RokI.h,PureI.h⟩
def qx (N:Nat):FnS:=⟨[],true,fn1 (decL 3 ah.dec) fun q0=>(jG N q0).map fun r=>.sl false none 1 none (r.map (rowI .i64)),false⟩
attribute [go_sem] qx
theorem wH (N:Nat):FSOk Tryz.prog 23 (qx N):=ok1 (fun q0 r h=>by
 obtain ⟨r',hr,rfl⟩:=Option.map_eq_some_iff.1 h;exact (vi N q0 r' hr).res (by (try simp only [go_sem]); exact RokI.h)) (fun h=>aq ah.dec_le h)

def sH (N:Nat):FnS:=⟨[],true,fn1 (decL 3 ah.dec) fun q0=>(jG N q0).map fun r=>.sl true none 1 none (r.map (rowI .i64)),false⟩
attribute [go_sem] sH
theorem DN (N:Nat):FSOk Tryz.prog 23 (sH N):=ok1 (fun q0 r h=>by
 obtain ⟨r',hr,rfl⟩:=Option.map_eq_some_iff.1 h;exact vi N q0 r' hr) (fun h=>aq ah.dec_le h)


noncomputable def u6 (N d f:Nat):Option FnS:=glist [(17,15,mB N),(22,17,qw N),(27,14,lw N),(32,18,pg N),(46,7,gJ N),(52,7,gJ N),(57,12,iU N),(60,19,pU N),(65,13,mv N),(68,20,rb N),(69,7,gJ N),(73,11,jb N),(75,22,lY N),(76,21,oh N),(80,16,mA N),(82,23,qx N),(83,7,gJ N)] d f
attribute [go_sem] u6
theorem As (N:Nat) (a0:(List ah)) (a1:Int) (a2:Int) (r:Bool) (h:mP N a0 a1 a2=some r):Con Tryz.prog 6 [] true [.sl false none 3 none (a0.map ah.row),.val (.int .i64 a1),.val (.int .i64 a2)] (.val (.bool r)):=by
 refine aT (G:=(u6 N)) Tryz.func6 rfl (by decide) (by kernel_rfl) (gc 17 (qd N) (gc 22 (wy N) (gc 27 (po N) (gc 32 (vp N) (gc 46 (je N) (gc 52 (je N) (gc 57 (kr N) (gc 60 (vV N) (gc 65 (qf N) (gc 68 (yr N) (gc 69 (je N) (gc 73 (mL N) (gc 75 (rZ N) (gc 76 (tY N) (gc 80 (qa N) (gc 82 (wH N) (gc 83 (je N) gn))))))))))))))))) [] mix (Nat.le_of_ble_eq_true rfl) ?_;simp only [Tryz.f6];unfold mP at h;refine Ws fun Z hZ=>?_;simp only [go_sem,seval];refine hZ _ (pp (Wk_seq ?_));obtain ⟨r1,hr1,h⟩:=Option.bind_eq_some_iff.1 h;refine ai fun Z hZ=>?_;simp only [go_sem,seval,hr1];refine hZ _ (pp (Wk_seq ?_));obtain ⟨r2,hr2,h⟩:=Option.bind_eq_some_iff.1 h;refine ai fun Z hZ=>?_;simp only [go_sem,seval,hr2];refine hZ _ (pp (Wk_seq ?_));obtain ⟨r3,hr3,h⟩:=Option.bind_eq_some_iff.1 h;refine ai fun Z hZ=>?_;simp only [go_sem,seval,hr3];refine hZ _ (pp (Wk_seq ?_));obtain ⟨r4,hr4,h⟩:=Option.bind_eq_some_iff.1 h;refine ai fun Z hZ=>?_;simp only [go_sem,seval,hr4];refine hZ _ (pp (Wk_seq ?_));apply dc (fun (c11:Bool)=>⟨tab 85 (updT (updT (updT (updT deadT 0 (.sl false none 3 none (a0.map ah.row))) 1 (.val (.int .i64 a1))) 2 (.val (.int .i64 a2))) 54 (.val (.bool c11))),RZ⟩)
 ·intro hJ5;refine ai fun Z hZ=>?_;simp only [go_sem,seval];refine i7 rfl (fun hc6=>?_) (fun hc6=>?_)
  ·have hc6d:=decide_eq_false hc6;rw [if_neg hc6] at h;simp only [go_sem,seval,hc6d];refine hZ _ (pp (hJ5 _ true ?_ h));refine wr ?_ ?_<;>repeat' first|rfl|constructor
  have hc6d:=decide_eq_true hc6;rw [if_pos hc6] at h;simp only [go_sem,seval,hc6d];refine i7 rfl (fun hc7=>?_) (fun hc7=>?_)
  ·have hc7d:=decide_eq_false hc7;rw [if_neg hc7] at h;simp only [go_sem,seval,hc7d];refine hZ _ (pp (hJ5 _ true ?_ h));refine wr ?_ ?_<;>repeat' first|rfl|constructor
  have hc7d:=decide_eq_true hc7;rw [if_pos hc7] at h;obtain ⟨r12,hr8,h⟩:=Option.bind_eq_some_iff.1 h;simp only [go_sem,seval,hc7d,hr8];refine eV rfl (fun hc9=>?_) (fun hc9=>?_)
  ·rw [if_neg (ne_true_of_eq_false hc9)] at h;simp only [go_sem,seval,hc9];refine hZ _ (pp (hJ5 _ true ?_ h));refine wr ?_ ?_<;>repeat' first|rfl|constructor
  rw [if_pos hc9] at h;obtain ⟨r13,hr10,h⟩:=Option.bind_eq_some_iff.1 h;simp only [go_sem,seval,hc9,hr10];refine hZ _ (pp (hJ5 _ (!r13) ?_ h));refine wr ?_ ?_<;>repeat' first|rfl|constructor
 intro c11 h;unfold jv at h;refine ar rfl (fun hc11=>?_) (fun hc11=>?_)
 ·rw [if_pos hc11] at h;refine Ws fun Z hZ=>?_;simp only [go_sem,seval,hc11];refine hZ _ (pp (Wk_ret (pp ?_)));cases h;simp only [go_sem,seval];exact ⟨_,rfl,RokI.h,PureI.h⟩
 rw [if_neg (ne_true_of_eq_false hc11)] at h;refine aj (pp ?_);unfold jh at h;refine Wk_seq ?_;obtain ⟨r14,hr12,h⟩:=Option.bind_eq_some_iff.1 h;obtain ⟨r15,hr13,h⟩:=Option.bind_eq_some_iff.1 h;refine ai fun Z hZ=>?_;simp only [go_sem,seval,hc11,hr12,hr13];refine sw (bn rfl) (fun hc14=>?_) (fun hc14=>?_)
 ·have hc14d:=decide_eq_false hc14;rw [if_neg hc14] at h;simp only [go_sem,seval,hc14d];refine hZ _ (pp (Wk_ret (pp ?_)));cases h;simp only [go_sem,seval];exact ⟨_,rfl,RokI.h,PureI.h⟩
 have hc14d:=decide_eq_true hc14;rw [if_pos hc14] at h;obtain ⟨r16,hr15,h⟩:=Option.bind_eq_some_iff.1 h;obtain ⟨r17,hr16,h⟩:=Option.bind_eq_some_iff.1 h;obtain ⟨r18,hr17,h⟩:=Option.bind_eq_some_iff.1 h;simp only [go_sem,seval,hc14d,hr15,hr16,hr17];refine sw (bI rfl) (fun hc18=>?_) (fun hc18=>?_)
 ·rw [if_neg (ne_true_of_eq_false hc18)] at h;simp only [go_sem,seval,hc18];refine hZ _ (pp (Wk_ret (pp ?_)));cases h;simp only [go_sem,seval];exact ⟨_,rfl,RokI.h,PureI.h⟩
 rw [if_pos hc18] at h;obtain ⟨r19,hr19,h⟩:=Option.bind_eq_some_iff.1 h;obtain ⟨r20,hr20,h⟩:=Option.bind_eq_some_iff.1 h;obtain ⟨r21,hr21,h⟩:=Option.bind_eq_some_iff.1 h;simp only [go_sem,seval,hc18,hr19,hr20,hr21];refine bI rfl (fun hc22=>?_) (fun hc22=>?_)
 ·rw [if_pos hc22] at h;obtain ⟨r22,hr23,h⟩:=Option.bind_eq_some_iff.1 h;obtain ⟨r23,hr24,h⟩:=Option.bind_eq_some_iff.1 h;obtain ⟨r24,hr25,h⟩:=Option.bind_eq_some_iff.1 h;simp only [go_sem,seval,hc22,hr23,hr24,hr25];refine hZ _ (pp (Wk_ret (pp ?_)));cases h;simp only [go_sem,seval];exact ⟨_,rfl,RokI.h,PureI.h⟩
 rw [if_neg (ne_true_of_eq_false hc22)] at h;simp only [go_sem,seval,hc22];refine hZ _ (pp (Wk_ret (pp ?_)));cases h;simp only [go_sem,seval];exact ⟨_,rfl,RokI.h,PureI.h⟩
noncomputable def qs (N:Nat):FnS:=⟨[],true,fn3 (decL 3 ah.dec) (decI .i64) (decI .i64) fun q0 q1 q2=>(mP N q0 q1 q2).map fun r=>.val (.bool r),false⟩
attribute [go_sem] qs
theorem wD (N:Nat):FSOk Tryz.prog 6 (qs N):=ok3 (fun q0 q1 q2 r h=>by
 obtain ⟨r',hr,rfl⟩:=Option.map_eq_some_iff.1 h;exact As N q0 q1 q2 r' hr) (fun h=>aq ah.dec_le h) (aw) (aw)


noncomputable def qS (N d f:Nat):Option FnS:=glist [(11,5,oq N),(29,6,qs N),(33,8,lz N),(36,9,kQ N),(37,7,gJ N)] d f
attribute [go_sem] qS
theorem qK (N:Nat) (a0:(List ah)) (a1:Int) (a2:Int) (a3:(List ae)) (a4:(List Int)) (r:Bool) (h:jt N a0 a1 a2 a3 a4=some r):Con Tryz.prog 3 [] true [.sl false none 3 none (a0.map ah.row),.val (.int .i64 a1),.val (.int .i64 a2),.sl false none 2 none (a3.map ae.row),.sl false none 1 none (a4.map (rowI .i64))] (.val (.bool r)):=by
 refine aT (G:=(qS N)) Tryz.func3 rfl (by decide) (by kernel_rfl) (gc 11 (wG N) (gc 29 (wD N) (gc 33 (pI N) (gc 36 (mU N) (gc 37 (je N) gn))))) [] mix (Nat.le_of_ble_eq_true rfl) ?_;simp only [Tryz.f3];unfold jt at h;refine Ws fun Z hZ=>?_;simp only [go_sem,seval];refine hZ _ (pp (Wk_seq (Wk_seq ?_)));obtain ⟨r1,hr1,h⟩:=Option.bind_eq_some_iff.1 h;refine ai fun Z hZ=>?_;simp only [go_sem,seval,hr1];refine hZ _ (pp (bW rfl (fun hc2=>?_) (fun hc2=>?_)))
 ·rw [if_neg (ne_true_of_eq_false hc2)] at h;refine Ws fun Z hZ=>?_;simp only [go_sem,seval,hc2];refine hZ _ (pp (Wk_ret (pp ?_)));cases h;simp only [go_sem,seval];exact ⟨_,rfl,RokI.h,PureI.h⟩
 rw [if_pos hc2] at h;refine aj (pp (Wk_seq ?_));apply dc (fun (c4:Bool)=>⟨tab 39 (updT (updT (updT (updT (updT (updT deadT 0 (.sl false none 3 none (a0.map ah.row))) 1 (.val (.int .i64 a1))) 2 (.val (.int .i64 a2))) 3 (.sl false none 2 none (a3.map ae.row))) 4 (.sl false none 1 none (a4.map (rowI .i64)))) 25 (.val (.bool c4))),RZ⟩)
 ·intro hJ3;refine ai fun Z hZ=>?_;simp only [go_sem,seval,hc2];refine bn rfl (fun hc4=>?_) (fun hc4=>?_)
  ·have hc4d:=decide_eq_true hc4;rw [if_pos hc4] at h;simp only [go_sem,seval,hc4d];refine hZ _ (pp (hJ3 _ true ?_ h));refine wr ?_ ?_<;>repeat' first|rfl|constructor
  have hc4d:=decide_eq_false hc4;rw [if_neg hc4] at h;simp only [go_sem,seval,hc4d];refine bn rfl (fun hc5=>?_) (fun hc5=>?_)
  ·have hc5d:=decide_eq_true hc5;rw [if_pos hc5] at h;simp only [go_sem,seval,hc5d];refine hZ _ (pp (hJ3 _ true ?_ h));refine wr ?_ ?_<;>repeat' first|rfl|constructor
  have hc5d:=decide_eq_false hc5;rw [if_neg hc5] at h;simp only [go_sem,seval,hc5d];refine hZ _ (pp (hJ3 _ (decide (60 < ((a4.length:Nat):Int))) ?_ h));refine wr ?_ ?_<;>repeat' first|rfl|constructor
 intro c4 h;unfold jf at h;refine ar rfl (fun hc6=>?_) (fun hc6=>?_)
 ·rw [if_pos hc6] at h;refine Ws fun Z hZ=>?_;simp only [go_sem,seval,hc6];refine hZ _ (pp (Wk_ret (pp ?_)));cases h;simp only [go_sem,seval];exact ⟨_,rfl,RokI.h,PureI.h⟩
 rw [if_neg (ne_true_of_eq_false hc6)] at h;refine aj (pp ?_);unfold jd at h;refine Wk_seq ?_;obtain ⟨r5,hr7,h⟩:=Option.bind_eq_some_iff.1 h;refine ai fun Z hZ=>?_;simp only [go_sem,seval,hc6,hr7];refine bI rfl (fun hc8=>?_) (fun hc8=>?_)
 ·rw [if_pos hc8] at h;obtain ⟨r6,hr9,h⟩:=Option.bind_eq_some_iff.1 h;obtain ⟨r7,hr10,h⟩:=Option.bind_eq_some_iff.1 h;obtain ⟨r8,hr11,h⟩:=Option.bind_eq_some_iff.1 h;simp only [go_sem,seval,hc8,hr9,hr10,hr11];refine hZ _ (pp (Wk_ret (pp ?_)));cases h;simp only [go_sem,seval];exact ⟨_,rfl,RokI.h,PureI.h⟩
 rw [if_neg (ne_true_of_eq_false hc8)] at h;simp only [go_sem,seval,hc8];refine hZ _ (pp (Wk_ret (pp ?_)));cases h;simp only [go_sem,seval];exact ⟨_,rfl,RokI.h,PureI.h⟩
noncomputable def qe (N:Nat):FnS:=⟨[],true,fn5 (decL 3 ah.dec) (decI .i64) (decI .i64) (decL 2 ae.dec) (decL 1 (dec1 (decI .i64))) fun q0 q1 q2 q3 q4=>(jt N q0 q1 q2 q3 q4).map fun r=>.val (.bool r),false⟩
attribute [go_sem] qe
theorem B9 (N:Nat):FSOk Tryz.prog 3 (qe N):=ok5 (fun q0 q1 q2 q3 q4 r h=>by
 obtain ⟨r',hr,rfl⟩:=Option.map_eq_some_iff.1 h;exact qK N q0 q1 q2 q3 q4 r' hr) (fun h=>aq ah.dec_le h) (aw) (aw) (fun h=>aq ae.dec_le h) (fun h=>aq (aH .i64) h)

end Go.Proofs.YtekgpnhfhkhpaaaGreat
