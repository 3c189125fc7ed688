import Derived.Test.YtekgpnhfhkhpaaaGreatB
import Derived.Test.YtekgpnhfhkhpaaaGreatWA
/- Each Go function computes its model: proofs laid by a program of ours. -/
set_option maxHeartbeats 40000000
set_option synthInstance.maxHeartbeats 2000000
set_option synthInstance.maxSize 4000
set_option linter.unusedSimpArgs false
set_option linter.unusedVariables false
set_option maxRecDepth 100000
namespace Go.Proofs.YtekgpnhfhkhpaaaGreat
open Go Go.Proofs Go.Abs
noncomputable def vo (N d f:Nat):Option FnS:=glist [(13,11,jg N),(26,12,i0 N),(31,12,i0 N),(36,13,mF N),(42,14,lY N),(67,15,ld N),(75,8,ot N),(83,16,mD N),(98,12,i0 N)] d f
attribute [go_sem] vo
theorem AE (N:Nat)  (r:Bool) (h:mT N  = some r):Con Tryz.prog 5 [] true [] (.val (.bool r)):=by
 refine aV (G:=(vo N)) Tryz.func5 rfl (by decide) (by kernel_rfl) (gc 13 (mM N) (gc 26 (kw N) (gc 31 (kw N) (gc 36 (qr N) (gc 42 (pN N) (gc 67 (m3 N) (gc 75 (tW N) (gc 83 (qo N) (gc 98 (kw N) gn))))))))) [(11,true),(82,true),(97,true)] mix (Nat.le_of_ble_eq_true rfl) ?_;simp only [Tryz.f5];unfold mT at h;refine Ws fun Z hZ=>?_;simp (config:={ maxSteps:=4000000 }) only [go_sem,seval];refine hZ _ (pp (Ws fun Z hZ=>?_));simp (config:={ maxSteps:=4000000 }) only [go_sem,seval];refine hZ _ (pp (Wk_seq ?_));obtain ⟨r1,hr1,h⟩:=Option.bind_eq_some_iff.1 h;refine ai fun Z hZ=>?_;simp (config:={ maxSteps:=4000000 }) only [go_sem,seval,hr1];refine hZ _ (pp (Wk_seq ?_));apply bS (fun (c12:Bool)=>⟨tab 101 (updT (updT (updT deadT 1 (.sl false none 3 (some 3) ([(ah.mk 1 1 1),(ah.mk 2 1 1),(ah.mk 1 2 1)].map ah.row))) 2 (.sl false none 2 none (r1.map ae.row))) 39 (.val (.bool c12))),RZ⟩)
 ·intro hJ2;refine ai fun Z hZ=>?_;simp (config:={ maxSteps:=4000000 }) only [go_sem,seval];refine jb rfl (fun hc3=>?_) (fun hc3=>?_)
  ·have hc3d:=decide_eq_false hc3;first|rw [if_neg hc3] at h|rw [if_neg (ne_true_of_eq_false hc3d)] at h|simp only [hc3d,Bool.not_true,Bool.not_false,Bool.false_eq_true,if_true,if_false] at h
   simp (config:={ maxSteps:=4000000 }) only [go_sem,seval,hc3d];refine hZ _ (pp (hJ2 _ true ?_ h));refine wr ?_ ?_<;>repeat' first|rfl|constructor|simp only [go_sem,seval,Bool.or_self,List.length_set,Int.natCast_zero,Int.cast_ofNat_Int,hr1,hc3d]
  have hc3d:=decide_eq_true hc3;first|rw [if_pos hc3] at h|rw [if_pos hc3d] at h|simp only [hc3d,Bool.not_true,Bool.not_false,Bool.false_eq_true,if_true,if_false] at h
  obtain ⟨x13,hb4,hx5,h⟩:=aI h;try simp only [Int.toNat_zero] at hx5
  try simp only [Int.ofNat_lt,Int.natCast_nonneg,true_and] at hb4
  simp (config:={ maxSteps:=4000000 }) only [go_sem,seval,hc3d,hb4,hx5];refine eY rfl (fun hc6=>?_) (fun hc6=>?_)
  ·first|rw [if_neg (ne_true_of_eq_false hc6)] at h|simp only [hc6,Bool.or_false,Bool.or_true,Bool.false_or,Bool.true_or,Bool.and_true,Bool.true_and,Bool.and_false,Bool.false_and,Bool.not_true,Bool.not_false,Bool.false_eq_true,if_true,if_false] at h
   simp (config:={ maxSteps:=4000000 }) only [go_sem,seval,hc6];refine hZ _ (pp (hJ2 _ true ?_ h));refine wr ?_ ?_<;>repeat' first|rfl|constructor|simp only [go_sem,seval,Bool.or_self,List.length_set,Int.natCast_zero,Int.cast_ofNat_Int,hr1,hc3d,hb4,hx5,hc6]
  first|rw [if_pos hc6] at h|simp only [hc6,Bool.or_false,Bool.or_true,Bool.false_or,Bool.true_or,Bool.and_true,Bool.true_and,Bool.and_false,Bool.false_and,Bool.not_true,Bool.not_false,Bool.false_eq_true,if_true,if_false] at h
  obtain ⟨r14,hr7,h⟩:=Option.bind_eq_some_iff.1 h;simp (config:={ maxSteps:=4000000 }) only [go_sem,seval,hc6,hr7];refine jb rfl (fun hc8=>?_) (fun hc8=>?_)
  ·have hc8d:=decide_eq_false hc8;first|rw [if_neg hc8] at h|rw [if_neg (ne_true_of_eq_false hc8d)] at h|simp only [hc8d,Bool.not_true,Bool.not_false,Bool.false_eq_true,if_true,if_false] at h
   simp (config:={ maxSteps:=4000000 }) only [go_sem,seval,hc8d];refine hZ _ (pp (hJ2 _ true ?_ h));refine wr ?_ ?_<;>repeat' first|rfl|constructor|simp only [go_sem,seval,Bool.or_self,List.length_set,Int.natCast_zero,Int.cast_ofNat_Int,hr1,hc3d,hb4,hx5,hc6,hr7,hc8d]
  have hc8d:=decide_eq_true hc8;first|rw [if_pos hc8] at h|rw [if_pos hc8d] at h|simp only [hc8d,Bool.not_true,Bool.not_false,Bool.false_eq_true,if_true,if_false] at h
  obtain ⟨r15,hr9,h⟩:=Option.bind_eq_some_iff.1 h;simp (config:={ maxSteps:=4000000 }) only [go_sem,seval,hc8d,hr9];refine jb rfl (fun hc10=>?_) (fun hc10=>?_)
  ·have hc10d:=decide_eq_false hc10;first|rw [if_neg hc10] at h|rw [if_neg (ne_true_of_eq_false hc10d)] at h|simp only [hc10d,Bool.not_true,Bool.not_false,Bool.false_eq_true,if_true,if_false] at h
   simp (config:={ maxSteps:=4000000 }) only [go_sem,seval,hc10d];refine hZ _ (pp (hJ2 _ true ?_ h));refine wr ?_ ?_<;>repeat' first|rfl|constructor|simp only [go_sem,seval,Bool.or_self,List.length_set,Int.natCast_zero,Int.cast_ofNat_Int,hr1,hc3d,hb4,hx5,hc6,hr7,hc8d,hr9,hc10d]
  have hc10d:=decide_eq_true hc10;first|rw [if_pos hc10] at h|rw [if_pos hc10d] at h|simp only [hc10d,Bool.not_true,Bool.not_false,Bool.false_eq_true,if_true,if_false] at h
  obtain ⟨r16,hr11,h⟩:=Option.bind_eq_some_iff.1 h;simp (config:={ maxSteps:=4000000 }) only [go_sem,seval,hc10d,hr11];refine hZ _ (pp (hJ2 _ (!decide (((r16.length:Nat):Int)=2)) ?_ h));refine wr ?_ ?_<;>repeat' first|rfl|constructor|simp only [go_sem,seval,Bool.or_self,List.length_set,Int.natCast_zero,Int.cast_ofNat_Int,hr1,hc3d,hb4,hx5,hc6,hr7,hc8d,hr9,hc10d,hr11]
 intro c12 h;unfold jm at h;refine au rfl (fun hc12=>?_) (fun hc12=>?_)
 ·first|rw [if_pos hc12] at h|simp only [hc12,Bool.or_false,Bool.or_true,Bool.false_or,Bool.true_or,Bool.and_true,Bool.true_and,Bool.and_false,Bool.false_and,Bool.not_true,Bool.not_false,Bool.false_eq_true,if_true,if_false] at h
  refine Ws fun Z hZ=>?_;simp (config:={ maxSteps:=4000000 }) only [go_sem,seval,hc12];refine hZ _ (pp (Wk_ret (pp ?_)));cases h;simp (config:={ maxSteps:=4000000 }) only [go_sem,seval];exact ⟨_,rfl,(by exact ROk.refl _),(by repeat' (first|exact PureC.val _|refine PureC.tup ?_|refine PureC.agg ?_|exact eC|refine aR ?_ ?_))⟩
 first|rw [if_neg (ne_true_of_eq_false hc12)] at h|simp only [hc12,Bool.or_false,Bool.or_true,Bool.false_or,Bool.true_or,Bool.and_true,Bool.true_and,Bool.and_false,Bool.false_and,Bool.not_true,Bool.not_false,Bool.false_eq_true,if_true,if_false] at h
 refine ak (pp ?_);unfold jp at h;refine Wk_seq ?_;obtain ⟨r17,hr13,h⟩:=Option.bind_eq_some_iff.1 h;refine ai fun Z hZ=>?_;simp (config:={ maxSteps:=4000000 }) only [go_sem,seval,hc12,hr13];refine hZ _ (pp (Wk_seq ?_));apply bS (fun (c24:Bool)=>⟨tab 101 (updT (updT (updT deadT 1 (.sl false none 3 (some 3) ([(ah.mk 1 1 1),(ah.mk 2 1 1),(ah.mk 1 2 1)].map ah.row))) 2 (.sl false none 2 none (r1.map ae.row))) 64 (.val (.bool c24))),RZ⟩)
 ·intro hJ14;refine ai fun Z hZ=>?_;simp (config:={ maxSteps:=4000000 }) only [go_sem,seval];refine jb rfl (fun hc15=>?_) (fun hc15=>?_)
  ·have hc15d:=decide_eq_false hc15;first|rw [if_neg hc15] at h|rw [if_neg (ne_true_of_eq_false hc15d)] at h|simp only [hc15d,Bool.not_true,Bool.not_false,Bool.false_eq_true,if_true,if_false] at h
   simp (config:={ maxSteps:=4000000 }) only [go_sem,seval,hc15d];refine hZ _ (pp (hJ14 _ true ?_ h));refine wr ?_ ?_<;>repeat' first|rfl|constructor|simp only [go_sem,seval,Bool.or_self,List.length_set,Int.natCast_zero,Int.cast_ofNat_Int,hr1,hc12,hr13,hc15d]
  have hc15d:=decide_eq_true hc15;first|rw [if_pos hc15] at h|rw [if_pos hc15d] at h|simp only [hc15d,Bool.not_true,Bool.not_false,Bool.false_eq_true,if_true,if_false] at h
  obtain ⟨x25,hb16,hx17,h⟩:=aI h;try simp only [Int.toNat_zero] at hx17
  try simp only [Int.ofNat_lt,Int.natCast_nonneg,true_and] at hb16
  simp (config:={ maxSteps:=4000000 }) only [go_sem,seval,hc15d,hb16,hx17];refine jb rfl (fun hc18=>?_) (fun hc18=>?_)
  ·have hc18d:=decide_eq_false hc18;first|rw [if_neg hc18] at h|rw [if_neg (ne_true_of_eq_false hc18d)] at h|simp only [hc18d,Bool.not_true,Bool.not_false,Bool.false_eq_true,if_true,if_false] at h
   simp (config:={ maxSteps:=4000000 }) only [go_sem,seval,hc18d];refine hZ _ (pp (hJ14 _ true ?_ h));refine wr ?_ ?_<;>repeat' first|rfl|constructor|simp only [go_sem,seval,Bool.or_self,List.length_set,Int.natCast_zero,Int.cast_ofNat_Int,hr1,hc12,hr13,hc15d,hb16,hx17,hc18d]
  have hc18d:=decide_eq_true hc18;first|rw [if_pos hc18] at h|rw [if_pos hc18d] at h|simp only [hc18d,Bool.not_true,Bool.not_false,Bool.false_eq_true,if_true,if_false] at h
  simp (config:={ maxSteps:=4000000 }) only [go_sem,seval,hc18d];refine jb rfl (fun hc19=>?_) (fun hc19=>?_)
  ·have hc19d:=decide_eq_false hc19;first|rw [if_neg hc19] at h|rw [if_neg (ne_true_of_eq_false hc19d)] at h|simp only [hc19d,Bool.not_true,Bool.not_false,Bool.false_eq_true,if_true,if_false] at h
   simp (config:={ maxSteps:=4000000 }) only [go_sem,seval,hc19d];refine hZ _ (pp (hJ14 _ true ?_ h));refine wr ?_ ?_<;>repeat' first|rfl|constructor|simp only [go_sem,seval,Bool.or_self,List.length_set,Int.natCast_zero,Int.cast_ofNat_Int,hr1,hc12,hr13,hc15d,hb16,hx17,hc18d,hc19d]
  have hc19d:=decide_eq_true hc19;first|rw [if_pos hc19] at h|rw [if_pos hc19d] at h|simp only [hc19d,Bool.not_true,Bool.not_false,Bool.false_eq_true,if_true,if_false] at h
  obtain ⟨x26,hb20,hx21,h⟩:=aI h;try simp only [Int.toNat_zero] at hx21
  try simp only [Int.ofNat_lt,Int.natCast_nonneg,true_and] at hb20
  simp (config:={ maxSteps:=4000000 }) only [go_sem,seval,hb16,hc19d,hb20,hx21];refine hZ _ (pp (hJ14 _ (!decide (x26=2)) ?_ h));refine wr ?_ ?_<;>repeat' first|rfl|constructor|simp only [go_sem,seval,Bool.or_self,List.length_set,Int.natCast_zero,Int.cast_ofNat_Int,hr1,hc12,hr13,hc15d,hb16,hx17,hc18d,hc19d,hb20,hx21]
 intro c24 h;unfold kF at h;refine au rfl (fun hc22=>?_) (fun hc22=>?_)
 ·first|rw [if_pos hc22] at h|simp only [hc22,hc12,Bool.or_false,Bool.or_true,Bool.false_or,Bool.true_or,Bool.and_true,Bool.true_and,Bool.and_false,Bool.false_and,Bool.not_true,Bool.not_false,Bool.false_eq_true,if_true,if_false] at h
  refine Ws fun Z hZ=>?_;simp (config:={ maxSteps:=4000000 }) only [go_sem,seval,hc22];refine hZ _ (pp (Wk_ret (pp ?_)));cases h;simp (config:={ maxSteps:=4000000 }) only [go_sem,seval];exact ⟨_,rfl,(by exact ROk.refl _),(by repeat' (first|exact PureC.val _|refine PureC.tup ?_|refine PureC.agg ?_|exact eC|refine aR ?_ ?_))⟩
 first|rw [if_neg (ne_true_of_eq_false hc22)] at h|simp only [hc22,hc12,Bool.or_false,Bool.or_true,Bool.false_or,Bool.true_or,Bool.and_true,Bool.true_and,Bool.and_false,Bool.false_and,Bool.not_true,Bool.not_false,Bool.false_eq_true,if_true,if_false] at h
 refine ak (pp ?_);unfold kH at h;refine Wk_seq (Wk_seq ?_);obtain ⟨r31,hr23,h⟩:=Option.bind_eq_some_iff.1 h;refine ai fun Z hZ=>?_;simp (config:={ maxSteps:=4000000 }) only [go_sem,seval,hc22,hr23];refine hZ _ (pp ?_);apply bS (fun (c33:Bool)=>⟨tab 101 (updT (updT deadT 1 (.sl false none 3 (some 3) ([(ah.mk 1 1 1),(ah.mk 2 1 1),(ah.mk 1 2 1)].map ah.row))) 78 (.val (.bool c33))),RZ⟩)
 ·intro hJ24;refine ai fun Z hZ=>?_;simp (config:={ maxSteps:=4000000 }) only [go_sem,seval];refine eY rfl (fun hc25=>?_) (fun hc25=>?_)
  ·first|rw [if_neg (ne_true_of_eq_false hc25)] at h|simp only [hc25,hc12,hc22,Bool.or_false,Bool.or_true,Bool.false_or,Bool.true_or,Bool.and_true,Bool.true_and,Bool.and_false,Bool.false_and,Bool.not_true,Bool.not_false,Bool.false_eq_true,if_true,if_false] at h
   simp (config:={ maxSteps:=4000000 }) only [go_sem,seval,hc25];refine hZ _ (pp (hJ24 _ true ?_ h));refine wr ?_ ?_<;>repeat' first|rfl|constructor|simp only [go_sem,seval,Bool.or_self,List.length_set,Int.natCast_zero,Int.cast_ofNat_Int,hr1,hc12,hr13,hc22,hr23,hc25]
  first|rw [if_pos hc25] at h|simp only [hc25,hc12,hc22,Bool.or_false,Bool.or_true,Bool.false_or,Bool.true_or,Bool.and_true,Bool.true_and,Bool.and_false,Bool.false_and,Bool.not_true,Bool.not_false,Bool.false_eq_true,if_true,if_false] at h
  obtain ⟨r34,hr26,h⟩:=Option.bind_eq_some_iff.1 h;simp (config:={ maxSteps:=4000000 }) only [go_sem,seval,hc25,hr26];refine hZ _ (pp (hJ24 _ (!decide (((r34.length:Nat):Int)=2)) ?_ h));refine wr ?_ ?_<;>repeat' first|rfl|constructor|simp only [go_sem,seval,Bool.or_self,List.length_set,Int.natCast_zero,Int.cast_ofNat_Int,hr1,hc12,hr13,hc22,hr23,hc25,hr26]
 intro c33 h;unfold oH at h;refine au rfl (fun hc27=>?_) (fun hc27=>?_)
 ·first|rw [if_pos hc27] at h|simp only [hc27,hc12,hc22,Bool.or_false,Bool.or_true,Bool.false_or,Bool.true_or,Bool.and_true,Bool.true_and,Bool.and_false,Bool.false_and,Bool.not_true,Bool.not_false,Bool.false_eq_true,if_true,if_false] at h
  refine Ws fun Z hZ=>?_;simp (config:={ maxSteps:=4000000 }) only [go_sem,seval,hc27];refine hZ _ (pp (Wk_ret (pp ?_)));cases h;simp (config:={ maxSteps:=4000000 }) only [go_sem,seval];exact ⟨_,rfl,(by exact ROk.refl _),(by repeat' (first|exact PureC.val _|refine PureC.tup ?_|refine PureC.agg ?_|exact eC|refine aR ?_ ?_))⟩
 first|rw [if_neg (ne_true_of_eq_false hc27)] at h|simp only [hc27,hc12,hc22,Bool.or_false,Bool.or_true,Bool.false_or,Bool.true_or,Bool.and_true,Bool.true_and,Bool.and_false,Bool.false_and,Bool.not_true,Bool.not_false,Bool.false_eq_true,if_true,if_false] at h
 refine ak (pp ?_);unfold oU at h;refine Wk_seq ?_;obtain ⟨ha28,h⟩:=bk h;simp only [List.length_cons,List.length_nil,Nat.zero_add,Nat.reduceAdd] at ha28;obtain ⟨r35,hr29,h⟩:=Option.bind_eq_some_iff.1 h;try simp only [List.cons_append,List.nil_append] at hr29
 refine ai fun Z hZ=>?_;simp (config:={ maxSteps:=4000000 }) only [go_sem,seval,hc27,ha28,Nat.lt_succ_self,hr29];refine hZ _ (pp (Ws fun Z hZ=>?_));simp (config:={ maxSteps:=4000000 }) only [go_sem,seval];refine sw (bF rfl) (fun hc30=>?_) (fun hc30=>?_)
 ·have hc30d:=decide_eq_false hc30;first|rw [if_neg hc30] at h|rw [if_neg (ne_true_of_eq_false hc30d)] at h|simp only [hc30d,Bool.not_true,Bool.not_false,Bool.false_eq_true,if_true,if_false] at h
  simp (config:={ maxSteps:=4000000 }) only [go_sem,seval,Nat.lt_succ_self,hc30d];refine hZ _ (pp (Wk_ret (pp ?_)));cases h;simp (config:={ maxSteps:=4000000 }) only [go_sem,seval];exact ⟨_,rfl,(by exact ROk.refl _),(by repeat' (first|exact PureC.val _|refine PureC.tup ?_|refine PureC.agg ?_|exact eC|refine aR ?_ ?_))⟩
 have hc30d:=decide_eq_true hc30;first|rw [if_pos hc30] at h|rw [if_pos hc30d] at h|simp only [hc30d,Bool.not_true,Bool.not_false,Bool.false_eq_true,if_true,if_false] at h
 obtain ⟨x36,hb31,hx32,h⟩:=aI h;try simp only [Int.toNat_zero] at hx32
 try simp only [Int.ofNat_lt,Int.natCast_nonneg,true_and] at hb31
 simp (config:={ maxSteps:=4000000 }) only [go_sem,seval,hc30d,hb31,hx32];refine sw (bF rfl) (fun hc33=>?_) (fun hc33=>?_)
 ·have hc33d:=decide_eq_false hc33;first|rw [if_neg hc33] at h|rw [if_neg (ne_true_of_eq_false hc33d)] at h|simp only [hc33d,Bool.not_true,Bool.not_false,Bool.false_eq_true,if_true,if_false] at h
  simp (config:={ maxSteps:=4000000 }) only [go_sem,seval,Nat.lt_succ_self,hc33d];refine hZ _ (pp (Wk_ret (pp ?_)));cases h;simp (config:={ maxSteps:=4000000 }) only [go_sem,seval];exact ⟨_,rfl,(by exact ROk.refl _),(by repeat' (first|exact PureC.val _|refine PureC.tup ?_|refine PureC.agg ?_|exact eC|refine aR ?_ ?_))⟩
 have hc33d:=decide_eq_true hc33;first|rw [if_pos hc33] at h|rw [if_pos hc33d] at h|simp only [hc33d,Bool.not_true,Bool.not_false,Bool.false_eq_true,if_true,if_false] at h
 obtain ⟨ha34,h⟩:=bk h;simp only [List.length_cons,List.length_nil,Nat.zero_add,Nat.reduceAdd] at ha34;obtain ⟨r37,hr35,h⟩:=Option.bind_eq_some_iff.1 h;try simp only [List.cons_append,List.nil_append] at hr35
 simp (config:={ maxSteps:=4000000 }) only [go_sem,seval,ha28,Nat.lt_succ_self,hc33d,hr35];refine hZ _ (pp (Wk_ret (pp ?_)));cases h;simp (config:={ maxSteps:=4000000 }) only [go_sem,seval];exact ⟨_,rfl,(by exact ROk.refl _),(by repeat' (first|exact PureC.val _|refine PureC.tup ?_|refine PureC.agg ?_|exact eC|refine aR ?_ ?_))⟩
noncomputable def oO (N:Nat):FnS:={ own:=[],pure:=true,fn:=fun cs=>match cs with
 | [] =>  (mT N ).map fun r=>.val (.bool r)
 | _=>none }
attribute [go_sem] oO
theorem wR (N:Nat):FSOk Tryz.prog 5 (oO N):=by
 refine ⟨fun cs r h=>?_,fun h=>by cases h⟩;simp only [oO] at h;split at h
 ·simp only [Option.map_eq_some_iff] at h;obtain ⟨r',hr,rfl⟩:=h;exact ((AE N  r' hr).args (LeL.nil))
 ·cases h


noncomputable def sQ (N d f:Nat):Option FnS:=glist [(70,15,ld N)] d f
attribute [go_sem] sQ
theorem sO (N:Nat) (a0:(List aj)) (r:(List ah)) (h:lB N a0=some r):Con Tryz.prog 10 [] true [.sl false none 3 none (a0.map aj.row)] (.sl true none 3 none (r.map ah.row)):=by
 refine aV (G:=(sQ N)) Tryz.func10 rfl (by decide) (by kernel_rfl) (gc 70 (m3 N) gn) [] mix (Nat.le_of_ble_eq_true rfl) ?_;simp only [Tryz.f10];unfold lB at h;refine Ws fun Z hZ=>?_;simp (config:={ maxSteps:=4000000 }) only [go_sem,seval];refine hZ _ (pp (Ws fun Z hZ=>?_));simp (config:={ maxSteps:=4000000 }) only [go_sem,seval];refine hZ _ (pp (Wk_seq (Ws fun Z hZ=>?_)));simp (config:={ maxSteps:=4000000 }) only [go_sem,seval];refine hZ _ (pp (al (dt fun hreal2=>?_)));have hl1:=hreal2.lenT 0 (by decide) (by simp only [go_sem,seval]; rfl);first|rw [List.length_map] at hl1|rw [dy] at hl1|rw [<-List.map_append,List.length_map] at hl1
 refine dg (fun (v3:Nat) (b:List ah)=>⟨tab 76 (updT (updT (updT deadT 0 (.sl false none 3 none (a0.map aj.row))) 3 (.pal 503 [] 0 b.length none)) 4 (.val (.int .i64 ((v3:Nat):Int)))),(upd RZ 503 (.sl true none 3 none (b.map ah.row)))⟩) [] h ?_ ?_
 ·refine Weak.trans (ko 3 503 3 (by simp only [go_sem,seval]) (by simp only [go_sem,seval])) ?_;refine wr ?_ ?_<;>repeat' first|rfl|constructor|simp only [go_sem,seval,Bool.or_self,List.length_set,Int.natCast_zero,Int.cast_ofNat_Int]
 rintro v3 l2 hi3 h -;rcases (bq a0 v3 hi3).symm with ⟨hi3',_,hd6⟩|⟨x6,hi3',hx4,hd6⟩
 ·rw [hd6] at h;simp only [eu] at h;refine Wk_seq (Ws fun Z hZ=>?_);simp (config:={ maxSteps:=4000000 }) only [go_sem,seval,hi3'];refine hZ _ (pp ?_);try simp only [Int.ofNat_lt,hi3',if_true,if_false] at h
  refine bc rfl (aP (pp (Ws fun Z hZ=>?_)));simp (config:={ maxSteps:=4000000 }) only [go_sem,seval];refine hZ _ (pp (Wk_ret (pp ?_)));cases h;simp (config:={ maxSteps:=4000000 }) only [go_sem,seval];exact ⟨_,rfl,(by repeat' (first|exact ROk.refl _|exact ROk.nil _|((refine ROk.of _ ?_ ?_); (focus ((repeat' (first|exact Le.refl _|exact LeL.nil|exact Le.nils|exact LeLL.refl _|refine LeLL.mapAppend ?_ ?_|refine LeLL.cons ?_ ?_|refine Le.sl ?_|refine Le.tup ?_|refine Le.agg ?_|refine LeL.cons ?_ ?_)); done)); (focus ((repeat' (first|exact NoOwn.val _|exact NoOwn.sl _ _ _ _|refine NoOwn.tup ?_|refine NoOwn.agg ?_|exact pU|refine oM ?_ ?_)); done)))|((refine ROk.own ?_ ?_); (focus ((repeat' (first|exact Le.refl _|exact LeL.nil|exact Le.nils|exact LeLL.refl _|refine LeLL.mapAppend ?_ ?_|refine LeLL.cons ?_ ?_|refine Le.sl ?_|refine Le.tup ?_|refine Le.agg ?_|refine LeL.cons ?_ ?_)); done)); (focus ((first|exact RowOk.noOwn ah.row_ok _|exact RowOk.noOwn aj.row_ok _); done)))|refine ROk.agg rfl ?_|refine ROk.tup rfl ?_|exact qv|refine pw ?_ ?_)),(by (repeat' (first|exact PureC.val _|refine PureC.tup ?_|refine PureC.agg ?_|exact eC|refine aR ?_ ?_|refine PureC.sl ?_|exact bG ah.row_pure _|exact bG aj.row_pure _ |  exact mO|refine kP ?_ ?_|refine mq ?_ ?_)))⟩
 rw [hd6] at h;simp only [eu] at h;have hw5:=bu hi3' hl1;refine Wk_seq (Ws fun Z hZ=>?_);simp (config:={ maxSteps:=4000000 }) only [go_sem,seval,hi3'];refine hZ _ (pp ?_);try simp only [Int.ofNat_lt,hi3',if_true,if_false] at h
 refine bm rfl (ak (pp (Wk_seq (al (Wk_seq ?_)))));try rw [gx_nat hx4] at h
 try rw [gx_nat hx4] at h
 refine bU fun Z hZ=>?_;simp (config:={ maxSteps:=4000000 }) only [go_sem,seval,hx4,hi3'];repeat with_reducible refine dN (by kernel_rfl) ?_
 refine hZ _ (by kernel_rfl) (pp ?_);apply oA (fun (v5:Int) (v6:Int)=>⟨tab 76 (updT (updT (updT (updT deadT 0 (.sl false none 3 none (a0.map aj.row))) 3 (.pal 503 [] 0 l2.length none)) 4 (.val (.int .i64 ((v3:Nat):Int)))) 5 (.pref 5 [] 0 0)),(upd (upd RZ 5 (.sl true none 3 (some 1) [[.val (.int .i64 v5),.val (.int .i64 (IntKind.i64.wrap ((IntKind.i64.wrap ((IntKind.i64.wrap (Int.tmod x6.Txn 8))+1))+(IntKind.i64.wrap (8 * (IntKind.i64.wrap (Int.tdiv ((v3:Nat):Int) 30))))))),.val (.int .i64 v6)]])) 503 (.sl true none 3 none (l2.map ah.row)))⟩)
 ·intro hJ7;refine Wk_seq ?_;try rw [gx_nat hx4] at h
  refine ai fun Z hZ=>?_;simp (config:={ maxSteps:=4000000 }) only [go_sem,seval,hx4,hi3'];refine hZ _ (pp (al ?_));apply bS (fun (c7:Bool)=>⟨tab 76 (updT (updT (updT (updT (updT (updT deadT 0 (.sl false none 3 none (a0.map aj.row))) 3 (.pal 503 [] 0 l2.length none)) 4 (.val (.int .i64 ((v3:Nat):Int)))) 5 (.pref 5 [] 0 0)) 41 (.val (.int .u8 (Int.tmod x6.Kind 8)))) 42 (.val (.bool c7))),(upd (upd RZ 5 (.sl true none 3 (some 1) [[.val (.int .i64 1),.val (.int .i64 (IntKind.i64.wrap ((IntKind.i64.wrap ((IntKind.i64.wrap (Int.tmod x6.Txn 8))+1))+(IntKind.i64.wrap (8 * (IntKind.i64.wrap (Int.tdiv ((v3:Nat):Int) 30))))))),.val (.int .i64 (IntKind.i64.wrap ((IntKind.i64.wrap (Int.tmod x6.Actor 4))+1)))]])) 503 (.sl true none 3 none (l2.map ah.row)))⟩)
  ·intro hJ8;refine Ws fun Z hZ=>?_;simp (config:={ maxSteps:=4000000 }) only [go_sem,seval];refine hZ _ (pp (am rfl (fun hc9=>?_) (fun hc9=>?_)))
   ·have hc9d:=decide_eq_true hc9;first|rw [if_pos hc9] at h|rw [if_pos hc9d] at h|simp only [hc9d,Bool.not_true,Bool.not_false,Bool.false_eq_true,if_true,if_false] at h
    refine ak (pp (hJ8 _ true ?_ h));refine wr ?_ ?_<;>repeat' first|rfl|constructor|simp only [go_sem,seval,hc9d]
   have hc9d:=decide_eq_false hc9;first|rw [if_neg hc9] at h|rw [if_neg (ne_true_of_eq_false hc9d)] at h|simp only [hc9d,Bool.not_true,Bool.not_false,Bool.false_eq_true,if_true,if_false] at h
   refine ai fun Z hZ=>?_;simp (config:={ maxSteps:=4000000 }) only [go_sem,seval,hc9d];refine hZ _ (pp (hJ8 _ (decide ((Int.tmod x6.Kind 8)=4)) ?_ h));refine wr ?_ ?_<;>repeat' first|rfl|constructor|simp only [go_sem,seval,Bool.or_self,List.length_set,Int.natCast_zero,Int.cast_ofNat_Int,hx4,hi3',hw5,hc9d]
  intro c7 h;unfold jy at h;refine au rfl (fun hc10=>?_) (fun hc10=>?_)
  ·first|rw [if_pos hc10] at h|simp only [hc10,Bool.or_false,Bool.or_true,Bool.false_or,Bool.true_or,Bool.and_true,Bool.true_and,Bool.and_false,Bool.false_and,Bool.not_true,Bool.not_false,Bool.false_eq_true,if_true,if_false] at h
   refine ai fun Z hZ=>?_;simp (config:={ maxSteps:=4000000 }) only [go_sem,seval,hc10];refine hZ _ (pp (hJ7 _ 2 (IntKind.i64.wrap ((IntKind.i64.wrap (Int.tmod x6.Actor 4))+1)) ?_ h));refine wr ?_ ?_<;>repeat' first|rfl|constructor|simp only [go_sem,seval,Bool.or_self,List.length_set,Int.natCast_zero,Int.cast_ofNat_Int,hx4,hi3',hw5,hc10]
  first|rw [if_neg (ne_true_of_eq_false hc10)] at h|simp only [hc10,Bool.or_false,Bool.or_true,Bool.false_or,Bool.true_or,Bool.and_true,Bool.true_and,Bool.and_false,Bool.false_and,Bool.not_true,Bool.not_false,Bool.false_eq_true,if_true,if_false] at h
  apply bS (fun (c8:Bool)=>⟨tab 76 (updT (updT (updT (updT (updT (updT deadT 0 (.sl false none 3 none (a0.map aj.row))) 3 (.pal 503 [] 0 l2.length none)) 4 (.val (.int .i64 ((v3:Nat):Int)))) 5 (.pref 5 [] 0 0)) 41 (.val (.int .u8 (Int.tmod x6.Kind 8)))) 46 (.val (.bool c8))),(upd (upd RZ 5 (.sl true none 3 (some 1) [[.val (.int .i64 1),.val (.int .i64 (IntKind.i64.wrap ((IntKind.i64.wrap ((IntKind.i64.wrap (Int.tmod x6.Txn 8))+1))+(IntKind.i64.wrap (8 * (IntKind.i64.wrap (Int.tdiv ((v3:Nat):Int) 30))))))),.val (.int .i64 (IntKind.i64.wrap ((IntKind.i64.wrap (Int.tmod x6.Actor 4))+1)))]])) 503 (.sl true none 3 none (l2.map ah.row)))⟩)
  ·intro hJ11;refine Ws fun Z hZ=>?_;simp (config:={ maxSteps:=4000000 }) only [go_sem,seval,hc10];refine hZ _ (pp (am rfl (fun hc12=>?_) (fun hc12=>?_)))
   ·have hc12d:=decide_eq_true hc12;first|rw [if_pos hc12] at h|rw [if_pos hc12d] at h|simp only [hc12d,Bool.not_true,Bool.not_false,Bool.false_eq_true,if_true,if_false] at h
    refine ak (pp (hJ11 _ true ?_ h));refine wr ?_ ?_<;>repeat' first|rfl|constructor|simp only [go_sem,seval,hc12d]
   have hc12d:=decide_eq_false hc12;first|rw [if_neg hc12] at h|rw [if_neg (ne_true_of_eq_false hc12d)] at h|simp only [hc12d,Bool.not_true,Bool.not_false,Bool.false_eq_true,if_true,if_false] at h
   refine ai fun Z hZ=>?_;simp (config:={ maxSteps:=4000000 }) only [go_sem,seval,hc12d];refine hZ _ (pp (hJ11 _ (decide ((Int.tmod x6.Kind 8)=6)) ?_ h));refine wr ?_ ?_<;>repeat' first|rfl|constructor|simp only [go_sem,seval,Bool.or_self,List.length_set,Int.natCast_zero,Int.cast_ofNat_Int,hx4,hi3',hw5,hc10,hc12d]
  intro c8 h;unfold kX at h;refine au rfl (fun hc13=>?_) (fun hc13=>?_)
  ·first|rw [if_pos hc13] at h|simp only [hc13,hc10,Bool.or_false,Bool.or_true,Bool.false_or,Bool.true_or,Bool.and_true,Bool.true_and,Bool.and_false,Bool.false_and,Bool.not_true,Bool.not_false,Bool.false_eq_true,if_true,if_false] at h
   refine ai fun Z hZ=>?_;simp (config:={ maxSteps:=4000000 }) only [go_sem,seval,hc13];refine hZ _ (pp (hJ7 _ 3 0 ?_ h));refine wr ?_ ?_<;>repeat' first|rfl|constructor|simp only [go_sem,seval,Bool.or_self,List.length_set,Int.natCast_zero,Int.cast_ofNat_Int,hx4,hi3',hw5,hc10,hc13]
  first|rw [if_neg (ne_true_of_eq_false hc13)] at h|simp only [hc13,hc10,Bool.or_false,Bool.or_true,Bool.false_or,Bool.true_or,Bool.and_true,Bool.true_and,Bool.and_false,Bool.false_and,Bool.not_true,Bool.not_false,Bool.false_eq_true,if_true,if_false] at h
  refine Ws fun Z hZ=>?_;simp (config:={ maxSteps:=4000000 }) only [go_sem,seval,hc13];refine hZ _ (pp (sw (am rfl) (fun hc14=>?_) (fun hc14=>?_)))
  ·have hc14d:=decide_eq_false hc14;first|rw [if_neg hc14] at h|rw [if_neg (ne_true_of_eq_false hc14d)] at h|simp only [hc14d,Bool.not_true,Bool.not_false,Bool.false_eq_true,if_true,if_false] at h
   refine ak (pp (hJ7 _ 1 (IntKind.i64.wrap ((IntKind.i64.wrap (Int.tmod x6.Actor 4))+1)) ?_ h));refine wr ?_ ?_<;>repeat' first|rfl|constructor|simp only [go_sem,seval,Bool.or_self,List.length_set,Int.natCast_zero,Int.cast_ofNat_Int,hx4,hi3',hw5,hc10,hc13,hc14d]
  have hc14d:=decide_eq_true hc14;first|rw [if_pos hc14] at h|rw [if_pos hc14d] at h|simp only [hc14d,Bool.not_true,Bool.not_false,Bool.false_eq_true,if_true,if_false] at h
  refine Wk_seq ?_;try rw [gx_nat hx4] at h
  refine ai fun Z hZ=>?_;simp (config:={ maxSteps:=4000000 }) only [go_sem,seval,hx4,hi3',hc14d];refine hZ _ (pp (am rfl (fun hc15=>?_) (fun hc15=>?_)))
  ·have hc15d:=decide_eq_true hc15;first|rw [if_pos hc15] at h|rw [if_pos hc15d] at h|simp only [hc15d,Bool.not_true,Bool.not_false,Bool.false_eq_true,if_true,if_false] at h
   refine ai fun Z hZ=>?_;simp (config:={ maxSteps:=4000000 }) only [go_sem,seval,hc15d];refine hZ _ (pp (hJ7 _ 4 0 ?_ h));refine wr ?_ ?_<;>repeat' first|rfl|constructor|simp only [go_sem,seval,Bool.or_self,List.length_set,Int.natCast_zero,Int.cast_ofNat_Int,hx4,hi3',hw5,hc10,hc13,hc14d,hc15d]
  have hc15d:=decide_eq_false hc15;first|rw [if_neg hc15] at h|rw [if_neg (ne_true_of_eq_false hc15d)] at h|simp only [hc15d,Bool.not_true,Bool.not_false,Bool.false_eq_true,if_true,if_false] at h
  refine ak (pp (hJ7 _ 1 (IntKind.i64.wrap ((IntKind.i64.wrap (Int.tmod x6.Actor 4))+1)) ?_ h));refine wr ?_ ?_<;>repeat' first|rfl|constructor|simp only [go_sem,seval,Bool.or_self,List.length_set,Int.natCast_zero,Int.cast_ofNat_Int,hx4,hi3',hw5,hc10,hc13,hc14d,hc15d]
 intro v5 v6 h;unfold gS at h;refine Wk_seq (dS [1,3] [0,2,4] [[0,4,2],[4,0,2]] [5,6] [5] (by kernel_rfl) fun Z hZ Y hY=>?_);simp (config:={ maxSteps:=4000000 }) only [go_sem,seval];refine hY _ (by kernel_rfl) (aZ (by kernel_rfl) fun Y hY=>?_);simp (config:={ maxSteps:=4000000 }) only [go_sem,seval];refine hY _ (by kernel_rfl) (aZ (by simp only [go_sem,seval,chkA,baseN,headB,srcB,Option.isNone,Nat.zero_add,Nat.le_refl,decide_true,Bool.and_true]; try rfl) fun Y hY=>?_);first|obtain ⟨ha16,h⟩:=rW h|(obtain ⟨ha16,h⟩:=bk h; rw [List.nil_append] at h)
 simp only [Nat.reduceAdd] at ha16;simp (config:={ maxSteps:=4000000 }) only [go_sem,seval,ha16];refine hY _ (by kernel_rfl) (aZ (by kernel_rfl) fun Y hY=>?_);simp (config:={ maxSteps:=4000000 }) only [go_sem,seval];refine hY _ (by kernel_rfl) (uQ (sC:=⟨tab 76 (updT (updT (updT (updT (updT (updT (updT (updT deadT 0 (.sl false none 3 none (a0.map aj.row))) 3 (.pal 503 [] 0 l2.length none)) 4 (.val (.int .i64 ((v3:Nat):Int)))) 5 (.pref 5 [] 0 0)) 63 (.pal 503 [] 0 l2.length none)) 64 (.pal 64 [] 0 l2.length none)) 65 (.agg [.val (.int .i64 v5),.val (.int .i64 (IntKind.i64.wrap ((IntKind.i64.wrap ((IntKind.i64.wrap (Int.tmod x6.Txn 8))+1))+(IntKind.i64.wrap (8 * (IntKind.i64.wrap (Int.tdiv ((v3:Nat):Int) 30))))))),.val (.int .i64 v6)])) 66 (.pal 66 [] 0 ([(ah.mk v5 (IntKind.i64.wrap ((IntKind.i64.wrap ((IntKind.i64.wrap (Int.tmod x6.Txn 8))+1))+(IntKind.i64.wrap (8 * (IntKind.i64.wrap (Int.tdiv ((v3:Nat):Int) 30)))))) v6)].length) none)),(upd (upd (upd (upd RZ 5 (.sl true none 3 (some 1) [[.val (.int .i64 v5),.val (.int .i64 (IntKind.i64.wrap ((IntKind.i64.wrap ((IntKind.i64.wrap (Int.tmod x6.Txn 8))+1))+(IntKind.i64.wrap (8 * (IntKind.i64.wrap (Int.tdiv ((v3:Nat):Int) 30))))))),.val (.int .i64 v6)]])) 64 (.sl true none 3 none (l2.map ah.row))) 66 (.sl true none 3 (some 1) ([(ah.mk v5 (IntKind.i64.wrap ((IntKind.i64.wrap ((IntKind.i64.wrap (Int.tmod x6.Txn 8))+1))+(IntKind.i64.wrap (8 * (IntKind.i64.wrap (Int.tdiv ((v3:Nat):Int) 30)))))) v6)].map ah.row))) 503 (.sl true none 3 none (l2.map ah.row)))⟩) ?_ ?_ ?_)
 ·try simp only [jd,gG,go_sem,seval]
  refine wr ?_ ?_<;>repeat' first|rfl|constructor|simp only [go_sem,seval,Bool.or_self,List.length_set,Int.natCast_zero,Int.cast_ofNat_Int,hx4,hi3',hw5,ha16]
 ·refine ⟨?_,?_,trivial⟩
  ·refine bH (by kernel_rfl) fun Y hY=>?_;simp (config:={ maxSteps:=4000000 }) only [go_sem,seval];refine hY _ (by kernel_rfl) (bH (by kernel_rfl) fun Y hY=>?_);simp (config:={ maxSteps:=4000000 }) only [go_sem,seval];refine hY _ (by kernel_rfl) (bH (by simp only [go_sem,seval,chkA,baseN,headB,srcB,Option.isNone,Nat.zero_add,Nat.le_refl,decide_true,Bool.and_true]; try rfl) fun Y hY=>?_);simp (config:={ maxSteps:=4000000 }) only [go_sem,seval,ha16];refine hY _ (by kernel_rfl) (oh ?_);try simp only [jd,gG,go_sem,seval]
   refine wr ?_ ?_<;>repeat' first|rfl|constructor|simp only [go_sem,seval,Bool.or_self,List.length_set,Int.natCast_zero,Int.cast_ofNat_Int,hx4,hi3',hw5,ha16]
  ·refine bH (by kernel_rfl) fun Y hY=>?_;simp (config:={ maxSteps:=4000000 }) only [go_sem,seval];refine hY _ (by kernel_rfl) (bH (by kernel_rfl) fun Y hY=>?_);simp (config:={ maxSteps:=4000000 }) only [go_sem,seval];refine hY _ (by kernel_rfl) (bH (by simp only [go_sem,seval,chkA,baseN,headB,srcB,Option.isNone,Nat.zero_add,Nat.le_refl,decide_true,Bool.and_true]; try rfl) fun Y hY=>?_);simp (config:={ maxSteps:=4000000 }) only [go_sem,seval,ha16];refine hY _ (by kernel_rfl) (oh ?_);try simp only [jd,gG,go_sem,seval]
   refine wr ?_ ?_<;>repeat' first|rfl|constructor|simp only [go_sem,seval,Bool.or_self,List.length_set,Int.natCast_zero,Int.cast_ofNat_Int,hx4,hi3',hw5,ha16]
 obtain ⟨ha17,h⟩:=bk h;simp only [List.length_cons,List.length_nil,Nat.zero_add,Nat.reduceAdd] at ha17;simp (config:={ maxSteps:=4000000 }) only [go_sem,seval,ha17];refine hZ _ (pp (Wk_seq ?_));obtain ⟨r9,hr18,h⟩:=Option.bind_eq_some_iff.1 h;refine ai fun Z hZ=>?_;simp (config:={ maxSteps:=4000000 }) only [go_sem,seval,hr18];refine hZ _ (pp (Ws fun Z hZ=>?_));simp (config:={ maxSteps:=4000000 }) only [go_sem,seval];refine hZ _ (pp (sw (au rfl) (fun hc19=>?_) (fun hc19=>?_)))
 ·first|rw [if_neg (ne_true_of_eq_false hc19)] at h|simp only [hc19,Bool.or_false,Bool.or_true,Bool.false_or,Bool.true_or,Bool.and_true,Bool.true_and,Bool.and_false,Bool.false_and,Bool.not_true,Bool.not_false,Bool.false_eq_true,if_true,if_false] at h
  refine ak (pp (ai fun Z hZ=>?_));simp (config:={ maxSteps:=4000000 }) only [go_sem,seval,hw5,hc19];refine hZ _ (pp ?_);first|refine ⟨l2,?_,h⟩|refine ⟨hi3',l2,?_,h⟩
  refine wr ?_ ?_<;>repeat' first|rfl|constructor|simp only [go_sem,seval,Bool.or_self,List.length_set,Int.natCast_zero,Int.cast_ofNat_Int,hx4,hi3',hw5,ha16,ha17,hr18,hc19]
 first|rw [if_pos hc19] at h|simp only [hc19,Bool.or_false,Bool.or_true,Bool.false_or,Bool.true_or,Bool.and_true,Bool.true_and,Bool.and_false,Bool.false_and,Bool.not_true,Bool.not_false,Bool.false_eq_true,if_true,if_false] at h
 refine ai fun Z hZ=>?_;simp (config:={ maxSteps:=4000000 }) only [go_sem,seval,hc19];refine hZ _ (pp (ai fun Z hZ=>?_));simp (config:={ maxSteps:=4000000 }) only [go_sem,seval,hw5];refine hZ _ (pp ?_);first|refine ⟨(l2++[(ah.mk v5 (IntKind.i64.wrap ((IntKind.i64.wrap ((IntKind.i64.wrap (Int.tmod x6.Txn 8))+1))+(IntKind.i64.wrap (8 * (IntKind.i64.wrap (Int.tdiv ((v3:Nat):Int) 30)))))) v6)]),?_,h⟩|refine ⟨hi3',(l2++[(ah.mk v5 (IntKind.i64.wrap ((IntKind.i64.wrap ((IntKind.i64.wrap (Int.tmod x6.Txn 8))+1))+(IntKind.i64.wrap (8 * (IntKind.i64.wrap (Int.tdiv ((v3:Nat):Int) 30)))))) v6)]),?_,h⟩
 refine Weak.trans (CP 503 (by simp only [jd,gG,go_sem,seval]; rfl)) (Weak.trans (qO 3 67 503 (by decide) (by decide) (by simp only [go_sem,seval]) (by simp only [go_sem,seval]; rfl) (by simp only [go_sem,seval]; rfl) (by first|(simp; done)|simp only [go_sem,seval,Bool.or_self,List.length_set,Int.natCast_zero,Int.cast_ofNat_Int,hx4,hi3',hw5,ha16,ha17,hr18,hc19])) ?_);refine wr ?_ ?_<;>repeat' first|rfl|constructor|simp only [go_sem,seval]
def rV (N:Nat):FnS:=⟨[],true,fn1 (decL 3 aj.dec) fun q0=>(lB N q0).map fun r=>.sl false none 3 none (r.map ah.row),false⟩
attribute [go_sem] rV
theorem Dy (N:Nat):FSOk Tryz.prog 10 (rV N):=ok1 (fun q0 r h=>by
 obtain ⟨r',hr,rfl⟩:=Option.map_eq_some_iff.1 h;exact (sO N q0 r' hr).res (by first|((try simp only [go_sem]); exact RokI.h)|(repeat' (first|exact ROk.refl _|exact ROk.nil _|((refine ROk.of _ ?_ ?_); (focus ((repeat' (first|exact Le.refl _|exact LeL.nil|exact Le.nils|exact LeLL.refl _|refine LeLL.mapAppend ?_ ?_|refine LeLL.cons ?_ ?_|refine Le.sl ?_|refine Le.tup ?_|refine Le.agg ?_|refine LeL.cons ?_ ?_)); done)); (focus ((repeat' (first|exact NoOwn.val _|exact NoOwn.sl _ _ _ _|refine NoOwn.tup ?_|refine NoOwn.agg ?_|exact pU|refine oM ?_ ?_)); done)))|((refine ROk.own ?_ ?_); (focus ((repeat' (first|exact Le.refl _|exact LeL.nil|exact Le.nils|exact LeLL.refl _|refine LeLL.mapAppend ?_ ?_|refine LeLL.cons ?_ ?_|refine Le.sl ?_|refine Le.tup ?_|refine Le.agg ?_|refine LeL.cons ?_ ?_)); done)); (focus ((first|exact RowOk.noOwn ah.row_ok _|exact RowOk.noOwn aj.row_ok _); done)))|refine ROk.agg rfl ?_|refine ROk.tup rfl ?_|exact qv|refine pw ?_ ?_)))) (fun h=>ar aj.dec_le h)

def o4 (N:Nat):FnS:=⟨[],true,fn1 (decL 3 aj.dec) fun q0=>(lB N q0).map fun r=>.sl true none 3 none (r.map ah.row),false⟩
attribute [go_sem] o4
theorem uS (N:Nat):FSOk Tryz.prog 10 (o4 N):=ok1 (fun q0 r h=>by
 obtain ⟨r',hr,rfl⟩:=Option.map_eq_some_iff.1 h;exact sO N q0 r' hr) (fun h=>ar aj.dec_le h)


theorem yK (N:Nat) (a0:Int) (r:Bool) (h:i8 N a0=some r):Con Tryz.prog 86 [] true [.val (.int .i64 a0)] (.val (.bool r)):=by
 refine aV (G:=(glist [])) Tryz.func86 rfl (by decide) (by kernel_rfl) gn [] mix (Nat.le_of_ble_eq_true rfl) ?_;simp only [Tryz.f86];unfold i8 at h;refine Ws fun Z hZ=>?_;simp only [go_sem,seval];refine hZ _ (pp (Ws fun Z hZ=>?_));simp only [go_sem,seval];refine bF rfl (fun hc1=>?_) (fun hc1=>?_)
 ·have hc1d:=decide_eq_true hc1;rw [if_pos hc1] at h;simp only [go_sem,seval,hc1d];refine hZ _ (pp (Wk_ret (pp ?_)));cases h;simp only [go_sem,seval];exact ⟨_,rfl,RokI.h,PureI.h⟩
 have hc1d:=decide_eq_false hc1;rw [if_neg hc1] at h;simp only [go_sem,seval,hc1d];refine hZ _ (pp (Wk_ret (pp ?_)));cases h;simp only [go_sem,seval];exact ⟨_,rfl,RokI.h,PureI.h⟩
def k7 (N:Nat):FnS:=⟨[],true,fn1 (decI .i64) fun q0=>(i8 N q0).map fun r=>.val (.bool r),false⟩
attribute [go_sem] k7
theorem mY (N:Nat):FSOk Tryz.prog 86 (k7 N):=ok1 (fun q0 r h=>by
 obtain ⟨r',hr,rfl⟩:=Option.map_eq_some_iff.1 h;exact yK N q0 r' hr) (ay)


theorem yi (N:Nat) (a0:(List Int)) (a1:Int) (r:Bool) (h:be N a0 a1=some r):Con Tryz.prog 29 [] true [.sl false none 1 none (a0.map (rowI .i64)),.val (.int .i64 a1)] (.val (.bool r)):=by
 refine aV (G:=(glist [])) Tryz.func29 rfl (by decide) (by kernel_rfl) gn [] mix (Nat.le_of_ble_eq_true rfl) ?_;simp only [Tryz.f29];unfold be at h;refine Ws fun Z hZ=>?_;simp only [go_sem,seval];refine hZ _ (pp (Wk_seq (Ws fun Z hZ=>?_)));simp only [go_sem,seval];refine hZ _ (pp (al (dt fun hreal2=>?_)));have hl1:=hreal2.lenT 0 (by decide) (by simp only [go_sem,seval]; rfl);first|rw [List.length_map] at hl1|rw [dy] at hl1|rw [<-List.map_append,List.length_map] at hl1
 refine dg (fun (v2:Nat) (b:Unit)=>⟨tab 18 (updT (updT (updT deadT 0 (.sl false none 1 none (a0.map (rowI .i64)))) 1 (.val (.int .i64 a1))) 5 (.val (.int .i64 ((v2:Nat):Int)))),RZ⟩) () h ?_ ?_
 ·refine wr ?_ ?_<;>repeat' first|rfl|constructor
 rintro v2 ⟨⟩ hi3 h -;rcases (bq a0 v2 hi3).symm with ⟨hi3',_,hd6⟩|⟨x5,hi3',hx4,hd6⟩
 ·rw [hd6] at h;simp only [gh] at h;refine Wk_seq (Ws fun Z hZ=>?_);simp only [go_sem,seval,hi3'];refine hZ _ (pp ?_);try simp only [Int.ofNat_lt,hi3',if_true,if_false] at h
  refine bc rfl (aP (pp (Ws fun Z hZ=>?_)));simp only [go_sem,seval];refine hZ _ (pp (Wk_ret (pp ?_)));cases h;simp only [go_sem,seval];exact ⟨_,rfl,RokI.h,PureI.h⟩
 rw [hd6] at h;simp only [gh] at h;have hw5:=bu hi3' hl1;refine Wk_seq (Ws fun Z hZ=>?_);simp only [go_sem,seval,hi3'];refine hZ _ (pp ?_);try simp only [Int.ofNat_lt,hi3',if_true,if_false] at h
 refine bm rfl (ak (pp (Wk_seq (al (Wk_seq ?_)))));try rw [gx_nat hx4] at h
 refine ai fun Z hZ=>?_;simp only [go_sem,seval,hx4,hi3'];refine hZ _ (pp (am rfl (fun hc7=>?_) (fun hc7=>?_)))
 ·have hc7d:=decide_eq_true hc7;rw [if_pos hc7] at h;refine Ws fun Z hZ=>?_;simp only [go_sem,seval,hc7d];refine hZ _ (pp (Wk_ret (pp ?_)));cases h;simp only [go_sem,seval];exact ⟨_,rfl,RokI.h,PureI.h⟩
 have hc7d:=decide_eq_false hc7;rw [if_neg hc7] at h;refine ak (pp (ai fun Z hZ=>?_));simp only [go_sem,seval,hw5,hc7d];refine hZ _ (pp ?_);first|refine ⟨(),?_,h⟩|refine ⟨hi3',(),?_,h⟩
 refine wr ?_ ?_<;>repeat' first|rfl|constructor
def aX (N:Nat):FnS:=⟨[],true,fn2 (decL 1 (dec1 (decI .i64))) (decI .i64) fun q0 q1=>(be N q0 q1).map fun r=>.val (.bool r),false⟩
attribute [go_sem] aX
theorem aT (N:Nat):FSOk Tryz.prog 29 (aX N):=ok2 (fun q0 q1 r h=>by
 obtain ⟨r',hr,rfl⟩:=Option.map_eq_some_iff.1 h;exact yi N q0 q1 r' hr) (fun h=>ar (aJ .i64) h) (ay)


theorem u5 (N:Nat) (a0:ac) (a1:Int) (r:Int) (h:eK N a0 a1=some r):Con Tryz.prog 48 [] true [.iref 6 [[.sl false none 3 none (a0.piles.map aa.row),.sl false none 1 none (a0.seen.map (rowI .i64)),.sl false none 2 none (a0.deps.map ae.row),.sl false none 1 none (a0.committed.map (rowI .i64)),.sl false none 1 none (a0.aborted.map (rowI .i64)),.sl false none 1 none (a0.prepared.map (rowI .i64))]] 0 0,.val (.int .i64 a1)] (.val (.int .i64 r)):=by
 refine aV (G:=(glist [])) Tryz.func48 rfl (by decide) (by kernel_rfl) gn [] mix (Nat.le_of_ble_eq_true rfl) ?_;simp only [Tryz.f48];unfold eK at h;refine Ws fun Z hZ=>?_;simp only [go_sem,seval];refine hZ _ (pp (Wk_seq (Ws fun Z hZ=>?_)));simp only [go_sem,seval];refine hZ _ (pp (al (fV (fun (b:Int)=>⟨tab 26 (updT (updT (updT deadT 0 (.iref 6 [[.sl false none 3 none (a0.piles.map aa.row),.sl false none 1 none (a0.seen.map (rowI .i64)),.sl false none 2 none (a0.deps.map ae.row),.sl false none 1 none (a0.committed.map (rowI .i64)),.sl false none 1 none (a0.aborted.map (rowI .i64)),.sl false none 1 none (a0.prepared.map (rowI .i64))]] 0 0)) 1 (.val (.int .i64 a1))) 5 (.val (.int .i64 b))),RZ⟩) 0 h ?_ ?_)))
 ·refine wr ?_ ?_<;>repeat' first|rfl|constructor
 rintro n v2 h -;cases n with
 | zero=>simp [fx] at h
 | succ n=>
 simp only [fx] at h;refine Wk_seq (Ws fun Z hZ=>?_);simp only [go_sem,seval];refine hZ _ (pp (sw (am rfl) (fun hc1=>?_) (fun hc1=>?_)))
 ·have hc1d:=decide_eq_false hc1;rw [if_neg hc1] at h;refine aP (pp (Ws fun Z hZ=>?_));simp only [go_sem,seval,hc1d];refine hZ _ (pp (Wk_ret (pp ?_)));cases h;simp only [go_sem,seval];exact ⟨_,rfl,RokI.h,PureI.h⟩
 have hc1d:=decide_eq_true hc1;rw [if_pos hc1] at h;refine ak (pp (Wk_seq (al (Wk_seq ?_))));obtain ⟨x1,hb2,hx3,h⟩:=aI h;refine ai fun Z hZ=>?_;simp only [go_sem,seval,hb2,hx3];refine hZ _ (pp (am rfl (fun hc4=>?_) (fun hc4=>?_)))
 ·have hc4d:=decide_eq_true hc4;rw [if_pos hc4] at h;refine Ws fun Z hZ=>?_;simp only [go_sem,seval,hc4d];refine hZ _ (pp (Wk_ret (pp ?_)));cases h;simp only [go_sem,seval];exact ⟨_,rfl,RokI.h,PureI.h⟩
 have hc4d:=decide_eq_false hc4;rw [if_neg hc4] at h;refine ak (pp (ai fun Z hZ=>?_));simp only [go_sem,seval,hc4d];refine hZ _ (pp (⟨_,Nat.lt_succ_self _,(IntKind.i64.wrap (v2+1)),?_,h⟩));refine wr ?_ ?_<;>repeat' first|rfl|constructor
def gZ (N:Nat):FnS:=⟨[],true,fn2 (decPt 6 ac.dec) (decI .i64) fun q0 q1=>(eK N q0 q1).map fun r=>.val (.int .i64 r),false⟩
attribute [go_sem] gZ
theorem kY (N:Nat):FSOk Tryz.prog 48 (gZ N):=ok2 (fun q0 q1 r h=>by
 obtain ⟨r',hr,rfl⟩:=Option.map_eq_some_iff.1 h;exact u5 N q0 q1 r' hr) (fun h=>kU ac.dec_le h) (ay)


theorem zk (N:Nat) (a0:(List ae)) (a1:ae) (r:(List ae)) (h:mo N a0 a1=some r):Con Tryz.prog 103 [true,false] true [.sl true none 2 none (a0.map ae.row),.agg [.val (.int .i64 a1.e0),.val (.int .i64 a1.e1)]] (.sl true none 2 none (r.map ae.row)):=by
 refine qA (G:=(glist [])) (L:=noL) Tryz.func103 rfl (by decide) (by kernel_rfl) gn (fun _ _ _ h=>by cases h) [] mix (Nat.le_of_ble_eq_true rfl) ?_;rw [show entryF [true,false] [.sl true none 2 none (a0.map ae.row),.agg [.val (.int .i64 a1.e0),.val (.int .i64 a1.e1)]]=(updT (updT deadT 0 (.pal 0 [] 0 a0.length none)) 1 (.agg [.val (.int .i64 a1.e0),.val (.int .i64 a1.e1)])) from by funext t; match t with|0=>simp [entryF,iW,viewD,updT]|1=>rfl|t+2=>rfl];rw [show R0 [true,false] [.sl true none 2 none (a0.map ae.row),.agg [.val (.int .i64 a1.e0),.val (.int .i64 a1.e1)]]=upd RZ 0 (.sl true none 2 none (a0.map ae.row)) from by funext t; match t with|0=>rfl|1=>rfl|t+2=>rfl];simp only [Tryz.f103];unfold mo at h;refine Ws fun Z hZ=>?_;simp (config:={ maxSteps:=4000000 }) only [go_sem,seval];refine hZ _ (pp (Ws fun Z hZ=>?_));simp (config:={ maxSteps:=4000000 }) only [go_sem,seval];refine hZ _ (pp (Wk_seq (al (fV (fun (b:Int)=>⟨tab 73 (updT (updT (updT deadT 0 (.pal 0 [] 0 a0.length none)) 3 (.pref 3 [] 0 0)) 5 (.val (.int .i64 b))),(upd (upd RZ 0 (.sl true none 2 none (a0.map ae.row))) 3 (.sl true none 2 (some 1) [[.val (.int .i64 a1.e0),.val (.int .i64 a1.e1)]]))⟩) ((a0.length:Nat):Int) h ?_ ?_))))
 ·refine wr ?_ ?_<;>repeat' first|rfl|constructor|simp only [go_sem,seval,Bool.or_self,List.length_set,Int.natCast_zero,Int.cast_ofNat_Int]
 rintro n v2 h -;cases n with
 | zero=>simp [eJ] at h
 | succ n=>
 simp only [eJ] at h;refine Wk_seq ?_;apply bS (fun (c8:Bool)=>⟨tab 73 (updT (updT (updT (updT deadT 0 (.pal 0 [] 0 a0.length none)) 3 (.pref 3 [] 0 0)) 5 (.val (.int .i64 v2))) 43 (.val (.bool c8))),(upd (upd RZ 0 (.sl true none 2 none (a0.map ae.row))) 3 (.sl true none 2 (some 1) [[.val (.int .i64 a1.e0),.val (.int .i64 a1.e1)]]))⟩)
 ·intro hJ1;refine bU fun Z hZ=>?_;simp (config:={ maxSteps:=4000000 }) only [go_sem,seval];repeat with_reducible refine dN (by kernel_rfl) ?_
  refine sw (bF rfl) (fun hc2=>?_) (fun hc2=>?_)
  ·have hc2d:=decide_eq_false hc2;first|rw [if_neg hc2] at h|rw [if_neg (ne_true_of_eq_false hc2d)] at h|simp only [hc2d,Bool.not_true,Bool.not_false,Bool.false_eq_true,if_true,if_false] at h
   simp (config:={ maxSteps:=4000000 }) only [go_sem,seval,hc2d];repeat with_reducible refine dN (by kernel_rfl) ?_
   refine hZ _ (by kernel_rfl) (pp (hJ1 _ false ?_ h));refine wr ?_ ?_<;>repeat' first|rfl|constructor|simp only [go_sem,seval,Bool.or_self,List.length_set,Int.natCast_zero,Int.cast_ofNat_Int,hc2d]
  have hc2d:=decide_eq_true hc2;first|rw [if_pos hc2] at h|rw [if_pos hc2d] at h|simp only [hc2d,Bool.not_true,Bool.not_false,Bool.false_eq_true,if_true,if_false] at h
  obtain ⟨x9,hb3,hx4,h⟩:=aI h;simp (config:={ maxSteps:=4000000 }) only [go_sem,seval,hc2d,hb3,hx4];repeat with_reducible refine dN (by kernel_rfl) ?_
  refine bF rfl (fun hc5=>?_) (fun hc5=>?_)
  ·have hc5d:=decide_eq_true hc5;first|rw [if_pos hc5] at h|rw [if_pos hc5d] at h|simp only [hc5d,Bool.not_true,Bool.not_false,Bool.false_eq_true,if_true,if_false] at h
   simp (config:={ maxSteps:=4000000 }) only [go_sem,seval,hc5d];repeat with_reducible refine dN (by kernel_rfl) ?_
   refine hZ _ (by kernel_rfl) (pp (hJ1 _ true ?_ h));refine wr ?_ ?_<;>repeat' first|rfl|constructor|simp only [go_sem,seval,Bool.or_self,List.length_set,Int.natCast_zero,Int.cast_ofNat_Int,hc2d,hb3,hx4,hc5d]
  have hc5d:=decide_eq_false hc5;first|rw [if_neg hc5] at h|rw [if_neg (ne_true_of_eq_false hc5d)] at h|simp only [hc5d,Bool.not_true,Bool.not_false,Bool.false_eq_true,if_true,if_false] at h
  simp (config:={ maxSteps:=4000000 }) only [go_sem,seval,hb3,hx4,hc5d];repeat with_reducible refine dN (by kernel_rfl) ?_
  refine bF rfl (fun hc6=>?_) (fun hc6=>?_)
  ·have hc6d:=decide_eq_true hc6;first|rw [if_pos hc6] at h|rw [if_pos hc6d] at h|simp only [hc6d,Bool.not_true,Bool.not_false,Bool.false_eq_true,if_true,if_false] at h
   simp (config:={ maxSteps:=4000000 }) only [go_sem,seval,hb3,hx4,hc6d];repeat with_reducible refine dN (by kernel_rfl) ?_
   refine hZ _ (by kernel_rfl) (pp (hJ1 _ (decide (a1.e1<=x9.e1)) ?_ h));refine wr ?_ ?_<;>repeat' first|rfl|constructor|simp only [go_sem,seval,Bool.or_self,List.length_set,Int.natCast_zero,Int.cast_ofNat_Int,hc2d,hb3,hx4,hc5d,hc6d]
  have hc6d:=decide_eq_false hc6;first|rw [if_neg hc6] at h|rw [if_neg (ne_true_of_eq_false hc6d)] at h|simp only [hc6d,Bool.not_true,Bool.not_false,Bool.false_eq_true,if_true,if_false] at h
  simp (config:={ maxSteps:=4000000 }) only [go_sem,seval,hc6d];repeat with_reducible refine dN (by kernel_rfl) ?_
  refine hZ _ (by kernel_rfl) (pp (hJ1 _ false ?_ h));refine wr ?_ ?_<;>repeat' first|rfl|constructor|simp only [go_sem,seval,Bool.or_self,List.length_set,Int.natCast_zero,Int.cast_ofNat_Int,hc2d,hb3,hx4,hc5d,hc6d]
 intro c8 h;unfold jV at h;refine au rfl (fun hc7=>?_) (fun hc7=>?_)
 ·first|rw [if_pos hc7] at h|simp only [hc7,Bool.or_false,Bool.or_true,Bool.false_or,Bool.true_or,Bool.and_true,Bool.true_and,Bool.and_false,Bool.false_and,Bool.not_true,Bool.not_false,Bool.false_eq_true,if_true,if_false] at h
  refine ak (pp (al (ai fun Z hZ=>?_)));simp (config:={ maxSteps:=4000000 }) only [go_sem,seval,hc7];refine hZ _ (pp (⟨_,Nat.lt_succ_self _,(IntKind.i64.wrap (v2 - 1)),?_,h⟩));refine wr ?_ ?_<;>repeat' first|rfl|constructor|simp only [go_sem,seval,Bool.or_self,List.length_set,Int.natCast_zero,Int.cast_ofNat_Int,hc7]
 first|rw [if_neg (ne_true_of_eq_false hc7)] at h|simp only [hc7,Bool.or_false,Bool.or_true,Bool.false_or,Bool.true_or,Bool.and_true,Bool.true_and,Bool.and_false,Bool.false_and,Bool.not_true,Bool.not_false,Bool.false_eq_true,if_true,if_false] at h
 refine aP (pp ?_);unfold m7 at h;refine Wk_seq ?_;apply bS (fun (c14:Bool)=>⟨tab 73 (updT (updT (updT (updT deadT 0 (.pal 0 [] 0 a0.length none)) 3 (.pref 3 [] 0 0)) 5 (.val (.int .i64 v2))) 57 (.val (.bool c14))),(upd (upd RZ 0 (.sl true none 2 none (a0.map ae.row))) 3 (.sl true none 2 (some 1) [[.val (.int .i64 a1.e0),.val (.int .i64 a1.e1)]]))⟩)
 ·intro hJ8;refine bU fun Z hZ=>?_;simp (config:={ maxSteps:=4000000 }) only [go_sem,seval,hc7];repeat with_reducible refine dN (by kernel_rfl) ?_
  refine bF rfl (fun hc9=>?_) (fun hc9=>?_)
  ·have hc9d:=decide_eq_true hc9;first|rw [if_pos hc9] at h|rw [if_pos hc9d] at h|simp only [hc9d,Bool.not_true,Bool.not_false,Bool.false_eq_true,if_true,if_false] at h
   obtain ⟨x15,hb10,hx11,h⟩:=aI h;simp (config:={ maxSteps:=4000000 }) only [go_sem,seval,hb10,hx11];repeat with_reducible refine dN (by kernel_rfl) ?_
   refine hZ _ (by kernel_rfl) (pp (hJ8 _ (decide (x15.e0=a1.e0) && decide (x15.e1=a1.e1)) ?_ h));refine wr ?_ ?_<;>repeat' first|rfl|constructor|simp only [go_sem,seval,Bool.or_self,List.length_set,Int.natCast_zero,Int.cast_ofNat_Int,hc7,hc9d,hb10,hx11]
  have hc9d:=decide_eq_false hc9;first|rw [if_neg hc9] at h|rw [if_neg (ne_true_of_eq_false hc9d)] at h|simp only [hc9d,Bool.not_true,Bool.not_false,Bool.false_eq_true,if_true,if_false] at h
  simp (config:={ maxSteps:=4000000 }) only [go_sem,seval,hc9d];repeat with_reducible refine dN (by kernel_rfl) ?_
  refine hZ _ (by kernel_rfl) (pp (hJ8 _ false ?_ h));refine wr ?_ ?_<;>repeat' first|rfl|constructor|simp only [go_sem,seval,Bool.or_self,List.length_set,Int.natCast_zero,Int.cast_ofNat_Int,hc7,hc9d]
 intro c14 h;unfold lU at h;refine au rfl (fun hc12=>?_) (fun hc12=>?_)
 ·first|rw [if_pos hc12] at h|simp only [hc12,hc7,Bool.or_false,Bool.or_true,Bool.false_or,Bool.true_or,Bool.and_true,Bool.true_and,Bool.and_false,Bool.false_and,Bool.not_true,Bool.not_false,Bool.false_eq_true,if_true,if_false] at h
  refine Ws fun Z hZ=>?_;simp (config:={ maxSteps:=4000000 }) only [go_sem,seval,hc12];refine hZ _ (pp (Wk_ret (pp ?_)));cases h;simp (config:={ maxSteps:=4000000 }) only [go_sem,seval,fJ];exact ⟨_,rfl,RokI.h,KeepI.h,PureI.h⟩
 first|rw [if_neg (ne_true_of_eq_false hc12)] at h|simp only [hc12,hc7,Bool.or_false,Bool.or_true,Bool.false_or,Bool.true_or,Bool.and_true,Bool.true_and,Bool.and_false,Bool.false_and,Bool.not_true,Bool.not_false,Bool.false_eq_true,if_true,if_false] at h
 refine ak (pp ?_);unfold lN at h;refine Wk_seq ?_;obtain ⟨hs13,h⟩:=gR h;try simp only [Int.toNat_natCast] at hs13 h
 first|obtain ⟨ha14,h⟩:=rW h|(obtain ⟨ha14,h⟩:=bk h; rw [List.nil_append] at h)
 simp only [Nat.reduceAdd] at ha14;refine ai fun Z hZ=>?_;simp (config:={ maxSteps:=4000000 }) only [go_sem,seval,hc12,hs13,Nat.zero_le,ha14];refine hZ _ (pp (Wk_seq (dS [0,1,2,4,7] [3,5] [[5,3]] [6,8,9] [] (by kernel_rfl) fun Z hZ Y hY=>?_)));simp (config:={ maxSteps:=4000000 }) only [go_sem,seval];refine hY _ (by kernel_rfl) (aZ (by kernel_rfl) fun Y hY=>?_);obtain ⟨hs15,ht16,h⟩:=uG h;try simp only [Int.toNat_natCast] at hs15 ht16 h
 simp (config:={ maxSteps:=4000000 }) only [go_sem,seval,hs13,Nat.sub_zero,Nat.zero_le,Nat.le_refl];refine hY _ (by kernel_rfl) (aZ (by kernel_rfl) fun Y hY=>?_);simp (config:={ maxSteps:=4000000 }) only [go_sem,seval,Nat.le_refl];refine hY _ (by kernel_rfl) (uQ (sC:=⟨tab 73 (updT (updT (updT (updT (updT (updT (updT (updT (updT (updT (updT (updT (updT (updT (updT (updT deadT 0 (.pal 0 [] 0 a0.length none)) 3 (.pref 3 [] 0 0)) 5 (.val (.int .i64 v2))) 6 (.pal 63 [] 0 (((a0.drop ((v2).toNat)).take (a0.length - (v2).toNat)).length) none)) 57 (.val (.bool false))) 60 (.pal 0 [] 0 a0.length none)) 61 (.val (.int .i64 v2))) 62 (.pal 0 [] ((v2).toNat) (a0.length - (v2).toNat) none)) 63 (.pal 63 [] 0 (((a0.drop ((v2).toNat)).take (a0.length - (v2).toNat)).length) none)) 64 (.pal 0 [] 0 a0.length none)) 65 (.val (.int .i64 v2))) 66 (.val (.int .i64 v2))) 67 (.pal 0 [] 0 ((v2).toNat) (some ((v2).toNat)))) 68 (.agg [.val (.int .i64 a1.e0),.val (.int .i64 a1.e1)])) 69 (.pal 69 [] 0 ([a1].length) none)) 71 (.pal 63 [] 0 (((a0.drop ((v2).toNat)).take (a0.length - (v2).toNat)).length) none)),(upd (upd (upd (upd RZ 0 (.sl true none 2 none (a0.map ae.row))) 3 (.sl true none 2 (some 1) [[.val (.int .i64 a1.e0),.val (.int .i64 a1.e1)]])) 63 (.sl true none 2 none (((a0.drop ((v2).toNat)).take (a0.length - (v2).toNat)).map ae.row))) 69 (.sl true none 2 (some 1) ([a1].map ae.row)))⟩) ?_ ?_ ?_)
 ·try simp only [jd,gG,go_sem,seval]
  refine wr ?_ ?_<;>repeat' first|rfl|constructor|simp only [go_sem,seval,Bool.or_self,List.length_set,Int.natCast_zero,Int.cast_ofNat_Int,hc7,hc12,hs13,Nat.sub_zero,Nat.zero_le,ha14,hs15,ht16,slt_lt ht16,Nat.le_refl]
 ·refine ⟨?_,trivial⟩
  ·refine bH (by kernel_rfl) fun Y hY=>?_;simp (config:={ maxSteps:=4000000 }) only [go_sem,seval,Nat.le_refl];refine hY _ (by kernel_rfl) (bH (by kernel_rfl) fun Y hY=>?_);simp (config:={ maxSteps:=4000000 }) only [go_sem,seval,hs13,Nat.sub_zero,Nat.zero_le,Nat.le_refl];refine hY _ (by kernel_rfl) (oh ?_);try simp only [jd,gG,go_sem,seval]
   refine wr ?_ ?_<;>repeat' first|rfl|constructor|simp only [go_sem,seval,Bool.or_self,List.length_set,Int.natCast_zero,Int.cast_ofNat_Int,hc7,hc12,hs13,Nat.sub_zero,Nat.zero_le,ha14,hs15,ht16,slt_lt ht16,Nat.le_refl]
 obtain ⟨ha17,h⟩:=bk h;simp only [List.length_cons,List.length_nil,Nat.zero_add,Nat.reduceAdd] at ha17;obtain ⟨ha18,h⟩:=bk h;simp only [List.length_append,List.length_cons,List.length_nil,Nat.zero_add,Nat.reduceAdd] at ha18;simp (config:={ maxSteps:=4000000 }) only [go_sem,seval,ha17,ha18];refine hZ _ (pp (Wk_ret (pp ?_)));cases h;simp (config:={ maxSteps:=4000000 }) only [go_sem,seval,fJ];exact ⟨_,rfl,RokI.h,KeepI.h,PureI.h⟩
def gM (N:Nat):FnS:={ own:=[true,false],pure:=true,fn:=fun cs=>match cs with
 | [c0,c1]=>((decO 2 ae.dec) c0).bind fun q0=>(ae.decA c1).bind fun q1=>(mo N q0 q1).map fun r=>.sl true none 2 none (r.map ae.row)
 | _=>none }
theorem uU (N:Nat):(gM N).own=[true,false]:=rfl
theorem tZ (N:Nat):(gM N).pure=true:=rfl
theorem tU (N:Nat):(gM N).peek=false:=rfl
attribute [go_sem] gM uU tZ tU
theorem vA (N:Nat):FSOk Tryz.prog 103 (gM N):=by
 refine ⟨fun cs r h=>?_,fun h=>by cases h⟩;simp only [gM] at h;split at h
 ·simp only [Option.bind_eq_some_iff,Option.map_eq_some_iff] at h;obtain ⟨q0,h0,q1,h1,r',hr,rfl⟩:=h;exact (zk N q0 q1 r' hr).argsO rfl (oD (qE ae.row_ok ae.dec_le h0) (qH (ae.decA_le h1) (oB)))
 ·cases h


noncomputable def qc (N d f:Nat):Option FnS:=glist [(14,29,aX N),(18,48,gZ N),(96,103,gM N)] d f
attribute [go_sem] qc
theorem uH (N:Nat) (a0:ac) (a1:ah) (r:Bool × ac) (h:iz N a0 a1=some r):ConL Tryz.prog 87 1 [.sl true none 6 (some 1) [ac.rowD a0],.agg (ah.row a1)] (.val (.bool r.1)) [.sl true none 6 (some 1) [ac.rowD r.2]]:=by
 refine fM (G:=(qc N)) (L:=noL) Tryz.func87 rfl (by decide) (by kernel_rfl) 1 (by kernel_rfl) (gc 14 (aT N) (gc 18 (kY N) (gc 96 (vA N) gn))) (fun _ _ _ h=>by cases h) [] mix (Nat.le_of_ble_eq_true rfl) (Nat.le_of_ble_eq_true rfl) rfl rfl ?_;simp only [Tryz.f87];unfold iz at h;refine Ws fun Z hZ=>?_;simp only [go_sem,seval];refine hZ _ (pp (Wk_seq (Wk_seq ?_)));obtain ⟨r1,hr1,h⟩:=Option.bind_eq_some_iff.1 h;refine bU fun Z hZ=>?_;simp only [go_sem,seval,hr1];repeat with_reducible refine dN (by kernel_rfl) ?_
 refine hZ _ (by kernel_rfl) (pp (au rfl (fun hc2=>?_) (fun hc2=>?_)))
 ·rw [if_pos hc2] at h;refine Ws fun Z hZ=>?_;simp only [go_sem,seval,hc2];refine hZ _ (pp (Wk_ret (pp ?_)));obtain rfl:=Option.some.inj h;refine du (.inl rfl) (Weak.refl _) (by simp only [go_sem,seval]; rfl) (by simp only [go_sem,seval]; rfl) (by (try simp only [go_sem,seval]); first|exact Le.refl _|exact LeI.h) ?_;exact dA (by simp only [go_sem,seval]<;>rfl) (by simp only [go_sem,seval]<;>rfl) (el_nil)
 rw [if_neg (ne_true_of_eq_false hc2)] at h;refine ak (pp (Wk_seq ?_));obtain ⟨r2,hr3,h⟩:=Option.bind_eq_some_iff.1 h;refine ai fun Z hZ=>?_;simp only [go_sem,seval,hc2,hr3];refine hZ _ (pp ?_);apply oA (fun (l4:List aa) (v5:Int)=>⟨tab 119 (updT (updT (updT deadT 0 (.pref 0 [] 0 0)) 3 (.pref 3 [] 0 0)) 5 (.val (.int .i64 v5))),(upd (upd RZ 0 (.sl true none 6 (some 1) [[.sl true none 3 none (l4.map aa.rowD),.sl true none 1 none (a0.seen.map (rowI .i64)),.sl true none 2 none (a0.deps.map ae.row),.sl true none 1 none (a0.committed.map (rowI .i64)),.sl true none 1 none (a0.aborted.map (rowI .i64)),.sl true none 1 none (a0.prepared.map (rowI .i64))]])) 3 (.sl true none 3 (some 1) [ah.row a1]))⟩)
 ·intro hJ4;refine Ws fun Z hZ=>?_;simp only [go_sem,seval];refine hZ _ (pp (sw (am rfl) (fun hc5=>?_) (fun hc5=>?_)))
  ·have hc5d:=decide_eq_false hc5;rw [if_neg hc5] at h;refine ak (pp (hJ4 _ a0.piles r2 ?_ h));refine wr ?_ ?_<;>repeat' first|rfl|constructor|simp only [go_sem,seval,Bool.or_self,List.length_set,Int.natCast_zero,Int.cast_ofNat_Int,hr1,hc2,hr3,hc5d]
  have hc5d:=decide_eq_true hc5;rw [if_pos hc5] at h;refine Wk_seq (dS [0,1,2,3,4,5,6] [7,8] [] [9,10,11,12] [0] (by kernel_rfl) fun Z hZ Y hY=>?_);simp only [go_sem,seval,hc5d];refine hY _ (by kernel_rfl) (aZ (by kernel_rfl) fun Y hY=>?_);simp only [go_sem,seval];refine hY _ (by kernel_rfl) (aZ (by kernel_rfl) fun Y hY=>?_);simp only [go_sem,seval];refine hY _ (by kernel_rfl) (j5 ?_);obtain ⟨ha6,h⟩:=bk h;simp only [List.length_cons,List.length_nil,Nat.zero_add,Nat.reduceAdd] at ha6;simp only [go_sem,seval,ha6];refine hZ _ (pp (gp (fI 0 [(0,0),(a0.piles.length,1)] 1 (by simp only [go_sem,seval,vI]) (by simp only [go_sem,seval,vJ]; try rfl)) (gp (fI 0 [(0,0),(a0.piles.length,2)] 1 (by simp only [go_sem,seval,vI]) (by simp only [go_sem,seval,vJ]; try rfl)) (ai fun Z hZ=>?_))));simp only [go_sem,seval];refine hZ _ (pp (hJ4 _ (a0.piles++[(aa.mk a1.Actor [] [])]) (IntKind.i64.wrap ((((a0.piles++[(aa.mk a1.Actor [] [])]).length:Nat):Int) - 1)) ?_ h));refine wr ?_ ?_<;>repeat' first|rfl|constructor|simp only [go_sem,seval]
 intro l4 v5 h;unfold fw at h;refine Wk_seq ?_;obtain ⟨x6,hb7,hx8,h⟩:=aI h;refine ai fun Z hZ=>?_;simp only [go_sem,seval,hb7];refine hZ _ (pp (Ws fun Z hZ=>?_));simp only [go_sem,seval,hx8];refine hZ _ (pp (Wk_seq ?_));apply bS (fun (c11:Bool)=>⟨tab 119 (updT (updT (updT (updT (updT deadT 0 (.pref 0 [] 0 0)) 3 (.pref 3 [] 0 0)) 6 (.pref 0 [(0,0)] ((v5).toNat) 0)) 7 (.val (.int .i64 ((x6.txns.length:Nat):Int)))) 64 (.val (.bool c11))),(upd (upd RZ 0 (.sl true none 6 (some 1) [[.sl true none 3 none (l4.map aa.rowD),.sl true none 1 none (a0.seen.map (rowI .i64)),.sl true none 2 none (a0.deps.map ae.row),.sl true none 1 none (a0.committed.map (rowI .i64)),.sl true none 1 none (a0.aborted.map (rowI .i64)),.sl true none 1 none (a0.prepared.map (rowI .i64))]])) 3 (.sl true none 3 (some 1) [ah.row a1]))⟩)
 ·intro hJ9;refine bU fun Z hZ=>?_;simp only [go_sem,seval];refine bF rfl (fun hc10=>?_) (fun hc10=>?_)
  ·have hc10d:=decide_eq_true hc10;rw [if_pos hc10] at h;obtain ⟨x12,hb11,hx12,h⟩:=aI h;simp only [go_sem,seval,hx8,hc10d,hb11,hx12];refine hZ _ (by kernel_rfl) (pp (hJ9 _ (decide (x12=a1.Txn)) ?_ h));refine wr ?_ ?_<;>repeat' first|rfl|constructor|simp only [go_sem,seval,Bool.or_self,List.length_set,Int.natCast_zero,Int.cast_ofNat_Int,hr1,hc2,hr3,hb7,hx8,hc10d,hb11,hx12]
  have hc10d:=decide_eq_false hc10;rw [if_neg hc10] at h;simp only [go_sem,seval,hc10d];refine hZ _ (by kernel_rfl) (pp (hJ9 _ false ?_ h));refine wr ?_ ?_<;>repeat' first|rfl|constructor|simp only [go_sem,seval,Bool.or_self,List.length_set,Int.natCast_zero,Int.cast_ofNat_Int,hr1,hc2,hr3,hb7,hx8,hc10d]
 intro c11 h;unfold ip at h;refine au rfl (fun hc13=>?_) (fun hc13=>?_)
 ·rw [if_pos hc13] at h;refine Ws fun Z hZ=>?_;simp only [go_sem,seval,hc13];refine hZ _ (pp (Wk_ret (pp ?_)));obtain rfl:=Option.some.inj h;refine du (.inl rfl) (Weak.refl _) (by simp only [go_sem,seval]; rfl) (by simp only [go_sem,seval]; rfl) (by (try simp only [go_sem,seval]); first|exact Le.refl _|exact LeI.h) ?_;exact dA (by simp only [go_sem,seval]<;>rfl) (by simp only [go_sem,seval]<;>rfl) (el_nil)
 rw [if_neg (ne_true_of_eq_false hc13)] at h;refine ak (pp ?_);unfold iF at h;refine Wk_seq ?_;apply bS (fun (c17:Bool)=>⟨tab 119 (updT (updT (updT (updT (updT deadT 0 (.pref 0 [] 0 0)) 3 (.pref 3 [] 0 0)) 6 (.pref 0 [(0,0)] ((v5).toNat) 0)) 7 (.val (.int .i64 ((x6.txns.length:Nat):Int)))) 77 (.val (.bool c17))),(upd (upd RZ 0 (.sl true none 6 (some 1) [[.sl true none 3 none (l4.map aa.rowD),.sl true none 1 none (a0.seen.map (rowI .i64)),.sl true none 2 none (a0.deps.map ae.row),.sl true none 1 none (a0.committed.map (rowI .i64)),.sl true none 1 none (a0.aborted.map (rowI .i64)),.sl true none 1 none (a0.prepared.map (rowI .i64))]])) 3 (.sl true none 3 (some 1) [ah.row a1]))⟩)
 ·intro hJ14;refine ai fun Z hZ=>?_;simp only [go_sem,seval,hc13];refine bF rfl (fun hc15=>?_) (fun hc15=>?_)
  ·have hc15d:=decide_eq_true hc15;rw [if_pos hc15] at h;obtain ⟨x18,hb16,hx17,h⟩:=aI h;simp only [go_sem,seval,hx8,hc15d,hb16,hx17];refine hZ _ (pp (hJ14 _ (!x18) ?_ h));refine wr ?_ ?_<;>repeat' first|rfl|constructor|simp only [go_sem,seval,Bool.or_self,List.length_set,Int.natCast_zero,Int.cast_ofNat_Int,hr1,hc2,hr3,hb7,hx8,hc13,hc15d,hb16,hx17]
  have hc15d:=decide_eq_false hc15;rw [if_neg hc15] at h;simp only [go_sem,seval,hc15d];refine hZ _ (pp (hJ14 _ false ?_ h));refine wr ?_ ?_<;>repeat' first|rfl|constructor|simp only [go_sem,seval,Bool.or_self,List.length_set,Int.natCast_zero,Int.cast_ofNat_Int,hr1,hc2,hr3,hb7,hx8,hc13,hc15d]
 intro c17 h;unfold gV at h;refine au rfl (fun hc18=>?_) (fun hc18=>?_)
 ·rw [if_pos hc18] at h;refine Ws fun Z hZ=>?_;simp only [go_sem,seval,hc18];refine hZ _ (pp (Wk_ret (pp ?_)));obtain rfl:=Option.some.inj h;refine du (.inl rfl) (Weak.refl _) (by simp only [go_sem,seval]; rfl) (by simp only [go_sem,seval]; rfl) (by (try simp only [go_sem,seval]); first|exact Le.refl _|exact LeI.h) ?_;exact dA (by simp only [go_sem,seval]<;>rfl) (by simp only [go_sem,seval]<;>rfl) (el_nil)
 rw [if_neg (ne_true_of_eq_false hc18)] at h;refine ak (pp ?_);unfold iC at h;apply bS (fun (l21:List ae)=>⟨tab 119 (updT (updT (updT deadT 0 (.pref 0 [] 0 0)) 3 (.pref 3 [] 0 0)) 6 (.pref 0 [(0,0)] ((v5).toNat) 0)),(upd (upd RZ 0 (.sl true none 6 (some 1) [[.sl true none 3 none (l4.map aa.rowD),.sl true none 1 none (a0.seen.map (rowI .i64)),.sl true none 2 none (l21.map ae.row),.sl true none 1 none (a0.committed.map (rowI .i64)),.sl true none 1 none (a0.aborted.map (rowI .i64)),.sl true none 1 none (a0.prepared.map (rowI .i64))]])) 3 (.sl true none 3 (some 1) [ah.row a1]))⟩)
 ·intro hJ19;refine Ws fun Z hZ=>?_;simp only [go_sem,seval,hc18];refine hZ _ (pp (sw (am rfl) (fun hc20=>?_) (fun hc20=>?_)))
  ·have hc20d:=decide_eq_false hc20;rw [if_neg hc20] at h;refine ak (pp (hJ19 _ a0.deps ?_ h));refine wr ?_ ?_<;>repeat' first|rfl|constructor|simp only [go_sem,seval,Bool.or_self,List.length_set,Int.natCast_zero,Int.cast_ofNat_Int,hr1,hc2,hr3,hb7,hx8,hc13,hc18,hc20d]
  have hc20d:=decide_eq_true hc20;rw [if_pos hc20] at h;refine dS [0,1,2,3,4,5,6,7,8,9,10,11] [12,13,14,15] [] [16,17,18,19] [0] (by kernel_rfl) fun Z hZ Y hY=>?_;simp only [go_sem,seval,hx8,hc20d];refine hY _ (by kernel_rfl) (aZ (by kernel_rfl) fun Y hY=>?_);simp only [go_sem,seval];refine hY _ (by kernel_rfl) (aZ (by kernel_rfl) fun Y hY=>?_);obtain ⟨x22,hb21,hx22,h⟩:=aI h;simp only [go_sem,seval,hx8,hb21];refine hY _ (by kernel_rfl) (aZ (by kernel_rfl) fun Y hY=>?_);simp only [go_sem,seval,hx8,hx22];refine hY _ (by kernel_rfl) (aZ (by kernel_rfl) fun Y hY=>?_);simp only [go_sem,seval];refine hY _ (by kernel_rfl) (j5 ?_);obtain ⟨r23,hr23,h⟩:=Option.bind_eq_some_iff.1 h;simp only [go_sem,seval,hr23];refine hZ _ (pp (hJ19 _ r23 ?_ h));refine wr ?_ ?_<;>repeat' first|rfl|constructor|simp only [go_sem,seval,Bool.or_self,List.length_set,Int.natCast_zero,Int.cast_ofNat_Int,hr1,hc2,hr3,hb7,hx8,hc13,hc18,hc20d,hb21,hx22,hr23]
 intro l21 h;unfold ia at h;refine Wk_seq (dS [0,1,2,3,4,5,6] [7] [] [8,9,10,11] [] (by kernel_rfl) fun Z hZ Y hY=>?_);simp only [go_sem,seval,hx8];refine hY _ (by kernel_rfl) (aZ (by kernel_rfl) fun Y hY=>?_);simp only [go_sem,seval];refine hY _ (by kernel_rfl) (j5 ?_);obtain ⟨ha24,h⟩:=bk h;simp only [List.length_cons,List.length_nil,Nat.zero_add,Nat.reduceAdd] at ha24;simp only [go_sem,seval,hx8,ha24,jU (row:=aa.rowD) (rx:=[.val (.int .i64 x6.actor),.sl true none 1 none (x6.txns.map (rowI .i64)),.sl true none 1 none (x6.prepared.map rowB)]) hx8 rfl rfl,dj (row:=aa.rowD) _ hx8,ga (row:=aa.rowD) hx8 rfl];refine hZ _ (pp (Wk_seq ?_));obtain ⟨ha25,h⟩:=bk h;simp only [List.length_cons,List.length_nil,Nat.zero_add] at ha25;refine ai fun Z hZ=>?_;simp only [go_sem,seval,dj (row:=aa.rowD) _ hx8,ga (row:=aa.rowD) hx8 rfl,ha25];refine hZ _ (pp (Ws fun Z hZ=>?_));simp only [go_sem,seval];refine hZ _ (pp (Wk_ret (pp ?_)));obtain rfl:=Option.some.inj h;refine du (.inl rfl) (Weak.trans (pM (n:=0) (c':=.sl true none 6 (some 1) [[.sl true none 3 none ((l4.set ((v5).toNat) (aa.mk x6.actor (x6.txns++[a1.Txn]) (x6.prepared++[false]))).map aa.rowD),.sl true none 1 none (a0.seen.map (rowI .i64)),.sl true none 2 none (l21.map ae.row),.sl true none 1 none (a0.committed.map (rowI .i64)),.sl true none 1 none (a0.aborted.map (rowI .i64)),.sl true none 1 none (a0.prepared.map (rowI .i64))]]) (by simp only [go_sem,seval]; rfl) (by first|(simp only [gt (row:=aa.rowD) (l:=l4) (i:=((v5).toNat)) (y:=(aa.mk x6.actor (x6.txns++[a1.Txn]) (x6.prepared++[false]))) (rc:=[.val (.int .i64 x6.actor),.sl true none 1 none ((x6.txns++[a1.Txn]).map (rowI .i64)),.sl true none 1 none ((x6.prepared++[false]).map rowB)]) rfl]; done)|(simp only [gt (row:=aa.rowD) (l:=l4) (i:=((v5).toNat)) (y:=(aa.mk x6.actor (x6.txns++[a1.Txn]) (x6.prepared++[false]))) (rc:=[.val (.int .i64 x6.actor),.sl true none 1 none ((x6.txns++[a1.Txn]).map (rowI .i64)),.sl true none 1 none ((x6.prepared++[false]).map rowB)]) rfl,List.map_append,List.map_cons,List.map_nil]<;>rfl)|(rw [<-gt (row:=aa.rowD) (l:=l4) (i:=((v5).toNat)) (y:=(aa.mk x6.actor (x6.txns++[a1.Txn]) (x6.prepared++[false]))) (rc:=[.val (.int .i64 x6.actor),.sl true none 1 none ((x6.txns++[a1.Txn]).map (rowI .i64)),.sl true none 1 none ((x6.prepared++[false]).map rowB)]) rfl]; simp only [List.map_append,List.map_cons,List.map_nil]<;>rfl))) (Weak.refl _)) (by simp only [go_sem,seval]; rfl) (by simp only [go_sem,seval]; rfl) (by (try simp only [go_sem,seval]); first|exact Le.refl _|exact LeI.h) ?_
 exact dA (by simp only [go_sem,seval,Bool.or_self]<;>rfl) (by simp only [go_sem,seval]<;>rfl) (el_nil)
def j4 (N:Nat):FnL:=⟨1,fun cs rest=>match cs,rest with
 | [v0],[c1]=>(varE 6 ac.decE v0).bind fun q0=>(ah.decA c1).bind fun q1=>(iz N q0 q1).map fun r=>(.val (.bool r.1),[.sl true none 6 (some 1) [ac.rowD r.2]])
 | _,_=>none,true⟩
attribute [go_sem] j4
theorem rZ (N:Nat):FLOk Tryz.prog 87 (j4 N):=by
 refine flOkP (Nat.succ_ne_zero _) ?_;intro cs rest r ls hlen h;simp only [j4] at h;split at h
 ·simp only [Option.bind_eq_some_iff,Option.map_eq_some_iff] at h;obtain ⟨q0,h0,q1,h1,r',hr,he⟩:=h;cases he;obtain rfl:=oR ac.decE_eq h0;exact ⟨ConL.restLe rfl ((LeL.cons (ah.decA_le h1) (LeL.nil))) (uH N q0 q1 r' hr),rfl,PureIL.h⟩
 ·cases h


theorem yO (N:Nat) (a0:aa) (a1:Int) (r:Int) (h:j7 N a0 a1=some r):Con Tryz.prog 61 [] true [.agg (aa.row a0),.val (.int .i64 a1)] (.val (.int .i64 r)):=by
 refine aV (G:=(glist [])) Tryz.func61 rfl (by decide) (by kernel_rfl) gn [] mix (Nat.le_of_ble_eq_true rfl) ?_;simp only [Tryz.f61];unfold j7 at h;refine Ws fun Z hZ=>?_;simp only [go_sem,seval];refine hZ _ (pp (Wk_seq (Ws fun Z hZ=>?_)));simp only [go_sem,seval];refine hZ _ (pp (al (dt fun hreal2=>?_)));have hl1:=hreal2.cell 2 1 (by simp only [go_sem,seval]; rfl) rfl;first|rw [List.length_map] at hl1|rw [dy] at hl1|rw [<-List.map_append,List.length_map] at hl1
 refine dg (fun (v2:Nat) (b:Unit)=>⟨tab 21 (updT (updT (updT deadT 1 (.val (.int .i64 a1))) 2 (.pref 2 [] 0 0)) 5 (.val (.int .i64 ((v2:Nat):Int)))),(upd RZ 2 (.sl true none 3 (some 1) [aa.row a0]))⟩) () h ?_ ?_
 ·refine wr ?_ ?_<;>repeat' first|rfl|constructor
 rintro v2 ⟨⟩ hi3 h -;rcases (bq a0.txns v2 hi3).symm with ⟨hi3',_,hd6⟩|⟨x5,hi3',hx4,hd6⟩
 ·rw [hd6] at h;simp only [jA] at h;refine Wk_seq (Ws fun Z hZ=>?_);simp only [go_sem,seval,hi3'];refine hZ _ (pp ?_);try simp only [Int.ofNat_lt,hi3',if_true,if_false] at h
  refine bc rfl (aP (pp (Ws fun Z hZ=>?_)));simp only [go_sem,seval];refine hZ _ (pp (Wk_ret (pp ?_)));cases h;simp only [go_sem,seval];exact ⟨_,rfl,RokI.h,PureI.h⟩
 rw [hd6] at h;simp only [jA] at h;have hw5:=bu hi3' hl1;refine Wk_seq (Ws fun Z hZ=>?_);simp only [go_sem,seval,hi3'];refine hZ _ (pp ?_);try simp only [Int.ofNat_lt,hi3',if_true,if_false] at h
 refine bm rfl (ak (pp (Wk_seq (al (Wk_seq ?_)))));try rw [gx_nat hx4] at h
 refine ai fun Z hZ=>?_;simp only [go_sem,seval,hx4,hi3'];refine hZ _ (pp (am rfl (fun hc7=>?_) (fun hc7=>?_)))
 ·have hc7d:=decide_eq_true hc7;rw [if_pos hc7] at h;refine Ws fun Z hZ=>?_;simp only [go_sem,seval,hc7d];refine hZ _ (pp (Wk_ret (pp ?_)));cases h;simp only [go_sem,seval];exact ⟨_,rfl,RokI.h,PureI.h⟩
 have hc7d:=decide_eq_false hc7;rw [if_neg hc7] at h;refine ak (pp (ai fun Z hZ=>?_));simp only [go_sem,seval,hw5,hc7d];refine hZ _ (pp ?_);first|refine ⟨(),?_,h⟩|refine ⟨hi3',(),?_,h⟩
 refine wr ?_ ?_<;>repeat' first|rfl|constructor
def k9 (N:Nat):FnS:=⟨[],true,fn2 aa.decA (decI .i64) fun q0 q1=>(j7 N q0 q1).map fun r=>.val (.int .i64 r),false⟩
attribute [go_sem] k9
theorem mZ (N:Nat):FSOk Tryz.prog 61 (k9 N):=ok2 (fun q0 q1 r h=>by
 obtain ⟨r',hr,rfl⟩:=Option.map_eq_some_iff.1 h;exact yO N q0 q1 r' hr) (aa.decA_le) (ay)


noncomputable def oV (N d f:Nat):Option FnS:=glist [(10,48,gZ N),(22,61,k9 N),(54,29,aX N)] d f
attribute [go_sem] oV
theorem sy (N:Nat) (a0:ac) (a1:ah) (r:Bool × ac) (h:fA N a0 a1=some r):ConL Tryz.prog 88 1 [.sl true none 6 (some 1) [ac.rowD a0],.agg (ah.row a1)] (.val (.bool r.1)) [.sl true none 6 (some 1) [ac.rowD r.2]]:=by
 refine fM (G:=(oV N)) (L:=noL) Tryz.func88 rfl (by decide) (by kernel_rfl) 1 (by kernel_rfl) (gc 10 (kY N) (gc 22 (mZ N) (gc 54 (aT N) gn))) (fun _ _ _ h=>by cases h) [] mix (Nat.le_of_ble_eq_true rfl) (Nat.le_of_ble_eq_true rfl) rfl rfl ?_;simp only [Tryz.f88];unfold fA at h;refine Ws fun Z hZ=>?_;simp only [go_sem,seval];refine hZ _ (pp (Wk_seq ?_));obtain ⟨r1,hr1,h⟩:=Option.bind_eq_some_iff.1 h;refine ai fun Z hZ=>?_;simp only [go_sem,seval,hr1];refine hZ _ (pp (Wk_seq (Ws fun Z hZ=>?_)));simp only [go_sem,seval];refine hZ _ (pp (am rfl (fun hc2=>?_) (fun hc2=>?_)))
 ·have hc2d:=decide_eq_true hc2;rw [if_pos hc2] at h;refine Ws fun Z hZ=>?_;simp only [go_sem,seval,hc2d];refine hZ _ (pp (Wk_ret (pp ?_)));obtain rfl:=Option.some.inj h;refine du (.inl rfl) (Weak.refl _) (by simp only [go_sem,seval]; rfl) (by simp only [go_sem,seval]; rfl) (by (try simp only [go_sem,seval]); first|exact Le.refl _|exact LeI.h) ?_;exact dA (by simp only [go_sem,seval]<;>rfl) (by simp only [go_sem,seval]<;>rfl) (el_nil)
 have hc2d:=decide_eq_false hc2;rw [if_neg hc2] at h;refine ak (pp (Wk_seq ?_));obtain ⟨x2,hb3,hx4,h⟩:=aI h;obtain ⟨r3,hr5,h⟩:=Option.bind_eq_some_iff.1 h;refine bU fun Z hZ=>?_;simp only [go_sem,seval,hc2d,hb3,hx4,hr5];repeat with_reducible refine dN (by kernel_rfl) ?_
 refine hZ _ (by kernel_rfl) (pp (Wk_seq ?_));apply bS (fun (c8:Bool)=>⟨tab 67 (updT (updT (updT (updT (updT deadT 0 (.pref 0 [] 0 0)) 3 (.pref 3 [] 0 0)) 5 (.val (.int .i64 r1))) 6 (.val (.int .i64 r3))) 37 (.val (.bool c8))),(upd (upd RZ 0 (.sl true none 6 (some 1) [[.sl true none 3 none (a0.piles.map aa.rowD),.sl true none 1 none (a0.seen.map (rowI .i64)),.sl true none 2 none (a0.deps.map ae.row),.sl true none 1 none (a0.committed.map (rowI .i64)),.sl true none 1 none (a0.aborted.map (rowI .i64)),.sl true none 1 none (a0.prepared.map (rowI .i64))]])) 3 (.sl true none 3 (some 1) [ah.row a1]))⟩)
 ·intro hJ6;refine ai fun Z hZ=>?_;simp only [go_sem,seval];refine bF rfl (fun hc7=>?_) (fun hc7=>?_)
  ·have hc7d:=decide_eq_true hc7;rw [if_pos hc7] at h;simp only [go_sem,seval,hc7d];refine hZ _ (pp (hJ6 _ true ?_ h));refine wr ?_ ?_<;>repeat' first|rfl|constructor
  have hc7d:=decide_eq_false hc7;rw [if_neg hc7] at h;obtain ⟨x9,hb8,hx9,h⟩:=aI h;simp only [go_sem,seval,hb3,hx4,hc7d,hb8,hx9];refine hZ _ (pp (hJ6 _ x9 ?_ h));refine wr ?_ ?_<;>repeat' first|rfl|constructor
 intro c8 h;unfold fC at h;refine au rfl (fun hc10=>?_) (fun hc10=>?_)
 ·rw [if_pos hc10] at h;refine Ws fun Z hZ=>?_;simp only [go_sem,seval,hc10];refine hZ _ (pp (Wk_ret (pp ?_)));obtain rfl:=Option.some.inj h;refine du (.inl rfl) (Weak.refl _) (by simp only [go_sem,seval]; rfl) (by simp only [go_sem,seval]; rfl) (by (try simp only [go_sem,seval]); first|exact Le.refl _|exact LeI.h) ?_;exact dA (by simp only [go_sem,seval]<;>rfl) (by simp only [go_sem,seval]<;>rfl) (el_nil)
 rw [if_neg (ne_true_of_eq_false hc10)] at h;refine ak (pp ?_);unfold iY at h;refine Wk_seq ?_;obtain ⟨x10,hb11,hx12,h⟩:=aI h;obtain rfl:=AU hx4 hx12;obtain ⟨x11,hb13,hx14,h⟩:=aI h;have hx16:=rO (y:=true) hx14;refine ai fun Z hZ=>?_;simp only [go_sem,seval,hb3,hx4,hc10,hb13,hx14,mV (row:=rowB) (y:=true) (rx:=[.val (.bool x11)]) (ry:=[.val (.bool true)]) hx14 rfl rfl,jU (row:=aa.rowD) (rx:=[.val (.int .i64 x2.actor),.sl true none 1 none (x2.txns.map (rowI .i64)),.sl true none 1 none (x2.prepared.map rowB)]) hx4 rfl rfl];refine hZ _ (pp (Wk_seq (Wk_seq ?_)));obtain ⟨r12,hr17,h⟩:=Option.bind_eq_some_iff.1 h;refine bU fun Z hZ=>?_;simp only [go_sem,seval,hr17];repeat with_reducible refine dN (by kernel_rfl) ?_
 refine hZ _ (by kernel_rfl) (pp (sw (bQ rfl) (fun hc18=>?_) (fun hc18=>?_)))
 ·rw [if_pos hc18] at h;refine ak (pp (Ws fun Z hZ=>?_));simp only [go_sem,seval,hc18];refine hZ _ (pp (Wk_ret (pp ?_)));obtain rfl:=Option.some.inj h;refine du (.inl rfl) (Weak.trans (pM (n:=0) (c':=.sl true none 6 (some 1) [[.sl true none 3 none ((a0.piles.set ((r1).toNat) (aa.mk x2.actor x2.txns (x2.prepared.set ((r3).toNat) true))).map aa.rowD),.sl true none 1 none (a0.seen.map (rowI .i64)),.sl true none 2 none (a0.deps.map ae.row),.sl true none 1 none (a0.committed.map (rowI .i64)),.sl true none 1 none (a0.aborted.map (rowI .i64)),.sl true none 1 none (a0.prepared.map (rowI .i64))]]) (by simp only [go_sem,seval]; rfl) (by first|(simp only [gt (row:=aa.rowD) (l:=a0.piles) (i:=((r1).toNat)) (y:=(aa.mk x2.actor x2.txns (x2.prepared.set ((r3).toNat) true))) (rc:=[.val (.int .i64 x2.actor),.sl true none 1 none (x2.txns.map (rowI .i64)),.sl true none 1 none ((x2.prepared.set ((r3).toNat) true).map rowB)]) rfl]; done)|(simp only [gt (row:=aa.rowD) (l:=a0.piles) (i:=((r1).toNat)) (y:=(aa.mk x2.actor x2.txns (x2.prepared.set ((r3).toNat) true))) (rc:=[.val (.int .i64 x2.actor),.sl true none 1 none (x2.txns.map (rowI .i64)),.sl true none 1 none ((x2.prepared.set ((r3).toNat) true).map rowB)]) rfl,List.map_append,List.map_cons,List.map_nil]<;>rfl)|(rw [<-gt (row:=aa.rowD) (l:=a0.piles) (i:=((r1).toNat)) (y:=(aa.mk x2.actor x2.txns (x2.prepared.set ((r3).toNat) true))) (rc:=[.val (.int .i64 x2.actor),.sl true none 1 none (x2.txns.map (rowI .i64)),.sl true none 1 none ((x2.prepared.set ((r3).toNat) true).map rowB)]) rfl]; simp only [List.map_append,List.map_cons,List.map_nil]<;>rfl))) (Weak.refl _)) (by simp only [go_sem,seval]; rfl) (by simp only [go_sem,seval]; rfl) (by (try simp only [go_sem,seval]); first|exact Le.refl _|exact LeI.h) ?_
  exact dA (by simp only [go_sem,seval]<;>rfl) (by simp only [go_sem,seval]<;>rfl) (el_nil)
 rw [if_neg (ne_true_of_eq_false hc18)] at h;refine dS [0,1,2,3,4,5,6] [7] [] [8,9,10,11] [] (by kernel_rfl) fun Z hZ Y hY=>?_;simp only [go_sem,seval,hc18];refine hY _ (by kernel_rfl) (aZ (by kernel_rfl) fun Y hY=>?_);simp only [go_sem,seval];refine hY _ (by kernel_rfl) (j5 ?_);obtain ⟨ha19,h⟩:=bk h;simp only [List.length_cons,List.length_nil,Nat.zero_add,Nat.reduceAdd] at ha19;simp only [go_sem,seval,ha19];refine hZ _ (pp (Ws fun Z hZ=>?_));simp only [go_sem,seval];refine hZ _ (pp (Wk_ret (pp ?_)));obtain rfl:=Option.some.inj h;refine du (.inl rfl) (Weak.trans (pM (n:=0) (c':=.sl true none 6 (some 1) [[.sl true none 3 none ((a0.piles.set ((r1).toNat) (aa.mk x2.actor x2.txns (x2.prepared.set ((r3).toNat) true))).map aa.rowD),.sl true none 1 none (a0.seen.map (rowI .i64)),.sl true none 2 none (a0.deps.map ae.row),.sl true none 1 none (a0.committed.map (rowI .i64)),.sl true none 1 none (a0.aborted.map (rowI .i64)),.sl true none 1 none ((a0.prepared++[a1.Txn]).map (rowI .i64))]]) (by simp only [go_sem,seval]; rfl) (by first|(simp only [gt (row:=aa.rowD) (l:=a0.piles) (i:=((r1).toNat)) (y:=(aa.mk x2.actor x2.txns (x2.prepared.set ((r3).toNat) true))) (rc:=[.val (.int .i64 x2.actor),.sl true none 1 none (x2.txns.map (rowI .i64)),.sl true none 1 none ((x2.prepared.set ((r3).toNat) true).map rowB)]) rfl]; done)|(simp only [gt (row:=aa.rowD) (l:=a0.piles) (i:=((r1).toNat)) (y:=(aa.mk x2.actor x2.txns (x2.prepared.set ((r3).toNat) true))) (rc:=[.val (.int .i64 x2.actor),.sl true none 1 none (x2.txns.map (rowI .i64)),.sl true none 1 none ((x2.prepared.set ((r3).toNat) true).map rowB)]) rfl,List.map_append,List.map_cons,List.map_nil]<;>rfl)|(rw [<-gt (row:=aa.rowD) (l:=a0.piles) (i:=((r1).toNat)) (y:=(aa.mk x2.actor x2.txns (x2.prepared.set ((r3).toNat) true))) (rc:=[.val (.int .i64 x2.actor),.sl true none 1 none (x2.txns.map (rowI .i64)),.sl true none 1 none ((x2.prepared.set ((r3).toNat) true).map rowB)]) rfl]; simp only [List.map_append,List.map_cons,List.map_nil]<;>rfl))) (Weak.refl _)) (by simp only [go_sem,seval]; rfl) (by simp only [go_sem,seval]; rfl) (by (try simp only [go_sem,seval]); first|exact Le.refl _|exact LeI.h) ?_
 exact dA (by simp only [go_sem,seval,Bool.or_self]<;>rfl) (by simp only [go_sem,seval]<;>rfl) (el_nil)
def iJ (N:Nat):FnL:=⟨1,fun cs rest=>match cs,rest with
 | [v0],[c1]=>(varE 6 ac.decE v0).bind fun q0=>(ah.decA c1).bind fun q1=>(fA N q0 q1).map fun r=>(.val (.bool r.1),[.sl true none 6 (some 1) [ac.rowD r.2]])
 | _,_=>none,true⟩
attribute [go_sem] iJ
theorem qW (N:Nat):FLOk Tryz.prog 88 (iJ N):=by
 refine flOkP (Nat.succ_ne_zero _) ?_;intro cs rest r ls hlen h;simp only [iJ] at h;split at h
 ·simp only [Option.bind_eq_some_iff,Option.map_eq_some_iff] at h;obtain ⟨q0,h0,q1,h1,r',hr,he⟩:=h;cases he;obtain rfl:=oR ac.decE_eq h0;exact ⟨ConL.restLe rfl ((LeL.cons (ah.decA_le h1) (LeL.nil))) (sy N q0 q1 r' hr),rfl,PureIL.h⟩
 ·cases h


noncomputable def ql (N d f:Nat):Option FnS:=glist [(27,61,k9 N)] d f
attribute [go_sem] ql
theorem vy (N:Nat) (a0:ac) (a1:Int) (a2:Bool) (r:Bool) (h:fc N a0 a1 a2=some r):Con Tryz.prog 47 [] true [.iref 6 [[.sl false none 3 none (a0.piles.map aa.row),.sl false none 1 none (a0.seen.map (rowI .i64)),.sl false none 2 none (a0.deps.map ae.row),.sl false none 1 none (a0.committed.map (rowI .i64)),.sl false none 1 none (a0.aborted.map (rowI .i64)),.sl false none 1 none (a0.prepared.map (rowI .i64))]] 0 0,.val (.int .i64 a1),.val (.bool a2)] (.val (.bool r)):=by
 refine aV (G:=(ql N)) Tryz.func47 rfl (by decide) (by kernel_rfl) (gc 27 (mZ N) gn) [] mix (Nat.le_of_ble_eq_true rfl) ?_;simp only [Tryz.f47];unfold fc at h;refine Ws fun Z hZ=>?_;simp only [go_sem,seval];refine hZ _ (pp (Ws fun Z hZ=>?_));simp only [go_sem,seval];refine hZ _ (pp (Wk_seq (Ws fun Z hZ=>?_)));simp only [go_sem,seval];refine hZ _ (pp (al (fV (fun (b:Bool × Bool × Int)=>⟨tab 50 (updT (updT (updT (updT (updT deadT 0 (.iref 6 [[.sl false none 3 none (a0.piles.map aa.row),.sl false none 1 none (a0.seen.map (rowI .i64)),.sl false none 2 none (a0.deps.map ae.row),.sl false none 1 none (a0.committed.map (rowI .i64)),.sl false none 1 none (a0.aborted.map (rowI .i64)),.sl false none 1 none (a0.prepared.map (rowI .i64))]] 0 0)) 1 (.val (.int .i64 a1))) 2 (.val (.bool b.1))) 7 (.val (.bool b.2.1))) 8 (.val (.int .i64 b.2.2))),RZ⟩) (a2,false,0) h ?_ ?_)))
 ·refine wr ?_ ?_<;>repeat' first|rfl|constructor
 rintro n ⟨c2,c3,v4⟩ h -;cases n with
 | zero=>simp [dH] at h
 | succ n=>
 simp only [dH] at h;refine Wk_seq (Ws fun Z hZ=>?_);simp only [go_sem,seval];refine hZ _ (pp (sw (am rfl) (fun hc1=>?_) (fun hc1=>?_)))
 ·have hc1d:=decide_eq_false hc1;rw [if_neg hc1] at h;refine aP (pp (Ws fun Z hZ=>?_));simp only [go_sem,seval,hc1d];refine hZ _ (pp (Wk_ret (pp ?_)));cases h;simp only [go_sem,seval];exact ⟨_,rfl,RokI.h,PureI.h⟩
 have hc1d:=decide_eq_true hc1;rw [if_pos hc1] at h;refine ak (pp (Wk_seq (al (Wk_seq ?_))));obtain ⟨x1,hb2,hx3,h⟩:=aI h;obtain ⟨r2,hr4,h⟩:=Option.bind_eq_some_iff.1 h;refine ai fun Z hZ=>?_;simp only [go_sem,seval,hb2,hx3,hr4];refine hZ _ (pp (Wk_seq (Ws fun Z hZ=>?_)));simp only [go_sem,seval];refine hZ _ (pp (am rfl (fun hc5=>?_) (fun hc5=>?_)))
 ·have hc5d:=decide_eq_true hc5;rw [if_pos hc5] at h;refine aP (pp (ai fun Z hZ=>?_));simp only [go_sem,seval,hc5d];refine hZ _ (pp (⟨_,Nat.lt_succ_self _,(c2,c3,IntKind.i64.wrap (v4+1)),?_,h⟩));refine wr ?_ ?_<;>repeat' first|rfl|constructor
 have hc5d:=decide_eq_false hc5;rw [if_neg hc5] at h;refine ak (pp (Ws fun Z hZ=>?_));simp only [go_sem,seval,hc5d];refine hZ _ (pp ?_);apply oA (fun (c4:Bool) (c5:Bool)=>⟨tab 50 (updT (updT (updT (updT (updT (updT deadT 0 (.iref 6 [[.sl false none 3 none (a0.piles.map aa.row),.sl false none 1 none (a0.seen.map (rowI .i64)),.sl false none 2 none (a0.deps.map ae.row),.sl false none 1 none (a0.committed.map (rowI .i64)),.sl false none 1 none (a0.aborted.map (rowI .i64)),.sl false none 1 none (a0.prepared.map (rowI .i64))]] 0 0)) 1 (.val (.int .i64 a1))) 2 (.val (.bool c4))) 7 (.val (.bool true))) 8 (.val (.int .i64 v4))) 48 (.val (.bool c5))),RZ⟩)
 ·intro hJ6;obtain ⟨x6,hb7,hx8,h⟩:=aI h;refine ai fun Z hZ=>?_;simp only [go_sem,seval,hb2,hx3,hb7,hx8];refine eY rfl (fun hc9=>?_) (fun hc9=>?_)
  ·rw [if_neg (ne_true_of_eq_false hc9)] at h;simp only [go_sem,seval,hc9];refine hZ _ (pp (hJ6 _ c2 true ?_ h));refine wr ?_ ?_<;>repeat' first|rfl|constructor
  rw [if_pos hc9] at h;simp only [go_sem,seval,hc9];refine bR rfl (fun hc10=>?_) (fun hc10=>?_)
  ·rw [if_pos hc10] at h;simp only [go_sem,seval,hc10];refine hZ _ (pp (hJ6 _ true (decide (0 < r2)) ?_ h));refine wr ?_ ?_<;>repeat' first|rfl|constructor
  rw [if_neg (ne_true_of_eq_false hc10)] at h;simp only [go_sem,seval,hc10];refine hZ _ (pp (hJ6 _ false false ?_ h));refine wr ?_ ?_<;>repeat' first|rfl|constructor
 intro c4 c5 h;unfold iQ at h;refine au rfl (fun hc11=>?_) (fun hc11=>?_)
 ·rw [if_pos hc11] at h;refine Ws fun Z hZ=>?_;simp only [go_sem,seval,hc11];refine hZ _ (pp (Wk_ret (pp ?_)));cases h;simp only [go_sem,seval];exact ⟨_,rfl,RokI.h,PureI.h⟩
 rw [if_neg (ne_true_of_eq_false hc11)] at h;refine ak (pp (ai fun Z hZ=>?_));simp only [go_sem,seval,hc11];refine hZ _ (pp (⟨_,Nat.lt_succ_self _,(c4,true,IntKind.i64.wrap (v4+1)),?_,h⟩));refine wr ?_ ?_<;>repeat' first|rfl|constructor
def iZ (N:Nat):FnS:=⟨[],true,fn3 (decPt 6 ac.dec) (decI .i64) decB fun q0 q1 q2=>(fc N q0 q1 q2).map fun r=>.val (.bool r),false⟩
attribute [go_sem] iZ
theorem lx (N:Nat):FSOk Tryz.prog 47 (iZ N):=ok3 (fun q0 q1 q2 r h=>by
 obtain ⟨r',hr,rfl⟩:=Option.map_eq_some_iff.1 h;exact vy N q0 q1 q2 r' hr) (fun h=>kU ac.dec_le h) (ay) (Ck)


noncomputable def pZ (N d f:Nat):Option FnS:=glist [(23,61,k9 N)] d f
attribute [go_sem] pZ
theorem uD (N:Nat) (a0:ac) (a1:Int) (r:ac) (h:dJ N a0 a1=some r):ConL Tryz.prog 46 1 [.sl true none 6 (some 1) [ac.rowD a0],.val (.int .i64 a1)] (.tup []) [.sl true none 6 (some 1) [ac.rowD r]]:=by
 refine fM (G:=(pZ N)) (L:=noL) Tryz.func46 rfl (by decide) (by kernel_rfl) 1 (by kernel_rfl) (gc 23 (mZ N) gn) (fun _ _ _ h=>by cases h) [] mix (Nat.le_of_ble_eq_true rfl) (Nat.le_of_ble_eq_true rfl) rfl rfl ?_;simp only [Tryz.f46];unfold dJ at h;refine Ws fun Z hZ=>?_;simp only [go_sem,seval];refine hZ _ (pp (al (fV (fun (b:List aa × Int)=>⟨tab 86 (updT (updT (updT deadT 0 (.pref 0 [] 0 0)) 1 (.val (.int .i64 a1))) 4 (.val (.int .i64 b.2))),(upd RZ 0 (.sl true none 6 (some 1) [[.sl true none 3 none (b.1.map aa.rowD),.sl true none 1 none (a0.seen.map (rowI .i64)),.sl true none 2 none (a0.deps.map ae.row),.sl true none 1 none (a0.committed.map (rowI .i64)),.sl true none 1 none (a0.aborted.map (rowI .i64)),.sl true none 1 none (a0.prepared.map (rowI .i64))]]))⟩) (a0.piles,0) h ?_ ?_)))
 ·refine wr ?_ ?_<;>repeat' first|rfl|constructor
 rintro n ⟨l1,v2⟩ h -;cases n with
 | zero=>simp [eG] at h
 | succ n=>
 simp only [eG] at h;refine Wk_seq (Ws fun Z hZ=>?_);simp only [go_sem,seval];refine hZ _ (pp (sw (am rfl) (fun hc1=>?_) (fun hc1=>?_)))
 ·have hc1d:=decide_eq_false hc1;rw [if_neg hc1] at h;refine aP (pp ?_);obtain rfl:=Option.some.inj h;refine du (.inr rfl) (Weak.refl _) (by simp only [go_sem,seval,hc1d]; rfl) (by simp only [go_sem,seval]; rfl) (by (try simp only [go_sem,seval]); first|exact Le.refl _|exact LeI.h) ?_;exact dA (by simp only [go_sem,seval,hc1d]<;>rfl) (by simp only [go_sem,seval]<;>rfl) (el_nil)
 have hc1d:=decide_eq_true hc1;rw [if_pos hc1] at h;refine ak (pp (Wk_seq (al (Wk_seq ?_))));obtain ⟨x1,hb2,hx3,h⟩:=aI h;obtain ⟨r2,hr4,h⟩:=Option.bind_eq_some_iff.1 h;refine ai fun Z hZ=>?_;simp only [go_sem,seval,hb2,hx3,hr4];refine hZ _ (pp (Wk_seq (Ws fun Z hZ=>?_)));simp only [go_sem,seval];refine hZ _ (pp (am rfl (fun hc5=>?_) (fun hc5=>?_)))
 ·have hc5d:=decide_eq_true hc5;rw [if_pos hc5] at h;refine aP (pp (ai fun Z hZ=>?_));simp only [go_sem,seval,hc5d];refine hZ _ (pp (⟨_,Nat.lt_succ_self _,(l1,IntKind.i64.wrap (v2+1)),?_,h⟩));refine wr ?_ ?_<;>repeat' first|rfl|constructor
 have hc5d:=decide_eq_false hc5;rw [if_neg hc5] at h;refine ak (pp (Wk_seq (dS [0,1,2,3,4,5,6,7,8,9,10,11,12,13,14,16,17,18,19,20,21,22,23,24] [15,25,26,27] [[25,15,26,27],[25,26,15,27]] [28,29,30] [0] (by kernel_rfl) fun Z hZ Y hY=>?_)));simp only [go_sem,seval,hb2,hx3,hc5d];refine hY _ (by kernel_rfl) (aZ (by kernel_rfl) fun Y hY=>?_);obtain ⟨hs6,ht7,h⟩:=uG h;try simp only [Int.toNat_natCast] at hs6 ht7 h
 simp only [go_sem,seval,hx3,hs6,Nat.sub_zero,Nat.zero_le,Nat.le_refl];refine hY _ (by kernel_rfl) (aZ (by kernel_rfl) fun Y hY=>?_);simp only [go_sem,seval];refine hY _ (by kernel_rfl) (aZ (by kernel_rfl) fun Y hY=>?_);obtain ⟨hs8,h⟩:=gR h;try simp only [Int.toNat_natCast] at hs8 h
 simp only [go_sem,seval,hx3,Nat.le_refl,hs8];refine hY _ (by kernel_rfl) (aZ (by simp only [go_sem,seval,hx3,chkA,baseN,headB,srcB,Option.isNone,Bool.and_true]; try rfl) fun Y hY=>?_);obtain ⟨ha9,h⟩:=bk h;simp only [Nat.reduceAdd] at ha9;simp only [go_sem,seval,hx3,ha9,jU (row:=aa.rowD) (rx:=[.val (.int .i64 x1.actor),.sl true none 1 none (x1.txns.map (rowI .i64)),.sl true none 1 none (x1.prepared.map rowB)]) hx3 rfl rfl];refine hY _ (by kernel_rfl) (uQ (sC:=⟨tab 86 (updT (updT (updT (updT (updT (updT (updT (updT (updT (updT (updT (updT (updT (updT (updT (updT (updT (updT (updT (updT (updT (updT (updT (updT (updT (updT (updT (updT (updT (updT (updT (updT (updT (updT (updT (updT (updT (updT (updT (updT (updT (updT (updT (updT (updT deadT 0 (.pref 0 [] 0 0)) 1 (.val (.int .i64 a1))) 4 (.val (.int .i64 v2))) 5 (.val (.int .i64 r2))) 6 (.val (.int .i64 v2))) 7 (.pref 0 [] 0 0)) 8 (.pref 0 [] 0 0)) 9 (.pref 0 [] 0 0)) 10 (.pal 0 [(0,0)] 0 l1.length none)) 11 (.val (.int .i64 ((l1.length:Nat):Int)))) 12 (.val (.bool true))) 15 (.pref 0 [] 0 0)) 16 (.pref 0 [] 0 0)) 17 (.pref 0 [] 0 0)) 18 (.pal 0 [(0,0)] 0 l1.length none)) 19 (.val (.int .i64 v2))) 20 (.pref 0 [(0,0)] ((v2).toNat) 0)) 22 (.val (.int .i64 a1))) 23 (.val (.int .i64 r2))) 24 (.val (.int .i64 r2))) 25 (.val (.bool false))) 26 (.pref 0 [] 0 0)) 27 (.pref 0 [] 0 0)) 28 (.pref 0 [] 0 0)) 29 (.pal 0 [(0,0)] 0 l1.length none)) 30 (.val (.int .i64 v2))) 31 (.pref 0 [] 0 0)) 32 (.pref 0 [] 0 0)) 33 (.pref 0 [] 0 0)) 34 (.pal 0 [(0,0)] 0 l1.length none)) 35 (.val (.int .i64 v2))) 36 (.pref 0 [(0,0)] ((v2).toNat) 0)) 37 (.pref 0 [(0,0)] ((v2).toNat) 1)) 39 (.val (.int .i64 r2))) 40 (.val (.int .i64 r2))) 42 (.pref 0 [] 0 0)) 43 (.pref 0 [] 0 0)) 44 (.pref 0 [] 0 0)) 45 (.pal 0 [(0,0)] 0 l1.length none)) 46 (.val (.int .i64 v2))) 47 (.pref 0 [(0,0)] ((v2).toNat) 0)) 48 (.pref 0 [(0,0)] ((v2).toNat) 1)) 50 (.val (.int .i64 r2))) 51 (.val (.int .i64 (IntKind.i64.wrap (r2+1))))) 53 (.pal 53 [] 0 (((x1.txns.take ((r2).toNat))++((x1.txns.drop ((IntKind.i64.wrap (r2+1)).toNat)).take (x1.txns.length - (IntKind.i64.wrap (r2+1)).toNat))).length) none)),(upd (upd RZ 0 (.sl true none 6 (some 1) [[.sl true none 3 none ((l1.map aa.rowD).set ((v2).toNat) [.val (.int .i64 x1.actor),.dead,.sl true none 1 none (x1.prepared.map rowB)]),.sl true none 1 none (a0.seen.map (rowI .i64)),.sl true none 2 none (a0.deps.map ae.row),.sl true none 1 none (a0.committed.map (rowI .i64)),.sl true none 1 none (a0.aborted.map (rowI .i64)),.sl true none 1 none (a0.prepared.map (rowI .i64))]])) 53 (.sl true none 1 none (((x1.txns.take ((r2).toNat))++((x1.txns.drop ((IntKind.i64.wrap (r2+1)).toNat)).take (x1.txns.length - (IntKind.i64.wrap (r2+1)).toNat))).map (rowI .i64))))⟩) ?_ ?_ ?_)
 ·try simp only [jd,gG,go_sem,seval]
  refine wr ?_ ?_<;>repeat' first|rfl|constructor|simp only [go_sem,seval,Bool.or_self,List.length_set,Int.natCast_zero,Int.cast_ofNat_Int,hc1d,hb2,hx3,hr4,hc5d,hs6,ht7,slt_lt ht7,Nat.sub_zero,Nat.zero_le,Nat.le_refl,hs8,ha9,jU (row:=aa.rowD) (rx:=[.val (.int .i64 x1.actor),.sl true none 1 none (x1.txns.map (rowI .i64)),.sl true none 1 none (x1.prepared.map rowB)]) hx3 rfl rfl,dj (row:=aa.rowD) _ hx3,ga (row:=aa.rowD) hx3 rfl]
 ·refine ⟨?_,?_,trivial⟩
  ·refine bH (by kernel_rfl) fun Y hY=>?_;simp only [go_sem,seval];refine hY _ (by kernel_rfl) (bH (by kernel_rfl) fun Y hY=>?_);simp only [go_sem,seval,hx3,hs6,Nat.sub_zero,Nat.zero_le,Nat.le_refl];refine hY _ (by kernel_rfl) (bH (by kernel_rfl) fun Y hY=>?_);simp only [go_sem,seval,hx3,Nat.le_refl,hs8];refine hY _ (by kernel_rfl) (bH (by simp only [go_sem,seval,hx3,chkA,baseN,headB,srcB,Option.isNone,Bool.and_true]; try rfl) fun Y hY=>?_);simp only [go_sem,seval,hx3,ha9,jU (row:=aa.rowD) (rx:=[.val (.int .i64 x1.actor),.sl true none 1 none (x1.txns.map (rowI .i64)),.sl true none 1 none (x1.prepared.map rowB)]) hx3 rfl rfl];refine hY _ (by kernel_rfl) (oh ?_);try simp only [jd,gG,go_sem,seval]
   refine wr ?_ ?_<;>repeat' first|rfl|constructor|simp only [go_sem,seval,Bool.or_self,List.length_set,Int.natCast_zero,Int.cast_ofNat_Int,hc1d,hb2,hx3,hr4,hc5d,hs6,ht7,slt_lt ht7,Nat.sub_zero,Nat.zero_le,Nat.le_refl,hs8,ha9,jU (row:=aa.rowD) (rx:=[.val (.int .i64 x1.actor),.sl true none 1 none (x1.txns.map (rowI .i64)),.sl true none 1 none (x1.prepared.map rowB)]) hx3 rfl rfl,dj (row:=aa.rowD) _ hx3,ga (row:=aa.rowD) hx3 rfl]
  ·refine bH (by kernel_rfl) fun Y hY=>?_;simp only [go_sem,seval];refine hY _ (by kernel_rfl) (bH (by kernel_rfl) fun Y hY=>?_);simp only [go_sem,seval,hx3,Nat.le_refl,hs8];refine hY _ (by kernel_rfl) (bH (by kernel_rfl) fun Y hY=>?_);simp only [go_sem,seval,hx3,hs6,Nat.sub_zero,Nat.zero_le,Nat.le_refl];refine hY _ (by kernel_rfl) (bH (by simp only [go_sem,seval,hx3,chkA,baseN,headB,srcB,Option.isNone,Bool.and_true]; try rfl) fun Y hY=>?_);simp only [go_sem,seval,hx3,ha9,jU (row:=aa.rowD) (rx:=[.val (.int .i64 x1.actor),.sl true none 1 none (x1.txns.map (rowI .i64)),.sl true none 1 none (x1.prepared.map rowB)]) hx3 rfl rfl];refine hY _ (by kernel_rfl) (oh ?_);try simp only [jd,gG,go_sem,seval]
   refine wr ?_ ?_<;>repeat' first|rfl|constructor|simp only [go_sem,seval,Bool.or_self,List.length_set,Int.natCast_zero,Int.cast_ofNat_Int,hc1d,hb2,hx3,hr4,hc5d,hs6,ht7,slt_lt ht7,Nat.sub_zero,Nat.zero_le,Nat.le_refl,hs8,ha9,jU (row:=aa.rowD) (rx:=[.val (.int .i64 x1.actor),.sl true none 1 none (x1.txns.map (rowI .i64)),.sl true none 1 none (x1.prepared.map rowB)]) hx3 rfl rfl,dj (row:=aa.rowD) _ hx3,ga (row:=aa.rowD) hx3 rfl]
 simp only [go_sem,seval,hb2,dj (row:=aa.rowD) _ hx3,ga (row:=aa.rowD) hx3 rfl];refine hZ _ (pp (dS [0,1,2,3,4,5,6,7,8,9,10,11,12,13,14,16,17,18,19,20,21,22,23,24] [15,25,26,27] [[25,15,26,27],[25,26,15,27]] [28,29,30] [0] (by kernel_rfl) fun Z hZ Y hY=>?_));simp only [go_sem,seval,hb2,Nat.le_refl,dj (row:=aa.rowD) _ hx3];refine hY _ (by kernel_rfl) (aZ (by kernel_rfl) fun Y hY=>?_);obtain ⟨hs10,ht11,h⟩:=uG h;try simp only [Int.toNat_natCast] at hs10 ht11 h
 simp only [go_sem,seval,hs6,Nat.sub_zero,Nat.zero_le,Nat.le_refl,dj (row:=aa.rowD) _ hx3,hs10];refine hY _ (by kernel_rfl) (aZ (by kernel_rfl) fun Y hY=>?_);simp only [go_sem,seval];refine hY _ (by kernel_rfl) (aZ (by kernel_rfl) fun Y hY=>?_);obtain ⟨hs12,h⟩:=gR h;try simp only [Int.toNat_natCast] at hs12 h
 simp only [go_sem,seval,Nat.le_refl,hs8,dj (row:=aa.rowD) _ hx3,hs12];refine hY _ (by kernel_rfl) (aZ (by simp only [go_sem,seval,dj (row:=aa.rowD) _ hx3,chkA,baseN,headB,srcB,Option.isNone,Bool.and_true]; try rfl) fun Y hY=>?_);obtain ⟨ha13,h⟩:=bk h;simp only [Nat.zero_add] at ha13;simp only [go_sem,seval,dj (row:=aa.rowD) _ hx3,ga (row:=aa.rowD) hx3 rfl,ha13];refine hY _ (by kernel_rfl) (uQ (sC:=⟨tab 86 (updT (updT (updT (updT (updT (updT (updT (updT (updT (updT (updT (updT (updT (updT (updT (updT (updT (updT (updT (updT (updT (updT (updT (updT (updT (updT (updT (updT (updT (updT (updT (updT (updT (updT (updT (updT (updT (updT (updT (updT (updT (updT (updT (updT (updT (updT (updT (updT (updT (updT (updT (updT (updT (updT (updT (updT (updT (updT (updT (updT (updT (updT (updT (updT (updT (updT (updT (updT (updT (updT deadT 0 (.pref 0 [] 0 0)) 1 (.val (.int .i64 a1))) 4 (.val (.int .i64 v2))) 5 (.val (.int .i64 r2))) 6 (.val (.int .i64 v2))) 7 (.pref 0 [] 0 0)) 8 (.pref 0 [] 0 0)) 9 (.pref 0 [] 0 0)) 10 (.pal 0 [(0,0)] 0 l1.length none)) 11 (.val (.int .i64 ((l1.length:Nat):Int)))) 12 (.val (.bool true))) 15 (.pref 0 [] 0 0)) 16 (.pref 0 [] 0 0)) 17 (.pref 0 [] 0 0)) 18 (.pal 0 [(0,0)] 0 l1.length none)) 19 (.val (.int .i64 v2))) 20 (.pref 0 [(0,0)] ((v2).toNat) 0)) 22 (.val (.int .i64 a1))) 23 (.val (.int .i64 r2))) 24 (.val (.int .i64 r2))) 25 (.val (.bool false))) 26 (.pref 0 [] 0 0)) 27 (.pref 0 [] 0 0)) 28 (.pref 0 [] 0 0)) 29 (.pal 0 [(0,0)] 0 l1.length none)) 30 (.val (.int .i64 v2))) 31 (.pref 0 [] 0 0)) 32 (.pref 0 [] 0 0)) 33 (.pref 0 [] 0 0)) 34 (.pal 0 [(0,0)] 0 l1.length none)) 35 (.val (.int .i64 v2))) 36 (.pref 0 [(0,0)] ((v2).toNat) 0)) 37 (.pref 0 [(0,0)] ((v2).toNat) 1)) 39 (.val (.int .i64 r2))) 40 (.val (.int .i64 r2))) 42 (.pref 0 [] 0 0)) 43 (.pref 0 [] 0 0)) 44 (.pref 0 [] 0 0)) 45 (.pal 0 [(0,0)] 0 l1.length none)) 46 (.val (.int .i64 v2))) 47 (.pref 0 [(0,0)] ((v2).toNat) 0)) 48 (.pref 0 [(0,0)] ((v2).toNat) 1)) 50 (.val (.int .i64 r2))) 51 (.val (.int .i64 (IntKind.i64.wrap (r2+1))))) 54 (.pref 0 [(0,0)] ((v2).toNat) 0)) 55 (.pref 0 [(0,0)] ((v2).toNat) 1)) 56 (.pref 0 [] 0 0)) 57 (.pref 0 [] 0 0)) 58 (.pref 0 [] 0 0)) 59 (.pal 0 [(0,0)] 0 l1.length none)) 60 (.val (.int .i64 v2))) 61 (.pref 0 [] 0 0)) 62 (.pref 0 [] 0 0)) 63 (.pref 0 [] 0 0)) 64 (.pal 0 [(0,0)] 0 l1.length none)) 65 (.val (.int .i64 v2))) 66 (.pref 0 [(0,0)] ((v2).toNat) 0)) 67 (.pref 0 [(0,0)] ((v2).toNat) 2)) 69 (.val (.int .i64 r2))) 70 (.val (.int .i64 r2))) 72 (.pref 0 [] 0 0)) 73 (.pref 0 [] 0 0)) 74 (.pref 0 [] 0 0)) 75 (.pal 0 [(0,0)] 0 l1.length none)) 76 (.val (.int .i64 v2))) 77 (.pref 0 [(0,0)] ((v2).toNat) 0)) 78 (.pref 0 [(0,0)] ((v2).toNat) 2)) 80 (.val (.int .i64 r2))) 81 (.val (.int .i64 (IntKind.i64.wrap (r2+1))))) 83 (.pal 83 [] 0 (((x1.prepared.take ((r2).toNat))++((x1.prepared.drop ((IntKind.i64.wrap (r2+1)).toNat)).take (x1.prepared.length - (IntKind.i64.wrap (r2+1)).toNat))).length) none)),(upd (upd RZ 0 (.sl true none 6 (some 1) [[.sl true none 3 none ((l1.map aa.rowD).set ((v2).toNat) [.val (.int .i64 x1.actor),.sl true none 1 none (((x1.txns.take ((r2).toNat))++((x1.txns.drop ((IntKind.i64.wrap (r2+1)).toNat)).take (x1.txns.length - (IntKind.i64.wrap (r2+1)).toNat))).map (rowI .i64)),.dead]),.sl true none 1 none (a0.seen.map (rowI .i64)),.sl true none 2 none (a0.deps.map ae.row),.sl true none 1 none (a0.committed.map (rowI .i64)),.sl true none 1 none (a0.aborted.map (rowI .i64)),.sl true none 1 none (a0.prepared.map (rowI .i64))]])) 83 (.sl true none 1 none (((x1.prepared.take ((r2).toNat))++((x1.prepared.drop ((IntKind.i64.wrap (r2+1)).toNat)).take (x1.prepared.length - (IntKind.i64.wrap (r2+1)).toNat))).map rowB)))⟩) ?_ ?_ ?_)
 ·try simp only [jd,gG,go_sem,seval]
  refine wr ?_ ?_<;>repeat' first|rfl|constructor|simp only [go_sem,seval,Bool.or_self,List.length_set,Int.natCast_zero,Int.cast_ofNat_Int,hc1d,hb2,hx3,hr4,hc5d,hs6,ht7,slt_lt ht7,Nat.sub_zero,Nat.zero_le,Nat.le_refl,hs8,ha9,jU (row:=aa.rowD) (rx:=[.val (.int .i64 x1.actor),.sl true none 1 none (x1.txns.map (rowI .i64)),.sl true none 1 none (x1.prepared.map rowB)]) hx3 rfl rfl,dj (row:=aa.rowD) _ hx3,ga (row:=aa.rowD) hx3 rfl,hs10,ht11,slt_lt ht11,hs12,ha13]
 ·refine ⟨?_,?_,trivial⟩
  ·refine bH (by kernel_rfl) fun Y hY=>?_;simp only [go_sem,seval];refine hY _ (by kernel_rfl) (bH (by kernel_rfl) fun Y hY=>?_);simp only [go_sem,seval,hs6,Nat.sub_zero,Nat.zero_le,Nat.le_refl,dj (row:=aa.rowD) _ hx3,hs10];refine hY _ (by kernel_rfl) (bH (by kernel_rfl) fun Y hY=>?_);simp only [go_sem,seval,Nat.le_refl,hs8,dj (row:=aa.rowD) _ hx3,hs12];refine hY _ (by kernel_rfl) (bH (by simp only [go_sem,seval,dj (row:=aa.rowD) _ hx3,chkA,baseN,headB,srcB,Option.isNone,Bool.and_true]; try rfl) fun Y hY=>?_);simp only [go_sem,seval,dj (row:=aa.rowD) _ hx3,ga (row:=aa.rowD) hx3 rfl,ha13];refine hY _ (by kernel_rfl) (oh ?_);try simp only [jd,gG,go_sem,seval]
   refine wr ?_ ?_<;>repeat' first|rfl|constructor|simp only [go_sem,seval,Bool.or_self,List.length_set,Int.natCast_zero,Int.cast_ofNat_Int,hc1d,hb2,hx3,hr4,hc5d,hs6,ht7,slt_lt ht7,Nat.sub_zero,Nat.zero_le,Nat.le_refl,hs8,ha9,jU (row:=aa.rowD) (rx:=[.val (.int .i64 x1.actor),.sl true none 1 none (x1.txns.map (rowI .i64)),.sl true none 1 none (x1.prepared.map rowB)]) hx3 rfl rfl,dj (row:=aa.rowD) _ hx3,ga (row:=aa.rowD) hx3 rfl,hs10,ht11,slt_lt ht11,hs12,ha13]
  ·refine bH (by kernel_rfl) fun Y hY=>?_;simp only [go_sem,seval];refine hY _ (by kernel_rfl) (bH (by kernel_rfl) fun Y hY=>?_);simp only [go_sem,seval,Nat.le_refl,hs8,dj (row:=aa.rowD) _ hx3,hs12];refine hY _ (by kernel_rfl) (bH (by kernel_rfl) fun Y hY=>?_);simp only [go_sem,seval,hs6,Nat.sub_zero,Nat.zero_le,Nat.le_refl,dj (row:=aa.rowD) _ hx3,hs10];refine hY _ (by kernel_rfl) (bH (by simp only [go_sem,seval,dj (row:=aa.rowD) _ hx3,chkA,baseN,headB,srcB,Option.isNone,Bool.and_true]; try rfl) fun Y hY=>?_);simp only [go_sem,seval,dj (row:=aa.rowD) _ hx3,ga (row:=aa.rowD) hx3 rfl,ha13];refine hY _ (by kernel_rfl) (oh ?_);try simp only [jd,gG,go_sem,seval]
   refine wr ?_ ?_<;>repeat' first|rfl|constructor|simp only [go_sem,seval,Bool.or_self,List.length_set,Int.natCast_zero,Int.cast_ofNat_Int,hc1d,hb2,hx3,hr4,hc5d,hs6,ht7,slt_lt ht7,Nat.sub_zero,Nat.zero_le,Nat.le_refl,hs8,ha9,jU (row:=aa.rowD) (rx:=[.val (.int .i64 x1.actor),.sl true none 1 none (x1.txns.map (rowI .i64)),.sl true none 1 none (x1.prepared.map rowB)]) hx3 rfl rfl,dj (row:=aa.rowD) _ hx3,ga (row:=aa.rowD) hx3 rfl,hs10,ht11,slt_lt ht11,hs12,ha13]
 simp only [go_sem,seval,hb2,dj (row:=aa.rowD) _ hx3,ga (row:=aa.rowD) hx3 rfl];refine hZ _ (pp (ai fun Z hZ=>?_));simp only [go_sem,seval];refine hZ _ (pp (⟨_,Nat.lt_succ_self _,((l1.set ((v2).toNat) (aa.mk x1.actor ((x1.txns.take ((r2).toNat))++((x1.txns.drop ((IntKind.i64.wrap (r2+1)).toNat)).take (x1.txns.length - (IntKind.i64.wrap (r2+1)).toNat))) ((x1.prepared.take ((r2).toNat))++((x1.prepared.drop ((IntKind.i64.wrap (r2+1)).toNat)).take (x1.prepared.length - (IntKind.i64.wrap (r2+1)).toNat))))),IntKind.i64.wrap (v2+1)),?_,h⟩));refine Weak.trans (pM (n:=0) (c':=.sl true none 6 (some 1) [[.sl true none 3 none ((l1.set ((v2).toNat) (aa.mk x1.actor ((x1.txns.take ((r2).toNat))++((x1.txns.drop ((IntKind.i64.wrap (r2+1)).toNat)).take (x1.txns.length - (IntKind.i64.wrap (r2+1)).toNat))) ((x1.prepared.take ((r2).toNat))++((x1.prepared.drop ((IntKind.i64.wrap (r2+1)).toNat)).take (x1.prepared.length - (IntKind.i64.wrap (r2+1)).toNat))))).map aa.rowD),.sl true none 1 none (a0.seen.map (rowI .i64)),.sl true none 2 none (a0.deps.map ae.row),.sl true none 1 none (a0.committed.map (rowI .i64)),.sl true none 1 none (a0.aborted.map (rowI .i64)),.sl true none 1 none (a0.prepared.map (rowI .i64))]]) (by simp only [go_sem,seval]; rfl) (by first|(simp only [gt (row:=aa.rowD) (l:=l1) (i:=((v2).toNat)) (y:=(aa.mk x1.actor ((x1.txns.take ((r2).toNat))++((x1.txns.drop ((IntKind.i64.wrap (r2+1)).toNat)).take (x1.txns.length - (IntKind.i64.wrap (r2+1)).toNat))) ((x1.prepared.take ((r2).toNat))++((x1.prepared.drop ((IntKind.i64.wrap (r2+1)).toNat)).take (x1.prepared.length - (IntKind.i64.wrap (r2+1)).toNat))))) (rc:=[.val (.int .i64 x1.actor),.sl true none 1 none (((x1.txns.take ((r2).toNat))++((x1.txns.drop ((IntKind.i64.wrap (r2+1)).toNat)).take (x1.txns.length - (IntKind.i64.wrap (r2+1)).toNat))).map (rowI .i64)),.sl true none 1 none (((x1.prepared.take ((r2).toNat))++((x1.prepared.drop ((IntKind.i64.wrap (r2+1)).toNat)).take (x1.prepared.length - (IntKind.i64.wrap (r2+1)).toNat))).map rowB)]) rfl]; done)|(simp only [gt (row:=aa.rowD) (l:=l1) (i:=((v2).toNat)) (y:=(aa.mk x1.actor ((x1.txns.take ((r2).toNat))++((x1.txns.drop ((IntKind.i64.wrap (r2+1)).toNat)).take (x1.txns.length - (IntKind.i64.wrap (r2+1)).toNat))) ((x1.prepared.take ((r2).toNat))++((x1.prepared.drop ((IntKind.i64.wrap (r2+1)).toNat)).take (x1.prepared.length - (IntKind.i64.wrap (r2+1)).toNat))))) (rc:=[.val (.int .i64 x1.actor),.sl true none 1 none (((x1.txns.take ((r2).toNat))++((x1.txns.drop ((IntKind.i64.wrap (r2+1)).toNat)).take (x1.txns.length - (IntKind.i64.wrap (r2+1)).toNat))).map (rowI .i64)),.sl true none 1 none (((x1.prepared.take ((r2).toNat))++((x1.prepared.drop ((IntKind.i64.wrap (r2+1)).toNat)).take (x1.prepared.length - (IntKind.i64.wrap (r2+1)).toNat))).map rowB)]) rfl,List.map_append,List.map_cons,List.map_nil]<;>rfl)|(rw [<-gt (row:=aa.rowD) (l:=l1) (i:=((v2).toNat)) (y:=(aa.mk x1.actor ((x1.txns.take ((r2).toNat))++((x1.txns.drop ((IntKind.i64.wrap (r2+1)).toNat)).take (x1.txns.length - (IntKind.i64.wrap (r2+1)).toNat))) ((x1.prepared.take ((r2).toNat))++((x1.prepared.drop ((IntKind.i64.wrap (r2+1)).toNat)).take (x1.prepared.length - (IntKind.i64.wrap (r2+1)).toNat))))) (rc:=[.val (.int .i64 x1.actor),.sl true none 1 none (((x1.txns.take ((r2).toNat))++((x1.txns.drop ((IntKind.i64.wrap (r2+1)).toNat)).take (x1.txns.length - (IntKind.i64.wrap (r2+1)).toNat))).map (rowI .i64)),.sl true none 1 none (((x1.prepared.take ((r2).toNat))++((x1.prepared.drop ((IntKind.i64.wrap (r2+1)).toNat)).take (x1.prepared.length - (IntKind.i64.wrap (r2+1)).toNat))).map rowB)]) rfl]; simp only [List.map_append]<;>rfl))) ?_
 refine wr ?_ ?_<;>repeat' first|rfl|constructor
def eH (N:Nat):FnL:=⟨1,fun cs rest=>match cs,rest with
 | [v0],[c1]=>(varE 6 ac.decE v0).bind fun q0=>((decI .i64) c1).bind fun q1=>(dJ N q0 q1).map fun r=>(.tup [],[.sl true none 6 (some 1) [ac.rowD r]])
 | _,_=>none,true⟩
attribute [go_sem] eH
theorem iP (N:Nat):FLOk Tryz.prog 46 (eH N):=by
 refine flOkP (Nat.succ_ne_zero _) ?_;intro cs rest r ls hlen h;simp only [eH] at h;split at h
 ·simp only [Option.bind_eq_some_iff,Option.map_eq_some_iff] at h;obtain ⟨q0,h0,q1,h1,r',hr,he⟩:=h;cases he;obtain rfl:=oR ac.decE_eq h0;exact ⟨ConL.restLe rfl ((LeL.cons (ay h1) (LeL.nil))) (uD N q0 q1 r' hr),rfl,PureIL.h⟩
 ·cases h


noncomputable def o5 (N d f:Nat):Option FnS:=glist [(7,47,iZ N)] d f
attribute [go_sem] o5
noncomputable def pa (N d f:Nat):Option FnL:=llist [(11,46,eH N)] d f
attribute [go_sem] pa
theorem tn (N:Nat) (a0:ac) (a1:Int) (r:Bool × ac) (h:fT N a0 a1=some r):ConL Tryz.prog 89 1 [.sl true none 6 (some 1) [ac.rowD a0],.val (.int .i64 a1)] (.val (.bool r.1)) [.sl true none 6 (some 1) [ac.rowD r.2]]:=by
 refine fM (G:=(o5 N)) (L:=(pa N)) Tryz.func89 rfl (by decide) (by kernel_rfl) 1 (by kernel_rfl) (gc 7 (lx N) gn) (lc 11 (iP N) ln) [] mix (Nat.le_of_ble_eq_true rfl) (Nat.le_of_ble_eq_true rfl) rfl rfl ?_;simp only [Tryz.f89];unfold fT at h;refine Ws fun Z hZ=>?_;simp only [go_sem,seval];refine hZ _ (pp (Wk_seq (Wk_seq ?_)));obtain ⟨r1,hr1,h⟩:=Option.bind_eq_some_iff.1 h;refine ai fun Z hZ=>?_;simp only [go_sem,seval,hr1];refine hZ _ (pp (bQ rfl (fun hc2=>?_) (fun hc2=>?_)))
 ·rw [if_neg (ne_true_of_eq_false hc2)] at h;refine Ws fun Z hZ=>?_;simp only [go_sem,seval,hc2];refine hZ _ (pp (Wk_ret (pp ?_)));obtain rfl:=Option.some.inj h;refine du (.inl rfl) (Weak.refl _) (by simp only [go_sem,seval]; rfl) (by simp only [go_sem,seval]; rfl) (by (try simp only [go_sem,seval]); first|exact Le.refl _|exact LeI.h) ?_;exact dA (by simp only [go_sem,seval]<;>rfl) (by simp only [go_sem,seval]<;>rfl) (el_nil)
 rw [if_pos hc2] at h;refine ak (pp (Wk_seq ?_));obtain ⟨r2,hr3,h⟩:=Option.bind_eq_some_iff.1 h;refine ai fun Z hZ=>?_;simp only [go_sem,seval,hc2,hr3];refine hZ _ (pp (Wk_seq ?_));obtain ⟨ha4,h⟩:=bk h;simp only [List.length_cons,List.length_nil,Nat.zero_add,Nat.reduceAdd] at ha4;refine ai fun Z hZ=>?_;simp only [go_sem,seval,ha4];refine hZ _ (pp (Ws fun Z hZ=>?_));simp only [go_sem,seval];refine hZ _ (pp (Wk_ret (pp ?_)));obtain rfl:=Option.some.inj h;refine du (.inl rfl) (Weak.refl _) (by simp only [go_sem,seval]; rfl) (by simp only [go_sem,seval]; rfl) (by (try simp only [go_sem,seval]); first|exact Le.refl _|exact LeI.h) ?_;exact dA (by simp only [go_sem,seval,Bool.or_self]<;>rfl) (by simp only [go_sem,seval]<;>rfl) (el_nil)
def ji (N:Nat):FnL:=⟨1,fun cs rest=>match cs,rest with
 | [v0],[c1]=>(varE 6 ac.decE v0).bind fun q0=>((decI .i64) c1).bind fun q1=>(fT N q0 q1).map fun r=>(.val (.bool r.1),[.sl true none 6 (some 1) [ac.rowD r.2]])
 | _,_=>none,true⟩
attribute [go_sem] ji
theorem rk (N:Nat):FLOk Tryz.prog 89 (ji N):=by
 refine flOkP (Nat.succ_ne_zero _) ?_;intro cs rest r ls hlen h;simp only [ji] at h;split at h
 ·simp only [Option.bind_eq_some_iff,Option.map_eq_some_iff] at h;obtain ⟨q0,h0,q1,h1,r',hr,he⟩:=h;cases he;obtain rfl:=oR ac.decE_eq h0;exact ⟨ConL.restLe rfl ((LeL.cons (ay h1) (LeL.nil))) (tn N q0 q1 r' hr),rfl,PureIL.h⟩
 ·cases h


theorem zx (N:Nat) (a0:(List Int)) (a1:Int) (r:(List Int)) (h:iS N a0 a1=some r):Con Tryz.prog 28 [true,false] true [.sl true none 1 none (a0.map (rowI .i64)),.val (.int .i64 a1)] (.sl true none 1 none (r.map (rowI .i64))):=by
 refine qA (G:=(glist [])) (L:=noL) Tryz.func28 rfl (by decide) (by kernel_rfl) gn (fun _ _ _ h=>by cases h) [] mix (Nat.le_of_ble_eq_true rfl) ?_;rw [show entryF [true,false] [.sl true none 1 none (a0.map (rowI .i64)),.val (.int .i64 a1)]=(updT (updT deadT 0 (.pal 0 [] 0 a0.length none)) 1 (.val (.int .i64 a1))) from by funext t; match t with|0=>simp [entryF,iW,viewD,updT]|1=>rfl|t+2=>rfl];rw [show R0 [true,false] [.sl true none 1 none (a0.map (rowI .i64)),.val (.int .i64 a1)]=upd RZ 0 (.sl true none 1 none (a0.map (rowI .i64))) from by funext t; match t with|0=>rfl|1=>rfl|t+2=>rfl];simp only [Tryz.f28];unfold iS at h;refine Ws fun Z hZ=>?_;simp only [go_sem,seval];refine hZ _ (pp (Ws fun Z hZ=>?_));simp only [go_sem,seval];refine hZ _ (pp (Wk_seq (al (fV (fun (b:Int)=>⟨tab 49 (updT (updT (updT deadT 0 (.pal 0 [] 0 a0.length none)) 1 (.val (.int .i64 a1))) 5 (.val (.int .i64 b))),(upd RZ 0 (.sl true none 1 none (a0.map (rowI .i64))))⟩) ((a0.length:Nat):Int) h ?_ ?_))))
 ·refine wr ?_ ?_<;>repeat' first|rfl|constructor
 rintro n v2 h -;cases n with
 | zero=>simp [iX] at h
 | succ n=>
 simp only [iX] at h;refine Wk_seq ?_;apply bS (fun (c8:Bool)=>⟨tab 49 (updT (updT (updT (updT deadT 0 (.pal 0 [] 0 a0.length none)) 1 (.val (.int .i64 a1))) 5 (.val (.int .i64 v2))) 19 (.val (.bool c8))),(upd RZ 0 (.sl true none 1 none (a0.map (rowI .i64))))⟩)
 ·intro hJ1;refine ai fun Z hZ=>?_;simp only [go_sem,seval];refine bF rfl (fun hc2=>?_) (fun hc2=>?_)
  ·have hc2d:=decide_eq_true hc2;rw [if_pos hc2] at h;obtain ⟨x9,hb3,hx4,h⟩:=aI h;simp only [go_sem,seval,hc2d,hb3,hx4];refine hZ _ (pp (hJ1 _ (decide (a1<=x9)) ?_ h));refine wr ?_ ?_<;>repeat' first|rfl|constructor
  have hc2d:=decide_eq_false hc2;rw [if_neg hc2] at h;simp only [go_sem,seval,hc2d];refine hZ _ (pp (hJ1 _ false ?_ h));refine wr ?_ ?_<;>repeat' first|rfl|constructor
 intro c8 h;unfold m8 at h;refine au rfl (fun hc5=>?_) (fun hc5=>?_)
 ·rw [if_pos hc5] at h;refine ak (pp (al (ai fun Z hZ=>?_)));simp only [go_sem,seval,hc5];refine hZ _ (pp (⟨_,Nat.lt_succ_self _,(IntKind.i64.wrap (v2 - 1)),?_,h⟩));refine wr ?_ ?_<;>repeat' first|rfl|constructor
 rw [if_neg (ne_true_of_eq_false hc5)] at h;refine aP (pp ?_);unfold m5 at h;refine Wk_seq ?_;apply bS (fun (c14:Bool)=>⟨tab 49 (updT (updT (updT (updT deadT 0 (.pal 0 [] 0 a0.length none)) 1 (.val (.int .i64 a1))) 5 (.val (.int .i64 v2))) 33 (.val (.bool c14))),(upd RZ 0 (.sl true none 1 none (a0.map (rowI .i64))))⟩)
 ·intro hJ6;refine ai fun Z hZ=>?_;simp only [go_sem,seval,hc5];refine bF rfl (fun hc7=>?_) (fun hc7=>?_)
  ·have hc7d:=decide_eq_true hc7;rw [if_pos hc7] at h;obtain ⟨x15,hb8,hx9,h⟩:=aI h;simp only [go_sem,seval,hb8,hx9];refine hZ _ (pp (hJ6 _ (decide (x15=a1)) ?_ h));refine wr ?_ ?_<;>repeat' first|rfl|constructor
  have hc7d:=decide_eq_false hc7;rw [if_neg hc7] at h;simp only [go_sem,seval,hc7d];refine hZ _ (pp (hJ6 _ false ?_ h));refine wr ?_ ?_<;>repeat' first|rfl|constructor
 intro c14 h;unfold lV at h;refine au rfl (fun hc10=>?_) (fun hc10=>?_)
 ·rw [if_pos hc10] at h;refine Ws fun Z hZ=>?_;simp only [go_sem,seval,hc10];refine hZ _ (pp (Wk_ret (pp ?_)));cases h;simp only [go_sem,seval,fJ];exact ⟨_,rfl,RokI.h,KeepI.h,PureI.h⟩
 rw [if_neg (ne_true_of_eq_false hc10)] at h;refine ak (pp ?_);unfold lE at h;refine Wk_seq ?_;obtain ⟨hs11,h⟩:=gR h;try simp only [Int.toNat_natCast] at hs11 h
 first|obtain ⟨ha12,h⟩:=rW h|(obtain ⟨ha12,h⟩:=bk h; rw [List.nil_append] at h)
 simp only [Nat.reduceAdd] at ha12;refine ai fun Z hZ=>?_;simp only [go_sem,seval,hc10,hs11,Nat.zero_le,ha12];refine hZ _ (pp (Wk_seq ?_));obtain ⟨hs13,ht14,h⟩:=uG h;try simp only [Int.toNat_natCast] at hs13 ht14 h
 obtain ⟨ha15,h⟩:=bk h;simp only [List.length_cons,List.length_nil,Nat.zero_add,Nat.reduceAdd] at ha15;obtain ⟨ha16,h⟩:=bk h;simp only [List.length_append,List.length_cons,List.length_nil,Nat.zero_add,Nat.reduceAdd] at ha16;refine ai fun Z hZ=>?_;simp only [go_sem,seval,hs11,Nat.sub_zero,Nat.zero_le,Nat.le_refl,ha15,ha16];refine hZ _ (pp (Wk_ret (pp ?_)));cases h;simp only [go_sem,seval,fJ];exact ⟨_,rfl,RokI.h,KeepI.h,PureI.h⟩
def eo (N:Nat):FnS:={ own:=[true,false],pure:=true,fn:=fun cs=>match cs with
 | [c0,c1]=>((decO 1 (dec1 (decI .i64))) c0).bind fun q0=>((decI .i64) c1).bind fun q1=>(iS N q0 q1).map fun r=>.sl true none 1 none (r.map (rowI .i64))
 | _=>none }
theorem uC (N:Nat):(eo N).own=[true,false]:=rfl
theorem uj (N:Nat):(eo N).pure=true:=rfl
theorem t6 (N:Nat):(eo N).peek=false:=rfl
attribute [go_sem] eo uC uj t6
theorem lf (N:Nat):FSOk Tryz.prog 28 (eo N):=by
 refine ⟨fun cs r h=>?_,fun h=>by cases h⟩;simp only [eo] at h;split at h
 ·simp only [Option.bind_eq_some_iff,Option.map_eq_some_iff] at h;obtain ⟨q0,h0,q1,h1,r',hr,rfl⟩:=h;exact (zx N q0 q1 r' hr).argsO rfl (oD (qE (fy .i64) (aJ .i64) h0) (qH (ay h1) (oB)))
 ·cases h


noncomputable def s8 (N d f:Nat):Option FnS:=glist [(20,28,eo N),(34,29,aX N),(42,29,aX N),(51,28,eo N)] d f
attribute [go_sem] s8
theorem sK (N:Nat) (a0:(List ae)) (a1:(List Int)) (r:(List Int)) (h:fO N a0 a1=some r):Con Tryz.prog 9 [] true [.sl false none 2 none (a0.map ae.row),.sl false none 1 none (a1.map (rowI .i64))] (.sl true none 1 none (r.map (rowI .i64))):=by
 refine aV (G:=(s8 N)) Tryz.func9 rfl (by decide) (by kernel_rfl) (gc 20 (lf N) (gc 34 (aT N) (gc 42 (aT N) (gc 51 (lf N) gn)))) [] mix (Nat.le_of_ble_eq_true rfl) ?_;simp only [Tryz.f9];unfold fO at h;refine Ws fun Z hZ=>?_;simp only [go_sem,seval];refine hZ _ (pp (Ws fun Z hZ=>?_));simp only [go_sem,seval];refine hZ _ (pp (Wk_seq (Ws fun Z hZ=>?_)));simp only [go_sem,seval];refine hZ _ (pp (al (dt fun hreal2=>?_)));have hl1:=hreal2.lenT 1 (by decide) (by simp only [go_sem,seval]; rfl);first|rw [List.length_map] at hl1|rw [dy] at hl1|rw [<-List.map_append,List.length_map] at hl1
 refine dg (fun (v3:Nat) (b:List Int)=>⟨tab 53 (updT (updT (updT (updT deadT 0 (.sl false none 2 none (a0.map ae.row))) 1 (.sl false none 1 none (a1.map (rowI .i64)))) 5 (.pal 20 [] 0 b.length none)) 6 (.val (.int .i64 ((v3:Nat):Int)))),(upd RZ 20 (.sl true none 1 none (b.map (rowI .i64))))⟩) [] h ?_ ?_
 ·refine Weak.trans (ko 5 20 1 (by simp only [go_sem,seval]) (by simp only [go_sem,seval])) ?_;refine wr ?_ ?_<;>repeat' first|rfl|constructor
 rintro v3 l2 hi3 h -;rcases (bq a1 v3 hi3) with ⟨x6,hi3',hx4,hd6⟩|⟨hi3',_,hd6⟩
 ·rw [hd6] at h;simp only [jo] at h;have hw5:=bu hi3' hl1;refine Wk_seq (Ws fun Z hZ=>?_);simp only [go_sem,seval,hi3'];refine hZ _ (pp ?_);try simp only [Int.ofNat_lt,hi3',if_true,if_false] at h
  refine bm rfl (ak (pp (Wk_seq (al ?_))));try rw [gx_nat hx4] at h
  obtain ⟨r9,hr7,h⟩:=Option.bind_eq_some_iff.1 h;refine ai fun Z hZ=>?_;simp only [go_sem,seval,hx4,hi3',hr7];refine hZ _ (pp (ai fun Z hZ=>?_));simp only [go_sem,seval,hw5];refine hZ _ (pp ?_);first|refine ⟨r9,?_,h⟩|refine ⟨hi3',r9,?_,h⟩
  refine wr ?_ ?_<;>repeat' first|rfl|constructor
 rw [hd6] at h;simp only [jo] at h;refine Wk_seq (Ws fun Z hZ=>?_);simp only [go_sem,seval,hi3'];refine hZ _ (pp ?_);try simp only [Int.ofNat_lt,hi3',if_true,if_false] at h
 refine bc rfl (aP (pp ?_));unfold mL at h;refine Wk_seq (Ws fun Z hZ=>?_);simp only [go_sem,seval];refine hZ _ (pp (al (fV (fun (b:List Int × Bool)=>⟨tab 53 (updT (updT (updT deadT 0 (.sl false none 2 none (a0.map ae.row))) 5 (.pal 20 [] 0 b.1.length none)) 7 (.val (.bool b.2))),(upd RZ 20 (.sl true none 1 none (b.1.map (rowI .i64))))⟩) (l2,true) h ?_ ?_)))
 ·refine wr ?_ ?_<;>repeat' first|rfl|constructor
 rintro n ⟨l12,c13⟩ h -;cases n with
 | zero=>simp [fE] at h
 | succ n=>
 simp only [fE] at h;refine Wk_seq (Ws fun Z hZ=>?_);simp only [go_sem,seval];refine hZ _ (pp (sw (au rfl) (fun hc8=>?_) (fun hc8=>?_)))
 ·rw [if_neg (ne_true_of_eq_false hc8)] at h;refine aP (pp (Ws fun Z hZ=>?_));simp only [go_sem,seval,hc8];refine hZ _ (pp (Wk_ret (pp ?_)));cases h;simp only [go_sem,seval];exact ⟨_,rfl,RokI.h,PureI.h⟩
 rw [if_pos hc8] at h;refine ak (pp (al (Ws fun Z hZ=>?_)));simp only [go_sem,seval,hc8];refine hZ _ (pp (Ws fun Z hZ=>?_));simp only [go_sem,seval];refine hZ _ (pp (al (dt fun hreal10=>?_)));have hl9:=hreal10.lenT 0 (by decide) (by simp only [go_sem,seval]; rfl);first|rw [List.length_map] at hl9|rw [dy] at hl9|rw [<-List.map_append,List.length_map] at hl9
 refine dg (fun (v18:Nat) (b:List Int × Bool)=>⟨tab 53 (updT (updT (updT (updT deadT 0 (.sl false none 2 none (a0.map ae.row))) 5 (.pal 20 [] 0 b.1.length none)) 7 (.val (.bool b.2))) 8 (.val (.int .i64 ((v18:Nat):Int)))),(upd RZ 20 (.sl true none 1 none (b.1.map (rowI .i64))))⟩) (l12,false) h ?_ ?_
 ·refine wr ?_ ?_<;>repeat' first|rfl|constructor
 rintro v18 ⟨l16,c17⟩ hi11 h -;rcases (bq a0 v18 hi11).symm with ⟨hi11',_,hd14⟩|⟨x21,hi11',hx12,hd14⟩
 ·rw [hd14] at h;simp only [fD] at h;refine Wk_seq (Ws fun Z hZ=>?_);simp only [go_sem,seval,hi11'];refine hZ _ (pp ?_);try simp only [Int.ofNat_lt,hi3',hi11',if_true,if_false] at h
  refine bc rfl (aP (pp (⟨_,Nat.lt_succ_self _,(l16,c17),?_,h⟩)));refine wr ?_ ?_<;>repeat' first|rfl|constructor
 rw [hd14] at h;simp only [fD] at h;have hw13:=bu hi11' hl9;refine Wk_seq (Ws fun Z hZ=>?_);simp only [go_sem,seval,hi11'];refine hZ _ (pp ?_);try simp only [Int.ofNat_lt,hi3',hi11',if_true,if_false] at h
 refine bm rfl (ak (pp (Wk_seq (al ?_))));apply bS (fun (c12:Bool)=>⟨tab 53 (updT (updT (updT (updT (updT deadT 0 (.sl false none 2 none (a0.map ae.row))) 5 (.pal 20 [] 0 l16.length none)) 7 (.val (.bool c17))) 8 (.val (.int .i64 ((v18:Nat):Int)))) 44 (.val (.bool c12))),(upd RZ 20 (.sl true none 1 none (l16.map (rowI .i64))))⟩)
 ·intro hJ15;try rw [gx_nat hx12] at h
  obtain ⟨r13,hr16,h⟩:=Option.bind_eq_some_iff.1 h;refine ai fun Z hZ=>?_;simp only [go_sem,seval,hx12,hi11',hr16];refine bR rfl (fun hc17=>?_) (fun hc17=>?_)
  ·rw [if_pos hc17] at h;try rw [gx_nat hx12] at h
   obtain ⟨r14,hr18,h⟩:=Option.bind_eq_some_iff.1 h;simp only [go_sem,seval,hx12,hi11',hc17,hr18];refine hZ _ (pp (hJ15 _ (!r14) ?_ h));refine wr ?_ ?_<;>repeat' first|rfl|constructor
  rw [if_neg (ne_true_of_eq_false hc17)] at h;simp only [go_sem,seval,hc17];refine hZ _ (pp (hJ15 _ false ?_ h));refine wr ?_ ?_<;>repeat' first|rfl|constructor
 intro c12 h;unfold jk at h;refine sw (au rfl) (fun hc19=>?_) (fun hc19=>?_)
 ·rw [if_neg (ne_true_of_eq_false hc19)] at h;refine ak (pp (ai fun Z hZ=>?_));simp only [go_sem,seval,hw13,hc19];refine hZ _ (pp ?_);first|refine ⟨(l16,c17),?_,h⟩|refine ⟨hi11',(l16,c17),?_,h⟩
  refine wr ?_ ?_<;>repeat' first|rfl|constructor
 rw [if_pos hc19] at h;refine Wk_seq ?_;try rw [gx_nat hx12] at h
 obtain ⟨r15,hr20,h⟩:=Option.bind_eq_some_iff.1 h;refine ai fun Z hZ=>?_;simp only [go_sem,seval,hx12,hi11',hc19,hr20];refine hZ _ (pp (ai fun Z hZ=>?_));simp only [go_sem,seval];refine hZ _ (pp (ai fun Z hZ=>?_));simp only [go_sem,seval,hw13];refine hZ _ (pp ?_);first|refine ⟨(r15,true),?_,h⟩|refine ⟨hi11',(r15,true),?_,h⟩
 refine Weak.trans (qO 5 51 20 (by decide) (by decide) (by simp only [go_sem,seval]) (by simp only [go_sem,seval]; rfl) (by simp only [go_sem,seval]; rfl) (by first|(simp; done)|simp only [go_sem,seval,Bool.or_self,List.length_set,Int.natCast_zero,Int.cast_ofNat_Int,hi3',hc8,hx12,hi11',hw13,hc19,hr20])) ?_;refine wr ?_ ?_<;>repeat' first|rfl|constructor
def mH (N:Nat):FnS:=⟨[],true,fn2 (decL 2 ae.dec) (decL 1 (dec1 (decI .i64))) fun q0 q1=>(fO N q0 q1).map fun r=>.sl false none 1 none (r.map (rowI .i64)),false⟩
attribute [go_sem] mH
theorem qn (N:Nat):FSOk Tryz.prog 9 (mH N):=ok2 (fun q0 q1 r h=>by
 obtain ⟨r',hr,rfl⟩:=Option.map_eq_some_iff.1 h;exact (sK N q0 q1 r' hr).res (by (try simp only [go_sem]); exact RokI.h)) (fun h=>ar ae.dec_le h) (fun h=>ar (aJ .i64) h)

def rD (N:Nat):FnS:=⟨[],true,fn2 (decL 2 ae.dec) (decL 1 (dec1 (decI .i64))) fun q0 q1=>(fO N q0 q1).map fun r=>.sl true none 1 none (r.map (rowI .i64)),false⟩
attribute [go_sem] rD
theorem CN (N:Nat):FSOk Tryz.prog 9 (rD N):=ok2 (fun q0 q1 r h=>by
 obtain ⟨r',hr,rfl⟩:=Option.map_eq_some_iff.1 h;exact sK N q0 q1 r' hr) (fun h=>ar ae.dec_le h) (fun h=>ar (aJ .i64) h)


noncomputable def pL (N d f:Nat):Option FnS:=glist [(12,9,mH N),(27,29,aX N),(38,29,aX N)] d f
attribute [go_sem] pL
noncomputable def pI (N d f:Nat):Option FnL:=llist [(46,46,eH N)] d f
attribute [go_sem] pI
theorem tM (N:Nat) (a0:ac) (a1:Int) (r:ac) (h:gy N a0 a1=some r):ConL Tryz.prog 90 1 [.sl true none 6 (some 1) [ac.rowD a0],.val (.int .i64 a1)] (.tup []) [.sl true none 6 (some 1) [ac.rowD r]]:=by
 refine fM (G:=(pL N)) (L:=(pI N)) Tryz.func90 rfl (by decide) (by kernel_rfl) 1 (by kernel_rfl) (gc 12 (qn N) (gc 27 (aT N) (gc 38 (aT N) gn))) (lc 46 (iP N) ln) [] mix (Nat.le_of_ble_eq_true rfl) (Nat.le_of_ble_eq_true rfl) rfl rfl ?_;simp only [Tryz.f90];unfold gy at h;refine Wk_seq ?_;obtain ⟨r1,hr1,h⟩:=Option.bind_eq_some_iff.1 h;refine ai fun Z hZ=>?_;simp only [go_sem,seval,hr1];refine hZ _ (pp (Ws fun Z hZ=>?_));simp only [go_sem,seval];refine hZ _ (pp (al (dt fun hreal3=>?_)));have hl2:=hreal3.lenT 4 (by decide) (by simp only [go_sem,seval]; rfl);first|rw [List.length_map] at hl2|rw [dy] at hl2|rw [<-List.map_append,List.length_map] at hl2
 refine dg (fun (v8:Nat) (b:List aa × List Int × List ae × List Int × List Int × List Int)=>⟨tab 60 (updT (updT (updT deadT 0 (.pref 0 [] 0 0)) 4 (.sl false none 1 none (r1.map (rowI .i64)))) 5 (.val (.int .i64 ((v8:Nat):Int)))),(upd RZ 0 (.sl true none 6 (some 1) [[.sl true none 3 none (b.1.map aa.rowD),.sl true none 1 none (b.2.1.map (rowI .i64)),.sl true none 2 none (b.2.2.1.map ae.row),.sl true none 1 none (b.2.2.2.1.map (rowI .i64)),.sl true none 1 none (b.2.2.2.2.1.map (rowI .i64)),.sl true none 1 none (b.2.2.2.2.2.map (rowI .i64))]]))⟩) (a0.piles,a0.seen,a0.deps,a0.committed,a0.aborted,a0.prepared) h ?_ ?_
 ·refine wr ?_ ?_<;>repeat' first|rfl|constructor|simp only [go_sem,seval,Bool.or_self,List.length_set,Int.natCast_zero,Int.cast_ofNat_Int,hr1]
 rintro v8 ⟨l2,l3,l4,l5,l6,l7⟩ hi4 h -;rcases (bq r1 v8 hi4).symm with ⟨hi4',_,hd7⟩|⟨x11,hi4',hx5,hd7⟩
 ·rw [hd7] at h;simp only [b9] at h;refine Wk_seq (Ws fun Z hZ=>?_);simp only [go_sem,seval,hi4'];refine hZ _ (pp ?_);try simp only [Int.ofNat_lt,hi4',if_true,if_false] at h
  refine bc rfl (aP (pp ?_));obtain rfl:=Option.some.inj h;refine du (.inr rfl) (Weak.refl _) (by simp only [go_sem,seval]; rfl) (by simp only [go_sem,seval]; rfl) (by (try simp only [go_sem,seval]); first|exact Le.refl _|exact LeI.h) ?_;exact dA (by simp only [go_sem,seval]<;>rfl) (by simp only [go_sem,seval]<;>rfl) (el_nil)
 rw [hd7] at h;simp only [b9] at h;have hw6:=bu hi4' hl2;refine Wk_seq (Ws fun Z hZ=>?_);simp only [go_sem,seval,hi4'];refine hZ _ (pp ?_);try simp only [Int.ofNat_lt,hi4',if_true,if_false] at h
 refine bm rfl (ak (pp (Wk_seq (al ?_))));apply bS (fun (c4:Bool)=>⟨tab 60 (updT (updT (updT (updT deadT 0 (.pref 0 [] 0 0)) 4 (.sl false none 1 none (r1.map (rowI .i64)))) 5 (.val (.int .i64 ((v8:Nat):Int)))) 40 (.val (.bool c4))),(upd RZ 0 (.sl true none 6 (some 1) [[.sl true none 3 none (l2.map aa.rowD),.sl true none 1 none (l3.map (rowI .i64)),.sl true none 2 none (l4.map ae.row),.sl true none 1 none (l5.map (rowI .i64)),.sl true none 1 none (l6.map (rowI .i64)),.sl true none 1 none (l7.map (rowI .i64))]]))⟩)
 ·intro hJ8;try rw [gx_nat hx5] at h
  obtain ⟨r5,hr9,h⟩:=Option.bind_eq_some_iff.1 h;refine bU fun Z hZ=>?_;simp only [go_sem,seval,hx5,hi4',hr9];repeat with_reducible refine dN (by kernel_rfl) ?_
  refine eY rfl (fun hc10=>?_) (fun hc10=>?_)
  ·rw [if_neg (ne_true_of_eq_false hc10)] at h;try rw [gx_nat hx5] at h
   obtain ⟨r6,hr11,h⟩:=Option.bind_eq_some_iff.1 h;simp only [go_sem,seval,hx5,hi4',hc10,hr11];repeat with_reducible refine dN (by kernel_rfl) ?_
   refine hZ _ (by kernel_rfl) (pp (hJ8 _ (!r6) ?_ h));refine wr ?_ ?_<;>repeat' first|rfl|constructor|simp only [go_sem,seval,Bool.or_self,List.length_set,Int.natCast_zero,Int.cast_ofNat_Int,hr1,hx5,hi4',hw6,hr9,hc10,hr11]
  rw [if_pos hc10] at h;simp only [go_sem,seval,hc10];refine hZ _ (by kernel_rfl) (pp (hJ8 _ false ?_ h));refine wr ?_ ?_<;>repeat' first|rfl|constructor|simp only [go_sem,seval,Bool.or_self,List.length_set,Int.natCast_zero,Int.cast_ofNat_Int,hr1,hx5,hi4',hw6,hr9,hc10]
 intro c4 h;unfold jJ at h;refine sw (au rfl) (fun hc12=>?_) (fun hc12=>?_)
 ·rw [if_neg (ne_true_of_eq_false hc12)] at h;refine ak (pp (ai fun Z hZ=>?_));simp only [go_sem,seval,hw6,hc12];refine hZ _ (pp ?_);first|refine ⟨(l2,l3,l4,l5,l6,l7),?_,h⟩|refine ⟨hi4',(l2,l3,l4,l5,l6,l7),?_,h⟩
  refine wr ?_ ?_<;>repeat' first|rfl|constructor|simp only [go_sem,seval,Bool.or_self,List.length_set,Int.natCast_zero,Int.cast_ofNat_Int,hr1,hx5,hi4',hw6,hc12]
 rw [if_pos hc12] at h;refine Wk_seq ?_;try rw [gx_nat hx5] at h
 obtain ⟨r7,hr13,h⟩:=Option.bind_eq_some_iff.1 h;refine ai fun Z hZ=>?_;simp only [go_sem,seval,hx5,hi4',hc12,hr13];refine hZ _ (pp ?_);try rw [gx_nat hx5] at h
 refine dS [0,1,2,3,4,5,6,7,8] [9] [] [10,11,12,13] [] (by kernel_rfl) fun Z hZ Y hY=>?_;simp only [go_sem,seval,hx5,hi4'];refine hY _ (by kernel_rfl) (aZ (by kernel_rfl) fun Y hY=>?_);simp only [go_sem,seval];refine hY _ (by kernel_rfl) (j5 ?_);obtain ⟨ha14,h⟩:=bk h;simp only [List.length_cons,List.length_nil,Nat.zero_add,Nat.reduceAdd] at ha14;simp only [go_sem,seval,ha14];refine hZ _ (pp (ai fun Z hZ=>?_));simp only [go_sem,seval,hw6];refine hZ _ (pp ?_);first|refine ⟨(r7.piles,r7.seen,r7.deps,r7.committed,(r7.aborted++[x11]),r7.prepared),?_,h⟩|refine ⟨hi4',(r7.piles,r7.seen,r7.deps,r7.committed,(r7.aborted++[x11]),r7.prepared),?_,h⟩
 refine wr ?_ ?_<;>repeat' first|rfl|constructor|simp only [go_sem,seval]
def jH (N:Nat):FnL:=⟨1,fun cs rest=>match cs,rest with
 | [v0],[c1]=>(varE 6 ac.decE v0).bind fun q0=>((decI .i64) c1).bind fun q1=>(gy N q0 q1).map fun r=>(.tup [],[.sl true none 6 (some 1) [ac.rowD r]])
 | _,_=>none,true⟩
attribute [go_sem] jH
theorem rJ (N:Nat):FLOk Tryz.prog 90 (jH N):=by
 refine flOkP (Nat.succ_ne_zero _) ?_;intro cs rest r ls hlen h;simp only [jH] at h;split at h
 ·simp only [Option.bind_eq_some_iff,Option.map_eq_some_iff] at h;obtain ⟨q0,h0,q1,h1,r',hr,he⟩:=h;cases he;obtain rfl:=oR ac.decE_eq h0;exact ⟨ConL.restLe rfl ((LeL.cons (ay h1) (LeL.nil))) (tM N q0 q1 r' hr),rfl,PureIL.h⟩
 ·cases h


noncomputable def p9 (N d f:Nat):Option FnS:=glist [(8,86,k7 N),(17,29,aX N),(26,29,aX N),(34,86,k7 N),(44,86,k7 N),(79,29,aX N)] d f
attribute [go_sem] p9
noncomputable def qi (N d f:Nat):Option FnL:=llist [(38,87,j4 N),(48,88,iJ N),(59,89,ji N),(70,90,jH N)] d f
attribute [go_sem] qi
theorem uY (N:Nat) (a0:ac) (a1:ah) (r:Bool × ac) (h:fG N a0 a1=some r):ConL Tryz.prog 60 1 [.sl true none 6 (some 1) [ac.rowD a0],.agg (ah.row a1)] (.val (.bool r.1)) [.sl true none 6 (some 1) [ac.rowD r.2]]:=by
 refine fM (G:=(p9 N)) (L:=(qi N)) Tryz.func60 rfl (by decide) (by kernel_rfl) 1 (by kernel_rfl) (gc 8 (mY N) (gc 17 (aT N) (gc 26 (aT N) (gc 34 (mY N) (gc 44 (mY N) (gc 79 (aT N) gn)))))) (lc 38 (rZ N) (lc 48 (qW N) (lc 59 (rk N) (lc 70 (rJ N) ln)))) [] mix (Nat.le_of_ble_eq_true rfl) (Nat.le_of_ble_eq_true rfl) rfl rfl ?_;simp only [Tryz.f60];unfold fG at h;refine Ws fun Z hZ=>?_;simp only [go_sem,seval];refine hZ _ (pp (Wk_seq ?_));apply bS (fun (c9:Bool)=>⟨tab 94 (updT (updT (updT deadT 0 (.pref 0 [] 0 0)) 3 (.pref 3 [] 0 0)) 27 (.val (.bool c9))),(upd (upd RZ 0 (.sl true none 6 (some 1) [[.sl true none 3 none (a0.piles.map aa.rowD),.sl true none 1 none (a0.seen.map (rowI .i64)),.sl true none 2 none (a0.deps.map ae.row),.sl true none 1 none (a0.committed.map (rowI .i64)),.sl true none 1 none (a0.aborted.map (rowI .i64)),.sl true none 1 none (a0.prepared.map (rowI .i64))]])) 3 (.sl true none 3 (some 1) [ah.row a1]))⟩)
 ·intro hJ1;obtain ⟨r10,hr2,h⟩:=Option.bind_eq_some_iff.1 h;refine bU fun Z hZ=>?_;simp only [go_sem,seval,hr2];repeat with_reducible refine dN (by kernel_rfl) ?_
  refine eY rfl (fun hc3=>?_) (fun hc3=>?_)
  ·rw [if_neg (ne_true_of_eq_false hc3)] at h;simp only [go_sem,seval,hc3];refine hZ _ (by kernel_rfl) (pp (hJ1 _ true ?_ h));refine wr ?_ ?_<;>repeat' first|rfl|constructor|simp only [go_sem,seval,Bool.or_self,List.length_set,Int.natCast_zero,Int.cast_ofNat_Int,hr2,hc3]
  rw [if_pos hc3] at h;obtain ⟨r11,hr4,h⟩:=Option.bind_eq_some_iff.1 h;simp only [go_sem,seval,hc3,hr4];repeat with_reducible refine dN (by kernel_rfl) ?_
  refine bR rfl (fun hc5=>?_) (fun hc5=>?_)
  ·rw [if_pos hc5] at h;simp only [go_sem,seval,hc5];refine hZ _ (by kernel_rfl) (pp (hJ1 _ true ?_ h));refine wr ?_ ?_<;>repeat' first|rfl|constructor|simp only [go_sem,seval,Bool.or_self,List.length_set,Int.natCast_zero,Int.cast_ofNat_Int,hr2,hc3,hr4,hc5]
  rw [if_neg (ne_true_of_eq_false hc5)] at h;obtain ⟨r12,hr6,h⟩:=Option.bind_eq_some_iff.1 h;simp only [go_sem,seval,hc5,hr6];repeat with_reducible refine dN (by kernel_rfl) ?_
  refine hZ _ (by kernel_rfl) (pp (hJ1 _ r12 ?_ h));refine wr ?_ ?_<;>repeat' first|rfl|constructor|simp only [go_sem,seval,Bool.or_self,List.length_set,Int.natCast_zero,Int.cast_ofNat_Int,hr2,hc3,hr4,hc5,hr6]
 intro c9 h;unfold dT at h;refine au rfl (fun hc7=>?_) (fun hc7=>?_)
 ·rw [if_pos hc7] at h;refine Ws fun Z hZ=>?_;simp only [go_sem,seval,hc7];refine hZ _ (pp (Wk_ret (pp ?_)));obtain rfl:=Option.some.inj h;refine du (.inl rfl) (Weak.refl _) (by simp only [go_sem,seval]; rfl) (by simp only [go_sem,seval]; rfl) (by (try simp only [go_sem,seval]); first|exact Le.refl _|exact LeI.h) ?_;exact dA (by simp only [go_sem,seval]<;>rfl) (by simp only [go_sem,seval]<;>rfl) (el_nil)
 rw [if_neg (ne_true_of_eq_false hc7)] at h;refine ak (pp ?_);unfold gX at h;refine Ws fun Z hZ=>?_;simp only [go_sem,seval,hc7];refine hZ _ (pp ?_);apply EC (fun (l19:List aa) (l20:List Int) (l21:List ae) (l22:List Int) (l23:List Int) (l24:List Int) (c25:Bool)=>⟨tab 94 (updT (updT (updT deadT 0 (.pref 0 [] 0 0)) 3 (.pref 3 [] 0 0)) 5 (.val (.bool c25))),(upd (upd RZ 0 (.sl true none 6 (some 1) [[.sl true none 3 none (l19.map aa.rowD),.sl true none 1 none (l20.map (rowI .i64)),.sl true none 2 none (l21.map ae.row),.sl true none 1 none (l22.map (rowI .i64)),.sl true none 1 none (l23.map (rowI .i64)),.sl true none 1 none (l24.map (rowI .i64))]])) 3 (.sl true none 3 (some 1) [ah.row a1]))⟩)
 ·intro hJ8;refine Ws fun Z hZ=>?_;simp only [go_sem,seval];refine hZ _ (pp (al (Ws fun Z hZ=>?_)));simp only [go_sem,seval];refine hZ _ (pp (am rfl (fun hc9=>?_) (fun hc9=>?_)))
  ·have hc9d:=decide_eq_true hc9;rw [if_pos hc9] at h;obtain ⟨r26,hr10,h⟩:=Option.bind_eq_some_iff.1 h;refine ai fun Z hZ=>?_;simp only [go_sem,seval,hc9d,hr10];refine bR rfl (fun hc11=>?_) (fun hc11=>?_)
   ·rw [if_pos hc11] at h;obtain ⟨r27,hr12,h⟩:=Option.bind_eq_some_iff.1 h;simp only [go_sem,seval,hc11,hr12];refine hZ _ (pp (hJ8 _ r27.2.piles r27.2.seen r27.2.deps r27.2.committed r27.2.aborted r27.2.prepared r27.1 ?_ h));refine wr ?_ ?_<;>repeat' first|rfl|constructor|simp only [go_sem,seval,Bool.or_self,List.length_set,Int.natCast_zero,Int.cast_ofNat_Int,hc7,hc9d,hr10,hc11,hr12]
   rw [if_neg (ne_true_of_eq_false hc11)] at h;simp only [go_sem,seval,hc11];refine hZ _ (pp (hJ8 _ a0.piles a0.seen a0.deps a0.committed a0.aborted a0.prepared false ?_ h));refine wr ?_ ?_<;>repeat' first|rfl|constructor|simp only [go_sem,seval,Bool.or_self,List.length_set,Int.natCast_zero,Int.cast_ofNat_Int,hc7,hc9d,hr10,hc11]
  have hc9d:=decide_eq_false hc9;rw [if_neg hc9] at h;refine Ws fun Z hZ=>?_;simp only [go_sem,seval,hc9d];refine hZ _ (pp (am rfl (fun hc13=>?_) (fun hc13=>?_)))
  ·have hc13d:=decide_eq_true hc13;rw [if_pos hc13] at h;obtain ⟨r28,hr14,h⟩:=Option.bind_eq_some_iff.1 h;refine ai fun Z hZ=>?_;simp only [go_sem,seval,hc13d,hr14];refine bR rfl (fun hc15=>?_) (fun hc15=>?_)
   ·rw [if_pos hc15] at h;obtain ⟨r29,hr16,h⟩:=Option.bind_eq_some_iff.1 h;simp only [go_sem,seval,hc15,hr16];refine hZ _ (pp (hJ8 _ r29.2.piles r29.2.seen r29.2.deps r29.2.committed r29.2.aborted r29.2.prepared r29.1 ?_ h));refine wr ?_ ?_<;>repeat' first|rfl|constructor|simp only [go_sem,seval,Bool.or_self,List.length_set,Int.natCast_zero,Int.cast_ofNat_Int,hc7,hc9d,hc13d,hr14,hc15,hr16]
   rw [if_neg (ne_true_of_eq_false hc15)] at h;simp only [go_sem,seval,hc15];refine hZ _ (pp (hJ8 _ a0.piles a0.seen a0.deps a0.committed a0.aborted a0.prepared false ?_ h));refine wr ?_ ?_<;>repeat' first|rfl|constructor|simp only [go_sem,seval,Bool.or_self,List.length_set,Int.natCast_zero,Int.cast_ofNat_Int,hc7,hc9d,hc13d,hr14,hc15]
  have hc13d:=decide_eq_false hc13;rw [if_neg hc13] at h;refine Ws fun Z hZ=>?_;simp only [go_sem,seval,hc13d];refine hZ _ (pp (am rfl (fun hc17=>?_) (fun hc17=>?_)))
  ·have hc17d:=decide_eq_true hc17;rw [if_pos hc17] at h;refine ai fun Z hZ=>?_;simp only [go_sem,seval,hc17d];refine bF rfl (fun hc18=>?_) (fun hc18=>?_)
   ·have hc18d:=decide_eq_true hc18;rw [if_pos hc18] at h;obtain ⟨r30,hr19,h⟩:=Option.bind_eq_some_iff.1 h;simp only [go_sem,seval,hc18d,hr19];refine hZ _ (pp (hJ8 _ r30.2.piles r30.2.seen r30.2.deps r30.2.committed r30.2.aborted r30.2.prepared r30.1 ?_ h));refine wr ?_ ?_<;>repeat' first|rfl|constructor|simp only [go_sem,seval,Bool.or_self,List.length_set,Int.natCast_zero,Int.cast_ofNat_Int,hc7,hc9d,hc13d,hc17d,hc18d,hr19]
   have hc18d:=decide_eq_false hc18;rw [if_neg hc18] at h;simp only [go_sem,seval,hc18d];refine hZ _ (pp (hJ8 _ a0.piles a0.seen a0.deps a0.committed a0.aborted a0.prepared false ?_ h));refine wr ?_ ?_<;>repeat' first|rfl|constructor|simp only [go_sem,seval,Bool.or_self,List.length_set,Int.natCast_zero,Int.cast_ofNat_Int,hc7,hc9d,hc13d,hc17d,hc18d]
  have hc17d:=decide_eq_false hc17;rw [if_neg hc17] at h;refine Ws fun Z hZ=>?_;simp only [go_sem,seval,hc17d];refine hZ _ (pp (sw (am rfl) (fun hc20=>?_) (fun hc20=>?_)))
  ·have hc20d:=decide_eq_false hc20;rw [if_neg hc20] at h;refine ak (pp (hJ8 _ a0.piles a0.seen a0.deps a0.committed a0.aborted a0.prepared false ?_ h));refine wr ?_ ?_<;>repeat' first|rfl|constructor|simp only [go_sem,seval,Bool.or_self,List.length_set,Int.natCast_zero,Int.cast_ofNat_Int,hc7,hc9d,hc13d,hc17d,hc20d]
  have hc20d:=decide_eq_true hc20;rw [if_pos hc20] at h;refine Ws fun Z hZ=>?_;simp only [go_sem,seval,hc20d];refine hZ _ (pp (Ws fun Z hZ=>?_));simp only [go_sem,seval];refine hZ _ (pp (am rfl (fun hc21=>?_) (fun hc21=>?_)))
  ·have hc21d:=decide_eq_true hc21;rw [if_pos hc21] at h;obtain ⟨r31,hr22,h⟩:=Option.bind_eq_some_iff.1 h;refine ai fun Z hZ=>?_;simp only [go_sem,seval,hc21d,hr22];refine hZ _ (pp (hJ8 _ r31.piles r31.seen r31.deps r31.committed r31.aborted r31.prepared true ?_ h));refine wr ?_ ?_<;>repeat' first|rfl|constructor|simp only [go_sem,seval,Bool.or_self,List.length_set,Int.natCast_zero,Int.cast_ofNat_Int,hc7,hc9d,hc13d,hc17d,hc20d,hc21d,hr22]
  have hc21d:=decide_eq_false hc21;rw [if_neg hc21] at h;refine ak (pp (hJ8 _ a0.piles a0.seen a0.deps a0.committed a0.aborted a0.prepared false ?_ h));refine wr ?_ ?_<;>repeat' first|rfl|constructor|simp only [go_sem,seval,hc21d]
 intro l19 l20 l21 l22 l23 l24 c25 h;unfold aO at h;refine Wk_seq ?_;apply oA (fun (c33:Bool) (c34:Bool)=>⟨tab 94 (updT (updT (updT (updT deadT 0 (.pref 0 [] 0 0)) 3 (.pref 3 [] 0 0)) 5 (.val (.bool c33))) 81 (.val (.bool c34))),(upd (upd RZ 0 (.sl true none 6 (some 1) [[.sl true none 3 none (l19.map aa.rowD),.sl true none 1 none (l20.map (rowI .i64)),.sl true none 2 none (l21.map ae.row),.sl true none 1 none (l22.map (rowI .i64)),.sl true none 1 none (l23.map (rowI .i64)),.sl true none 1 none (l24.map (rowI .i64))]])) 3 (.sl true none 3 (some 1) [ah.row a1]))⟩)
 ·intro hJ23;refine bU fun Z hZ=>?_;simp only [go_sem,seval];refine bR rfl (fun hc24=>?_) (fun hc24=>?_)
  ·rw [if_pos hc24] at h;obtain ⟨r35,hr25,h⟩:=Option.bind_eq_some_iff.1 h;simp only [go_sem,seval,hc24,hr25];repeat with_reducible refine dN (by kernel_rfl) ?_
   refine hZ _ (by kernel_rfl) (pp (hJ23 _ true (!r35) ?_ h));refine wr ?_ ?_<;>repeat' first|rfl|constructor|simp only [go_sem,seval,Bool.or_self,List.length_set,Int.natCast_zero,Int.cast_ofNat_Int,hc7,hc24,hr25]
  rw [if_neg (ne_true_of_eq_false hc24)] at h;simp only [go_sem,seval,hc24];refine hZ _ (by kernel_rfl) (pp (hJ23 _ false false ?_ h));refine wr ?_ ?_<;>repeat' first|rfl|constructor|simp only [go_sem,seval,Bool.or_self,List.length_set,Int.natCast_zero,Int.cast_ofNat_Int,hc7,hc24]
 intro c33 c34 h;unfold gT at h;refine sw (au rfl) (fun hc26=>?_) (fun hc26=>?_)
 ·rw [if_neg (ne_true_of_eq_false hc26)] at h;refine ak (pp (Ws fun Z hZ=>?_));simp only [go_sem,seval,hc26];refine hZ _ (pp (Wk_ret (pp ?_)));obtain rfl:=Option.some.inj h;refine du (.inl rfl) (Weak.refl _) (by simp only [go_sem,seval]; rfl) (by simp only [go_sem,seval]; rfl) (by (try simp only [go_sem,seval]); first|exact Le.refl _|exact LeI.h) ?_;exact dA (by simp only [go_sem,seval]<;>rfl) (by simp only [go_sem,seval]<;>rfl) (el_nil)
 rw [if_pos hc26] at h;refine dS [0,1,2,3,4,5,6] [7] [] [8,9,10,11] [] (by kernel_rfl) fun Z hZ Y hY=>?_;simp only [go_sem,seval,hc26];refine hY _ (by kernel_rfl) (aZ (by kernel_rfl) fun Y hY=>?_);simp only [go_sem,seval];refine hY _ (by kernel_rfl) (j5 ?_);obtain ⟨ha27,h⟩:=bk h;simp only [List.length_cons,List.length_nil,Nat.zero_add,Nat.reduceAdd] at ha27;simp only [go_sem,seval,ha27];refine hZ _ (pp (Ws fun Z hZ=>?_));simp only [go_sem,seval];refine hZ _ (pp (Wk_ret (pp ?_)));obtain rfl:=Option.some.inj h;refine du (.inl rfl) (Weak.refl _) (by simp only [go_sem,seval]; rfl) (by simp only [go_sem,seval]; rfl) (by (try simp only [go_sem,seval]); first|exact Le.refl _|exact LeI.h) ?_;exact dA (by simp only [go_sem,seval,Bool.or_self]<;>rfl) (by simp only [go_sem,seval]<;>rfl) (el_nil)
def jW (N:Nat):FnL:=⟨1,fun cs rest=>match cs,rest with
 | [v0],[c1]=>(varE 6 ac.decE v0).bind fun q0=>(ah.decA c1).bind fun q1=>(fG N q0 q1).map fun r=>(.val (.bool r.1),[.sl true none 6 (some 1) [ac.rowD r.2]])
 | _,_=>none,true⟩
attribute [go_sem] jW
theorem sj (N:Nat):FLOk Tryz.prog 60 (jW N):=by
 refine flOkP (Nat.succ_ne_zero _) ?_;intro cs rest r ls hlen h;simp only [jW] at h;split at h
 ·simp only [Option.bind_eq_some_iff,Option.map_eq_some_iff] at h;obtain ⟨q0,h0,q1,h1,r',hr,he⟩:=h;cases he;obtain rfl:=oR ac.decE_eq h0;exact ⟨ConL.restLe rfl ((LeL.cons (ah.decA_le h1) (LeL.nil))) (uY N q0 q1 r' hr),rfl,PureIL.h⟩
 ·cases h


noncomputable def sX (N d f:Nat):Option FnL:=llist [(20,60,jW N)] d f
attribute [go_sem] sX
theorem yM (N:Nat) (a0:(List ah)) (r:ac × Int × Bool) (h:eA N a0=some r):ConP Tryz.prog 44 [.sl false none 3 none (a0.map ah.row)] (.tup [.pref 0 [] 0 0,.val (.int .i64 r.2.1),.val (.bool r.2.2)]) (.sl true none 6 (some 1) [ac.rowD r.1]):=by
 refine Bx (G:=(glist [])) (L:=(sX N)) Tryz.func44 rfl (by decide) (by kernel_rfl) gn (lc 20 (sj N) ln) [] mix (Nat.le_of_ble_eq_true rfl) ?_;simp only [Tryz.f44];unfold eA at h;refine Ws fun Z hZ=>?_;simp only [go_sem,seval];refine hZ _ (pp (Ws fun Z hZ=>?_));simp only [go_sem,seval];refine hZ _ (pp (gp (fI 8 [(0,0)] 3 (by simp only [go_sem,seval]) (by simp only [go_sem,seval]; try rfl)) (gp (fI 8 [(0,1)] 1 (by simp only [go_sem,seval]) (by simp only [go_sem,seval]; try rfl)) (gp (fI 8 [(0,2)] 2 (by simp only [go_sem,seval]) (by simp only [go_sem,seval]; try rfl)) (gp (fI 8 [(0,3)] 1 (by simp only [go_sem,seval]) (by simp only [go_sem,seval]; try rfl)) (gp (fI 8 [(0,4)] 1 (by simp only [go_sem,seval]) (by simp only [go_sem,seval]; try rfl)) (gp (fI 8 [(0,5)] 1 (by simp only [go_sem,seval]) (by simp only [go_sem,seval]; try rfl)) (Wk_seq (Ws fun Z hZ=>?_)))))))));simp only [go_sem,seval];refine hZ _ (pp (al (dt fun hreal2=>?_)));have hl1:=hreal2.lenT 0 (by decide) (by simp only [go_sem,seval]; rfl);first|rw [List.length_map] at hl1|rw [dy] at hl1|rw [<-List.map_append,List.length_map] at hl1
 refine dg (fun (v8:Nat) (b:List aa × List Int × List ae × List Int × List Int × List Int)=>⟨tab 25 (updT (updT (updT deadT 0 (.sl false none 3 none (a0.map ah.row))) 5 (.pref 8 [] 0 0)) 6 (.val (.int .i64 ((v8:Nat):Int)))),(upd RZ 8 (.sl true none 6 (some 1) [[.sl true none 3 none (b.1.map aa.rowD),.sl true none 1 none (b.2.1.map (rowI .i64)),.sl true none 2 none (b.2.2.1.map ae.row),.sl true none 1 none (b.2.2.2.1.map (rowI .i64)),.sl true none 1 none (b.2.2.2.2.1.map (rowI .i64)),.sl true none 1 none (b.2.2.2.2.2.map (rowI .i64))]]))⟩) ([],[],[],[],[],[]) h ?_ ?_
 ·refine wr ?_ ?_<;>repeat' first|rfl|constructor
 rintro v8 ⟨l2,l3,l4,l5,l6,l7⟩ hi3 h -;rcases (bq a0 v8 hi3).symm with ⟨hi3',_,hd6⟩|⟨x11,hi3',hx4,hd6⟩
 ·rw [hd6] at h;simp only [gP] at h;refine Wk_seq (Ws fun Z hZ=>?_);simp only [go_sem,seval,hi3'];refine hZ _ (pp ?_);try simp only [Int.ofNat_lt,hi3',if_true,if_false] at h
  refine bc rfl (aP (pp (Ws fun Z hZ=>?_)));simp only [go_sem,seval];refine hZ _ (pp (Wk_ret (pp ?_)));obtain rfl:=Option.some.inj h;exact wI (.inl rfl) (Weak.refl _) 8 (by simp only [go_sem,seval]<;>rfl) (by simp only [go_sem,seval]<;>rfl) (by simp only [go_sem,seval]<;>rfl)
 rw [hd6] at h;simp only [gP] at h;have hw5:=bu hi3' hl1;refine Wk_seq (Ws fun Z hZ=>?_);simp only [go_sem,seval,hi3'];refine hZ _ (pp ?_);try simp only [Int.ofNat_lt,hi3',if_true,if_false] at h
 refine bm rfl (ak (pp (Wk_seq (al (Wk_seq ?_)))));try rw [gx_nat hx4] at h
 obtain ⟨r1,hr7,h⟩:=Option.bind_eq_some_iff.1 h;refine ai fun Z hZ=>?_;simp only [go_sem,seval,hx4,hi3',hr7];refine hZ _ (pp (bQ rfl (fun hc8=>?_) (fun hc8=>?_)))
 ·rw [if_neg (ne_true_of_eq_false hc8)] at h;refine Ws fun Z hZ=>?_;simp only [go_sem,seval,hc8];refine hZ _ (pp (Wk_ret (pp ?_)));obtain rfl:=Option.some.inj h;exact wI (.inl rfl) (Weak.refl _) 8 (by simp only [go_sem,seval]<;>rfl) (by simp only [go_sem,seval]<;>rfl) (by simp only [go_sem,seval]<;>rfl)
 rw [if_pos hc8] at h;refine ak (pp (ai fun Z hZ=>?_));simp only [go_sem,seval,hw5,hc8];refine hZ _ (pp ?_);first|refine ⟨(r1.2.piles,r1.2.seen,r1.2.deps,r1.2.committed,r1.2.aborted,r1.2.prepared),?_,h⟩|refine ⟨hi3',(r1.2.piles,r1.2.seen,r1.2.deps,r1.2.committed,r1.2.aborted,r1.2.prepared),?_,h⟩
 refine wr ?_ ?_<;>repeat' first|rfl|constructor
def eQ (N:Nat):FnL:=⟨0,fun cs rest=>match cs,rest with
 | [],[c0] =>  ((decL 3 ah.dec) c0).bind fun q0=>(eA N q0).map fun r=>(.tup [.pref 0 [] 0 0,.val (.int .i64 r.2.1),.val (.bool r.2.2)],[.sl true none 6 (some 1) [ac.rowD r.1]])
 | _,_=>none,false⟩
attribute [go_sem] eQ
theorem gw (N:Nat):FLOk Tryz.prog 44 (eQ N):=by
 refine flOkN rfl ?_;intro rest r c h;simp only [eQ] at h;split at h
 ·simp only [Option.bind_eq_some_iff,Option.map_eq_some_iff] at h;obtain ⟨q0,h0,r',hr,he⟩:=h;cases he;exact ConP.le ((LeL.cons (ar ah.dec_le h0) (LeL.nil))) (yM N q0 r' hr)
 ·cases h


noncomputable def vp (N d f:Nat):Option FnL:=llist [(9,44,eQ N)] d f
attribute [go_sem] vp
theorem AA (N:Nat) (a0:(List ah)) (r:Int × Bool) (h:kD N a0=some r):Con Tryz.prog 17 [] true [.sl false none 3 none (a0.map ah.row)] (.tup [.val (.int .i64 r.1),.val (.bool r.2)]):=by
 refine kI (G:=(glist [])) (L:=(vp N)) Tryz.func17 rfl (by decide) (by kernel_rfl) gn (lc 9 (gw N) ln) [] mix (Nat.le_of_ble_eq_true rfl) ?_;simp only [Tryz.f17];unfold kD at h;refine Ws fun Z hZ=>?_;simp only [go_sem,seval];refine hZ _ (pp (Wk_seq ?_));obtain ⟨r1,hr1,h⟩:=Option.bind_eq_some_iff.1 h;refine ai fun Z hZ=>?_;simp only [go_sem,seval,hr1];refine hZ _ (pp (Ws fun Z hZ=>?_));simp only [go_sem,seval];refine hZ _ (pp (Wk_ret (pp ?_)));obtain rfl:=Option.some.inj h;simp only [go_sem,seval];exact ⟨_,rfl,RokI.h,PureI.h⟩
def qF (N:Nat):FnS:=⟨[],true,fn1 (decL 3 ah.dec) fun q0=>(kD N q0).map fun r=>.tup [.val (.int .i64 r.1),.val (.bool r.2)],false⟩
attribute [go_sem] qF
theorem wO (N:Nat):FSOk Tryz.prog 17 (qF N):=ok1 (fun q0 r h=>by
 obtain ⟨r',hr,rfl⟩:=Option.map_eq_some_iff.1 h;exact AA N q0 r' hr) (fun h=>ar ah.dec_le h)


noncomputable def o9 (N d f:Nat):Option FnS:=glist [(10,29,aX N),(16,29,aX N),(19,47,iZ N),(25,29,aX N)] d f
attribute [go_sem] o9
theorem tF (N:Nat) (a0:ac) (a1:Int) (r:Int) (h:eU N a0 a1=some r):Con Tryz.prog 45 [] true [.iref 6 [[.sl false none 3 none (a0.piles.map aa.row),.sl false none 1 none (a0.seen.map (rowI .i64)),.sl false none 2 none (a0.deps.map ae.row),.sl false none 1 none (a0.committed.map (rowI .i64)),.sl false none 1 none (a0.aborted.map (rowI .i64)),.sl false none 1 none (a0.prepared.map (rowI .i64))]] 0 0,.val (.int .i64 a1)] (.val (.int .i64 r)):=by
 refine aV (G:=(o9 N)) Tryz.func45 rfl (by decide) (by kernel_rfl) (gc 10 (aT N) (gc 16 (aT N) (gc 19 (lx N) (gc 25 (aT N) gn)))) [] mix (Nat.le_of_ble_eq_true rfl) ?_;simp only [Tryz.f45];unfold eU at h;refine Ws fun Z hZ=>?_;simp only [go_sem,seval];refine hZ _ (pp (Wk_seq (Wk_seq ?_)));obtain ⟨r1,hr1,h⟩:=Option.bind_eq_some_iff.1 h;refine ai fun Z hZ=>?_;simp only [go_sem,seval,hr1];refine hZ _ (pp (au rfl (fun hc2=>?_) (fun hc2=>?_)))
 ·rw [if_pos hc2] at h;refine Ws fun Z hZ=>?_;simp only [go_sem,seval,hc2];refine hZ _ (pp (Wk_ret (pp ?_)));cases h;simp only [go_sem,seval];exact ⟨_,rfl,RokI.h,PureI.h⟩
 rw [if_neg (ne_true_of_eq_false hc2)] at h;refine ak (pp (Wk_seq (Wk_seq ?_)));obtain ⟨r2,hr3,h⟩:=Option.bind_eq_some_iff.1 h;refine ai fun Z hZ=>?_;simp only [go_sem,seval,hc2,hr3];refine hZ _ (pp (au rfl (fun hc4=>?_) (fun hc4=>?_)))
 ·rw [if_pos hc4] at h;refine Ws fun Z hZ=>?_;simp only [go_sem,seval,hc4];refine hZ _ (pp (Wk_ret (pp ?_)));cases h;simp only [go_sem,seval];exact ⟨_,rfl,RokI.h,PureI.h⟩
 rw [if_neg (ne_true_of_eq_false hc4)] at h;refine ak (pp (Wk_seq (Wk_seq ?_)));obtain ⟨r3,hr5,h⟩:=Option.bind_eq_some_iff.1 h;refine ai fun Z hZ=>?_;simp only [go_sem,seval,hc4,hr5];refine hZ _ (pp (au rfl (fun hc6=>?_) (fun hc6=>?_)))
 ·rw [if_pos hc6] at h;refine Ws fun Z hZ=>?_;simp only [go_sem,seval,hc6];refine hZ _ (pp (Wk_ret (pp ?_)));cases h;simp only [go_sem,seval];exact ⟨_,rfl,RokI.h,PureI.h⟩
 rw [if_neg (ne_true_of_eq_false hc6)] at h;refine ak (pp (Wk_seq (Wk_seq ?_)));obtain ⟨r4,hr7,h⟩:=Option.bind_eq_some_iff.1 h;refine ai fun Z hZ=>?_;simp only [go_sem,seval,hc6,hr7];refine hZ _ (pp (au rfl (fun hc8=>?_) (fun hc8=>?_)))
 ·rw [if_pos hc8] at h;refine Ws fun Z hZ=>?_;simp only [go_sem,seval,hc8];refine hZ _ (pp (Wk_ret (pp ?_)));cases h;simp only [go_sem,seval];exact ⟨_,rfl,RokI.h,PureI.h⟩
 rw [if_neg (ne_true_of_eq_false hc8)] at h;refine ak (pp (Ws fun Z hZ=>?_));simp only [go_sem,seval,hc8];refine hZ _ (pp (Wk_ret (pp ?_)));cases h;simp only [go_sem,seval];exact ⟨_,rfl,RokI.h,PureI.h⟩
def je (N:Nat):FnS:=⟨[],true,fn2 (decPt 6 ac.dec) (decI .i64) fun q0 q1=>(eU N q0 q1).map fun r=>.val (.int .i64 r),false⟩
attribute [go_sem] je
theorem mR (N:Nat):FSOk Tryz.prog 45 (je N):=ok2 (fun q0 q1 r h=>by
 obtain ⟨r',hr,rfl⟩:=Option.map_eq_some_iff.1 h;exact tF N q0 q1 r' hr) (fun h=>kU ac.dec_le h) (ay)


noncomputable def sB (N d f:Nat):Option FnS:=glist [(41,45,je N),(52,28,eo N),(63,28,eo N),(69,9,mH N),(81,29,aX N),(88,29,aX N),(113,29,aX N),(117,29,aX N),(122,47,iZ N)] d f
attribute [go_sem] sB
noncomputable def sH (N d f:Nat):Option FnL:=llist [(18,44,eQ N),(102,46,eH N),(133,46,eH N)] d f
attribute [go_sem] sH
theorem sI (N:Nat) (a0:(List ah)) (r:(List Int) × (List Int)) (h:gE N a0=some r):Con Tryz.prog 18 [] true [.sl false none 3 none (a0.map ah.row)] (.tup [.sl true none 1 none (r.1.map (rowI .i64)),.sl true none 1 none (r.2.map (rowI .i64))]):=by
 refine kI (G:=(sB N)) (L:=(sH N)) Tryz.func18 rfl (by decide) (by kernel_rfl) (gc 41 (mR N) (gc 52 (lf N) (gc 63 (lf N) (gc 69 (qn N) (gc 81 (aT N) (gc 88 (aT N) (gc 113 (aT N) (gc 117 (aT N) (gc 122 (lx N) gn))))))))) (lc 18 (gw N) (lc 102 (iP N) (lc 133 (iP N) ln))) [] mix (Nat.le_of_ble_eq_true rfl) ?_;simp only [Tryz.f18];unfold gE at h;refine Ws fun Z hZ=>?_;simp only [go_sem,seval];refine hZ _ (pp (Wk_seq ?_));obtain ⟨r1,hr1,h⟩:=Option.bind_eq_some_iff.1 h;refine ai fun Z hZ=>?_;simp only [go_sem,seval,hr1];refine hZ _ (pp (Wk_seq (Ws fun Z hZ=>?_)));simp only [go_sem,seval];refine hZ _ (pp (bQ rfl (fun hc2=>?_) (fun hc2=>?_)))
 ·rw [if_neg (ne_true_of_eq_false hc2)] at h;refine Ws fun Z hZ=>?_;simp only [go_sem,seval,hc2];refine hZ _ (pp (Wk_ret (pp ?_)));obtain rfl:=Option.some.inj h;simp only [go_sem,seval];exact ⟨_,rfl,RokI.h,PureI.h⟩
 rw [if_pos hc2] at h;refine ak (pp (Ws fun Z hZ=>?_));simp only [go_sem,seval,hc2];refine hZ _ (pp (Wk_seq (Ws fun Z hZ=>?_)));simp only [go_sem,seval];refine hZ _ (pp (al (dt fun hreal4=>?_)));have hl3:=hreal4.cell 18 1 (by simp only [go_sem,seval]; rfl) rfl;first|rw [List.length_map] at hl3|rw [dy] at hl3|rw [<-List.map_append,List.length_map] at hl3
 refine dg (fun (v6:Nat) (b:List Int × List Int)=>⟨tab 136 (updT (updT (updT (updT deadT 4 (.pref 18 [] 0 0)) 7 (.pal 52 [] 0 b.1.length none)) 8 (.pal 63 [] 0 b.2.length none)) 9 (.val (.int .i64 ((v6:Nat):Int)))),(upd (upd (upd RZ 18 (.sl true none 6 (some 1) [[.sl true none 3 none (r1.1.piles.map aa.rowD),.sl true none 1 none (r1.1.seen.map (rowI .i64)),.sl true none 2 none (r1.1.deps.map ae.row),.sl true none 1 none (r1.1.committed.map (rowI .i64)),.sl true none 1 none (r1.1.aborted.map (rowI .i64)),.sl true none 1 none (r1.1.prepared.map (rowI .i64))]])) 52 (.sl true none 1 none (b.1.map (rowI .i64)))) 63 (.sl true none 1 none (b.2.map (rowI .i64))))⟩) ([],[]) h ?_ ?_
 ·refine Weak.trans (ko 7 52 1 (by simp only [go_sem,seval]) (by simp only [go_sem,seval])) (Weak.trans (ko 8 63 1 (by simp only [go_sem,seval]) (by simp only [go_sem,seval])) ?_);refine wr ?_ ?_<;>repeat' first|rfl|constructor|simp only [go_sem,seval,Bool.or_self,List.length_set,Int.natCast_zero,Int.cast_ofNat_Int,hr1,hc2]
 rintro v6 ⟨l4,l5⟩ hi5 h -;rcases (bq r1.1.seen v6 hi5) with ⟨x9,hi5',hx6,hd8⟩|⟨hi5',_,hd8⟩
 ·rw [hd8] at h;simp only [ek] at h;have hw7:=bu hi5' hl3;refine Wk_seq (Ws fun Z hZ=>?_);simp only [go_sem,seval,hi5'];refine hZ _ (pp ?_);try simp only [Int.ofNat_lt,hi5',if_true,if_false] at h
  refine bm rfl (ak (pp (Wk_seq (al (Wk_seq ?_)))));try rw [gx_nat hx6] at h
  obtain ⟨r15,hr9,h⟩:=Option.bind_eq_some_iff.1 h;refine ai fun Z hZ=>?_;simp only [go_sem,seval,hx6,hi5',hr9];refine hZ _ (pp (al (Ws fun Z hZ=>?_)));simp only [go_sem,seval];refine hZ _ (pp (am rfl (fun hc10=>?_) (fun hc10=>?_)))
  ·have hc10d:=decide_eq_true hc10;rw [if_pos hc10] at h;try rw [gx_nat hx6] at h
   obtain ⟨r16,hr11,h⟩:=Option.bind_eq_some_iff.1 h;refine ai fun Z hZ=>?_;simp only [go_sem,seval,hx6,hi5',hc10d,hr11];refine hZ _ (pp (ai fun Z hZ=>?_));simp only [go_sem,seval,hw7];refine hZ _ (pp ?_);first|refine ⟨(r16,l5),?_,h⟩|refine ⟨hi5',(r16,l5),?_,h⟩
   refine wr ?_ ?_<;>repeat' first|rfl|constructor|simp only [go_sem,seval,Bool.or_self,List.length_set,Int.natCast_zero,Int.cast_ofNat_Int,hr1,hc2,hx6,hi5',hw7,hr9,hc10d,hr11]
  have hc10d:=decide_eq_false hc10;rw [if_neg hc10] at h;refine Ws fun Z hZ=>?_;simp only [go_sem,seval,hc10d];refine hZ _ (pp (am rfl (fun hc12=>?_) (fun hc12=>?_)))
  ·have hc12d:=decide_eq_true hc12;rw [if_pos hc12] at h;try rw [gx_nat hx6] at h
   obtain ⟨r17,hr13,h⟩:=Option.bind_eq_some_iff.1 h;refine ai fun Z hZ=>?_;simp only [go_sem,seval,hx6,hi5',hc12d,hr13];refine hZ _ (pp (ai fun Z hZ=>?_));simp only [go_sem,seval,hw7];refine hZ _ (pp ?_);first|refine ⟨(l4,r17),?_,h⟩|refine ⟨hi5',(l4,r17),?_,h⟩
   refine wr ?_ ?_<;>repeat' first|rfl|constructor|simp only [go_sem,seval,Bool.or_self,List.length_set,Int.natCast_zero,Int.cast_ofNat_Int,hr1,hc2,hx6,hi5',hw7,hr9,hc10d,hc12d,hr13]
  have hc12d:=decide_eq_false hc12;rw [if_neg hc12] at h;refine ak (pp (ai fun Z hZ=>?_));simp only [go_sem,seval,hw7,hc12d];refine hZ _ (pp ?_);first|refine ⟨(l4,l5),?_,h⟩|refine ⟨hi5',(l4,l5),?_,h⟩
  refine wr ?_ ?_<;>repeat' first|rfl|constructor|simp only [go_sem,seval,Bool.or_self,List.length_set,Int.natCast_zero,Int.cast_ofNat_Int,hr1,hc2,hx6,hi5',hw7,hr9,hc10d,hc12d]
 rw [hd8] at h;simp only [ek] at h;refine Wk_seq (Ws fun Z hZ=>?_);simp only [go_sem,seval,hi5'];refine hZ _ (pp ?_);try simp only [Int.ofNat_lt,hi5',if_true,if_false] at h
 refine bc rfl (aP (pp ?_));unfold gO at h;refine Wk_seq ?_;obtain ⟨r18,hr14,h⟩:=Option.bind_eq_some_iff.1 h;refine ai fun Z hZ=>?_;simp only [go_sem,seval,hr14];refine hZ _ (pp (Ws fun Z hZ=>?_));simp only [go_sem,seval];refine hZ _ (pp (Wk_seq (Ws fun Z hZ=>?_)));simp only [go_sem,seval];refine hZ _ (pp (al (dt fun hreal16=>?_)));have hl15:=hreal16.lenT 10 (by decide) (by simp only [go_sem,seval]; rfl);first|rw [List.length_map] at hl15|rw [dy] at hl15|rw [<-List.map_append,List.length_map] at hl15
 refine dg (fun (v28:Nat) (b:List aa × List Int × List ae × List Int × List Int × List Int × List Int)=>⟨tab 136 (updT (updT (updT (updT (updT (updT deadT 4 (.pref 18 [] 0 0)) 7 (.pal 52 [] 0 l4.length none)) 8 (.pal 63 [] 0 l5.length none)) 10 (.sl false none 1 none (r18.map (rowI .i64)))) 11 (.pal 96 [] 0 b.2.2.2.2.2.2.length none)) 12 (.val (.int .i64 ((v28:Nat):Int)))),(upd (upd (upd (upd RZ 18 (.sl true none 6 (some 1) [[.sl true none 3 none (b.1.map aa.rowD),.sl true none 1 none (b.2.1.map (rowI .i64)),.sl true none 2 none (b.2.2.1.map ae.row),.sl true none 1 none (b.2.2.2.1.map (rowI .i64)),.sl true none 1 none (b.2.2.2.2.1.map (rowI .i64)),.sl true none 1 none (b.2.2.2.2.2.1.map (rowI .i64))]])) 52 (.sl true none 1 none (l4.map (rowI .i64)))) 63 (.sl true none 1 none (l5.map (rowI .i64)))) 96 (.sl true none 1 none (b.2.2.2.2.2.2.map (rowI .i64))))⟩) (r1.1.piles,r1.1.seen,r1.1.deps,r1.1.committed,r1.1.aborted,r1.1.prepared,[]) h ?_ ?_
 ·refine Weak.trans (ko 11 96 1 (by simp only [go_sem,seval]) (by simp only [go_sem,seval])) ?_;refine wr ?_ ?_<;>repeat' first|rfl|constructor|simp only [go_sem,seval,Bool.or_self,List.length_set,Int.natCast_zero,Int.cast_ofNat_Int,hr1,hc2,hi5',hr14]
 rintro v28 ⟨l21,l22,l23,l24,l25,l26,l27⟩ hi17 h -;rcases (bq r18 v28 hi17) with ⟨x31,hi17',hx18,hd20⟩|⟨hi17',_,hd20⟩
 ·rw [hd20] at h;simp only [ew] at h;have hw19:=bu hi17' hl15;refine Wk_seq (Ws fun Z hZ=>?_);simp only [go_sem,seval,hi17'];refine hZ _ (pp ?_);try simp only [Int.ofNat_lt,hi5',hi17',if_true,if_false] at h
  refine bm rfl (ak (pp (Wk_seq (al ?_))));apply bS (fun (c54:Bool)=>⟨tab 136 (updT (updT (updT (updT (updT (updT (updT deadT 4 (.pref 18 [] 0 0)) 7 (.pal 52 [] 0 l4.length none)) 8 (.pal 63 [] 0 l5.length none)) 10 (.sl false none 1 none (r18.map (rowI .i64)))) 11 (.pal 96 [] 0 l27.length none)) 12 (.val (.int .i64 ((v28:Nat):Int)))) 89 (.val (.bool c54))),(upd (upd (upd (upd RZ 18 (.sl true none 6 (some 1) [[.sl true none 3 none (l21.map aa.rowD),.sl true none 1 none (l22.map (rowI .i64)),.sl true none 2 none (l23.map ae.row),.sl true none 1 none (l24.map (rowI .i64)),.sl true none 1 none (l25.map (rowI .i64)),.sl true none 1 none (l26.map (rowI .i64))]])) 52 (.sl true none 1 none (l4.map (rowI .i64)))) 63 (.sl true none 1 none (l5.map (rowI .i64)))) 96 (.sl true none 1 none (l27.map (rowI .i64))))⟩)
  ·intro hJ21;try rw [gx_nat hx18] at h
   obtain ⟨r55,hr22,h⟩:=Option.bind_eq_some_iff.1 h;refine ai fun Z hZ=>?_;simp only [go_sem,seval,hx18,hi17',hr22];refine bR rfl (fun hc23=>?_) (fun hc23=>?_)
   ·rw [if_pos hc23] at h;simp only [go_sem,seval,hc23];refine hZ _ (pp (hJ21 _ true ?_ h));refine wr ?_ ?_<;>repeat' first|rfl|constructor|simp only [go_sem,seval,Bool.or_self,List.length_set,Int.natCast_zero,Int.cast_ofNat_Int,hr1,hc2,hi5',hr14,hx18,hi17',hw19,hr22,hc23]
   rw [if_neg (ne_true_of_eq_false hc23)] at h;try rw [gx_nat hx18] at h
   obtain ⟨r56,hr24,h⟩:=Option.bind_eq_some_iff.1 h;simp only [go_sem,seval,hx18,hi17',hc23,hr24];refine hZ _ (pp (hJ21 _ r56 ?_ h));refine wr ?_ ?_<;>repeat' first|rfl|constructor|simp only [go_sem,seval,Bool.or_self,List.length_set,Int.natCast_zero,Int.cast_ofNat_Int,hr1,hc2,hi5',hr14,hx18,hi17',hw19,hr22,hc23,hr24]
  intro c54 h;unfold jz at h;refine sw (au rfl) (fun hc25=>?_) (fun hc25=>?_)
  ·rw [if_neg (ne_true_of_eq_false hc25)] at h;refine ak (pp (ai fun Z hZ=>?_));simp only [go_sem,seval,hw19,hc25];refine hZ _ (pp ?_);first|refine ⟨(l21,l22,l23,l24,l25,l26,l27),?_,h⟩|refine ⟨hi17',(l21,l22,l23,l24,l25,l26,l27),?_,h⟩
   refine wr ?_ ?_<;>repeat' first|rfl|constructor|simp only [go_sem,seval,Bool.or_self,List.length_set,Int.natCast_zero,Int.cast_ofNat_Int,hr1,hc2,hi5',hr14,hx18,hi17',hw19,hc25]
  rw [if_pos hc25] at h;refine Wk_seq ?_;try rw [gx_nat hx18] at h
  obtain ⟨ha26,h⟩:=bk h;simp only [List.length_cons,List.length_nil,Nat.zero_add,Nat.reduceAdd] at ha26;refine ai fun Z hZ=>?_;simp only [go_sem,seval,hx18,hi17',hc25,ha26];refine hZ _ (pp ?_);try rw [gx_nat hx18] at h
  obtain ⟨r57,hr27,h⟩:=Option.bind_eq_some_iff.1 h;refine ai fun Z hZ=>?_;simp only [go_sem,seval,hx18,hi17',hr27];refine hZ _ (pp (ai fun Z hZ=>?_));simp only [go_sem,seval,hw19];refine hZ _ (pp ?_);first|refine ⟨(r57.piles,r57.seen,r57.deps,r57.committed,r57.aborted,r57.prepared,(l27++[x31])),?_,h⟩|refine ⟨hi17',(r57.piles,r57.seen,r57.deps,r57.committed,r57.aborted,r57.prepared,(l27++[x31])),?_,h⟩
  refine wr ?_ ?_<;>repeat' first|rfl|constructor|simp only [go_sem,seval,Bool.or_self]
 rw [hd20] at h;simp only [ew] at h;refine Wk_seq (Ws fun Z hZ=>?_);simp only [go_sem,seval,hi17'];refine hZ _ (pp ?_);try simp only [Int.ofNat_lt,hi5',hi17',if_true,if_false] at h
 refine bc rfl (aP (pp ?_));unfold mI at h;refine Ws fun Z hZ=>?_;simp only [go_sem,seval];refine hZ _ (pp (Wk_seq (Ws fun Z hZ=>?_)));simp only [go_sem,seval];refine hZ _ (pp (al (fV (fun (b:List aa × List Int × List ae × List Int × List Int × List Int × List Int × Int)=>⟨tab 136 (updT (updT (updT (updT (updT deadT 4 (.pref 18 [] 0 0)) 8 (.pal 63 [] 0 l5.length none)) 11 (.pal 96 [] 0 l27.length none)) 13 (.pal 130 [] 0 b.2.2.2.2.2.2.1.length none)) 14 (.val (.int .i64 b.2.2.2.2.2.2.2))),(upd (upd (upd (upd RZ 18 (.sl true none 6 (some 1) [[.sl true none 3 none (b.1.map aa.rowD),.sl true none 1 none (b.2.1.map (rowI .i64)),.sl true none 2 none (b.2.2.1.map ae.row),.sl true none 1 none (b.2.2.2.1.map (rowI .i64)),.sl true none 1 none (b.2.2.2.2.1.map (rowI .i64)),.sl true none 1 none (b.2.2.2.2.2.1.map (rowI .i64))]])) 63 (.sl true none 1 none (l5.map (rowI .i64)))) 96 (.sl true none 1 none (l27.map (rowI .i64)))) 130 (.sl true none 1 none (b.2.2.2.2.2.2.1.map (rowI .i64))))⟩) (l21,l22,l23,l24,l25,l26,[],0) h ?_ ?_)))
 ·refine Weak.trans (ko 13 130 1 (by simp only [go_sem,seval]) (by simp only [go_sem,seval])) ?_;refine wr ?_ ?_<;>repeat' first|rfl|constructor|simp only [go_sem,seval,Bool.or_self,List.length_set,Int.natCast_zero,Int.cast_ofNat_Int,hr1,hc2,hi5',hr14,hi17']
 rintro n ⟨l55,l56,l57,l58,l59,l60,l61,v62⟩ h -;cases n with
 | zero=>simp [dE] at h
 | succ n=>
 simp only [dE] at h;refine Wk_seq (Ws fun Z hZ=>?_);simp only [go_sem,seval];refine hZ _ (pp (sw (am rfl) (fun hc28=>?_) (fun hc28=>?_)))
 ·have hc28d:=decide_eq_false hc28;rw [if_neg hc28] at h;refine aP (pp (Ws fun Z hZ=>?_));simp only [go_sem,seval,hc28d];refine hZ _ (pp (Wk_ret (pp ?_)));obtain rfl:=Option.some.inj h;simp only [go_sem,seval];exact ⟨_,rfl,RokI.h,PureI.h⟩
 have hc28d:=decide_eq_true hc28;rw [if_pos hc28] at h;refine ak (pp (al (Wk_seq ?_)));obtain ⟨x58,hb29,hx30,h⟩:=aI h;refine ai fun Z hZ=>?_;simp only [go_sem,seval,hb29,hx30];refine hZ _ (pp (Wk_seq ?_));apply bS (fun (c67:Bool)=>⟨tab 136 (updT (updT (updT (updT (updT (updT (updT deadT 4 (.pref 18 [] 0 0)) 8 (.pal 63 [] 0 l5.length none)) 11 (.pal 96 [] 0 l27.length none)) 13 (.pal 130 [] 0 l61.length none)) 14 (.val (.int .i64 v62))) 15 (.val (.int .i64 x58))) 124 (.val (.bool c67))),(upd (upd (upd (upd RZ 18 (.sl true none 6 (some 1) [[.sl true none 3 none (l55.map aa.rowD),.sl true none 1 none (l56.map (rowI .i64)),.sl true none 2 none (l57.map ae.row),.sl true none 1 none (l58.map (rowI .i64)),.sl true none 1 none (l59.map (rowI .i64)),.sl true none 1 none (l60.map (rowI .i64))]])) 63 (.sl true none 1 none (l5.map (rowI .i64)))) 96 (.sl true none 1 none (l27.map (rowI .i64)))) 130 (.sl true none 1 none (l61.map (rowI .i64))))⟩)
 ·intro hJ31;obtain ⟨r68,hr32,h⟩:=Option.bind_eq_some_iff.1 h;refine ai fun Z hZ=>?_;simp only [go_sem,seval,hr32];refine bR rfl (fun hc33=>?_) (fun hc33=>?_)
  ·rw [if_pos hc33] at h;simp only [go_sem,seval,hc33];refine hZ _ (pp (hJ31 _ true ?_ h));refine wr ?_ ?_<;>repeat' first|rfl|constructor|simp only [go_sem,seval,Bool.or_self,List.length_set,Int.natCast_zero,Int.cast_ofNat_Int,hr1,hc2,hi5',hr14,hi17',hc28d,hb29,hx30,hr32,hc33]
  rw [if_neg (ne_true_of_eq_false hc33)] at h;obtain ⟨r69,hr34,h⟩:=Option.bind_eq_some_iff.1 h;simp only [go_sem,seval,hc33,hr34];refine bR rfl (fun hc35=>?_) (fun hc35=>?_)
  ·rw [if_pos hc35] at h;simp only [go_sem,seval,hc35];refine hZ _ (pp (hJ31 _ true ?_ h));refine wr ?_ ?_<;>repeat' first|rfl|constructor|simp only [go_sem,seval,Bool.or_self,List.length_set,Int.natCast_zero,Int.cast_ofNat_Int,hr1,hc2,hi5',hr14,hi17',hc28d,hb29,hx30,hr32,hc33,hr34,hc35]
  rw [if_neg (ne_true_of_eq_false hc35)] at h;obtain ⟨r70,hr36,h⟩:=Option.bind_eq_some_iff.1 h;simp only [go_sem,seval,hc35,hr36];refine hZ _ (pp (hJ31 _ (!r70) ?_ h));refine wr ?_ ?_<;>repeat' first|rfl|constructor|simp only [go_sem,seval,Bool.or_self,List.length_set,Int.natCast_zero,Int.cast_ofNat_Int,hr1,hc2,hi5',hr14,hi17',hc28d,hb29,hx30,hr32,hc33,hr34,hc35,hr36]
 intro c67 h;unfold gQ at h;refine au rfl (fun hc37=>?_) (fun hc37=>?_)
 ·rw [if_pos hc37] at h;refine Ws fun Z hZ=>?_;simp only [go_sem,seval,hc37];refine hZ _ (pp (aP (pp (⟨_,Nat.lt_succ_self _,(l55,l56,l57,l58,l59,l60,l61,IntKind.i64.wrap (v62+1)),?_,h⟩))));refine wr ?_ ?_<;>repeat' first|rfl|constructor|simp only [go_sem,seval,Bool.or_self,List.length_set,Int.natCast_zero,Int.cast_ofNat_Int,hr1,hc2,hi5',hr14,hi17',hc28d,hb29,hx30,hc37]
 rw [if_neg (ne_true_of_eq_false hc37)] at h;refine ak (pp ?_);unfold kQ at h;refine Wk_seq ?_;obtain ⟨ha38,h⟩:=bk h;simp only [List.length_cons,List.length_nil,Nat.zero_add,Nat.reduceAdd] at ha38;refine ai fun Z hZ=>?_;simp only [go_sem,seval,hc37,ha38];refine hZ _ (pp (Wk_seq ?_));obtain ⟨r71,hr39,h⟩:=Option.bind_eq_some_iff.1 h;refine ai fun Z hZ=>?_;simp only [go_sem,seval,hr39];refine hZ _ (pp (ai fun Z hZ=>?_));simp only [go_sem,seval];refine hZ _ (pp (⟨_,Nat.lt_succ_self _,(r71.piles,r71.seen,r71.deps,r71.committed,r71.aborted,r71.prepared,(l61++[x58]),0),?_,h⟩));refine wr ?_ ?_<;>repeat' first|rfl|constructor|simp only [go_sem,seval,Bool.or_self]
def pA (N:Nat):FnS:=⟨[],true,fn1 (decL 3 ah.dec) fun q0=>(gE N q0).map fun r=>.tup [.sl false none 1 none (r.1.map (rowI .i64)),.sl false none 1 none (r.2.map (rowI .i64))],false⟩
attribute [go_sem] pA
theorem vE (N:Nat):FSOk Tryz.prog 18 (pA N):=ok1 (fun q0 r h=>by
 obtain ⟨r',hr,rfl⟩:=Option.map_eq_some_iff.1 h;exact (sI N q0 r' hr).res (by (try simp only [go_sem]); exact RokI.h)) (fun h=>ar ah.dec_le h)

def rC (N:Nat):FnS:=⟨[],true,fn1 (decL 3 ah.dec) fun q0=>(gE N q0).map fun r=>.tup [.sl true none 1 none (r.1.map (rowI .i64)),.sl true none 1 none (r.2.map (rowI .i64))],false⟩
attribute [go_sem] rC
theorem CH (N:Nat):FSOk Tryz.prog 18 (rC N):=ok1 (fun q0 r h=>by
 obtain ⟨r',hr,rfl⟩:=Option.map_eq_some_iff.1 h;exact sI N q0 r' hr) (fun h=>ar ah.dec_le h)


theorem yV (N:Nat) (a0:(List Int)) (a1:(List Int)) (r:Bool) (h:fN N a0 a1=some r):Con Tryz.prog 7 [] true [.sl false none 1 none (a0.map (rowI .i64)),.sl false none 1 none (a1.map (rowI .i64))] (.val (.bool r)):=by
 refine aV (G:=(glist [])) Tryz.func7 rfl (by decide) (by kernel_rfl) gn [] mix (Nat.le_of_ble_eq_true rfl) ?_;simp only [Tryz.f7];unfold fN at h;refine Ws fun Z hZ=>?_;simp only [go_sem,seval];refine hZ _ (pp (Wk_seq (Ws fun Z hZ=>?_)));simp only [go_sem,seval];refine hZ _ (pp (oq rfl (fun hc1=>?_) (fun hc1=>?_)))
 ·have hc1d:=decide_eq_false hc1;rw [if_neg hc1] at h;refine Ws fun Z hZ=>?_;simp only [go_sem,seval,hc1d];refine hZ _ (pp (Wk_ret (pp ?_)));cases h;simp only [go_sem,seval];exact ⟨_,rfl,RokI.h,PureI.h⟩
 have hc1d:=decide_eq_true hc1;rw [if_pos hc1] at h;refine ak (pp (Wk_seq (Ws fun Z hZ=>?_)));simp only [go_sem,seval,hc1d];refine hZ _ (pp (al (dt fun hreal3=>?_)));have hl2:=hreal3.lenT 0 (by decide) (by simp only [go_sem,seval]; rfl);first|rw [List.length_map] at hl2|rw [dy] at hl2|rw [<-List.map_append,List.length_map] at hl2
 refine dg (fun (v3:Nat) (b:Unit)=>⟨tab 26 (updT (updT (updT deadT 0 (.sl false none 1 none (a0.map (rowI .i64)))) 1 (.sl false none 1 none (a1.map (rowI .i64)))) 5 (.val (.int .i64 ((v3:Nat):Int)))),RZ⟩) () h ?_ ?_
 ·refine wr ?_ ?_<;>repeat' first|rfl|constructor
 rintro v3 ⟨⟩ hi4 h -;rcases (bq a0 v3 hi4).symm with ⟨hi4',_,hd7⟩|⟨x6,hi4',hx5,hd7⟩
 ·rw [hd7] at h;simp only [jt] at h;refine Wk_seq (Ws fun Z hZ=>?_);simp only [go_sem,seval,hi4'];refine hZ _ (pp ?_);try simp only [Int.ofNat_lt,hi4',if_true,if_false] at h
  refine bc rfl (aP (pp (Ws fun Z hZ=>?_)));simp only [go_sem,seval];refine hZ _ (pp (Wk_ret (pp ?_)));cases h;simp only [go_sem,seval];exact ⟨_,rfl,RokI.h,PureI.h⟩
 rw [hd7] at h;simp only [jt] at h;have hw6:=bu hi4' hl2;refine Wk_seq (Ws fun Z hZ=>?_);simp only [go_sem,seval,hi4'];refine hZ _ (pp ?_);try simp only [Int.ofNat_lt,hi4',if_true,if_false] at h
 refine bm rfl (ak (pp (Wk_seq (al (Wk_seq ?_)))));try rw [gx_nat hx5] at h
 obtain ⟨x1,hb8,hx9,h⟩:=aI h;try simp only [Int.toNat_natCast] at hx9
 try simp only [Int.ofNat_lt,Int.natCast_nonneg,true_and] at hb8
 refine bU fun Z hZ=>?_;simp only [go_sem,seval,hx5,hi4',hb8,hx9];refine hZ _ (by kernel_rfl) (pp (oq rfl (fun hc10=>?_) (fun hc10=>?_)))
 ·have hc10d:=decide_eq_false hc10;rw [if_neg hc10] at h;refine Ws fun Z hZ=>?_;simp only [go_sem,seval,hc10d];refine hZ _ (pp (Wk_ret (pp ?_)));cases h;simp only [go_sem,seval];exact ⟨_,rfl,RokI.h,PureI.h⟩
 have hc10d:=decide_eq_true hc10;rw [if_pos hc10] at h;refine ak (pp (ai fun Z hZ=>?_));simp only [go_sem,seval,hw6,hc10d];refine hZ _ (pp ?_);first|refine ⟨(),?_,h⟩|refine ⟨hi4',(),?_,h⟩
 refine wr ?_ ?_<;>repeat' first|rfl|constructor
def jv (N:Nat):FnS:=⟨[],true,fn2 (decL 1 (dec1 (decI .i64))) (decL 1 (dec1 (decI .i64))) fun q0 q1=>(fN N q0 q1).map fun r=>.val (.bool r),false⟩
attribute [go_sem] jv
theorem lg (N:Nat):FSOk Tryz.prog 7 (jv N):=ok2 (fun q0 q1 r h=>by
 obtain ⟨r',hr,rfl⟩:=Option.map_eq_some_iff.1 h;exact yV N q0 q1 r' hr) (fun h=>ar (aJ .i64) h) (fun h=>ar (aJ .i64) h)


noncomputable def tX (N d f:Nat):Option FnS:=glist [(18,45,je N)] d f
attribute [go_sem] tX
noncomputable def t8 (N d f:Nat):Option FnL:=llist [(10,44,eQ N)] d f
attribute [go_sem] t8
theorem zF (N:Nat) (a0:(List ah)) (a1:Int) (r:Int) (h:jM N a0 a1=some r):Con Tryz.prog 19 [] true [.sl false none 3 none (a0.map ah.row),.val (.int .i64 a1)] (.val (.int .i64 r)):=by
 refine kI (G:=(tX N)) (L:=(t8 N)) Tryz.func19 rfl (by decide) (by kernel_rfl) (gc 18 (mR N) gn) (lc 10 (gw N) ln) [] mix (Nat.le_of_ble_eq_true rfl) ?_;simp only [Tryz.f19];unfold jM at h;refine Ws fun Z hZ=>?_;simp only [go_sem,seval];refine hZ _ (pp (Wk_seq ?_));obtain ⟨r1,hr1,h⟩:=Option.bind_eq_some_iff.1 h;refine ai fun Z hZ=>?_;simp only [go_sem,seval,hr1];refine hZ _ (pp (Wk_seq (Ws fun Z hZ=>?_)));simp only [go_sem,seval];refine hZ _ (pp (bQ rfl (fun hc2=>?_) (fun hc2=>?_)))
 ·rw [if_neg (ne_true_of_eq_false hc2)] at h;refine Ws fun Z hZ=>?_;simp only [go_sem,seval,hc2];refine hZ _ (pp (Wk_ret (pp ?_)));obtain rfl:=Option.some.inj h;simp only [go_sem,seval];exact ⟨_,rfl,RokI.h,PureI.h⟩
 rw [if_pos hc2] at h;refine ak (pp (Wk_seq ?_));obtain ⟨r2,hr3,h⟩:=Option.bind_eq_some_iff.1 h;refine ai fun Z hZ=>?_;simp only [go_sem,seval,hc2,hr3];refine hZ _ (pp (Wk_ret (pp ?_)));obtain rfl:=Option.some.inj h;simp only [go_sem,seval];exact ⟨_,rfl,RokI.h,PureI.h⟩
def p7 (N:Nat):FnS:=⟨[],true,fn2 (decL 3 ah.dec) (decI .i64) fun q0 q1=>(jM N q0 q1).map fun r=>.val (.int .i64 r),false⟩
attribute [go_sem] p7
theorem vO (N:Nat):FSOk Tryz.prog 19 (p7 N):=ok2 (fun q0 q1 r h=>by
 obtain ⟨r',hr,rfl⟩:=Option.map_eq_some_iff.1 h;exact zF N q0 q1 r' hr) (fun h=>ar ah.dec_le h) (ay)


noncomputable def wn (N d f:Nat):Option FnS:=glist [(19,48,gZ N)] d f
attribute [go_sem] wn
noncomputable def wl (N d f:Nat):Option FnL:=llist [(11,44,eQ N)] d f
attribute [go_sem] wl
theorem vL (N:Nat) (a0:(List ah)) (a1:Int) (r:(List Int)) (h:km N a0 a1=some r):Con Tryz.prog 20 [] true [.sl false none 3 none (a0.map ah.row),.val (.int .i64 a1)] (.sl true none 1 none (r.map (rowI .i64))):=by
 refine kI (G:=(wn N)) (L:=(wl N)) Tryz.func20 rfl (by decide) (by kernel_rfl) (gc 19 (kY N) gn) (lc 11 (gw N) ln) [] mix (Nat.le_of_ble_eq_true rfl) ?_;simp only [Tryz.f20];unfold km at h;refine Ws fun Z hZ=>?_;simp only [go_sem,seval];refine hZ _ (pp (Wk_seq ?_));obtain ⟨r1,hr1,h⟩:=Option.bind_eq_some_iff.1 h;refine ai fun Z hZ=>?_;simp only [go_sem,seval,hr1];refine hZ _ (pp (Wk_seq (Ws fun Z hZ=>?_)));simp only [go_sem,seval];refine hZ _ (pp (bQ rfl (fun hc2=>?_) (fun hc2=>?_)))
 ·rw [if_neg (ne_true_of_eq_false hc2)] at h;refine Ws fun Z hZ=>?_;simp only [go_sem,seval,hc2];refine hZ _ (pp (Wk_ret (pp ?_)));obtain rfl:=Option.some.inj h;simp only [go_sem,seval];exact ⟨_,rfl,RokI.h,PureI.h⟩
 rw [if_pos hc2] at h;refine ak (pp (Wk_seq ?_));obtain ⟨r2,hr3,h⟩:=Option.bind_eq_some_iff.1 h;refine ai fun Z hZ=>?_;simp only [go_sem,seval,hc2,hr3];refine hZ _ (pp (Wk_seq (Ws fun Z hZ=>?_)));simp only [go_sem,seval];refine hZ _ (pp (am rfl (fun hc4=>?_) (fun hc4=>?_)))
 ·have hc4d:=decide_eq_true hc4;rw [if_pos hc4] at h;refine Ws fun Z hZ=>?_;simp only [go_sem,seval,hc4d];refine hZ _ (pp (Wk_ret (pp ?_)));obtain rfl:=Option.some.inj h;simp only [go_sem,seval];exact ⟨_,rfl,RokI.h,PureI.h⟩
 have hc4d:=decide_eq_false hc4;rw [if_neg hc4] at h;refine ak (pp (Wk_seq ?_));obtain ⟨x3,hb5,hx6,h⟩:=aI h;first|obtain ⟨ha7,h⟩:=rW h|(obtain ⟨ha7,h⟩:=bk h; rw [List.nil_append] at h)
 simp only [Nat.reduceAdd] at ha7;refine ai fun Z hZ=>?_;simp only [go_sem,seval,hc4d,hb5,hx6,ha7];refine hZ _ (pp (Wk_ret (pp ?_)));obtain rfl:=Option.some.inj h;simp only [go_sem,seval];exact ⟨_,rfl,RokI.h,PureI.h⟩
def rb (N:Nat):FnS:=⟨[],true,fn2 (decL 3 ah.dec) (decI .i64) fun q0 q1=>(km N q0 q1).map fun r=>.sl false none 1 none (r.map (rowI .i64)),false⟩
attribute [go_sem] rb
theorem yn (N:Nat):FSOk Tryz.prog 20 (rb N):=ok2 (fun q0 q1 r h=>by
 obtain ⟨r',hr,rfl⟩:=Option.map_eq_some_iff.1 h;exact (vL N q0 q1 r' hr).res (by (try simp only [go_sem]); exact RokI.h)) (fun h=>ar ah.dec_le h) (ay)

def uk (N:Nat):FnS:=⟨[],true,fn2 (decL 3 ah.dec) (decI .i64) fun q0 q1=>(km N q0 q1).map fun r=>.sl true none 1 none (r.map (rowI .i64)),false⟩
attribute [go_sem] uk
theorem Et (N:Nat):FSOk Tryz.prog 20 (uk N):=ok2 (fun q0 q1 r h=>by
 obtain ⟨r',hr,rfl⟩:=Option.map_eq_some_iff.1 h;exact vL N q0 q1 r' hr) (fun h=>ar ah.dec_le h) (ay)


noncomputable def qb (N d f:Nat):Option FnL:=llist [(8,44,eQ N)] d f
attribute [go_sem] qb
theorem qj (N:Nat) (a0:(List ah)) (r:(List ae)) (h:ei N a0=some r):Con Tryz.prog 22 [] true [.sl false none 3 none (a0.map ah.row)] (.sl true none 2 none (r.map ae.row)):=by
 refine kI (G:=(glist [])) (L:=(qb N)) Tryz.func22 rfl (by decide) (by kernel_rfl) gn (lc 8 (gw N) ln) [] mix (Nat.le_of_ble_eq_true rfl) ?_;simp only [Tryz.f22];unfold ei at h;refine Ws fun Z hZ=>?_;simp only [go_sem,seval];refine hZ _ (pp (Wk_seq ?_));obtain ⟨r1,hr1,h⟩:=Option.bind_eq_some_iff.1 h;refine ai fun Z hZ=>?_;simp only [go_sem,seval,hr1];refine hZ _ (pp (Wk_seq (Ws fun Z hZ=>?_)));simp only [go_sem,seval];refine hZ _ (pp (bQ rfl (fun hc2=>?_) (fun hc2=>?_)))
 ·rw [if_neg (ne_true_of_eq_false hc2)] at h;refine Ws fun Z hZ=>?_;simp only [go_sem,seval,hc2];refine hZ _ (pp (Wk_ret (pp ?_)));obtain rfl:=Option.some.inj h;simp only [go_sem,seval];exact ⟨_,rfl,RokI.h,PureI.h⟩
 rw [if_pos hc2] at h;refine ak (pp (Ws fun Z hZ=>?_));simp only [go_sem,seval,hc2];refine hZ _ (pp (Wk_ret (pp ?_)));obtain rfl:=Option.some.inj h;simp only [go_sem,seval];exact ⟨_,rfl,RokI.h,PureI.h⟩
def mt (N:Nat):FnS:=⟨[],true,fn1 (decL 3 ah.dec) fun q0=>(ei N q0).map fun r=>.sl false none 2 none (r.map ae.row),false⟩
attribute [go_sem] mt
theorem sa (N:Nat):FSOk Tryz.prog 22 (mt N):=ok1 (fun q0 r h=>by
 obtain ⟨r',hr,rfl⟩:=Option.map_eq_some_iff.1 h;exact (qj N q0 r' hr).res (by (try simp only [go_sem]); exact RokI.h)) (fun h=>ar ah.dec_le h)

def pb (N:Nat):FnS:=⟨[],true,fn1 (decL 3 ah.dec) fun q0=>(ei N q0).map fun r=>.sl true none 2 none (r.map ae.row),false⟩
attribute [go_sem] pb
theorem AG (N:Nat):FSOk Tryz.prog 22 (pb N):=ok1 (fun q0 r h=>by
 obtain ⟨r',hr,rfl⟩:=Option.map_eq_some_iff.1 h;exact qj N q0 r' hr) (fun h=>ar ah.dec_le h)


theorem wN (N:Nat) (a0:(List ae)) (a1:(List ae)) (r:Bool) (h:iN N a0 a1=some r):Con Tryz.prog 21 [] true [.sl false none 2 none (a0.map ae.row),.sl false none 2 none (a1.map ae.row)] (.val (.bool r)):=by
 refine aV (G:=(glist [])) Tryz.func21 rfl (by decide) (by kernel_rfl) gn [] mix (Nat.le_of_ble_eq_true rfl) ?_;simp only [Tryz.f21];unfold iN at h;refine Ws fun Z hZ=>?_;simp only [go_sem,seval];refine hZ _ (pp (Wk_seq (Ws fun Z hZ=>?_)));simp only [go_sem,seval];refine hZ _ (pp (oq rfl (fun hc1=>?_) (fun hc1=>?_)))
 ·have hc1d:=decide_eq_false hc1;rw [if_neg hc1] at h;refine Ws fun Z hZ=>?_;simp only [go_sem,seval,hc1d];refine hZ _ (pp (Wk_ret (pp ?_)));cases h;simp only [go_sem,seval];exact ⟨_,rfl,RokI.h,PureI.h⟩
 have hc1d:=decide_eq_true hc1;rw [if_pos hc1] at h;refine ak (pp (Wk_seq (Ws fun Z hZ=>?_)));simp only [go_sem,seval,hc1d];refine hZ _ (pp (al (dt fun hreal3=>?_)));have hl2:=hreal3.lenT 0 (by decide) (by simp only [go_sem,seval]; rfl);first|rw [List.length_map] at hl2|rw [dy] at hl2|rw [<-List.map_append,List.length_map] at hl2
 refine dg (fun (v3:Nat) (b:Unit)=>⟨tab 26 (updT (updT (updT deadT 0 (.sl false none 2 none (a0.map ae.row))) 1 (.sl false none 2 none (a1.map ae.row))) 5 (.val (.int .i64 ((v3:Nat):Int)))),RZ⟩) () h ?_ ?_
 ·refine wr ?_ ?_<;>repeat' first|rfl|constructor
 rintro v3 ⟨⟩ hi4 h -;rcases (bq a0 v3 hi4).symm with ⟨hi4',_,hd7⟩|⟨x6,hi4',hx5,hd7⟩
 ·rw [hd7] at h;simp only [gU] at h;refine Wk_seq (Ws fun Z hZ=>?_);simp only [go_sem,seval,hi4'];refine hZ _ (pp ?_);try simp only [Int.ofNat_lt,hi4',if_true,if_false] at h
  refine bc rfl (aP (pp (Ws fun Z hZ=>?_)));simp only [go_sem,seval];refine hZ _ (pp (Wk_ret (pp ?_)));cases h;simp only [go_sem,seval];exact ⟨_,rfl,RokI.h,PureI.h⟩
 rw [hd7] at h;simp only [gU] at h;have hw6:=bu hi4' hl2;refine Wk_seq (Ws fun Z hZ=>?_);simp only [go_sem,seval,hi4'];refine hZ _ (pp ?_);try simp only [Int.ofNat_lt,hi4',if_true,if_false] at h
 refine bm rfl (ak (pp (Wk_seq (al (Wk_seq ?_)))));try rw [gx_nat hx5] at h
 obtain ⟨x1,hb8,hx9,h⟩:=aI h;try simp only [Int.toNat_natCast] at hx9
 try simp only [Int.ofNat_lt,Int.natCast_nonneg,true_and] at hb8
 refine bU fun Z hZ=>?_;simp only [go_sem,seval,hx5,hi4',hb8,hx9];refine hZ _ (by kernel_rfl) (pp (bQ rfl (fun hc10=>?_) (fun hc10=>?_)))
 ·rw [if_neg (ne_true_of_eq_false hc10)] at h;refine Ws fun Z hZ=>?_;simp only [go_sem,seval,hc10];refine hZ _ (pp (Wk_ret (pp ?_)));cases h;simp only [go_sem,seval];exact ⟨_,rfl,RokI.h,PureI.h⟩
 rw [if_pos hc10] at h;refine ak (pp (ai fun Z hZ=>?_));simp only [go_sem,seval,hw6,hc10];refine hZ _ (pp ?_);first|refine ⟨(),?_,h⟩|refine ⟨hi4',(),?_,h⟩
 refine wr ?_ ?_<;>repeat' first|rfl|constructor
def oC (N:Nat):FnS:=⟨[],true,fn2 (decL 2 ae.dec) (decL 2 ae.dec) fun q0 q1=>(iN N q0 q1).map fun r=>.val (.bool r),false⟩
attribute [go_sem] oC
theorem tR (N:Nat):FSOk Tryz.prog 21 (oC N):=ok2 (fun q0 q1 r h=>by
 obtain ⟨r',hr,rfl⟩:=Option.map_eq_some_iff.1 h;exact wN N q0 q1 r' hr) (fun h=>ar ae.dec_le h) (fun h=>ar ae.dec_le h)


noncomputable def vv (N d f:Nat):Option FnL:=llist [(8,44,eQ N)] d f
attribute [go_sem] vv
theorem vl (N:Nat) (a0:(List ah)) (r:(List Int)) (h:jG N a0=some r):Con Tryz.prog 23 [] true [.sl false none 3 none (a0.map ah.row)] (.sl true none 1 none (r.map (rowI .i64))):=by
 refine kI (G:=(glist [])) (L:=(vv N)) Tryz.func23 rfl (by decide) (by kernel_rfl) gn (lc 8 (gw N) ln) [] mix (Nat.le_of_ble_eq_true rfl) ?_;simp only [Tryz.f23];unfold jG at h;refine Ws fun Z hZ=>?_;simp only [go_sem,seval];refine hZ _ (pp (Wk_seq ?_));obtain ⟨r1,hr1,h⟩:=Option.bind_eq_some_iff.1 h;refine ai fun Z hZ=>?_;simp only [go_sem,seval,hr1];refine hZ _ (pp (Wk_seq (Ws fun Z hZ=>?_)));simp only [go_sem,seval];refine hZ _ (pp (bQ rfl (fun hc2=>?_) (fun hc2=>?_)))
 ·rw [if_neg (ne_true_of_eq_false hc2)] at h;refine Ws fun Z hZ=>?_;simp only [go_sem,seval,hc2];refine hZ _ (pp (Wk_ret (pp ?_)));obtain rfl:=Option.some.inj h;simp only [go_sem,seval];exact ⟨_,rfl,RokI.h,PureI.h⟩
 rw [if_pos hc2] at h;refine ak (pp (Ws fun Z hZ=>?_));simp only [go_sem,seval,hc2];refine hZ _ (pp (Wk_ret (pp ?_)));obtain rfl:=Option.some.inj h;simp only [go_sem,seval];exact ⟨_,rfl,RokI.h,PureI.h⟩
def qC (N:Nat):FnS:=⟨[],true,fn1 (decL 3 ah.dec) fun q0=>(jG N q0).map fun r=>.sl false none 1 none (r.map (rowI .i64)),false⟩
attribute [go_sem] qC
theorem wK (N:Nat):FSOk Tryz.prog 23 (qC N):=ok1 (fun q0 r h=>by
 obtain ⟨r',hr,rfl⟩:=Option.map_eq_some_iff.1 h;exact (vl N q0 r' hr).res (by (try simp only [go_sem]); exact RokI.h)) (fun h=>ar ah.dec_le h)

def sW (N:Nat):FnS:=⟨[],true,fn1 (decL 3 ah.dec) fun q0=>(jG N q0).map fun r=>.sl true none 1 none (r.map (rowI .i64)),false⟩
attribute [go_sem] sW
theorem DS (N:Nat):FSOk Tryz.prog 23 (sW N):=ok1 (fun q0 r h=>by
 obtain ⟨r',hr,rfl⟩:=Option.map_eq_some_iff.1 h;exact vl N q0 r' hr) (fun h=>ar ah.dec_le h)


noncomputable def vh (N d f:Nat):Option FnS:=glist [(17,15,ld N),(22,17,qF N),(27,14,lY N),(32,18,pA N),(46,7,jv N),(52,7,jv N),(57,12,i0 N),(60,19,p7 N),(65,13,mF N),(68,20,rb N),(69,7,jv N),(73,11,jg N),(75,22,mt N),(76,21,oC N),(80,16,mD N),(82,23,qC N),(83,7,jv N)] d f
attribute [go_sem] vh
theorem Az (N:Nat) (a0:(List ah)) (a1:Int) (a2:Int) (r:Bool) (h:l8 N a0 a1 a2=some r):Con Tryz.prog 6 [] true [.sl false none 3 none (a0.map ah.row),.val (.int .i64 a1),.val (.int .i64 a2)] (.val (.bool r)):=by
 refine aV (G:=(vh N)) Tryz.func6 rfl (by decide) (by kernel_rfl) (gc 17 (m3 N) (gc 22 (wO N) (gc 27 (pN N) (gc 32 (vE N) (gc 46 (lg N) (gc 52 (lg N) (gc 57 (kw N) (gc 60 (vO N) (gc 65 (qr N) (gc 68 (yn N) (gc 69 (lg N) (gc 73 (mM N) (gc 75 (sa N) (gc 76 (tR N) (gc 80 (qo N) (gc 82 (wK N) (gc 83 (lg N) gn))))))))))))))))) [] mix (Nat.le_of_ble_eq_true rfl) ?_;simp only [Tryz.f6];unfold l8 at h;refine Ws fun Z hZ=>?_;simp only [go_sem,seval];refine hZ _ (pp (Wk_seq ?_));obtain ⟨r1,hr1,h⟩:=Option.bind_eq_some_iff.1 h;refine ai fun Z hZ=>?_;simp only [go_sem,seval,hr1];refine hZ _ (pp (Wk_seq ?_));obtain ⟨r2,hr2,h⟩:=Option.bind_eq_some_iff.1 h;refine ai fun Z hZ=>?_;simp only [go_sem,seval,hr2];refine hZ _ (pp (Wk_seq ?_));obtain ⟨r3,hr3,h⟩:=Option.bind_eq_some_iff.1 h;refine ai fun Z hZ=>?_;simp only [go_sem,seval,hr3];refine hZ _ (pp (Wk_seq ?_));obtain ⟨r4,hr4,h⟩:=Option.bind_eq_some_iff.1 h;refine ai fun Z hZ=>?_;simp only [go_sem,seval,hr4];refine hZ _ (pp (Wk_seq ?_));apply bS (fun (c11:Bool)=>⟨tab 85 (updT (updT (updT (updT deadT 0 (.sl false none 3 none (a0.map ah.row))) 1 (.val (.int .i64 a1))) 2 (.val (.int .i64 a2))) 54 (.val (.bool c11))),RZ⟩)
 ·intro hJ5;refine ai fun Z hZ=>?_;simp only [go_sem,seval];refine jb rfl (fun hc6=>?_) (fun hc6=>?_)
  ·have hc6d:=decide_eq_false hc6;rw [if_neg hc6] at h;simp only [go_sem,seval,hc6d];refine hZ _ (pp (hJ5 _ true ?_ h));refine wr ?_ ?_<;>repeat' first|rfl|constructor
  have hc6d:=decide_eq_true hc6;rw [if_pos hc6] at h;simp only [go_sem,seval,hc6d];refine jb rfl (fun hc7=>?_) (fun hc7=>?_)
  ·have hc7d:=decide_eq_false hc7;rw [if_neg hc7] at h;simp only [go_sem,seval,hc7d];refine hZ _ (pp (hJ5 _ true ?_ h));refine wr ?_ ?_<;>repeat' first|rfl|constructor
  have hc7d:=decide_eq_true hc7;rw [if_pos hc7] at h;obtain ⟨r12,hr8,h⟩:=Option.bind_eq_some_iff.1 h;simp only [go_sem,seval,hc7d,hr8];refine eY rfl (fun hc9=>?_) (fun hc9=>?_)
  ·rw [if_neg (ne_true_of_eq_false hc9)] at h;simp only [go_sem,seval,hc9];refine hZ _ (pp (hJ5 _ true ?_ h));refine wr ?_ ?_<;>repeat' first|rfl|constructor
  rw [if_pos hc9] at h;obtain ⟨r13,hr10,h⟩:=Option.bind_eq_some_iff.1 h;simp only [go_sem,seval,hc9,hr10];refine hZ _ (pp (hJ5 _ (!r13) ?_ h));refine wr ?_ ?_<;>repeat' first|rfl|constructor
 intro c11 h;unfold jn at h;refine au rfl (fun hc11=>?_) (fun hc11=>?_)
 ·rw [if_pos hc11] at h;refine Ws fun Z hZ=>?_;simp only [go_sem,seval,hc11];refine hZ _ (pp (Wk_ret (pp ?_)));cases h;simp only [go_sem,seval];exact ⟨_,rfl,RokI.h,PureI.h⟩
 rw [if_neg (ne_true_of_eq_false hc11)] at h;refine ak (pp ?_);unfold js at h;refine Wk_seq ?_;obtain ⟨r14,hr12,h⟩:=Option.bind_eq_some_iff.1 h;obtain ⟨r15,hr13,h⟩:=Option.bind_eq_some_iff.1 h;refine ai fun Z hZ=>?_;simp only [go_sem,seval,hc11,hr12,hr13];refine sw (bF rfl) (fun hc14=>?_) (fun hc14=>?_)
 ·have hc14d:=decide_eq_false hc14;rw [if_neg hc14] at h;simp only [go_sem,seval,hc14d];refine hZ _ (pp (Wk_ret (pp ?_)));cases h;simp only [go_sem,seval];exact ⟨_,rfl,RokI.h,PureI.h⟩
 have hc14d:=decide_eq_true hc14;rw [if_pos hc14] at h;obtain ⟨r16,hr15,h⟩:=Option.bind_eq_some_iff.1 h;obtain ⟨r17,hr16,h⟩:=Option.bind_eq_some_iff.1 h;obtain ⟨r18,hr17,h⟩:=Option.bind_eq_some_iff.1 h;simp only [go_sem,seval,hc14d,hr15,hr16,hr17];refine sw (bR rfl) (fun hc18=>?_) (fun hc18=>?_)
 ·rw [if_neg (ne_true_of_eq_false hc18)] at h;simp only [go_sem,seval,hc18];refine hZ _ (pp (Wk_ret (pp ?_)));cases h;simp only [go_sem,seval];exact ⟨_,rfl,RokI.h,PureI.h⟩
 rw [if_pos hc18] at h;obtain ⟨r19,hr19,h⟩:=Option.bind_eq_some_iff.1 h;obtain ⟨r20,hr20,h⟩:=Option.bind_eq_some_iff.1 h;obtain ⟨r21,hr21,h⟩:=Option.bind_eq_some_iff.1 h;simp only [go_sem,seval,hc18,hr19,hr20,hr21];refine bR rfl (fun hc22=>?_) (fun hc22=>?_)
 ·rw [if_pos hc22] at h;obtain ⟨r22,hr23,h⟩:=Option.bind_eq_some_iff.1 h;obtain ⟨r23,hr24,h⟩:=Option.bind_eq_some_iff.1 h;obtain ⟨r24,hr25,h⟩:=Option.bind_eq_some_iff.1 h;simp only [go_sem,seval,hc22,hr23,hr24,hr25];refine hZ _ (pp (Wk_ret (pp ?_)));cases h;simp only [go_sem,seval];exact ⟨_,rfl,RokI.h,PureI.h⟩
 rw [if_neg (ne_true_of_eq_false hc22)] at h;simp only [go_sem,seval,hc22];refine hZ _ (pp (Wk_ret (pp ?_)));cases h;simp only [go_sem,seval];exact ⟨_,rfl,RokI.h,PureI.h⟩
noncomputable def oJ (N:Nat):FnS:=⟨[],true,fn3 (decL 3 ah.dec) (decI .i64) (decI .i64) fun q0 q1 q2=>(l8 N q0 q1 q2).map fun r=>.val (.bool r),false⟩
attribute [go_sem] oJ
theorem rt (N:Nat):FSOk Tryz.prog 6 (oJ N):=ok3 (fun q0 q1 q2 r h=>by
 obtain ⟨r',hr,rfl⟩:=Option.map_eq_some_iff.1 h;exact Az N q0 q1 q2 r' hr) (fun h=>ar ah.dec_le h) (ay) (ay)


noncomputable def oe (N d f:Nat):Option FnS:=glist [(6,5,oO N),(12,10,o4 N),(20,6,oJ N),(43,6,oJ N)] d f
attribute [go_sem] oe
theorem og (N:Nat) (a0:(List aj)) (a1:Int) (r:Bool) (h:eX N a0 a1=some r):Con Tryz.prog 4 [] true [.sl false none 3 none (a0.map aj.row),.val (.int .u8 a1)] (.val (.bool r)):=by
 refine aV (G:=(oe N)) Tryz.func4 rfl (by decide) (by kernel_rfl) (gc 6 (wR N) (gc 12 (uS N) (gc 20 (rt N) (gc 43 (rt N) gn)))) [] mix (Nat.le_of_ble_eq_true rfl) ?_;simp only [Tryz.f4];unfold eX at h;refine Ws fun Z hZ=>?_;simp only [go_sem,seval];refine hZ _ (pp (Wk_seq (Wk_seq ?_)));obtain ⟨r1,hr1,h⟩:=Option.bind_eq_some_iff.1 h;refine ai fun Z hZ=>?_;simp only [go_sem,seval,hr1];refine hZ _ (pp (bQ rfl (fun hc2=>?_) (fun hc2=>?_)))
 ·rw [if_neg (ne_true_of_eq_false hc2)] at h;refine Ws fun Z hZ=>?_;simp only [go_sem,seval,hc2];refine hZ _ (pp (Wk_ret (pp ?_)));cases h;simp only [go_sem,seval];exact ⟨_,rfl,RokI.h,PureI.h⟩
 rw [if_pos hc2] at h;refine ak (pp (Wk_seq (Ws fun Z hZ=>?_)));simp only [go_sem,seval,hc2];refine hZ _ (pp (am rfl (fun hc3=>?_) (fun hc3=>?_)))
 ·have hc3d:=decide_eq_true hc3;rw [if_pos hc3] at h;refine Ws fun Z hZ=>?_;simp only [go_sem,seval,hc3d];refine hZ _ (pp (Wk_ret (pp ?_)));cases h;simp only [go_sem,seval];exact ⟨_,rfl,RokI.h,PureI.h⟩
 have hc3d:=decide_eq_false hc3;rw [if_neg hc3] at h;refine ak (pp (Wk_seq ?_));obtain ⟨r2,hr4,h⟩:=Option.bind_eq_some_iff.1 h;refine ai fun Z hZ=>?_;simp only [go_sem,seval,hc3d,hr4];refine hZ _ (pp (Wk_seq (Wk_seq ?_)));obtain ⟨r3,hr5,h⟩:=Option.bind_eq_some_iff.1 h;refine ai fun Z hZ=>?_;simp only [go_sem,seval,hr5];refine hZ _ (pp (bQ rfl (fun hc6=>?_) (fun hc6=>?_)))
 ·rw [if_neg (ne_true_of_eq_false hc6)] at h;refine Ws fun Z hZ=>?_;simp only [go_sem,seval,hc6];refine hZ _ (pp (Wk_ret (pp ?_)));cases h;simp only [go_sem,seval];exact ⟨_,rfl,RokI.h,PureI.h⟩
 rw [if_pos hc6] at h;refine ak (pp ?_);apply bS (fun (l5:List ah)=>⟨tab 44 (updT (updT deadT 1 (.val (.int .u8 a1))) 5 (.pal 12 [] 0 l5.length none)),(upd RZ 12 (.sl true none 3 none (l5.map ah.row)))⟩)
 ·intro hJ7;refine Ws fun Z hZ=>?_;simp only [go_sem,seval,hc6];refine hZ _ (pp (sw (am rfl) (fun hc8=>?_) (fun hc8=>?_)))
  ·have hc8d:=decide_eq_false hc8;rw [if_neg hc8] at h;refine ak (pp (hJ7 _ r2 ?_ h));refine wr ?_ ?_<;>repeat' first|rfl|constructor|simp only [go_sem,seval,Bool.or_self,List.length_set,Int.natCast_zero,Int.cast_ofNat_Int,hr1,hc2,hc3d,hr4,hr5,hc6,hc8d]
  have hc8d:=decide_eq_true hc8;rw [if_pos hc8] at h;obtain ⟨hd9,h⟩:=ED h;obtain ⟨x6,hb10,hx11,h⟩:=aI h;have hx13:=rO (y:=(ah.mk (IntKind.i64.wrap (Int.tmod a1 6)) x6.Txn x6.Actor)) hx11;refine ai fun Z hZ=>?_;simp only [go_sem,seval,hc8d,hd9,hb10,hx11,mV (row:=ah.row) (y:=(ah.mk (IntKind.i64.wrap (Int.tmod a1 6)) x6.Txn x6.Actor)) (rx:=[.val (.int .i64 x6.Kind),.val (.int .i64 x6.Txn),.val (.int .i64 x6.Actor)]) (ry:=[.val (.int .i64 (IntKind.i64.wrap (Int.tmod a1 6))),.val (.int .i64 x6.Txn),.val (.int .i64 x6.Actor)]) hx11 rfl rfl];refine hZ _ (pp (hJ7 _ (r2.set ((Int.tmod (IntKind.i64.wrap a1) ((r2.length:Nat):Int)).toNat) (ah.mk (IntKind.i64.wrap (Int.tmod a1 6)) x6.Txn x6.Actor)) ?_ h));refine wr ?_ ?_<;>repeat' first|rfl|constructor|simp only [go_sem,seval,List.length_set]
 intro l5 h;unfold fq at h;refine Wk_seq ?_;obtain ⟨r7,hr14,h⟩:=Option.bind_eq_some_iff.1 h;refine ai fun Z hZ=>?_;simp only [go_sem,seval,hr14];refine hZ _ (pp (Wk_ret (pp ?_)));cases h;simp only [go_sem,seval];exact ⟨_,rfl,RokI.h,PureI.h⟩
noncomputable def m4 (N:Nat):FnS:=⟨[],true,fn2 (decL 3 aj.dec) (decI .u8) fun q0 q1=>(eX N q0 q1).map fun r=>.val (.bool r),false⟩
attribute [go_sem] m4
theorem zy (N:Nat):FSOk Tryz.prog 4 (m4 N):=ok2 (fun q0 q1 r h=>by
 obtain ⟨r',hr,rfl⟩:=Option.map_eq_some_iff.1 h;exact og N q0 q1 r' hr) (fun h=>ar aj.dec_le h) (ay)

end Go.Proofs.YtekgpnhfhkhpaaaGreat
