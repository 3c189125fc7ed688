/- Walks: each function computes its model. No condition. -/
import Derived.Test.YtekgpnhfhkhpaaaB
import Derived.Test.YtekgpnhfhkhpaaaWA
/- Each Go function computes its model: proofs laid by a program of ours. -/
set_option maxHeartbeats 40000000
set_option synthInstance.maxHeartbeats 2000000
set_option synthInstance.maxSize 4000
set_option linter.unusedSimpArgs false
set_option linter.unusedVariables false
set_option maxRecDepth 100000
namespace Go.Proofs.Ytekgpnhfhkhpaaa
open Go Go.Proofs Go.Abs
noncomputable def G_law33_awake (N d f : Nat) : Option FnS := glist [(13, 9, fs_cascade_Dependencies N), (26, 12, fs_cascade_Status N), (31, 12, fs_cascade_Status N), (36, 17, fs_cascade_Stack N), (42, 13, fs_cascade_Outcome N), (67, 14, fs_cascade_Check N), (75, 11, fs_cascade_Closure N), (83, 15, fs_cascade_Order N), (98, 12, fs_cascade_Status N)] d f
attribute [go_sem] G_law33_awake
theorem w_law33_awake (N : Nat)  (r : Bool) (h : law33_awake N  = some r) : Con Try.prog 8 [] true [] (.val (.bool r)) := by
 refine fun_ok4 (G := (G_law33_awake N)) Try.func8 rfl (by decide) (by kernel_rfl) (gc 13 (fs_cascade_Dependencies_ok N) (gc 26 (fs_cascade_Status_ok N) (gc 31 (fs_cascade_Status_ok N) (gc 36 (fs_cascade_Stack_ok N) (gc 42 (fs_cascade_Outcome_ok N) (gc 67 (fs_cascade_Check_ok N) (gc 75 (fs_cascade_Closure_ok N) (gc 83 (fs_cascade_Order_ok N) (gc 98 (fs_cascade_Status_ok N) gn))))))))) [(11, true), (82, true), (97, true)] mix (Nat.le_of_ble_eq_true rfl) ?_
 simp only [Try.f8]
 unfold law33_awake at h
 refine Ws fun Z hZ => ?_
 simp (config := { maxSteps := 4000000 }) only [go_sem, seval]
 refine hZ _ (pp (Ws fun Z hZ => ?_))
 simp (config := { maxSteps := 4000000 }) only [go_sem, seval]
 refine hZ _ (pp (Wk_seq ?_))
 obtain ⟨r1, hr1, h⟩ := Option.bind_eq_some_iff.1 h
 refine Wk_regionZ fun Z hZ => ?_
 simp (config := { maxSteps := 4000000 }) only [go_sem, seval, hr1]
 refine hZ _ (pp (Wk_seq ?_))
 apply Wk_join1 (fun (c12 : Bool) => ⟨tab 101 (updT (updT (updT deadT 1 (.sl false none 3 (some 3) ([(TxnEvent.mk 1 1 1), (TxnEvent.mk 2 1 1), (TxnEvent.mk 1 2 1)].map TxnEvent.row))) 2 (.sl false none 2 none (r1.map Arr2_i64.row))) 39 (.val (.bool c12))), RZ⟩)
 ·intro hJ2
  refine Wk_regionZ fun Z hZ => ?_
  simp (config := { maxSteps := 4000000 }) only [go_sem, seval]
  refine RX_guard_ndec rfl (fun hc3 => ?_) (fun hc3 => ?_)
  ·have hc3d := decide_eq_false hc3
   first | rw [if_neg hc3] at h | rw [if_neg (ne_true_of_eq_false hc3d)] at h | simp only [hc3d, Bool.not_true, Bool.not_false, Bool.false_eq_true, if_true, if_false] at h
   simp (config := { maxSteps := 4000000 }) only [go_sem, seval, hc3d]
   refine hZ _ (pp (hJ2 _ true ?_ h))
   refine wr ?_ ?_ <;> repeat' first | rfl | constructor | simp only [go_sem, seval, Bool.or_self, List.length_set, Int.natCast_zero, Int.cast_ofNat_Int, hr1, hc3d]
  have hc3d := decide_eq_true hc3
  first | rw [if_pos hc3] at h | rw [if_pos hc3d] at h | simp only [hc3d, Bool.not_true, Bool.not_false, Bool.false_eq_true, if_true, if_false] at h
  obtain ⟨x13, hb4, hx5, h⟩ := gx_some h
  try simp only [Int.toNat_zero] at hx5
  try simp only [Int.ofNat_lt, Int.natCast_nonneg, true_and] at hb4
  simp (config := { maxSteps := 4000000 }) only [go_sem, seval, hc3d, hb4, hx5]
  refine RX_guard_nbool rfl (fun hc6 => ?_) (fun hc6 => ?_)
  ·first | rw [if_neg (ne_true_of_eq_false hc6)] at h | simp only [hc6, Bool.or_false, Bool.or_true, Bool.false_or, Bool.true_or, Bool.and_true, Bool.true_and, Bool.and_false, Bool.false_and, Bool.not_true, Bool.not_false, Bool.false_eq_true, if_true, if_false] at h
   simp (config := { maxSteps := 4000000 }) only [go_sem, seval, hc6]
   refine hZ _ (pp (hJ2 _ true ?_ h))
   refine wr ?_ ?_ <;> repeat' first | rfl | constructor | simp only [go_sem, seval, Bool.or_self, List.length_set, Int.natCast_zero, Int.cast_ofNat_Int, hr1, hc3d, hb4, hx5, hc6]
  first | rw [if_pos hc6] at h | simp only [hc6, Bool.or_false, Bool.or_true, Bool.false_or, Bool.true_or, Bool.and_true, Bool.true_and, Bool.and_false, Bool.false_and, Bool.not_true, Bool.not_false, Bool.false_eq_true, if_true, if_false] at h
  obtain ⟨r14, hr7, h⟩ := Option.bind_eq_some_iff.1 h
  simp (config := { maxSteps := 4000000 }) only [go_sem, seval, hc6, hr7]
  refine RX_guard_ndec rfl (fun hc8 => ?_) (fun hc8 => ?_)
  ·have hc8d := decide_eq_false hc8
   first | rw [if_neg hc8] at h | rw [if_neg (ne_true_of_eq_false hc8d)] at h | simp only [hc8d, Bool.not_true, Bool.not_false, Bool.false_eq_true, if_true, if_false] at h
   simp (config := { maxSteps := 4000000 }) only [go_sem, seval, hc8d]
   refine hZ _ (pp (hJ2 _ true ?_ h))
   refine wr ?_ ?_ <;> repeat' first | rfl | constructor | simp only [go_sem, seval, Bool.or_self, List.length_set, Int.natCast_zero, Int.cast_ofNat_Int, hr1, hc3d, hb4, hx5, hc6, hr7, hc8d]
  have hc8d := decide_eq_true hc8
  first | rw [if_pos hc8] at h | rw [if_pos hc8d] at h | simp only [hc8d, Bool.not_true, Bool.not_false, Bool.false_eq_true, if_true, if_false] at h
  obtain ⟨r15, hr9, h⟩ := Option.bind_eq_some_iff.1 h
  simp (config := { maxSteps := 4000000 }) only [go_sem, seval, hc8d, hr9]
  refine RX_guard_ndec rfl (fun hc10 => ?_) (fun hc10 => ?_)
  ·have hc10d := decide_eq_false hc10
   first | rw [if_neg hc10] at h | rw [if_neg (ne_true_of_eq_false hc10d)] at h | simp only [hc10d, Bool.not_true, Bool.not_false, Bool.false_eq_true, if_true, if_false] at h
   simp (config := { maxSteps := 4000000 }) only [go_sem, seval, hc10d]
   refine hZ _ (pp (hJ2 _ true ?_ h))
   refine wr ?_ ?_ <;> repeat' first | rfl | constructor | simp only [go_sem, seval, Bool.or_self, List.length_set, Int.natCast_zero, Int.cast_ofNat_Int, hr1, hc3d, hb4, hx5, hc6, hr7, hc8d, hr9, hc10d]
  have hc10d := decide_eq_true hc10
  first | rw [if_pos hc10] at h | rw [if_pos hc10d] at h | simp only [hc10d, Bool.not_true, Bool.not_false, Bool.false_eq_true, if_true, if_false] at h
  obtain ⟨r16, hr11, h⟩ := Option.bind_eq_some_iff.1 h
  simp (config := { maxSteps := 4000000 }) only [go_sem, seval, hc10d, hr11]
  refine hZ _ (pp (hJ2 _ (!decide (((r16.length : Nat) : Int) = 2)) ?_ h))
  refine wr ?_ ?_ <;> repeat' first | rfl | constructor | simp only [go_sem, seval, Bool.or_self, List.length_set, Int.natCast_zero, Int.cast_ofNat_Int, hr1, hc3d, hb4, hx5, hc6, hr7, hc8d, hr9, hc10d, hr11]
 intro c12 h
 unfold law33_awake_J1 at h
 refine Wk_cond_bool rfl (fun hc12 => ?_) (fun hc12 => ?_)
 ·first | rw [if_pos hc12] at h | simp only [hc12, Bool.or_false, Bool.or_true, Bool.false_or, Bool.true_or, Bool.and_true, Bool.true_and, Bool.and_false, Bool.false_and, Bool.not_true, Bool.not_false, Bool.false_eq_true, if_true, if_false] at h
  refine Ws fun Z hZ => ?_
  simp (config := { maxSteps := 4000000 }) only [go_sem, seval, hc12]
  refine hZ _ (pp (Wk_ret (pp ?_)))
  cases h
  simp (config := { maxSteps := 4000000 }) only [go_sem, seval]
  exact ⟨_, rfl, (by exact ROk.refl _), (by repeat' (first | exact PureC.val _ | refine PureC.tup ?_ | refine PureC.agg ?_ | exact pure_nil | refine pure_cons ?_ ?_))⟩
 first | rw [if_neg (ne_true_of_eq_false hc12)] at h | simp only [hc12, Bool.or_false, Bool.or_true, Bool.false_or, Bool.true_or, Bool.and_true, Bool.true_and, Bool.and_false, Bool.false_and, Bool.not_true, Bool.not_false, Bool.false_eq_true, if_true, if_false] at h
 refine Wk_skip (pp ?_)
 unfold law33_awake_J6 at h
 refine Wk_seq ?_
 obtain ⟨r17, hr13, h⟩ := Option.bind_eq_some_iff.1 h
 refine Wk_regionZ fun Z hZ => ?_
 simp (config := { maxSteps := 4000000 }) only [go_sem, seval, hc12, hr13]
 refine hZ _ (pp (Wk_seq ?_))
 apply Wk_join1 (fun (c24 : Bool) => ⟨tab 101 (updT (updT (updT deadT 1 (.sl false none 3 (some 3) ([(TxnEvent.mk 1 1 1), (TxnEvent.mk 2 1 1), (TxnEvent.mk 1 2 1)].map TxnEvent.row))) 2 (.sl false none 2 none (r1.map Arr2_i64.row))) 64 (.val (.bool c24))), RZ⟩)
 ·intro hJ14
  refine Wk_regionZ fun Z hZ => ?_
  simp (config := { maxSteps := 4000000 }) only [go_sem, seval]
  refine RX_guard_ndec rfl (fun hc15 => ?_) (fun hc15 => ?_)
  ·have hc15d := decide_eq_false hc15
   first | rw [if_neg hc15] at h | rw [if_neg (ne_true_of_eq_false hc15d)] at h | simp only [hc15d, Bool.not_true, Bool.not_false, Bool.false_eq_true, if_true, if_false] at h
   simp (config := { maxSteps := 4000000 }) only [go_sem, seval, hc15d]
   refine hZ _ (pp (hJ14 _ true ?_ h))
   refine wr ?_ ?_ <;> repeat' first | rfl | constructor | simp only [go_sem, seval, Bool.or_self, List.length_set, Int.natCast_zero, Int.cast_ofNat_Int, hr1, hc12, hr13, hc15d]
  have hc15d := decide_eq_true hc15
  first | rw [if_pos hc15] at h | rw [if_pos hc15d] at h | simp only [hc15d, Bool.not_true, Bool.not_false, Bool.false_eq_true, if_true, if_false] at h
  obtain ⟨x25, hb16, hx17, h⟩ := gx_some h
  try simp only [Int.toNat_zero] at hx17
  try simp only [Int.ofNat_lt, Int.natCast_nonneg, true_and] at hb16
  simp (config := { maxSteps := 4000000 }) only [go_sem, seval, hc15d, hb16, hx17]
  refine RX_guard_ndec rfl (fun hc18 => ?_) (fun hc18 => ?_)
  ·have hc18d := decide_eq_false hc18
   first | rw [if_neg hc18] at h | rw [if_neg (ne_true_of_eq_false hc18d)] at h | simp only [hc18d, Bool.not_true, Bool.not_false, Bool.false_eq_true, if_true, if_false] at h
   simp (config := { maxSteps := 4000000 }) only [go_sem, seval, hc18d]
   refine hZ _ (pp (hJ14 _ true ?_ h))
   refine wr ?_ ?_ <;> repeat' first | rfl | constructor | simp only [go_sem, seval, Bool.or_self, List.length_set, Int.natCast_zero, Int.cast_ofNat_Int, hr1, hc12, hr13, hc15d, hb16, hx17, hc18d]
  have hc18d := decide_eq_true hc18
  first | rw [if_pos hc18] at h | rw [if_pos hc18d] at h | simp only [hc18d, Bool.not_true, Bool.not_false, Bool.false_eq_true, if_true, if_false] at h
  simp (config := { maxSteps := 4000000 }) only [go_sem, seval, hc18d]
  refine RX_guard_ndec rfl (fun hc19 => ?_) (fun hc19 => ?_)
  ·have hc19d := decide_eq_false hc19
   first | rw [if_neg hc19] at h | rw [if_neg (ne_true_of_eq_false hc19d)] at h | simp only [hc19d, Bool.not_true, Bool.not_false, Bool.false_eq_true, if_true, if_false] at h
   simp (config := { maxSteps := 4000000 }) only [go_sem, seval, hc19d]
   refine hZ _ (pp (hJ14 _ true ?_ h))
   refine wr ?_ ?_ <;> repeat' first | rfl | constructor | simp only [go_sem, seval, Bool.or_self, List.length_set, Int.natCast_zero, Int.cast_ofNat_Int, hr1, hc12, hr13, hc15d, hb16, hx17, hc18d, hc19d]
  have hc19d := decide_eq_true hc19
  first | rw [if_pos hc19] at h | rw [if_pos hc19d] at h | simp only [hc19d, Bool.not_true, Bool.not_false, Bool.false_eq_true, if_true, if_false] at h
  obtain ⟨x26, hb20, hx21, h⟩ := gx_some h
  try simp only [Int.toNat_zero] at hx21
  try simp only [Int.ofNat_lt, Int.natCast_nonneg, true_and] at hb20
  simp (config := { maxSteps := 4000000 }) only [go_sem, seval, hb16, hc19d, hb20, hx21]
  refine hZ _ (pp (hJ14 _ (!decide (x26 = 2)) ?_ h))
  refine wr ?_ ?_ <;> repeat' first | rfl | constructor | simp only [go_sem, seval, Bool.or_self, List.length_set, Int.natCast_zero, Int.cast_ofNat_Int, hr1, hc12, hr13, hc15d, hb16, hx17, hc18d, hc19d, hb20, hx21]
 intro c24 h
 unfold law33_awake_J2 at h
 refine Wk_cond_bool rfl (fun hc22 => ?_) (fun hc22 => ?_)
 ·first | rw [if_pos hc22] at h | simp only [hc22, hc12, Bool.or_false, Bool.or_true, Bool.false_or, Bool.true_or, Bool.and_true, Bool.true_and, Bool.and_false, Bool.false_and, Bool.not_true, Bool.not_false, Bool.false_eq_true, if_true, if_false] at h
  refine Ws fun Z hZ => ?_
  simp (config := { maxSteps := 4000000 }) only [go_sem, seval, hc22]
  refine hZ _ (pp (Wk_ret (pp ?_)))
  cases h
  simp (config := { maxSteps := 4000000 }) only [go_sem, seval]
  exact ⟨_, rfl, (by exact ROk.refl _), (by repeat' (first | exact PureC.val _ | refine PureC.tup ?_ | refine PureC.agg ?_ | exact pure_nil | refine pure_cons ?_ ?_))⟩
 first | rw [if_neg (ne_true_of_eq_false hc22)] at h | simp only [hc22, hc12, Bool.or_false, Bool.or_true, Bool.false_or, Bool.true_or, Bool.and_true, Bool.true_and, Bool.and_false, Bool.false_and, Bool.not_true, Bool.not_false, Bool.false_eq_true, if_true, if_false] at h
 refine Wk_skip (pp ?_)
 unfold law33_awake_J5 at h
 refine Wk_seq (Wk_seq ?_)
 obtain ⟨r31, hr23, h⟩ := Option.bind_eq_some_iff.1 h
 refine Wk_regionZ fun Z hZ => ?_
 simp (config := { maxSteps := 4000000 }) only [go_sem, seval, hc22, hr23]
 refine hZ _ (pp ?_)
 apply Wk_join1 (fun (c33 : Bool) => ⟨tab 101 (updT (updT deadT 1 (.sl false none 3 (some 3) ([(TxnEvent.mk 1 1 1), (TxnEvent.mk 2 1 1), (TxnEvent.mk 1 2 1)].map TxnEvent.row))) 78 (.val (.bool c33))), RZ⟩)
 ·intro hJ24
  refine Wk_regionZ fun Z hZ => ?_
  simp (config := { maxSteps := 4000000 }) only [go_sem, seval]
  refine RX_guard_nbool rfl (fun hc25 => ?_) (fun hc25 => ?_)
  ·first | rw [if_neg (ne_true_of_eq_false hc25)] at h | simp only [hc25, hc12, hc22, Bool.or_false, Bool.or_true, Bool.false_or, Bool.true_or, Bool.and_true, Bool.true_and, Bool.and_false, Bool.false_and, Bool.not_true, Bool.not_false, Bool.false_eq_true, if_true, if_false] at h
   simp (config := { maxSteps := 4000000 }) only [go_sem, seval, hc25]
   refine hZ _ (pp (hJ24 _ true ?_ h))
   refine wr ?_ ?_ <;> repeat' first | rfl | constructor | simp only [go_sem, seval, Bool.or_self, List.length_set, Int.natCast_zero, Int.cast_ofNat_Int, hr1, hc12, hr13, hc22, hr23, hc25]
  first | rw [if_pos hc25] at h | simp only [hc25, hc12, hc22, Bool.or_false, Bool.or_true, Bool.false_or, Bool.true_or, Bool.and_true, Bool.true_and, Bool.and_false, Bool.false_and, Bool.not_true, Bool.not_false, Bool.false_eq_true, if_true, if_false] at h
  obtain ⟨r34, hr26, h⟩ := Option.bind_eq_some_iff.1 h
  simp (config := { maxSteps := 4000000 }) only [go_sem, seval, hc25, hr26]
  refine hZ _ (pp (hJ24 _ (!decide (((r34.length : Nat) : Int) = 2)) ?_ h))
  refine wr ?_ ?_ <;> repeat' first | rfl | constructor | simp only [go_sem, seval, Bool.or_self, List.length_set, Int.natCast_zero, Int.cast_ofNat_Int, hr1, hc12, hr13, hc22, hr23, hc25, hr26]
 intro c33 h
 unfold law33_awake_J3 at h
 refine Wk_cond_bool rfl (fun hc27 => ?_) (fun hc27 => ?_)
 ·first | rw [if_pos hc27] at h | simp only [hc27, hc12, hc22, Bool.or_false, Bool.or_true, Bool.false_or, Bool.true_or, Bool.and_true, Bool.true_and, Bool.and_false, Bool.false_and, Bool.not_true, Bool.not_false, Bool.false_eq_true, if_true, if_false] at h
  refine Ws fun Z hZ => ?_
  simp (config := { maxSteps := 4000000 }) only [go_sem, seval, hc27]
  refine hZ _ (pp (Wk_ret (pp ?_)))
  cases h
  simp (config := { maxSteps := 4000000 }) only [go_sem, seval]
  exact ⟨_, rfl, (by exact ROk.refl _), (by repeat' (first | exact PureC.val _ | refine PureC.tup ?_ | refine PureC.agg ?_ | exact pure_nil | refine pure_cons ?_ ?_))⟩
 first | rw [if_neg (ne_true_of_eq_false hc27)] at h | simp only [hc27, hc12, hc22, Bool.or_false, Bool.or_true, Bool.false_or, Bool.true_or, Bool.and_true, Bool.true_and, Bool.and_false, Bool.false_and, Bool.not_true, Bool.not_false, Bool.false_eq_true, if_true, if_false] at h
 refine Wk_skip (pp ?_)
 unfold law33_awake_J4 at h
 refine Wk_seq ?_
 obtain ⟨ha28, h⟩ := apx_some h
 simp only [List.length_cons, List.length_nil, Nat.zero_add, Nat.reduceAdd] at ha28
 obtain ⟨r35, hr29, h⟩ := Option.bind_eq_some_iff.1 h
 try simp only [List.cons_append, List.nil_append] at hr29
 refine Wk_regionZ fun Z hZ => ?_
 simp (config := { maxSteps := 4000000 }) only [go_sem, seval, hc27, ha28, Nat.lt_succ_self, hr29]
 refine hZ _ (pp (Ws fun Z hZ => ?_))
 simp (config := { maxSteps := 4000000 }) only [go_sem, seval]
 refine sw (RX_guard_dec rfl) (fun hc30 => ?_) (fun hc30 => ?_)
 ·have hc30d := decide_eq_false hc30
  first | rw [if_neg hc30] at h | rw [if_neg (ne_true_of_eq_false hc30d)] at h | simp only [hc30d, Bool.not_true, Bool.not_false, Bool.false_eq_true, if_true, if_false] at h
  simp (config := { maxSteps := 4000000 }) only [go_sem, seval, Nat.lt_succ_self, hc30d]
  refine hZ _ (pp (Wk_ret (pp ?_)))
  cases h
  simp (config := { maxSteps := 4000000 }) only [go_sem, seval]
  exact ⟨_, rfl, (by exact ROk.refl _), (by repeat' (first | exact PureC.val _ | refine PureC.tup ?_ | refine PureC.agg ?_ | exact pure_nil | refine pure_cons ?_ ?_))⟩
 have hc30d := decide_eq_true hc30
 first | rw [if_pos hc30] at h | rw [if_pos hc30d] at h | simp only [hc30d, Bool.not_true, Bool.not_false, Bool.false_eq_true, if_true, if_false] at h
 obtain ⟨x36, hb31, hx32, h⟩ := gx_some h
 try simp only [Int.toNat_zero] at hx32
 try simp only [Int.ofNat_lt, Int.natCast_nonneg, true_and] at hb31
 simp (config := { maxSteps := 4000000 }) only [go_sem, seval, hc30d, hb31, hx32]
 refine sw (RX_guard_dec rfl) (fun hc33 => ?_) (fun hc33 => ?_)
 ·have hc33d := decide_eq_false hc33
  first | rw [if_neg hc33] at h | rw [if_neg (ne_true_of_eq_false hc33d)] at h | simp only [hc33d, Bool.not_true, Bool.not_false, Bool.false_eq_true, if_true, if_false] at h
  simp (config := { maxSteps := 4000000 }) only [go_sem, seval, Nat.lt_succ_self, hc33d]
  refine hZ _ (pp (Wk_ret (pp ?_)))
  cases h
  simp (config := { maxSteps := 4000000 }) only [go_sem, seval]
  exact ⟨_, rfl, (by exact ROk.refl _), (by repeat' (first | exact PureC.val _ | refine PureC.tup ?_ | refine PureC.agg ?_ | exact pure_nil | refine pure_cons ?_ ?_))⟩
 have hc33d := decide_eq_true hc33
 first | rw [if_pos hc33] at h | rw [if_pos hc33d] at h | simp only [hc33d, Bool.not_true, Bool.not_false, Bool.false_eq_true, if_true, if_false] at h
 obtain ⟨ha34, h⟩ := apx_some h
 simp only [List.length_cons, List.length_nil, Nat.zero_add, Nat.reduceAdd] at ha34
 obtain ⟨r37, hr35, h⟩ := Option.bind_eq_some_iff.1 h
 try simp only [List.cons_append, List.nil_append] at hr35
 simp (config := { maxSteps := 4000000 }) only [go_sem, seval, ha28, Nat.lt_succ_self, hc33d, hr35]
 refine hZ _ (pp (Wk_ret (pp ?_)))
 cases h
 simp (config := { maxSteps := 4000000 }) only [go_sem, seval]
 exact ⟨_, rfl, (by exact ROk.refl _), (by repeat' (first | exact PureC.val _ | refine PureC.tup ?_ | refine PureC.agg ?_ | exact pure_nil | refine pure_cons ?_ ?_))⟩
noncomputable def fs_law33_awake (N : Nat) : FnS := { own := [], pure := true, fn := fun cs => match cs with
 | [] =>  (law33_awake N ).map fun r => .val (.bool r)
 | _ => none }
attribute [go_sem] fs_law33_awake
theorem fs_law33_awake_ok (N : Nat) : FSOk Try.prog 8 (fs_law33_awake N) := by
 refine ⟨fun cs r h => ?_, fun h => by cases h⟩
 simp only [fs_law33_awake] at h
 split at h
 ·simp only [Option.map_eq_some_iff] at h
  obtain ⟨r', hr, rfl⟩ := h
  exact ((w_law33_awake N  r' hr).args (LeL.nil))
 ·cases h


noncomputable def G_law33_history (N d f : Nat) : Option FnS := glist [(70, 14, fs_cascade_Check N)] d f
attribute [go_sem] G_law33_history
theorem w_law33_history (N : Nat) (a0 : (List actorgridlaw33_Act)) (r : (List TxnEvent)) (h : law33_history N a0 = some r) : Con Try.prog 10 [] true [.sl false none 3 none (a0.map actorgridlaw33_Act.row)] (.sl true none 3 none (r.map TxnEvent.row)) := by
 refine fun_ok4 (G := (G_law33_history N)) Try.func10 rfl (by decide) (by kernel_rfl) (gc 70 (fs_cascade_Check_ok N) gn) [] mix (Nat.le_of_ble_eq_true rfl) ?_
 simp only [Try.f10]
 unfold law33_history at h
 refine Ws fun Z hZ => ?_
 simp only [go_sem, seval]
 refine hZ _ (pp (Ws fun Z hZ => ?_))
 simp only [go_sem, seval]
 refine hZ _ (pp (Wk_seq (Ws fun Z hZ => ?_)))
 simp only [go_sem, seval]
 refine hZ _ (pp (Wk_block (Wk_real fun hreal2 => ?_)))
 have hl1 := hreal2.lenT 0 (by decide) (by simp only [go_sem, seval]; rfl)
 first | rw [List.length_map] at hl1 | rw [mxR_len] at hl1 | rw [← List.map_append, List.length_map] at hl1
 refine Wk_range (fun (v3 : Nat) (b : List TxnEvent) => ⟨tab 76 (updT (updT (updT deadT 0 (.sl false none 3 none (a0.map actorgridlaw33_Act.row))) 3 (.pal 503 [] 0 b.length none)) 4 (.val (.int .i64 ((v3 : Nat) : Int)))), (upd RZ 503 (.sl true none 3 none (b.map TxnEvent.row)))⟩) [] h ?_ ?_
 ·refine Weak.trans (weak_adopt 3 503 3 (by simp only [go_sem, seval]) (by simp only [go_sem, seval])) ?_
  refine wr ?_ ?_ <;> repeat' first | rfl | constructor | simp only [go_sem, seval, Bool.or_self, List.length_set, Int.natCast_zero, Int.cast_ofNat_Int]
 rintro v3 l2 hi3 h -
 rcases (drop_cases a0 v3 hi3).symm with ⟨hi3', _, hd6⟩ | ⟨x6, hi3', hx4, hd6⟩
 ·rw [hd6] at h
  simp only [law33_history_L1] at h
  refine Wk_seq (Ws fun Z hZ => ?_)
  simp only [go_sem, seval, hi3']
  refine hZ _ (pp ?_)
  try simp only [Int.ofNat_lt, hi3', if_true, if_false] at h
  refine Wk_cond_f rfl (Wk_exit (pp (Ws fun Z hZ => ?_)))
  simp only [go_sem, seval]
  refine hZ _ (pp (Wk_ret (pp ?_)))
  cases h
  simp only [go_sem, seval]
  exact ⟨_, rfl, RokI.h, PureI.h⟩
 rw [hd6] at h
 simp only [law33_history_L1] at h
 have hw5 := wrap_succ hi3' hl1
 refine Wk_seq (Ws fun Z hZ => ?_)
 simp only [go_sem, seval, hi3']
 refine hZ _ (pp ?_)
 try simp only [Int.ofNat_lt, hi3', if_true, if_false] at h
 refine Wk_cond_t rfl (Wk_skip (pp (Wk_seq (Wk_block (Wk_seq ?_)))))
 try rw [gx_nat hx4] at h
 try rw [gx_nat hx4] at h
 refine Wk_regionD fun Z hZ => ?_
 simp only [go_sem, seval, hx4, hi3']
 repeat with_reducible refine and_bar (by kernel_rfl) ?_
 refine hZ _ (by kernel_rfl) (pp ?_)
 apply Wk_join2 (fun (v5 : Int) (v6 : Int) => ⟨tab 76 (updT (updT (updT (updT deadT 0 (.sl false none 3 none (a0.map actorgridlaw33_Act.row))) 3 (.pal 503 [] 0 l2.length none)) 4 (.val (.int .i64 ((v3 : Nat) : Int)))) 5 (.pref 5 [] 0 0)), (upd (upd RZ 5 (.sl true none 3 (some 1) [[.val (.int .i64 v5), .val (.int .i64 (IntKind.i64.wrap ((IntKind.i64.wrap ((IntKind.i64.wrap (Int.tmod x6.Txn 8)) + 1)) + (IntKind.i64.wrap (8 * (IntKind.i64.wrap (Int.tdiv ((v3 : Nat) : Int) 30))))))), .val (.int .i64 v6)]])) 503 (.sl true none 3 none (l2.map TxnEvent.row)))⟩)
 ·intro hJ7
  refine Wk_seq ?_
  try rw [gx_nat hx4] at h
  refine Wk_regionZ fun Z hZ => ?_
  simp only [go_sem, seval, hx4, hi3']
  refine hZ _ (pp (Wk_block ?_))
  apply Wk_join1 (fun (c7 : Bool) => ⟨tab 76 (updT (updT (updT (updT (updT (updT deadT 0 (.sl false none 3 none (a0.map actorgridlaw33_Act.row))) 3 (.pal 503 [] 0 l2.length none)) 4 (.val (.int .i64 ((v3 : Nat) : Int)))) 5 (.pref 5 [] 0 0)) 41 (.val (.int .u8 (Int.tmod x6.Kind 8)))) 42 (.val (.bool c7))), (upd (upd RZ 5 (.sl true none 3 (some 1) [[.val (.int .i64 1), .val (.int .i64 (IntKind.i64.wrap ((IntKind.i64.wrap ((IntKind.i64.wrap (Int.tmod x6.Txn 8)) + 1)) + (IntKind.i64.wrap (8 * (IntKind.i64.wrap (Int.tdiv ((v3 : Nat) : Int) 30))))))), .val (.int .i64 (IntKind.i64.wrap ((IntKind.i64.wrap (Int.tmod x6.Actor 4)) + 1)))]])) 503 (.sl true none 3 none (l2.map TxnEvent.row)))⟩)
  ·intro hJ8
   refine Ws fun Z hZ => ?_
   simp only [go_sem, seval]
   refine hZ _ (pp (Wk_cond_dec rfl (fun hc9 => ?_) (fun hc9 => ?_)))
   ·have hc9d := decide_eq_true hc9
    rw [if_pos hc9] at h
    refine Wk_skip (pp (hJ8 _ true ?_ h))
    refine wr ?_ ?_ <;> repeat' first | rfl | constructor | simp only [go_sem, seval, hc9d]
   have hc9d := decide_eq_false hc9
   rw [if_neg hc9] at h
   refine Wk_regionZ fun Z hZ => ?_
   simp only [go_sem, seval, hc9d]
   refine hZ _ (pp (hJ8 _ (decide ((Int.tmod x6.Kind 8) = 4)) ?_ h))
   refine wr ?_ ?_ <;> repeat' first | rfl | constructor | simp only [go_sem, seval, Bool.or_self, List.length_set, Int.natCast_zero, Int.cast_ofNat_Int, hx4, hi3', hw5, hc9d]
  intro c7 h
  unfold law33_history_J2 at h
  refine Wk_cond_bool rfl (fun hc10 => ?_) (fun hc10 => ?_)
  ·rw [if_pos hc10] at h
   refine Wk_regionZ fun Z hZ => ?_
   simp only [go_sem, seval, hc10]
   refine hZ _ (pp (hJ7 _ 2 (IntKind.i64.wrap ((IntKind.i64.wrap (Int.tmod x6.Actor 4)) + 1)) ?_ h))
   refine wr ?_ ?_ <;> repeat' first | rfl | constructor | simp only [go_sem, seval, Bool.or_self, List.length_set, Int.natCast_zero, Int.cast_ofNat_Int, hx4, hi3', hw5, hc10]
  rw [if_neg (ne_true_of_eq_false hc10)] at h
  apply Wk_join1 (fun (c8 : Bool) => ⟨tab 76 (updT (updT (updT (updT (updT (updT deadT 0 (.sl false none 3 none (a0.map actorgridlaw33_Act.row))) 3 (.pal 503 [] 0 l2.length none)) 4 (.val (.int .i64 ((v3 : Nat) : Int)))) 5 (.pref 5 [] 0 0)) 41 (.val (.int .u8 (Int.tmod x6.Kind 8)))) 46 (.val (.bool c8))), (upd (upd RZ 5 (.sl true none 3 (some 1) [[.val (.int .i64 1), .val (.int .i64 (IntKind.i64.wrap ((IntKind.i64.wrap ((IntKind.i64.wrap (Int.tmod x6.Txn 8)) + 1)) + (IntKind.i64.wrap (8 * (IntKind.i64.wrap (Int.tdiv ((v3 : Nat) : Int) 30))))))), .val (.int .i64 (IntKind.i64.wrap ((IntKind.i64.wrap (Int.tmod x6.Actor 4)) + 1)))]])) 503 (.sl true none 3 none (l2.map TxnEvent.row)))⟩)
  ·intro hJ11
   refine Ws fun Z hZ => ?_
   simp only [go_sem, seval, hc10]
   refine hZ _ (pp (Wk_cond_dec rfl (fun hc12 => ?_) (fun hc12 => ?_)))
   ·have hc12d := decide_eq_true hc12
    rw [if_pos hc12] at h
    refine Wk_skip (pp (hJ11 _ true ?_ h))
    refine wr ?_ ?_ <;> repeat' first | rfl | constructor | simp only [go_sem, seval, hc12d]
   have hc12d := decide_eq_false hc12
   rw [if_neg hc12] at h
   refine Wk_regionZ fun Z hZ => ?_
   simp only [go_sem, seval, hc12d]
   refine hZ _ (pp (hJ11 _ (decide ((Int.tmod x6.Kind 8) = 6)) ?_ h))
   refine wr ?_ ?_ <;> repeat' first | rfl | constructor | simp only [go_sem, seval, Bool.or_self, List.length_set, Int.natCast_zero, Int.cast_ofNat_Int, hx4, hi3', hw5, hc10, hc12d]
  intro c8 h
  unfold law33_history_J1 at h
  refine Wk_cond_bool rfl (fun hc13 => ?_) (fun hc13 => ?_)
  ·rw [if_pos hc13] at h
   refine Wk_regionZ fun Z hZ => ?_
   simp only [go_sem, seval, hc13]
   refine hZ _ (pp (hJ7 _ 3 0 ?_ h))
   refine wr ?_ ?_ <;> repeat' first | rfl | constructor | simp only [go_sem, seval, Bool.or_self, List.length_set, Int.natCast_zero, Int.cast_ofNat_Int, hx4, hi3', hw5, hc10, hc13]
  rw [if_neg (ne_true_of_eq_false hc13)] at h
  refine Ws fun Z hZ => ?_
  simp only [go_sem, seval, hc13]
  refine hZ _ (pp (sw (Wk_cond_dec rfl) (fun hc14 => ?_) (fun hc14 => ?_)))
  ·have hc14d := decide_eq_false hc14
   rw [if_neg hc14] at h
   refine Wk_skip (pp (hJ7 _ 1 (IntKind.i64.wrap ((IntKind.i64.wrap (Int.tmod x6.Actor 4)) + 1)) ?_ h))
   refine wr ?_ ?_ <;> repeat' first | rfl | constructor | simp only [go_sem, seval, Bool.or_self, List.length_set, Int.natCast_zero, Int.cast_ofNat_Int, hx4, hi3', hw5, hc10, hc13, hc14d]
  have hc14d := decide_eq_true hc14
  rw [if_pos hc14] at h
  refine Wk_seq ?_
  try rw [gx_nat hx4] at h
  refine Wk_regionZ fun Z hZ => ?_
  simp only [go_sem, seval, hx4, hi3', hc14d]
  refine hZ _ (pp (Wk_cond_dec rfl (fun hc15 => ?_) (fun hc15 => ?_)))
  ·have hc15d := decide_eq_true hc15
   rw [if_pos hc15] at h
   refine Wk_regionZ fun Z hZ => ?_
   simp only [go_sem, seval, hc15d]
   refine hZ _ (pp (hJ7 _ 4 0 ?_ h))
   refine wr ?_ ?_ <;> repeat' first | rfl | constructor | simp only [go_sem, seval, Bool.or_self, List.length_set, Int.natCast_zero, Int.cast_ofNat_Int, hx4, hi3', hw5, hc10, hc13, hc14d, hc15d]
  have hc15d := decide_eq_false hc15
  rw [if_neg hc15] at h
  refine Wk_skip (pp (hJ7 _ 1 (IntKind.i64.wrap ((IntKind.i64.wrap (Int.tmod x6.Actor 4)) + 1)) ?_ h))
  refine wr ?_ ?_ <;> repeat' first | rfl | constructor | simp only [go_sem, seval, Bool.or_self, List.length_set, Int.natCast_zero, Int.cast_ofNat_Int, hx4, hi3', hw5, hc10, hc13, hc14d, hc15d]
 intro v5 v6 h
 unfold law33_history_J3 at h
 refine Wk_seq (Wk_regionT [1, 3] [0, 2, 4] [[0, 4, 2], [4, 0, 2]] [5, 6] [5] (by kernel_rfl) fun Z hZ Y hY => ?_)
 simp only [go_sem, seval]
 refine hY _ (by kernel_rfl) (Hop_cons (by kernel_rfl) fun Y hY => ?_)
 simp only [go_sem, seval]
 refine hY _ (by kernel_rfl) (Hop_cons (by simp only [go_sem, seval, chkA, baseN, headB, srcB, Option.isNone, Nat.zero_add, Nat.le_refl, decide_true, Bool.and_true]; try rfl) fun Y hY => ?_)
 first | obtain ⟨ha16, h⟩ := apn_some h | (obtain ⟨ha16, h⟩ := apx_some h; rw [List.nil_append] at h)
 simp only [Nat.reduceAdd] at ha16
 simp only [go_sem, seval, ha16]
 refine hY _ (by kernel_rfl) (Hop_cons (by kernel_rfl) fun Y hY => ?_)
 simp only [go_sem, seval]
 refine hY _ (by kernel_rfl) (Hop_nilO ?_ ?_)
 ·refine ⟨?_, ?_, trivial⟩
  ·refine HopTo_cons (by kernel_rfl) fun Y hY => ?_
   simp only [go_sem, seval]
   refine hY _ (by kernel_rfl) (HopTo_cons (by kernel_rfl) fun Y hY => ?_)
   simp only [go_sem, seval]
   refine hY _ (by kernel_rfl) (HopTo_cons (by simp only [go_sem, seval, chkA, baseN, headB, srcB, Option.isNone, Nat.zero_add, Nat.le_refl, decide_true, Bool.and_true]; try rfl) fun Y hY => ?_)
   simp only [go_sem, seval, ha16]
   refine hY _ (by kernel_rfl) (HopTo_nil ?_)
   simp only [poiT_updT, poiT_deadT, go_sem, seval]
   refine wr ?_ ?_ <;> repeat' first | rfl | constructor
  ·refine HopTo_cons (by kernel_rfl) fun Y hY => ?_
   simp only [go_sem, seval]
   refine hY _ (by kernel_rfl) (HopTo_cons (by kernel_rfl) fun Y hY => ?_)
   simp only [go_sem, seval]
   refine hY _ (by kernel_rfl) (HopTo_cons (by simp only [go_sem, seval, chkA, baseN, headB, srcB, Option.isNone, Nat.zero_add, Nat.le_refl, decide_true, Bool.and_true]; try rfl) fun Y hY => ?_)
   simp only [go_sem, seval, ha16]
   refine hY _ (by kernel_rfl) (HopTo_nil ?_)
   simp only [poiT_updT, poiT_deadT, go_sem, seval]
   refine wr ?_ ?_ <;> repeat' first | rfl | constructor
 obtain ⟨ha17, h⟩ := apx_some h
 simp only [List.length_cons, List.length_nil, Nat.zero_add, Nat.reduceAdd] at ha17
 simp only [go_sem, seval, ha17]
 refine hZ _ (pp (Wk_seq ?_))
 obtain ⟨r9, hr18, h⟩ := Option.bind_eq_some_iff.1 h
 refine Wk_regionZ fun Z hZ => ?_
 simp only [go_sem, seval, hr18]
 refine hZ _ (pp (Ws fun Z hZ => ?_))
 simp only [go_sem, seval]
 refine hZ _ (pp (sw (Wk_cond_bool rfl) (fun hc19 => ?_) (fun hc19 => ?_)))
 ·rw [if_neg (ne_true_of_eq_false hc19)] at h
  refine Wk_skip (pp (Wk_regionZ fun Z hZ => ?_))
  simp only [go_sem, seval, hw5, hc19]
  refine hZ _ (pp ?_)
  first | refine ⟨l2, ?_, h⟩ | refine ⟨hi3', l2, ?_, h⟩
  refine wr ?_ ?_ <;> repeat' first | rfl | constructor | simp only [go_sem, seval, Bool.or_self, List.length_set, Int.natCast_zero, Int.cast_ofNat_Int, hx4, hi3', hw5, ha16, ha17, hr18, hc19]
 rw [if_pos hc19] at h
 refine Wk_regionZ fun Z hZ => ?_
 simp only [go_sem, seval, hc19]
 refine hZ _ (pp (Wk_regionZ fun Z hZ => ?_))
 simp only [go_sem, seval, hw5]
 refine hZ _ (pp ?_)
 first | refine ⟨(l2 ++ [(TxnEvent.mk v5 (IntKind.i64.wrap ((IntKind.i64.wrap ((IntKind.i64.wrap (Int.tmod x6.Txn 8)) + 1)) + (IntKind.i64.wrap (8 * (IntKind.i64.wrap (Int.tdiv ((v3 : Nat) : Int) 30)))))) v6)]), ?_, h⟩ | refine ⟨hi3', (l2 ++ [(TxnEvent.mk v5 (IntKind.i64.wrap ((IntKind.i64.wrap ((IntKind.i64.wrap (Int.tmod x6.Txn 8)) + 1)) + (IntKind.i64.wrap (8 * (IntKind.i64.wrap (Int.tdiv ((v3 : Nat) : Int) 30)))))) v6)]), ?_, h⟩
 refine Weak.trans (weak_dropT 503 (by simp only [poiT_updT, poiT_deadT, go_sem, seval]; rfl)) (Weak.trans (weak_rename 3 67 503 (by decide) (by decide) (by simp only [go_sem, seval]) (by simp only [go_sem, seval]; rfl) (by simp only [go_sem, seval]; rfl) (by first | (simp; done) | simp only [go_sem, seval, Bool.or_self, List.length_set, Int.natCast_zero, Int.cast_ofNat_Int, hx4, hi3', hw5, ha16, ha17, hr18, hc19])) ?_)
 refine wr ?_ ?_ <;> repeat' first | rfl | constructor | simp only [go_sem, seval]
def fs_law33_history (N : Nat) : FnS := ⟨[], true, fn1 (decL 3 actorgridlaw33_Act.dec) fun q0 => (law33_history N q0).map fun r => .sl false none 3 none (r.map TxnEvent.row), false⟩
attribute [go_sem] fs_law33_history
theorem fs_law33_history_ok (N : Nat) : FSOk Try.prog 10 (fs_law33_history N) := ok1 (fun q0 r h => by
 obtain ⟨r', hr, rfl⟩ := Option.map_eq_some_iff.1 h
 exact (w_law33_history N q0 r' hr).res (by (try simp only [go_sem]); exact RokI.h)) (fun h => decL_le actorgridlaw33_Act.dec_le h)

def fso_law33_history (N : Nat) : FnS := ⟨[], true, fn1 (decL 3 actorgridlaw33_Act.dec) fun q0 => (law33_history N q0).map fun r => .sl true none 3 none (r.map TxnEvent.row), false⟩
attribute [go_sem] fso_law33_history
theorem fso_law33_history_ok (N : Nat) : FSOk Try.prog 10 (fso_law33_history N) := ok1 (fun q0 r h => by
 obtain ⟨r', hr, rfl⟩ := Option.map_eq_some_iff.1 h
 exact w_law33_history N q0 r' hr) (fun h => decL_le actorgridlaw33_Act.dec_le h)


noncomputable def G_law33_CascadeFinishes (N d f : Nat) : Option FnS := glist [(17, 8, fs_law33_awake N), (23, 10, fs_law33_history N), (26, 13, fs_cascade_Outcome N), (40, 12, fs_cascade_Status N), (62, 14, fs_cascade_Check N), (79, 12, fs_cascade_Status N), (94, 12, fs_cascade_Status N), (99, 12, fs_cascade_Status N)] d f
attribute [go_sem] G_law33_CascadeFinishes
theorem w_law33_CascadeFinishes (N : Nat) (a0 : (List actorgridlaw33_Act)) (r : Bool) (h : law33_CascadeFinishes N a0 = some r) : Con Try.prog 5 [] true [.sl false none 3 none (a0.map actorgridlaw33_Act.row)] (.val (.bool r)) := by
 refine fun_ok4 (G := (G_law33_CascadeFinishes N)) Try.func5 rfl (by decide) (by kernel_rfl) (gc 17 (fs_law33_awake_ok N) (gc 23 (fs_law33_history_ok N) (gc 26 (fs_cascade_Outcome_ok N) (gc 40 (fs_cascade_Status_ok N) (gc 62 (fs_cascade_Check_ok N) (gc 79 (fs_cascade_Status_ok N) (gc 94 (fs_cascade_Status_ok N) (gc 99 (fs_cascade_Status_ok N) gn)))))))) [] mix (Nat.le_of_ble_eq_true rfl) ?_
 simp only [Try.f5]
 unfold law33_CascadeFinishes at h
 refine Ws fun Z hZ => ?_
 simp only [go_sem, seval]
 refine hZ _ (pp (Wk_seq (Wk_seq ?_)))
 obtain ⟨r1, hr1, h⟩ := Option.bind_eq_some_iff.1 h
 refine Wk_regionZ fun Z hZ => ?_
 simp only [go_sem, seval, hr1]
 refine hZ _ (pp (Wk_cond_nbool rfl (fun hc2 => ?_) (fun hc2 => ?_)))
 ·rw [if_neg (ne_true_of_eq_false hc2)] at h
  refine Ws fun Z hZ => ?_
  simp only [go_sem, seval, hc2]
  refine hZ _ (pp (Wk_ret (pp ?_)))
  cases h
  simp only [go_sem, seval]
  exact ⟨_, rfl, RokI.h, PureI.h⟩
 rw [if_pos hc2] at h
 refine Wk_skip (pp (Wk_seq (Ws fun Z hZ => ?_)))
 simp only [go_sem, seval, hc2]
 refine hZ _ (pp (Wk_cond_dec rfl (fun hc3 => ?_) (fun hc3 => ?_)))
 ·have hc3d := decide_eq_true hc3
  rw [if_pos hc3] at h
  refine Ws fun Z hZ => ?_
  simp only [go_sem, seval, hc3d]
  refine hZ _ (pp (Wk_ret (pp ?_)))
  cases h
  simp only [go_sem, seval]
  exact ⟨_, rfl, RokI.h, PureI.h⟩
 have hc3d := decide_eq_false hc3
 rw [if_neg hc3] at h
 refine Wk_skip (pp (Wk_seq ?_))
 obtain ⟨r2, hr4, h⟩ := Option.bind_eq_some_iff.1 h
 refine Wk_regionZ fun Z hZ => ?_
 simp only [go_sem, seval, hc3d, hr4]
 refine hZ _ (pp (Wk_seq ?_))
 obtain ⟨r3, hr5, h⟩ := Option.bind_eq_some_iff.1 h
 refine Wk_regionZ fun Z hZ => ?_
 simp only [go_sem, seval, hr5]
 refine hZ _ (pp (Wk_seq ?_))
 first | obtain ⟨ha6, h⟩ := apn_some h | (obtain ⟨ha6, h⟩ := apx_some h; rw [List.nil_append] at h)
 simp only [Nat.reduceAdd] at ha6
 refine Wk_regionZ fun Z hZ => ?_
 simp only [go_sem, seval, ha6]
 refine hZ _ (pp (Wk_seq (Ws fun Z hZ => ?_)))
 simp only [go_sem, seval]
 refine hZ _ (pp (Wk_block (Wk_real fun hreal8 => ?_)))
 have hl7 := hreal8.lenT 5 (by decide) (by simp only [go_sem, seval]; rfl)
 first | rw [List.length_map] at hl7 | rw [mxR_len] at hl7 | rw [← List.map_append, List.length_map] at hl7
 refine Wk_range (fun (v8 : Nat) (b : List TxnEvent) => ⟨tab 103 (updT (updT (updT (updT (updT (updT deadT 3 (.sl false none 3 none (r2.map TxnEvent.row))) 4 (.sl false none 1 none (r3.1.map (rowI .i64)))) 6 (.pal 31 [] 0 b.length none)) 32 (.sl false none 1 none (r3.2.map (rowI .i64)))) 33 (.val (.int .i64 ((r3.2.length : Nat) : Int)))) 34 (.val (.int .i64 ((v8 : Nat) : Int)))), (upd RZ 31 (.sl true none 3 none (b.map TxnEvent.row)))⟩) r2 h ?_ ?_
 ·refine wr ?_ ?_ <;> repeat' first | rfl | constructor | simp only [go_sem, seval, Bool.or_self, List.length_set, Int.natCast_zero, Int.cast_ofNat_Int, hr1, hc2, hc3d, hr4, hr5, ha6]
 rintro v8 l7 hi9 h -
 rcases (drop_cases r3.2 v8 hi9) with ⟨x11, hi9', hx10, hd12⟩ | ⟨hi9', _, hd12⟩
 ·rw [hd12] at h
  simp only [law33_CascadeFinishes_L1] at h
  have hw11 := wrap_succ hi9' hl7
  refine Ws fun Z hZ => ?_
  simp only [go_sem, seval, hi9']
  refine hZ _ (pp (Wk_seq ?_))
  try simp only [Int.ofNat_lt, hi9', if_true, if_false] at h
  refine Wk_cond_t rfl (Wk_skip (pp (Wk_seq (Wk_block (Wk_seq ?_)))))
  try rw [gx_nat hx10] at h
  refine Wk_regionZ fun Z hZ => ?_
  simp only [go_sem, seval, hx10, hi9']
  refine hZ _ (pp (Wk_seq ?_))
  obtain ⟨r14, hr13, h⟩ := Option.bind_eq_some_iff.1 h
  refine Wk_regionZ fun Z hZ => ?_
  simp only [go_sem, seval, hr13]
  refine hZ _ (pp (sw (Wk_cond_ndec rfl) (fun hc14 => ?_) (fun hc14 => ?_)))
  ·have hc14d := decide_eq_true hc14
   rw [if_pos hc14] at h
   refine Wk_skip (pp (Wk_regionZ fun Z hZ => ?_))
   simp only [go_sem, seval, hw11, hc14d]
   refine hZ _ (pp ?_)
   first | refine ⟨l7, ?_, h⟩ | refine ⟨hi9', l7, ?_, h⟩
   refine wr ?_ ?_ <;> repeat' first | rfl | constructor | simp only [go_sem, seval, Bool.or_self, List.length_set, Int.natCast_zero, Int.cast_ofNat_Int, hr1, hc2, hc3d, hr4, hr5, ha6, hx10, hi9', hw11, hr13, hc14d]
  have hc14d := decide_eq_false hc14
  rw [if_neg hc14] at h
  obtain ⟨ha15, h⟩ := apx_some h
  simp only [List.length_cons, List.length_nil, Nat.zero_add, Nat.reduceAdd] at ha15
  refine Wk_regionZ fun Z hZ => ?_
  simp only [go_sem, seval, hc14d, ha15]
  refine hZ _ (pp (Wk_regionZ fun Z hZ => ?_))
  simp only [go_sem, seval, hw11]
  refine hZ _ (pp ?_)
  first | refine ⟨(l7 ++ [(TxnEvent.mk 4 x11 0)]), ?_, h⟩ | refine ⟨hi9', (l7 ++ [(TxnEvent.mk 4 x11 0)]), ?_, h⟩
  refine Weak.trans (weak_rename 6 46 31 (by decide) (by decide) (by simp only [go_sem, seval]) (by simp only [go_sem, seval]; rfl) (by simp only [go_sem, seval]; rfl) (by first | (simp; done) | simp only [go_sem, seval, Bool.or_self, List.length_set, Int.natCast_zero, Int.cast_ofNat_Int, hr1, hc2, hc3d, hr4, hr5, ha6, hx10, hi9', hw11, hr13, hc14d, ha15])) ?_
  refine wr ?_ ?_ <;> repeat' first | rfl | constructor | simp only [go_sem, seval]
 rw [hd12] at h
 simp only [law33_CascadeFinishes_L1] at h
 refine Ws fun Z hZ => ?_
 simp only [go_sem, seval, hi9']
 refine hZ _ (pp (Wk_seq ?_))
 try simp only [Int.ofNat_lt, hi9', if_true, if_false] at h
 refine Wk_cond_f rfl (Wk_exit (pp ?_))
 unfold law33_CascadeFinishes_J5 at h
 refine Wk_seq (Ws fun Z hZ => ?_)
 simp only [go_sem, seval]
 refine hZ _ (pp (Wk_block (Wk_real fun hreal17 => ?_)))
 have hl16 := hreal17.lenT 4 (by decide) (by simp only [go_sem, seval]; rfl)
 first | rw [List.length_map] at hl16 | rw [mxR_len] at hl16 | rw [← List.map_append, List.length_map] at hl16
 refine Wk_range (fun (v20 : Nat) (b : List TxnEvent) => ⟨tab 103 (updT (updT (updT (updT (updT (updT deadT 3 (.sl false none 3 none (r2.map TxnEvent.row))) 4 (.sl false none 1 none (r3.1.map (rowI .i64)))) 6 (.pal 31 [] 0 b.length none)) 48 (.sl false none 1 none (r3.1.map (rowI .i64)))) 49 (.val (.int .i64 ((r3.1.length : Nat) : Int)))) 50 (.val (.int .i64 ((v20 : Nat) : Int)))), (upd RZ 31 (.sl true none 3 none (b.map TxnEvent.row)))⟩) l7 h ?_ ?_
 ·refine wr ?_ ?_ <;> repeat' first | rfl | constructor | simp only [go_sem, seval, Bool.or_self, List.length_set, Int.natCast_zero, Int.cast_ofNat_Int, hr1, hc2, hc3d, hr4, hr5, ha6, hi9']
 rintro v20 l19 hi18 h -
 rcases (drop_cases r3.1 v20 hi18) with ⟨x23, hi18', hx19, hd21⟩ | ⟨hi18', _, hd21⟩
 ·rw [hd21] at h
  simp only [law33_CascadeFinishes_L2] at h
  have hw20 := wrap_succ hi18' hl16
  refine Ws fun Z hZ => ?_
  simp only [go_sem, seval, hi18']
  refine hZ _ (pp (Wk_seq ?_))
  try simp only [Int.ofNat_lt, hi9', hi18', if_true, if_false] at h
  refine Wk_cond_t rfl (Wk_skip (pp (Wk_seq (Wk_block (Wk_seq ?_)))))
  try rw [gx_nat hx19] at h
  refine Wk_regionZ fun Z hZ => ?_
  simp only [go_sem, seval, hx19, hi18']
  refine hZ _ (pp ?_)
  obtain ⟨ha22, h⟩ := apx_some h
  simp only [List.length_cons, List.length_nil, Nat.zero_add, Nat.reduceAdd] at ha22
  refine Wk_regionZ fun Z hZ => ?_
  simp only [go_sem, seval, ha22]
  refine hZ _ (pp (Wk_regionZ fun Z hZ => ?_))
  simp only [go_sem, seval, hw20]
  refine hZ _ (pp ?_)
  first | refine ⟨(l19 ++ [(TxnEvent.mk 3 x23 0)]), ?_, h⟩ | refine ⟨hi18', (l19 ++ [(TxnEvent.mk 3 x23 0)]), ?_, h⟩
  refine Weak.trans (weak_rename 6 58 31 (by decide) (by decide) (by simp only [go_sem, seval]) (by simp only [go_sem, seval]; rfl) (by simp only [go_sem, seval]; rfl) (by first | (simp; done) | simp only [go_sem, seval, Bool.or_self, List.length_set, Int.natCast_zero, Int.cast_ofNat_Int, hr1, hc2, hc3d, hr4, hr5, ha6, hi9', hx19, hi18', hw20, ha22])) ?_
  refine wr ?_ ?_ <;> repeat' first | rfl | constructor | simp only [go_sem, seval]
 rw [hd21] at h
 simp only [law33_CascadeFinishes_L2] at h
 refine Ws fun Z hZ => ?_
 simp only [go_sem, seval, hi18']
 refine hZ _ (pp (Wk_seq ?_))
 try simp only [Int.ofNat_lt, hi9', hi18', if_true, if_false] at h
 refine Wk_cond_f rfl (Wk_exit (pp ?_))
 unfold law33_CascadeFinishes_J4 at h
 refine Wk_seq (Wk_seq ?_)
 obtain ⟨r23, hr23, h⟩ := Option.bind_eq_some_iff.1 h
 refine Wk_regionZ fun Z hZ => ?_
 simp only [go_sem, seval, hr23]
 refine hZ _ (pp (Ws fun Z hZ => ?_))
 simp only [go_sem, seval]
 refine hZ _ (pp (Wk_cond_nbool rfl (fun hc24 => ?_) (fun hc24 => ?_)))
 ·rw [if_neg (ne_true_of_eq_false hc24)] at h
  refine Ws fun Z hZ => ?_
  simp only [go_sem, seval, hc24]
  refine hZ _ (pp (Wk_ret (pp ?_)))
  cases h
  simp only [go_sem, seval]
  exact ⟨_, rfl, RokI.h, PureI.h⟩
 rw [if_pos hc24] at h
 refine Wk_skip (pp (Wk_seq (Ws fun Z hZ => ?_)))
 simp only [go_sem, seval, hc24]
 refine hZ _ (pp (Wk_block (Wk_real fun hreal26 => ?_)))
 have hl25 := hreal26.lenT 3 (by decide) (by simp only [go_sem, seval]; rfl)
 first | rw [List.length_map] at hl25 | rw [mxR_len] at hl25 | rw [← List.map_append, List.length_map] at hl25
 refine Wk_range (fun (v32 : Nat) (b : List TxnEvent) => ⟨tab 103 (updT (updT (updT (updT deadT 3 (.sl false none 3 none (r2.map TxnEvent.row))) 4 (.sl false none 1 none (r3.1.map (rowI .i64)))) 6 (.pal 31 [] 0 b.length none)) 13 (.val (.int .i64 ((v32 : Nat) : Int)))), (upd RZ 31 (.sl true none 3 none (b.map TxnEvent.row)))⟩) l19 h ?_ ?_
 ·refine wr ?_ ?_ <;> repeat' first | rfl | constructor | simp only [go_sem, seval, Bool.or_self, List.length_set, Int.natCast_zero, Int.cast_ofNat_Int, hr1, hc2, hc3d, hr4, hr5, ha6, hi9', hi18', hr23, hc24]
 rintro v32 l31 hi27 h -
 rcases (drop_cases r2 v32 hi27) with ⟨x35, hi27', hx28, hd30⟩ | ⟨hi27', _, hd30⟩
 ·rw [hd30] at h
  simp only [law33_CascadeFinishes_L3] at h
  have hw29 := wrap_succ hi27' hl25
  refine Wk_seq (Ws fun Z hZ => ?_)
  simp only [go_sem, seval, hi27']
  refine hZ _ (pp ?_)
  try simp only [Int.ofNat_lt, hi9', hi18', hi27', if_true, if_false] at h
  refine Wk_cond_t rfl (Wk_skip (pp (Wk_seq (Wk_block (Wk_seq ?_)))))
  try rw [gx_nat hx28] at h
  obtain ⟨r34, hr31, h⟩ := Option.bind_eq_some_iff.1 h
  refine Wk_regionZ fun Z hZ => ?_
  simp only [go_sem, seval, hx28, hi27', hr31]
  refine hZ _ (pp ?_)
  apply Wk_join1 (fun (c35 : Bool) => ⟨tab 103 (updT (updT (updT (updT (updT deadT 3 (.sl false none 3 none (r2.map TxnEvent.row))) 4 (.sl false none 1 none (r3.1.map (rowI .i64)))) 6 (.pal 31 [] 0 l31.length none)) 13 (.val (.int .i64 ((v32 : Nat) : Int)))) 85 (.val (.bool c35))), (upd RZ 31 (.sl true none 3 none (l31.map TxnEvent.row)))⟩)
  ·intro hJ32
   refine Wk_regionZ fun Z hZ => ?_
   simp only [go_sem, seval]
   refine RX_guard_ndec rfl (fun hc33 => ?_) (fun hc33 => ?_)
   ·have hc33d := decide_eq_false hc33
    rw [if_neg hc33] at h
    simp only [go_sem, seval, hc33d]
    refine hZ _ (pp (hJ32 _ (!decide (r34 = 4)) ?_ h))
    refine wr ?_ ?_ <;> repeat' first | rfl | constructor | simp only [go_sem, seval, Bool.or_self, List.length_set, Int.natCast_zero, Int.cast_ofNat_Int, hr1, hc2, hc3d, hr4, hr5, ha6, hi9', hi18', hr23, hc24, hx28, hi27', hw29, hr31, hc33d]
   have hc33d := decide_eq_true hc33
   rw [if_pos hc33] at h
   simp only [go_sem, seval, hc33d]
   refine hZ _ (pp (hJ32 _ false ?_ h))
   refine wr ?_ ?_ <;> repeat' first | rfl | constructor | simp only [go_sem, seval, Bool.or_self, List.length_set, Int.natCast_zero, Int.cast_ofNat_Int, hr1, hc2, hc3d, hr4, hr5, ha6, hi9', hi18', hr23, hc24, hx28, hi27', hw29, hr31, hc33d]
  intro c35 h
  unfold law33_CascadeFinishes_J1 at h
  refine Wk_cond_bool rfl (fun hc34 => ?_) (fun hc34 => ?_)
  ·rw [if_pos hc34] at h
   refine Ws fun Z hZ => ?_
   simp only [go_sem, seval, hc34]
   refine hZ _ (pp (Wk_ret (pp ?_)))
   cases h
   simp only [go_sem, seval]
   exact ⟨_, rfl, RokI.h, PureI.h⟩
  rw [if_neg (ne_true_of_eq_false hc34)] at h
  refine Wk_skip (pp (Wk_regionZ fun Z hZ => ?_))
  simp only [go_sem, seval, hw29, hc34]
  refine hZ _ (pp ?_)
  first | refine ⟨l31, ?_, h⟩ | refine ⟨hi27', l31, ?_, h⟩
  refine wr ?_ ?_ <;> repeat' first | rfl | constructor | simp only [go_sem, seval, Bool.or_self, List.length_set, Int.natCast_zero, Int.cast_ofNat_Int, hr1, hc2, hc3d, hr4, hr5, ha6, hi9', hi18', hr23, hc24, hx28, hi27', hw29, hr31, hc34]
 rw [hd30] at h
 simp only [law33_CascadeFinishes_L3] at h
 refine Wk_seq (Ws fun Z hZ => ?_)
 simp only [go_sem, seval, hi27']
 refine hZ _ (pp ?_)
 try simp only [Int.ofNat_lt, hi9', hi18', hi27', if_true, if_false] at h
 refine Wk_cond_f rfl (Wk_exit (pp ?_))
 unfold law33_CascadeFinishes_J3 at h
 refine Wk_seq (Ws fun Z hZ => ?_)
 simp only [go_sem, seval]
 refine hZ _ (pp (Wk_block (Wk_real fun hreal36 => ?_)))
 have hl35 := hreal36.lenT 4 (by decide) (by simp only [go_sem, seval]; rfl)
 first | rw [List.length_map] at hl35 | rw [mxR_len] at hl35 | rw [← List.map_append, List.length_map] at hl35
 refine Wk_range (fun (v44 : Nat) (b : List TxnEvent) => ⟨tab 103 (updT (updT (updT (updT (updT deadT 3 (.sl false none 3 none (r2.map TxnEvent.row))) 6 (.pal 31 [] 0 b.length none)) 86 (.sl false none 1 none (r3.1.map (rowI .i64)))) 87 (.val (.int .i64 ((r3.1.length : Nat) : Int)))) 88 (.val (.int .i64 ((v44 : Nat) : Int)))), (upd RZ 31 (.sl true none 3 none (b.map TxnEvent.row)))⟩) l31 h ?_ ?_
 ·refine wr ?_ ?_ <;> repeat' first | rfl | constructor | simp only [go_sem, seval, Bool.or_self, List.length_set, Int.natCast_zero, Int.cast_ofNat_Int, hr1, hc2, hc3d, hr4, hr5, ha6, hi9', hi18', hr23, hc24, hi27']
 rintro v44 l43 hi37 h -
 rcases (drop_cases r3.1 v44 hi37).symm with ⟨hi37', _, hd40⟩ | ⟨x47, hi37', hx38, hd40⟩
 ·rw [hd40] at h
  simp only [law33_CascadeFinishes_L4] at h
  refine Ws fun Z hZ => ?_
  simp only [go_sem, seval, hi37']
  refine hZ _ (pp (Wk_seq ?_))
  try simp only [Int.ofNat_lt, hi9', hi18', hi27', hi37', if_true, if_false] at h
  refine Wk_cond_f rfl (Wk_exit (pp (Ws fun Z hZ => ?_)))
  simp only [go_sem, seval]
  refine hZ _ (pp (Wk_ret (pp ?_)))
  cases h
  simp only [go_sem, seval]
  exact ⟨_, rfl, RokI.h, PureI.h⟩
 rw [hd40] at h
 simp only [law33_CascadeFinishes_L4] at h
 have hw39 := wrap_succ hi37' hl35
 refine Ws fun Z hZ => ?_
 simp only [go_sem, seval, hi37']
 refine hZ _ (pp (Wk_seq ?_))
 try simp only [Int.ofNat_lt, hi9', hi18', hi27', hi37', if_true, if_false] at h
 refine Wk_cond_t rfl (Wk_skip (pp (Wk_seq (Wk_block (Wk_seq ?_)))))
 try rw [gx_nat hx38] at h
 refine Wk_regionZ fun Z hZ => ?_
 simp only [go_sem, seval, hx38, hi37']
 refine hZ _ (pp ?_)
 apply Wk_join1 (fun (c38 : Bool) => ⟨tab 103 (updT (updT (updT (updT (updT (updT deadT 3 (.sl false none 3 none (r2.map TxnEvent.row))) 6 (.pal 31 [] 0 l43.length none)) 86 (.sl false none 1 none (r3.1.map (rowI .i64)))) 87 (.val (.int .i64 ((r3.1.length : Nat) : Int)))) 88 (.val (.int .i64 ((v44 : Nat) : Int)))) 101 (.val (.bool c38))), (upd RZ 31 (.sl true none 3 none (l43.map TxnEvent.row)))⟩)
 ·intro hJ41
  obtain ⟨r39, hr42, h⟩ := Option.bind_eq_some_iff.1 h
  refine Wk_regionZ fun Z hZ => ?_
  simp only [go_sem, seval, hr42]
  refine RX_guard_ndec rfl (fun hc43 => ?_) (fun hc43 => ?_)
  ·have hc43d := decide_eq_false hc43
   rw [if_neg hc43] at h
   simp only [go_sem, seval, hc43d]
   refine hZ _ (pp (hJ41 _ true ?_ h))
   refine wr ?_ ?_ <;> repeat' first | rfl | constructor | simp only [go_sem, seval, Bool.or_self, List.length_set, Int.natCast_zero, Int.cast_ofNat_Int, hr1, hc2, hc3d, hr4, hr5, ha6, hi9', hi18', hr23, hc24, hi27', hx38, hi37', hw39, hr42, hc43d]
  have hc43d := decide_eq_true hc43
  rw [if_pos hc43] at h
  obtain ⟨r40, hr44, h⟩ := Option.bind_eq_some_iff.1 h
  simp only [go_sem, seval, hc43d, hr44]
  refine hZ _ (pp (hJ41 _ (!decide (r40 = 3)) ?_ h))
  refine wr ?_ ?_ <;> repeat' first | rfl | constructor | simp only [go_sem, seval, Bool.or_self, List.length_set, Int.natCast_zero, Int.cast_ofNat_Int, hr1, hc2, hc3d, hr4, hr5, ha6, hi9', hi18', hr23, hc24, hi27', hx38, hi37', hw39, hr42, hc43d, hr44]
 intro c38 h
 unfold law33_CascadeFinishes_J2 at h
 refine Wk_cond_bool rfl (fun hc45 => ?_) (fun hc45 => ?_)
 ·rw [if_pos hc45] at h
  refine Ws fun Z hZ => ?_
  simp only [go_sem, seval, hc45]
  refine hZ _ (pp (Wk_ret (pp ?_)))
  cases h
  simp only [go_sem, seval]
  exact ⟨_, rfl, RokI.h, PureI.h⟩
 rw [if_neg (ne_true_of_eq_false hc45)] at h
 refine Wk_skip (pp (Wk_regionZ fun Z hZ => ?_))
 simp only [go_sem, seval, hw39, hc45]
 refine hZ _ (pp ?_)
 first | refine ⟨l43, ?_, h⟩ | refine ⟨hi37', l43, ?_, h⟩
 refine wr ?_ ?_ <;> repeat' first | rfl | constructor | simp only [go_sem, seval, Bool.or_self, List.length_set, Int.natCast_zero, Int.cast_ofNat_Int, hr1, hc2, hc3d, hr4, hr5, ha6, hi9', hi18', hr23, hc24, hi27', hx38, hi37', hw39, hc45]
noncomputable def fs_law33_CascadeFinishes (N : Nat) : FnS := ⟨[], true, fn1 (decL 3 actorgridlaw33_Act.dec) fun q0 => (law33_CascadeFinishes N q0).map fun r => .val (.bool r), false⟩
attribute [go_sem] fs_law33_CascadeFinishes
theorem fs_law33_CascadeFinishes_ok (N : Nat) : FSOk Try.prog 5 (fs_law33_CascadeFinishes N) := ok1 (fun q0 r h => by
 obtain ⟨r', hr, rfl⟩ := Option.map_eq_some_iff.1 h
 exact w_law33_CascadeFinishes N q0 r' hr) (fun h => decL_le actorgridlaw33_Act.dec_le h)

end Go.Proofs.Ytekgpnhfhkhpaaa
