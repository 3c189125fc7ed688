/- Walks: each function computes its model. No condition. -/
import Derived.Test.YtekgpnhfhkhpaaaB
/- Each Go function computes its model: proofs laid by a program of ours. -/
set_option maxHeartbeats 40000000
set_option synthInstance.maxHeartbeats 2000000
set_option synthInstance.maxSize 4000
set_option linter.unusedSimpArgs false
set_option linter.unusedVariables false
set_option maxRecDepth 100000
namespace Go.Proofs.Ytekgpnhfhkhpaaa
open Go Go.Proofs Go.Abs
theorem w_slices_Compact_2int (N : Nat) (a0 : (List Arr2_i64)) (r : (List Arr2_i64)) (h : slices_Compact_2int N a0 = some r) : Con Try.prog 23 [true] true [.sl true none 2 none (a0.map Arr2_i64.row)] (.sl true none 2 none (r.map Arr2_i64.row)) := by
 refine fun_own5 (G := (glist [])) (L := noL) Try.func23 rfl (by decide) (by kernel_rfl) gn (fun _ _ _ h => by cases h) [] mix (Nat.le_of_ble_eq_true rfl) ?_
 rw [show entryF [true] [.sl true none 2 none (a0.map Arr2_i64.row)] = (updT deadT 0 (.pal 0 [] 0 a0.length none)) from by funext t; match t with | 0 => simp [entryF, entryTmp, viewD, updT] | t + 1 => rfl]
 rw [show R0 [true] [.sl true none 2 none (a0.map Arr2_i64.row)] = upd RZ 0 (.sl true none 2 none (a0.map Arr2_i64.row)) from by funext t; match t with | 0 => rfl | t + 1 => rfl]
 simp only [Try.f23]
 unfold slices_Compact_2int at h
 refine Ws fun Z hZ => ?_
 simp only [go_sem, seval]
 refine hZ _ (pp (Wk_seq (Ws fun Z hZ => ?_)))
 simp only [go_sem, seval]
 refine hZ _ (pp (Wk_cond_dec rfl (fun hc1 => ?_) (fun hc1 => ?_)))
 ·have hc1d := decide_eq_true hc1
  rw [if_pos hc1] at h
  refine Ws fun Z hZ => ?_
  simp only [go_sem, seval, hc1d]
  refine hZ _ (pp (Wk_ret (pp ?_)))
  cases h
  simp only [go_sem, seval, FinO_ret]
  exact ⟨_, rfl, RokI.h, KeepI.h, PureI.h⟩
 have hc1d := decide_eq_false hc1
 rw [if_neg hc1] at h
 refine Wk_skip (pp (Wk_seq (Ws fun Z hZ => ?_)))
 simp only [go_sem, seval, hc1d]
 refine hZ _ (pp (Wk_block (Wk_real fun hreal3 => ?_)))
 have hl2 := hreal3.lenX 0 (by simp only [go_sem, seval]; rfl)
 first | rw [List.length_map] at hl2 | rw [mxR_len] at hl2 | rw [← List.map_append, List.length_map] at hl2
 refine Wk_count (fun (v3 : Nat) (b : Unit) => ⟨tab 61 (updT (updT deadT 0 (.pal 0 [] 0 a0.length none)) 3 (.val (.int .i64 ((v3 : Nat) : Int)))), (upd RZ 0 (.sl true none 2 none (a0.map Arr2_i64.row)))⟩) () h ?_ ?_
 ·refine wr ?_ ?_ <;> repeat' first | rfl | constructor | simp only [go_sem, seval, Bool.or_self, List.length_set, Int.natCast_zero, Int.cast_ofNat_Int, hc1d]
 rintro v3 ⟨⟩ _ h -
 rcases (count_cases a0.length v3).symm with ⟨hi4', hd7⟩ | ⟨hi4', hd7⟩
 ·rw [hd7] at h
  simp only [slices_Compact_2int_L1] at h
  refine Wk_seq (Ws fun Z hZ => ?_)
  simp only [go_sem, seval, hi4']
  refine hZ _ (pp ?_)
  try simp only [Int.ofNat_lt, hi4', if_true, if_false] at h
  refine Wk_cond_f rfl (Wk_exit (pp (Ws fun Z hZ => ?_)))
  simp only [go_sem, seval]
  refine hZ _ (pp (Wk_ret (pp ?_)))
  cases h
  simp only [go_sem, seval, FinO_ret]
  exact ⟨_, rfl, RokI.h, KeepI.h, PureI.h⟩
 rw [hd7] at h
 simp only [slices_Compact_2int_L1] at h
 have hw6 := wrap_succ hi4' hl2
 refine Wk_seq (Ws fun Z hZ => ?_)
 simp only [go_sem, seval, hi4']
 refine hZ _ (pp ?_)
 try simp only [Int.ofNat_lt, hi4', if_true, if_false] at h
 refine Wk_cond_t rfl (Wk_skip (pp (Wk_seq (Wk_block (Wk_seq ?_)))))
 obtain ⟨x1, hb8, hx9, h⟩ := gx_some h
 try simp only [Int.toNat_natCast] at hx9
 try simp only [Int.ofNat_lt, Int.natCast_nonneg, true_and] at hb8
 obtain ⟨x2, hb10, hx11, h⟩ := gx_some h
 refine Wk_regionD fun Z hZ => ?_
 simp only [go_sem, seval, hi4', hx9, hb10, hx11]
 refine hZ _ (by kernel_rfl) (pp (sw (Wk_cond_bool rfl) (fun hc12 => ?_) (fun hc12 => ?_)))
 ·rw [if_neg (ne_true_of_eq_false hc12)] at h
  refine Wk_skip (pp (Wk_regionZ fun Z hZ => ?_))
  simp only [go_sem, seval, hw6, hc12]
  refine hZ _ (pp ?_)
  first | refine ⟨(), ?_, h⟩ | refine ⟨hi4', (), ?_, h⟩
  refine wr ?_ ?_ <;> repeat' first | rfl | constructor | simp only [go_sem, seval, Bool.or_self, List.length_set, Int.natCast_zero, Int.cast_ofNat_Int, hc1d, hi4', hw6, hb8, hx9, hb10, hx11, hc12]
 rw [if_pos hc12] at h
 refine Wk_seq ?_
 obtain ⟨hs13, h⟩ := slx_some h
 try simp only [Int.toNat_natCast] at hs13 h
 refine Wk_regionZ fun Z hZ => ?_
 simp only [go_sem, seval, hc12, hs13, Nat.zero_le]
 refine hZ _ (pp (Wk_seq (Ws fun Z hZ => ?_)))
 simp only [go_sem, seval]
 refine hZ _ (pp (Wk_block (Wk_fuel (fun (b : List Arr2_i64 × Int × Int) => ⟨tab 61 (updT (updT (updT (updT deadT 0 (.pal 0 [] 0 b.1.length none)) 3 (.val (.int .i64 b.2.1))) 4 (.pal 0 [] v3 (a0.length - v3) none)) 5 (.val (.int .i64 b.2.2))), (upd RZ 0 (.sl true none 2 none (b.1.map Arr2_i64.row)))⟩) (a0, ((v3 : Nat) : Int), 1) h ?_ ?_)))
 ·refine wr ?_ ?_ <;> repeat' first | rfl | constructor | simp only [go_sem, seval, Bool.or_self, List.length_set, Int.natCast_zero, Int.cast_ofNat_Int, hc1d, hi4', hw6, hb8, hx9, hb10, hx11, hc12, hs13, Nat.sub_zero, Nat.zero_le]
 rintro n ⟨l12, v13, v14⟩ h -
 cases n with
 | zero => simp [slices_Compact_2int_L2] at h
 | succ n =>
 simp only [slices_Compact_2int_L2] at h
 refine Wk_seq (Ws fun Z hZ => ?_)
 simp only [go_sem, seval]
 refine hZ _ (pp (sw (Wk_cond_dec rfl) (fun hc14 => ?_) (fun hc14 => ?_)))
 ·have hc14d := decide_eq_false hc14
  rw [if_neg hc14] at h
  refine Wk_exit (pp ?_)
  unfold slices_Compact_2int_J1 at h
  refine Wk_seq ?_
  obtain ⟨hs24, h⟩ := slx_some h
  try simp only [Int.toNat_natCast] at hs24 h
  refine Wk_regionZ fun Z hZ => ?_
  simp only [go_sem, seval, Nat.zero_le, hc14d, hs24, clr_rows (row := Arr2_i64.row) (z := (Arr2_i64.mk 0 0)) (rz := [.val (.int .i64 0), .val (.int .i64 0)]) (k := (v13).toNat) (l := l12) (by have := hs24; omega) rfl, altX, clearX, rewritten, RowOk.allD Arr2_i64.row_ok]
  refine hZ _ (pp (Wk_seq ?_))
  obtain ⟨hs25, h⟩ := slx_some h
  try simp only [Int.toNat_zero] at hs25 h
  refine Wk_regionZ fun Z hZ => ?_
  simp only [go_sem, seval, Nat.sub_zero, hs24, deepV, hs25]
  refine hZ _ (pp (Wk_ret (pp ?_)))
  cases h
  simp only [go_sem, seval, FinO_ret]
  exact ⟨_, rfl, RokI.h, KeepI.h, PureI.h⟩
 have hc14d := decide_eq_true hc14
 rw [if_pos hc14] at h
 refine Wk_skip (pp (Wk_seq (Wk_block (Wk_seq ?_))))
 obtain ⟨x16, hb15, hx16, h⟩ := gx_some h
 obtain ⟨x17, hb17, hx18, h⟩ := gx_some h
 refine Wk_regionD fun Z hZ => ?_
 simp only [go_sem, seval, hb15, win_get hx16, win_lt hb15, hb17, win_get hx18, win_lt hb17]
 refine hZ _ (by kernel_rfl) (pp (sw (Wk_cond_nbool rfl) (fun hc19 => ?_) (fun hc19 => ?_)))
 ·rw [if_pos hc19] at h
  refine Wk_skip (pp (Wk_regionZ fun Z hZ => ?_))
  simp only [go_sem, seval, hc19]
  refine hZ _ (pp (⟨_, Nat.lt_succ_self _, (l12, v13, IntKind.i64.wrap (v14 + 1)), ?_, h⟩))
  refine wr ?_ ?_ <;> repeat' first | rfl | constructor | simp only [go_sem, seval, Bool.or_self, List.length_set, Int.natCast_zero, Int.cast_ofNat_Int, hc1d, hi4', hw6, hb8, hx9, hb10, hx11, hc12, hs13, Nat.sub_zero, Nat.zero_le, hc14d, hb15, hx16, win_get hx16, win_lt hb15, hb17, hx18, win_get hx18, win_lt hb17, hc19]
 rw [if_neg (ne_true_of_eq_false hc19)] at h
 refine Wk_seq ?_
 obtain ⟨x18, hb20, hx21, h⟩ := gx_some h
 have hx23 := set_get (y := x16) hx21
 refine Wk_regionZ fun Z hZ => ?_
 simp only [go_sem, seval, hb15, win_lt hb15, hc19, win_get hx16, hb20, hx21, map_modify2 (row := Arr2_i64.row) (y := x16) (rx := [.val (.int .i64 x18.e0), .val (.int .i64 x18.e1)]) (ry := [.val (.int .i64 x16.e0), .val (.int .i64 x16.e1)]) hx21 rfl rfl]
 refine hZ _ (pp (Wk_regionZ fun Z hZ => ?_))
 simp only [go_sem, seval]
 refine hZ _ (pp (Wk_regionZ fun Z hZ => ?_))
 simp only [go_sem, seval]
 refine hZ _ (pp (⟨_, Nat.lt_succ_self _, ((l12.set ((v13).toNat) x16), IntKind.i64.wrap (v13 + 1), IntKind.i64.wrap (v14 + 1)), ?_, h⟩))
 refine wr ?_ ?_ <;> repeat' first | rfl | constructor | simp only [go_sem, seval, List.length_set]
def fso_slices_Compact_2int (N : Nat) : FnS := { own := [true], pure := true, fn := fun cs => match cs with
 | [c0] => ((decO 2 Arr2_i64.dec) c0).bind fun q0 => (slices_Compact_2int N q0).map fun r => .sl true none 2 none (r.map Arr2_i64.row)
 | _ => none }
theorem fso_slices_Compact_2int_own (N : Nat) : (fso_slices_Compact_2int N).own = [true] := rfl
theorem fso_slices_Compact_2int_pure (N : Nat) : (fso_slices_Compact_2int N).pure = true := rfl
theorem fso_slices_Compact_2int_peek (N : Nat) : (fso_slices_Compact_2int N).peek = false := rfl
attribute [go_sem] fso_slices_Compact_2int fso_slices_Compact_2int_own fso_slices_Compact_2int_pure fso_slices_Compact_2int_peek
theorem fso_slices_Compact_2int_ok (N : Nat) : FSOk Try.prog 23 (fso_slices_Compact_2int N) := by
 refine ⟨fun cs r h => ?_, fun h => by cases h⟩
 simp only [fso_slices_Compact_2int] at h
 split at h
 ·simp only [Option.bind_eq_some_iff, Option.map_eq_some_iff] at h
  obtain ⟨q0, h0, r', hr, rfl⟩ := h
  exact (w_slices_Compact_2int N q0 r' hr).argsO rfl (argsO_own (decO_ok Arr2_i64.row_ok Arr2_i64.dec_le h0) (argsO_nil))
 ·cases h


theorem w_cascade_between (N : Nat) (a0 : Int) (r : Bool) (h : cascade_between N a0 = some r) : Con Try.prog 47 [] true [.val (.int .i64 a0)] (.val (.bool r)) := by
 refine fun_ok4 (G := (glist [])) Try.func47 rfl (by decide) (by kernel_rfl) gn [] mix (Nat.le_of_ble_eq_true rfl) ?_
 simp only [Try.f47]
 unfold cascade_between at h
 refine Ws fun Z hZ => ?_
 simp only [go_sem, seval]
 refine hZ _ (pp (Ws fun Z hZ => ?_))
 simp only [go_sem, seval]
 refine RX_guard_dec rfl (fun hc1 => ?_) (fun hc1 => ?_)
 ·have hc1d := decide_eq_true hc1
  rw [if_pos hc1] at h
  simp only [go_sem, seval, hc1d]
  refine hZ _ (pp (Wk_ret (pp ?_)))
  cases h
  simp only [go_sem, seval]
  exact ⟨_, rfl, RokI.h, PureI.h⟩
 have hc1d := decide_eq_false hc1
 rw [if_neg hc1] at h
 simp only [go_sem, seval, hc1d]
 refine hZ _ (pp (Wk_ret (pp ?_)))
 cases h
 simp only [go_sem, seval]
 exact ⟨_, rfl, RokI.h, PureI.h⟩
def fs_cascade_between (N : Nat) : FnS := ⟨[], true, fn1 (decI .i64) fun q0 => (cascade_between N q0).map fun r => .val (.bool r), false⟩
attribute [go_sem] fs_cascade_between
theorem fs_cascade_between_ok (N : Nat) : FSOk Try.prog 47 (fs_cascade_between N) := ok1 (fun q0 r h => by
 obtain ⟨r', hr, rfl⟩ := Option.map_eq_some_iff.1 h
 exact w_cascade_between N q0 r' hr) (decI_le)


theorem w_slices_Index_int (N : Nat) (a0 : (List Int)) (a1 : Int) (r : Int) (h : slices_Index_int N a0 a1 = some r) : Con Try.prog 42 [] true [.sl false none 1 none (a0.map (rowI .i64)), .val (.int .i64 a1)] (.val (.int .i64 r)) := by
 refine fun_ok4 (G := (glist [])) Try.func42 rfl (by decide) (by kernel_rfl) gn [] mix (Nat.le_of_ble_eq_true rfl) ?_
 simp only [Try.f42]
 unfold slices_Index_int at h
 refine Ws fun Z hZ => ?_
 simp only [go_sem, seval]
 refine hZ _ (pp (Wk_seq (Ws fun Z hZ => ?_)))
 simp only [go_sem, seval]
 refine hZ _ (pp (Wk_block (Wk_real fun hreal2 => ?_)))
 have hl1 := hreal2.lenT 0 (by decide) (by simp only [go_sem, seval]; rfl)
 first | rw [List.length_map] at hl1 | rw [mxR_len] at hl1 | rw [← List.map_append, List.length_map] at hl1
 refine Wk_range (fun (v2 : Nat) (b : Unit) => ⟨tab 19 (updT (updT (updT (updT deadT 0 (.sl false none 1 none (a0.map (rowI .i64)))) 1 (.val (.int .i64 a1))) 7 (.val (.int .i64 ((a0.length : Nat) : Int)))) 8 (.val (.int .i64 ((v2 : Nat) : Int)))), RZ⟩) () h ?_ ?_
 ·refine wr ?_ ?_ <;> repeat' first | rfl | constructor
 rintro v2 ⟨⟩ hi3 h -
 rcases (drop_cases a0 v2 hi3).symm with ⟨hi3', _, hd6⟩ | ⟨x5, hi3', hx4, hd6⟩
 ·rw [hd6] at h
  simp only [slices_Index_int_L1] at h
  refine Ws fun Z hZ => ?_
  simp only [go_sem, seval, hi3']
  refine hZ _ (pp (Wk_seq ?_))
  try simp only [Int.ofNat_lt, hi3', if_true, if_false] at h
  refine Wk_cond_f rfl (Wk_exit (pp (Ws fun Z hZ => ?_)))
  simp only [go_sem, seval]
  refine hZ _ (pp (Wk_ret (pp ?_)))
  cases h
  simp only [go_sem, seval]
  exact ⟨_, rfl, RokI.h, PureI.h⟩
 rw [hd6] at h
 simp only [slices_Index_int_L1] at h
 have hw5 := wrap_succ hi3' hl1
 refine Ws fun Z hZ => ?_
 simp only [go_sem, seval, hi3']
 refine hZ _ (pp (Wk_seq ?_))
 try simp only [Int.ofNat_lt, hi3', if_true, if_false] at h
 refine Wk_cond_t rfl (Wk_skip (pp (Wk_seq (Wk_block (Ws fun Z hZ => ?_)))))
 simp only [go_sem, seval]
 refine hZ _ (pp (Wk_seq ?_))
 try rw [gx_nat hx4] at h
 refine Wk_regionZ fun Z hZ => ?_
 simp only [go_sem, seval, hx4, hi3']
 refine hZ _ (pp (Wk_cond_dec rfl (fun hc7 => ?_) (fun hc7 => ?_)))
 ·have hc7d := decide_eq_true hc7
  rw [if_pos hc7] at h
  refine Ws fun Z hZ => ?_
  simp only [go_sem, seval, hc7d]
  refine hZ _ (pp (Wk_ret (pp ?_)))
  cases h
  simp only [go_sem, seval]
  exact ⟨_, rfl, RokI.h, PureI.h⟩
 have hc7d := decide_eq_false hc7
 rw [if_neg hc7] at h
 refine Wk_skip (pp (Wk_regionZ fun Z hZ => ?_))
 simp only [go_sem, seval, hw5, hc7d]
 refine hZ _ (pp ?_)
 first | refine ⟨(), ?_, h⟩ | refine ⟨hi3', (), ?_, h⟩
 refine wr ?_ ?_ <;> repeat' first | rfl | constructor
def fs_slices_Index_int (N : Nat) : FnS := ⟨[], true, fn2 (decL 1 (dec1 (decI .i64))) (decI .i64) fun q0 q1 => (slices_Index_int N q0 q1).map fun r => .val (.int .i64 r), false⟩
attribute [go_sem] fs_slices_Index_int
theorem fs_slices_Index_int_ok (N : Nat) : FSOk Try.prog 42 (fs_slices_Index_int N) := ok2 (fun q0 q1 r h => by
 obtain ⟨r', hr, rfl⟩ := Option.map_eq_some_iff.1 h
 exact w_slices_Index_int N q0 q1 r' hr) (fun h => decL_le (decI1_le .i64) h) (decI_le)


noncomputable def G_slices_Contains_int (N d f : Nat) : Option FnS := glist [(7, 42, fs_slices_Index_int N)] d f
attribute [go_sem] G_slices_Contains_int
theorem w_slices_Contains_int (N : Nat) (a0 : (List Int)) (a1 : Int) (r : Bool) (h : slices_Contains_int N a0 a1 = some r) : Con Try.prog 27 [] true [.sl false none 1 none (a0.map (rowI .i64)), .val (.int .i64 a1)] (.val (.bool r)) := by
 refine fun_ok4 (G := (G_slices_Contains_int N)) Try.func27 rfl (by decide) (by kernel_rfl) (gc 7 (fs_slices_Index_int_ok N) gn) [] mix (Nat.le_of_ble_eq_true rfl) ?_
 simp only [Try.f27]
 unfold slices_Contains_int at h
 refine Ws fun Z hZ => ?_
 simp only [go_sem, seval]
 refine hZ _ (pp (Wk_seq ?_))
 obtain ⟨r1, hr1, h⟩ := Option.bind_eq_some_iff.1 h
 refine Wk_regionZ fun Z hZ => ?_
 simp only [go_sem, seval, hr1]
 refine hZ _ (pp (Wk_ret (pp ?_)))
 cases h
 simp only [go_sem, seval]
 exact ⟨_, rfl, RokI.h, PureI.h⟩
def fs_slices_Contains_int (N : Nat) : FnS := ⟨[], true, fn2 (decL 1 (dec1 (decI .i64))) (decI .i64) fun q0 q1 => (slices_Contains_int N q0 q1).map fun r => .val (.bool r), false⟩
attribute [go_sem] fs_slices_Contains_int
theorem fs_slices_Contains_int_ok (N : Nat) : FSOk Try.prog 27 (fs_slices_Contains_int N) := ok2 (fun q0 q1 r h => by
 obtain ⟨r', hr, rfl⟩ := Option.map_eq_some_iff.1 h
 exact w_slices_Contains_int N q0 q1 r' hr) (fun h => decL_le (decI1_le .i64) h) (decI_le)


noncomputable def G_cascade_state_ended (N d f : Nat) : Option FnS := glist [(10, 27, fs_slices_Contains_int N), (17, 27, fs_slices_Contains_int N)] d f
attribute [go_sem] G_cascade_state_ended
theorem w_cascade_state_ended (N : Nat) (a0 : cascade_state) (a1 : Int) (r : Bool) (h : cascade_state_ended N a0 a1 = some r) : Con Try.prog 30 [] true [.iref 6 [[.sl false none 2 none (a0.stacks.map cascade_stack.row), .sl false none 2 none (a0.prepared.map Arr2_i64.row), .sl false none 1 none (a0.known.map (rowI .i64)), .sl false none 1 none (a0.committed.map (rowI .i64)), .sl false none 1 none (a0.aborted.map (rowI .i64)), .sl false none 2 none (a0.deps.map Arr2_i64.row)]] 0 0, .val (.int .i64 a1)] (.val (.bool r)) := by
 refine fun_ok4 (G := (G_cascade_state_ended N)) Try.func30 rfl (by decide) (by kernel_rfl) (gc 10 (fs_slices_Contains_int_ok N) (gc 17 (fs_slices_Contains_int_ok N) gn)) [] mix (Nat.le_of_ble_eq_true rfl) ?_
 simp only [Try.f30]
 unfold cascade_state_ended at h
 refine Ws fun Z hZ => ?_
 simp only [go_sem, seval]
 refine hZ _ (pp (Wk_seq ?_))
 obtain ⟨r1, hr1, h⟩ := Option.bind_eq_some_iff.1 h
 refine Wk_regionZ fun Z hZ => ?_
 simp only [go_sem, seval, hr1]
 refine RX_guard_bool rfl (fun hc2 => ?_) (fun hc2 => ?_)
 ·rw [if_pos hc2] at h
  simp only [go_sem, seval, hc2]
  refine hZ _ (pp (Wk_ret (pp ?_)))
  cases h
  simp only [go_sem, seval]
  exact ⟨_, rfl, RokI.h, PureI.h⟩
 rw [if_neg (ne_true_of_eq_false hc2)] at h
 obtain ⟨r2, hr3, h⟩ := Option.bind_eq_some_iff.1 h
 simp only [go_sem, seval, hc2, hr3]
 refine hZ _ (pp (Wk_ret (pp ?_)))
 cases h
 simp only [go_sem, seval]
 exact ⟨_, rfl, RokI.h, PureI.h⟩
def fs_cascade_state_ended (N : Nat) : FnS := ⟨[], true, fn2 (decPt 6 cascade_state.dec) (decI .i64) fun q0 q1 => (cascade_state_ended N q0 q1).map fun r => .val (.bool r), false⟩
attribute [go_sem] fs_cascade_state_ended
theorem fs_cascade_state_ended_ok (N : Nat) : FSOk Try.prog 30 (fs_cascade_state_ended N) := ok2 (fun q0 q1 r h => by
 obtain ⟨r', hr, rfl⟩ := Option.map_eq_some_iff.1 h
 exact w_cascade_state_ended N q0 q1 r' hr) (fun h => decPt_le cascade_state.dec_le h) (decI_le)


theorem w_cascade_state_on (N : Nat) (a0 : cascade_state) (a1 : Int) (r : (List Int)) (h : cascade_state_on N a0 a1 = some r) : Con Try.prog 35 [] false [.iref 6 [[.sl false none 2 none (a0.stacks.map cascade_stack.row), .sl false none 2 none (a0.prepared.map Arr2_i64.row), .sl false none 1 none (a0.known.map (rowI .i64)), .sl false none 1 none (a0.committed.map (rowI .i64)), .sl false none 1 none (a0.aborted.map (rowI .i64)), .sl false none 2 none (a0.deps.map Arr2_i64.row)]] 0 0, .val (.int .i64 a1)] (.sl false none 1 none (r.map (rowI .i64))) := by
 refine fun_ok4 (G := (glist [])) Try.func35 rfl (by decide) (by kernel_rfl) gn [] mix (Nat.le_of_ble_eq_true rfl) ?_
 simp only [Try.f35]
 unfold cascade_state_on at h
 refine Ws fun Z hZ => ?_
 simp only [go_sem, seval]
 refine hZ _ (pp (Wk_seq (Ws fun Z hZ => ?_)))
 simp only [go_sem, seval]
 refine hZ _ (pp (Wk_block (Wk_real fun hreal2 => ?_)))
 have hl1 := hreal2.lenT 10 (by decide) (by simp only [go_sem, seval]; rfl)
 first | rw [List.length_map] at hl1 | rw [mxR_len] at hl1 | rw [← List.map_append, List.length_map] at hl1
 refine Wk_range (fun (v2 : Nat) (b : Unit) => ⟨tab 23 (updT (updT (updT (updT deadT 1 (.val (.int .i64 a1))) 10 (.sl false none 2 none (a0.stacks.map cascade_stack.row))) 11 (.val (.int .i64 ((a0.stacks.length : Nat) : Int)))) 12 (.val (.int .i64 ((v2 : Nat) : Int)))), RZ⟩) () h ?_ ?_
 ·refine wr ?_ ?_ <;> repeat' first | rfl | constructor
 rintro v2 ⟨⟩ hi3 h -
 rcases (drop_cases a0.stacks v2 hi3).symm with ⟨hi3', _, hd6⟩ | ⟨x5, hi3', hx4, hd6⟩
 ·rw [hd6] at h
  simp only [cascade_state_on_L1] at h
  refine Ws fun Z hZ => ?_
  simp only [go_sem, seval, hi3']
  refine hZ _ (pp (Wk_seq ?_))
  try simp only [Int.ofNat_lt, hi3', if_true, if_false] at h
  refine Wk_cond_f rfl (Wk_exit (pp (Ws fun Z hZ => ?_)))
  simp only [go_sem, seval]
  refine hZ _ (pp (Wk_ret (pp ?_)))
  cases h
  simp only [go_sem, seval]
  exact ⟨_, rfl, RokI.h⟩
 rw [hd6] at h
 simp only [cascade_state_on_L1] at h
 have hw5 := wrap_succ hi3' hl1
 refine Ws fun Z hZ => ?_
 simp only [go_sem, seval, hi3']
 refine hZ _ (pp (Wk_seq ?_))
 try simp only [Int.ofNat_lt, hi3', if_true, if_false] at h
 refine Wk_cond_t rfl (Wk_skip (pp (Wk_seq (Wk_block (Wk_seq ?_)))))
 try rw [gx_nat hx4] at h
 refine Wk_regionZ fun Z hZ => ?_
 simp only [go_sem, seval, hx4, hi3']
 refine hZ _ (pp (Ws fun Z hZ => ?_))
 simp only [go_sem, seval]
 refine hZ _ (pp (Wk_cond_dec rfl (fun hc7 => ?_) (fun hc7 => ?_)))
 ·have hc7d := decide_eq_true hc7
  rw [if_pos hc7] at h
  refine Ws fun Z hZ => ?_
  simp only [go_sem, seval, hc7d]
  refine hZ _ (pp (Wk_ret (pp ?_)))
  cases h
  simp only [go_sem, seval]
  exact ⟨_, rfl, RokI.h⟩
 have hc7d := decide_eq_false hc7
 rw [if_neg hc7] at h
 refine Wk_skip (pp (Wk_regionZ fun Z hZ => ?_))
 simp only [go_sem, seval, hw5, hc7d]
 refine hZ _ (pp ?_)
 first | refine ⟨(), ?_, h⟩ | refine ⟨hi3', (), ?_, h⟩
 refine wr ?_ ?_ <;> repeat' first | rfl | constructor
def fs_cascade_state_on (N : Nat) : FnS := ⟨[], false, fn2 (decPt 6 cascade_state.dec) (decI .i64) fun q0 q1 => (cascade_state_on N q0 q1).map fun r => .sl false none 1 none (r.map (rowI .i64)), false⟩
attribute [go_sem] fs_cascade_state_on
theorem fs_cascade_state_on_ok (N : Nat) : FSOk Try.prog 35 (fs_cascade_state_on N) := ok2 (fun q0 q1 r h => by
 obtain ⟨r', hr, rfl⟩ := Option.map_eq_some_iff.1 h
 exact w_cascade_state_on N q0 q1 r' hr) (fun h => decPt_le cascade_state.dec_le h) (decI_le)


theorem w_cascade_state_begun_1 (N : Nat) (a0 : Arr2_i64) (c0_0 : Int) (r : Bool) (h : cascade_state_begun_1 N a0 c0_0 = some r) : Con Try.prog 72 [] true [.agg [.val (.int .i64 a0.e0), .val (.int .i64 a0.e1)], .iref 1 [[.val (.int .i64 c0_0)]] 0 0] (.val (.bool r)) := by
 refine fun_ok4 (G := (glist [])) Try.func72 rfl (by decide) (by kernel_rfl) gn [] mix (Nat.le_of_ble_eq_true rfl) ?_
 simp only [Try.f72]
 unfold cascade_state_begun_1 at h
 refine Ws fun Z hZ => ?_
 simp only [go_sem, seval]
 refine hZ _ (pp (Ws fun Z hZ => ?_))
 simp only [go_sem, seval]
 refine hZ _ (pp (Wk_ret (pp ?_)))
 cases h
 simp only [go_sem, seval]
 exact ⟨_, rfl, RokI.h, PureI.h⟩
def fs_cascade_state_begun_1 (N : Nat) : FnS := { own := [], pure := true, fn := fun cs => match cs with
 | [c0, .iref 1 [[c1_0]] 0 0] => (Arr2_i64.decA c0).bind fun qc0 => ((decI .i64) c1_0).bind fun qc1_0 => (cascade_state_begun_1 N qc0 qc1_0).map fun r => .val (.bool r)
 | _ => none }
attribute [go_sem] fs_cascade_state_begun_1
theorem fs_cascade_state_begun_1_ok (N : Nat) : FSOk Try.prog 72 (fs_cascade_state_begun_1 N) := by
 refine ⟨fun cs r h => ?_, fun h => by cases h⟩
 simp only [fs_cascade_state_begun_1] at h
 split at h
 ·simp only [Option.bind_eq_some_iff, Option.map_eq_some_iff] at h
  obtain ⟨q0, h0, q1, h1, r', hr, rfl⟩ := h
  exact ((w_cascade_state_begun_1 N q0 q1 r' hr).args (LeL.cons (Arr2_i64.decA_le h0) (LeL.cons (Le.iref1 (LeL.cons (decI_le h1) (LeL.nil))) (LeL.nil))))
 ·cases h


noncomputable def G_slices_IndexFunc_2int_cascade_state_begun_1 (N d f : Nat) : Option FnS := glist [(16, 72, fs_cascade_state_begun_1 N)] d f
attribute [go_sem] G_slices_IndexFunc_2int_cascade_state_begun_1
theorem w_slices_IndexFunc_2int_cascade_state_begun_1 (N : Nat) (a0 : (List Arr2_i64)) (k1_0_0 : Int) (r : Int) (h : slices_IndexFunc_2int_cascade_state_begun_1 N a0 k1_0_0 = some r) : Con Try.prog 83 [] true [.sl false none 2 none (a0.map Arr2_i64.row), .clo 72 [.iref 1 [[.val (.int .i64 k1_0_0)]] 0 0]] (.val (.int .i64 r)) := by
 refine fun_ok4 (G := (G_slices_IndexFunc_2int_cascade_state_begun_1 N)) Try.func83 rfl (by decide) (by kernel_rfl) (gc 16 (fs_cascade_state_begun_1_ok N) gn) [] mix (Nat.le_of_ble_eq_true rfl) ?_
 simp only [Try.f83]
 unfold slices_IndexFunc_2int_cascade_state_begun_1 at h
 refine Ws fun Z hZ => ?_
 simp only [go_sem, seval]
 refine hZ _ (pp (Wk_seq (Ws fun Z hZ => ?_)))
 simp only [go_sem, seval]
 refine hZ _ (pp (Wk_block (Wk_real fun hreal2 => ?_)))
 have hl1 := hreal2.lenT 0 (by decide) (by simp only [go_sem, seval]; rfl)
 first | rw [List.length_map] at hl1 | rw [mxR_len] at hl1 | rw [← List.map_append, List.length_map] at hl1
 refine Wk_range (fun (v2 : Nat) (b : Unit) => ⟨tab 19 (updT (updT (updT (updT deadT 0 (.sl false none 2 none (a0.map Arr2_i64.row))) 1 (.clo 72 [.iref 1 [[.val (.int .i64 k1_0_0)]] 0 0])) 7 (.val (.int .i64 ((a0.length : Nat) : Int)))) 8 (.val (.int .i64 ((v2 : Nat) : Int)))), RZ⟩) () h ?_ ?_
 ·refine wr ?_ ?_ <;> repeat' first | rfl | constructor
 rintro v2 ⟨⟩ hi3 h -
 rcases (drop_cases a0 v2 hi3).symm with ⟨hi3', _, hd6⟩ | ⟨x5, hi3', hx4, hd6⟩
 ·rw [hd6] at h
  simp only [slices_IndexFunc_2int_cascade_state_begun_1_L1] at h
  refine Ws fun Z hZ => ?_
  simp only [go_sem, seval, hi3']
  refine hZ _ (pp (Wk_seq ?_))
  try simp only [Int.ofNat_lt, hi3', if_true, if_false] at h
  refine Wk_cond_f rfl (Wk_exit (pp (Ws fun Z hZ => ?_)))
  simp only [go_sem, seval]
  refine hZ _ (pp (Wk_ret (pp ?_)))
  cases h
  simp only [go_sem, seval]
  exact ⟨_, rfl, RokI.h, PureI.h⟩
 rw [hd6] at h
 simp only [slices_IndexFunc_2int_cascade_state_begun_1_L1] at h
 have hw5 := wrap_succ hi3' hl1
 refine Ws fun Z hZ => ?_
 simp only [go_sem, seval, hi3']
 refine hZ _ (pp (Wk_seq ?_))
 try simp only [Int.ofNat_lt, hi3', if_true, if_false] at h
 refine Wk_cond_t rfl (Wk_skip (pp (Wk_seq (Wk_block (Ws fun Z hZ => ?_)))))
 simp only [go_sem, seval]
 refine hZ _ (pp (Wk_seq ?_))
 try rw [gx_nat hx4] at h
 obtain ⟨r1, hr7, h⟩ := Option.bind_eq_some_iff.1 h
 refine Wk_regionZ fun Z hZ => ?_
 simp only [go_sem, seval, hx4, hi3', hr7]
 refine hZ _ (pp (Wk_cond_bool rfl (fun hc8 => ?_) (fun hc8 => ?_)))
 ·rw [if_pos hc8] at h
  refine Ws fun Z hZ => ?_
  simp only [go_sem, seval, hc8]
  refine hZ _ (pp (Wk_ret (pp ?_)))
  cases h
  simp only [go_sem, seval]
  exact ⟨_, rfl, RokI.h, PureI.h⟩
 rw [if_neg (ne_true_of_eq_false hc8)] at h
 refine Wk_skip (pp (Wk_regionZ fun Z hZ => ?_))
 simp only [go_sem, seval, hw5, hc8]
 refine hZ _ (pp ?_)
 first | refine ⟨(), ?_, h⟩ | refine ⟨hi3', (), ?_, h⟩
 refine wr ?_ ?_ <;> repeat' first | rfl | constructor
def fs_slices_IndexFunc_2int_cascade_state_begun_1 (N : Nat) : FnS := { own := [], pure := true, fn := fun cs => match cs with
 | [c0, .clo 72 [.iref 1 [[k1_0_0]] 0 0]] => ((decL 2 Arr2_i64.dec) c0).bind fun qc0 => ((decI .i64) k1_0_0).bind fun qk1_0_0 => (slices_IndexFunc_2int_cascade_state_begun_1 N qc0 qk1_0_0).map fun r => .val (.int .i64 r)
 | _ => none }
attribute [go_sem] fs_slices_IndexFunc_2int_cascade_state_begun_1
theorem fs_slices_IndexFunc_2int_cascade_state_begun_1_ok (N : Nat) : FSOk Try.prog 83 (fs_slices_IndexFunc_2int_cascade_state_begun_1 N) := by
 refine ⟨fun cs r h => ?_, fun h => by cases h⟩
 simp only [fs_slices_IndexFunc_2int_cascade_state_begun_1] at h
 split at h
 ·simp only [Option.bind_eq_some_iff, Option.map_eq_some_iff] at h
  obtain ⟨q0, h0, q1, h1, r', hr, rfl⟩ := h
  exact ((w_slices_IndexFunc_2int_cascade_state_begun_1 N q0 q1 r' hr).args (LeL.cons (decL_le Arr2_i64.dec_le h0) (LeL.cons (Le.clo (LeL.cons (Le.iref1 (LeL.cons (decI_le h1) (LeL.nil))) (LeL.nil))) (LeL.nil))))
 ·cases h


noncomputable def G_slices_ContainsFunc_2int_cascade_state_begun_1 (N d f : Nat) : Option FnS := glist [(7, 83, fs_slices_IndexFunc_2int_cascade_state_begun_1 N)] d f
attribute [go_sem] G_slices_ContainsFunc_2int_cascade_state_begun_1
theorem w_slices_ContainsFunc_2int_cascade_state_begun_1 (N : Nat) (a0 : (List Arr2_i64)) (k1_0_0 : Int) (r : Bool) (h : slices_ContainsFunc_2int_cascade_state_begun_1 N a0 k1_0_0 = some r) : Con Try.prog 71 [] true [.sl false none 2 none (a0.map Arr2_i64.row), .clo 72 [.iref 1 [[.val (.int .i64 k1_0_0)]] 0 0]] (.val (.bool r)) := by
 refine fun_ok4 (G := (G_slices_ContainsFunc_2int_cascade_state_begun_1 N)) Try.func71 rfl (by decide) (by kernel_rfl) (gc 7 (fs_slices_IndexFunc_2int_cascade_state_begun_1_ok N) gn) [] mix (Nat.le_of_ble_eq_true rfl) ?_
 simp only [Try.f71]
 unfold slices_ContainsFunc_2int_cascade_state_begun_1 at h
 refine Ws fun Z hZ => ?_
 simp only [go_sem, seval]
 refine hZ _ (pp (Wk_seq ?_))
 obtain ⟨r1, hr1, h⟩ := Option.bind_eq_some_iff.1 h
 refine Wk_regionZ fun Z hZ => ?_
 simp only [go_sem, seval, hr1]
 refine hZ _ (pp (Wk_ret (pp ?_)))
 cases h
 simp only [go_sem, seval]
 exact ⟨_, rfl, RokI.h, PureI.h⟩
def fs_slices_ContainsFunc_2int_cascade_state_begun_1 (N : Nat) : FnS := { own := [], pure := true, fn := fun cs => match cs with
 | [c0, .clo 72 [.iref 1 [[k1_0_0]] 0 0]] => ((decL 2 Arr2_i64.dec) c0).bind fun qc0 => ((decI .i64) k1_0_0).bind fun qk1_0_0 => (slices_ContainsFunc_2int_cascade_state_begun_1 N qc0 qk1_0_0).map fun r => .val (.bool r)
 | _ => none }
attribute [go_sem] fs_slices_ContainsFunc_2int_cascade_state_begun_1
theorem fs_slices_ContainsFunc_2int_cascade_state_begun_1_ok (N : Nat) : FSOk Try.prog 71 (fs_slices_ContainsFunc_2int_cascade_state_begun_1 N) := by
 refine ⟨fun cs r h => ?_, fun h => by cases h⟩
 simp only [fs_slices_ContainsFunc_2int_cascade_state_begun_1] at h
 split at h
 ·simp only [Option.bind_eq_some_iff, Option.map_eq_some_iff] at h
  obtain ⟨q0, h0, q1, h1, r', hr, rfl⟩ := h
  exact ((w_slices_ContainsFunc_2int_cascade_state_begun_1 N q0 q1 r' hr).args (LeL.cons (decL_le Arr2_i64.dec_le h0) (LeL.cons (Le.clo (LeL.cons (Le.iref1 (LeL.cons (decI_le h1) (LeL.nil))) (LeL.nil))) (LeL.nil))))
 ·cases h


noncomputable def G_cascade_state_begun (N d f : Nat) : Option FnS := glist [(10, 71, fs_slices_ContainsFunc_2int_cascade_state_begun_1 N)] d f
attribute [go_sem] G_cascade_state_begun
theorem w_cascade_state_begun (N : Nat) (a0 : cascade_state) (a1 : Int) (r : Bool) (h : cascade_state_begun N a0 a1 = some r) : Con Try.prog 48 [] true [.iref 6 [[.sl false none 2 none (a0.stacks.map cascade_stack.row), .sl false none 2 none (a0.prepared.map Arr2_i64.row), .sl false none 1 none (a0.known.map (rowI .i64)), .sl false none 1 none (a0.committed.map (rowI .i64)), .sl false none 1 none (a0.aborted.map (rowI .i64)), .sl false none 2 none (a0.deps.map Arr2_i64.row)]] 0 0, .val (.int .i64 a1)] (.val (.bool r)) := by
 refine fun_ok4 (G := (G_cascade_state_begun N)) Try.func48 rfl (by decide) (by kernel_rfl) (gc 10 (fs_slices_ContainsFunc_2int_cascade_state_begun_1_ok N) gn) [] mix (Nat.le_of_ble_eq_true rfl) ?_
 simp only [Try.f48]
 unfold cascade_state_begun at h
 refine Ws fun Z hZ => ?_
 simp only [go_sem, seval]
 refine hZ _ (pp (Wk_seq ?_))
 obtain ⟨r1, hr1, h⟩ := Option.bind_eq_some_iff.1 h
 refine Wk_regionZ fun Z hZ => ?_
 simp only [go_sem, seval, hr1]
 refine hZ _ (pp (Wk_ret (pp ?_)))
 cases h
 simp only [go_sem, seval]
 exact ⟨_, rfl, RokI.h, PureI.h⟩
def fs_cascade_state_begun (N : Nat) : FnS := ⟨[], true, fn2 (decPt 6 cascade_state.dec) (decI .i64) fun q0 q1 => (cascade_state_begun N q0 q1).map fun r => .val (.bool r), false⟩
attribute [go_sem] fs_cascade_state_begun
theorem fs_cascade_state_begun_ok (N : Nat) : FSOk Try.prog 48 (fs_cascade_state_begun N) := ok2 (fun q0 q1 r h => by
 obtain ⟨r', hr, rfl⟩ := Option.map_eq_some_iff.1 h
 exact w_cascade_state_begun N q0 q1 r' hr) (fun h => decPt_le cascade_state.dec_le h) (decI_le)


theorem w_slices_Index_2int (N : Nat) (a0 : (List Arr2_i64)) (a1 : Arr2_i64) (r : Int) (h : slices_Index_2int N a0 a1 = some r) : Con Try.prog 84 [] true [.sl false none 2 none (a0.map Arr2_i64.row), .agg [.val (.int .i64 a1.e0), .val (.int .i64 a1.e1)]] (.val (.int .i64 r)) := by
 refine fun_ok4 (G := (glist [])) Try.func84 rfl (by decide) (by kernel_rfl) gn [] mix (Nat.le_of_ble_eq_true rfl) ?_
 simp only [Try.f84]
 unfold slices_Index_2int at h
 refine Ws fun Z hZ => ?_
 simp only [go_sem, seval]
 refine hZ _ (pp (Wk_seq (Ws fun Z hZ => ?_)))
 simp only [go_sem, seval]
 refine hZ _ (pp (Wk_block (Wk_real fun hreal2 => ?_)))
 have hl1 := hreal2.lenT 0 (by decide) (by simp only [go_sem, seval]; rfl)
 first | rw [List.length_map] at hl1 | rw [mxR_len] at hl1 | rw [← List.map_append, List.length_map] at hl1
 refine Wk_range (fun (v2 : Nat) (b : Unit) => ⟨tab 19 (updT (updT (updT (updT deadT 0 (.sl false none 2 none (a0.map Arr2_i64.row))) 3 (.pref 3 [] 0 0)) 7 (.val (.int .i64 ((a0.length : Nat) : Int)))) 8 (.val (.int .i64 ((v2 : Nat) : Int)))), (upd RZ 3 (.sl true none 2 (some 1) [[.val (.int .i64 a1.e0), .val (.int .i64 a1.e1)]]))⟩) () h ?_ ?_
 ·refine wr ?_ ?_ <;> repeat' first | rfl | constructor
 rintro v2 ⟨⟩ hi3 h -
 rcases (drop_cases a0 v2 hi3).symm with ⟨hi3', _, hd6⟩ | ⟨x5, hi3', hx4, hd6⟩
 ·rw [hd6] at h
  simp only [slices_Index_2int_L1] at h
  refine Ws fun Z hZ => ?_
  simp only [go_sem, seval, hi3']
  refine hZ _ (pp (Wk_seq ?_))
  try simp only [Int.ofNat_lt, hi3', if_true, if_false] at h
  refine Wk_cond_f rfl (Wk_exit (pp (Ws fun Z hZ => ?_)))
  simp only [go_sem, seval]
  refine hZ _ (pp (Wk_ret (pp ?_)))
  cases h
  simp only [go_sem, seval]
  exact ⟨_, rfl, RokI.h, PureI.h⟩
 rw [hd6] at h
 simp only [slices_Index_2int_L1] at h
 have hw5 := wrap_succ hi3' hl1
 refine Ws fun Z hZ => ?_
 simp only [go_sem, seval, hi3']
 refine hZ _ (pp (Wk_seq ?_))
 try simp only [Int.ofNat_lt, hi3', if_true, if_false] at h
 refine Wk_cond_t rfl (Wk_skip (pp (Wk_seq (Wk_block (Ws fun Z hZ => ?_)))))
 simp only [go_sem, seval]
 refine hZ _ (pp (Wk_seq ?_))
 try rw [gx_nat hx4] at h
 refine Wk_regionD fun Z hZ => ?_
 simp only [go_sem, seval, hx4, hi3']
 refine hZ _ (by kernel_rfl) (pp (Wk_cond_bool rfl (fun hc7 => ?_) (fun hc7 => ?_)))
 ·rw [if_pos hc7] at h
  refine Ws fun Z hZ => ?_
  simp only [go_sem, seval, hc7]
  refine hZ _ (pp (Wk_ret (pp ?_)))
  cases h
  simp only [go_sem, seval]
  exact ⟨_, rfl, RokI.h, PureI.h⟩
 rw [if_neg (ne_true_of_eq_false hc7)] at h
 refine Wk_skip (pp (Wk_regionZ fun Z hZ => ?_))
 simp only [go_sem, seval, hw5, hc7]
 refine hZ _ (pp ?_)
 first | refine ⟨(), ?_, h⟩ | refine ⟨hi3', (), ?_, h⟩
 refine wr ?_ ?_ <;> repeat' first | rfl | constructor
def fs_slices_Index_2int (N : Nat) : FnS := ⟨[], true, fn2 (decL 2 Arr2_i64.dec) Arr2_i64.decA fun q0 q1 => (slices_Index_2int N q0 q1).map fun r => .val (.int .i64 r), false⟩
attribute [go_sem] fs_slices_Index_2int
theorem fs_slices_Index_2int_ok (N : Nat) : FSOk Try.prog 84 (fs_slices_Index_2int N) := ok2 (fun q0 q1 r h => by
 obtain ⟨r', hr, rfl⟩ := Option.map_eq_some_iff.1 h
 exact w_slices_Index_2int N q0 q1 r' hr) (fun h => decL_le Arr2_i64.dec_le h) (Arr2_i64.decA_le)


noncomputable def G_slices_Contains_2int (N d f : Nat) : Option FnS := glist [(7, 84, fs_slices_Index_2int N)] d f
attribute [go_sem] G_slices_Contains_2int
theorem w_slices_Contains_2int (N : Nat) (a0 : (List Arr2_i64)) (a1 : Arr2_i64) (r : Bool) (h : slices_Contains_2int N a0 a1 = some r) : Con Try.prog 73 [] true [.sl false none 2 none (a0.map Arr2_i64.row), .agg [.val (.int .i64 a1.e0), .val (.int .i64 a1.e1)]] (.val (.bool r)) := by
 refine fun_ok4 (G := (G_slices_Contains_2int N)) Try.func73 rfl (by decide) (by kernel_rfl) (gc 7 (fs_slices_Index_2int_ok N) gn) [] mix (Nat.le_of_ble_eq_true rfl) ?_
 simp only [Try.f73]
 unfold slices_Contains_2int at h
 refine Ws fun Z hZ => ?_
 simp only [go_sem, seval]
 refine hZ _ (pp (Wk_seq ?_))
 obtain ⟨r1, hr1, h⟩ := Option.bind_eq_some_iff.1 h
 refine Wk_regionZ fun Z hZ => ?_
 simp only [go_sem, seval, hr1]
 refine hZ _ (pp (Wk_ret (pp ?_)))
 cases h
 simp only [go_sem, seval]
 exact ⟨_, rfl, RokI.h, PureI.h⟩
def fs_slices_Contains_2int (N : Nat) : FnS := ⟨[], true, fn2 (decL 2 Arr2_i64.dec) Arr2_i64.decA fun q0 q1 => (slices_Contains_2int N q0 q1).map fun r => .val (.bool r), false⟩
attribute [go_sem] fs_slices_Contains_2int
theorem fs_slices_Contains_2int_ok (N : Nat) : FSOk Try.prog 73 (fs_slices_Contains_2int N) := ok2 (fun q0 q1 r h => by
 obtain ⟨r', hr, rfl⟩ := Option.map_eq_some_iff.1 h
 exact w_slices_Contains_2int N q0 q1 r' hr) (fun h => decL_le Arr2_i64.dec_le h) (Arr2_i64.decA_le)


noncomputable def G_cascade_state_has (N d f : Nat) : Option FnS := glist [(14, 73, fs_slices_Contains_2int N)] d f
attribute [go_sem] G_cascade_state_has
theorem w_cascade_state_has (N : Nat) (a0 : cascade_state) (a1 : Int) (a2 : Int) (r : Bool) (h : cascade_state_has N a0 a1 a2 = some r) : Con Try.prog 49 [] true [.iref 6 [[.sl false none 2 none (a0.stacks.map cascade_stack.row), .sl false none 2 none (a0.prepared.map Arr2_i64.row), .sl false none 1 none (a0.known.map (rowI .i64)), .sl false none 1 none (a0.committed.map (rowI .i64)), .sl false none 1 none (a0.aborted.map (rowI .i64)), .sl false none 2 none (a0.deps.map Arr2_i64.row)]] 0 0, .val (.int .i64 a1), .val (.int .i64 a2)] (.val (.bool r)) := by
 refine fun_ok4 (G := (G_cascade_state_has N)) Try.func49 rfl (by decide) (by kernel_rfl) (gc 14 (fs_slices_Contains_2int_ok N) gn) [] mix (Nat.le_of_ble_eq_true rfl) ?_
 simp only [Try.f49]
 unfold cascade_state_has at h
 refine Ws fun Z hZ => ?_
 simp only [go_sem, seval]
 refine hZ _ (pp (Wk_seq ?_))
 obtain ⟨r1, hr1, h⟩ := Option.bind_eq_some_iff.1 h
 refine Wk_regionZ fun Z hZ => ?_
 simp only [go_sem, seval, hr1]
 refine hZ _ (pp (Wk_ret (pp ?_)))
 cases h
 simp only [go_sem, seval]
 exact ⟨_, rfl, RokI.h, PureI.h⟩
def fs_cascade_state_has (N : Nat) : FnS := ⟨[], true, fn3 (decPt 6 cascade_state.dec) (decI .i64) (decI .i64) fun q0 q1 q2 => (cascade_state_has N q0 q1 q2).map fun r => .val (.bool r), false⟩
attribute [go_sem] fs_cascade_state_has
theorem fs_cascade_state_has_ok (N : Nat) : FSOk Try.prog 49 (fs_cascade_state_has N) := ok3 (fun q0 q1 q2 r h => by
 obtain ⟨r', hr, rfl⟩ := Option.map_eq_some_iff.1 h
 exact w_cascade_state_has N q0 q1 q2 r' hr) (fun h => decPt_le cascade_state.dec_le h) (decI_le) (decI_le)


noncomputable def G_cascade_state_ready (N d f : Nat) : Option FnS := glist [(20, 27, fs_slices_Contains_int N), (25, 49, fs_cascade_state_has N)] d f
attribute [go_sem] G_cascade_state_ready
theorem w_cascade_state_ready (N : Nat) (a0 : cascade_state) (a1 : Int) (r : Bool) (h : cascade_state_ready N a0 a1 = some r) : Con Try.prog 43 [] true [.iref 6 [[.sl false none 2 none (a0.stacks.map cascade_stack.row), .sl false none 2 none (a0.prepared.map Arr2_i64.row), .sl false none 1 none (a0.known.map (rowI .i64)), .sl false none 1 none (a0.committed.map (rowI .i64)), .sl false none 1 none (a0.aborted.map (rowI .i64)), .sl false none 2 none (a0.deps.map Arr2_i64.row)]] 0 0, .val (.int .i64 a1)] (.val (.bool r)) := by
 refine fun_ok4 (G := (G_cascade_state_ready N)) Try.func43 rfl (by decide) (by kernel_rfl) (gc 20 (fs_slices_Contains_int_ok N) (gc 25 (fs_cascade_state_has_ok N) gn)) [] mix (Nat.le_of_ble_eq_true rfl) ?_
 simp only [Try.f43]
 unfold cascade_state_ready at h
 refine Ws fun Z hZ => ?_
 simp only [go_sem, seval]
 refine hZ _ (pp (Ws fun Z hZ => ?_))
 simp only [go_sem, seval]
 refine hZ _ (pp (Wk_seq (Ws fun Z hZ => ?_)))
 simp only [go_sem, seval]
 refine hZ _ (pp (Wk_block (Wk_real fun hreal2 => ?_)))
 have hl1 := hreal2.lenT 11 (by decide) (by simp only [go_sem, seval]; rfl)
 first | rw [List.length_map] at hl1 | rw [mxR_len] at hl1 | rw [← List.map_append, List.length_map] at hl1
 refine Wk_range (fun (v3 : Nat) (b : Bool) => ⟨tab 29 (updT (updT (updT (updT (updT (updT deadT 0 (.iref 6 [[.sl false none 2 none (a0.stacks.map cascade_stack.row), .sl false none 2 none (a0.prepared.map Arr2_i64.row), .sl false none 1 none (a0.known.map (rowI .i64)), .sl false none 1 none (a0.committed.map (rowI .i64)), .sl false none 1 none (a0.aborted.map (rowI .i64)), .sl false none 2 none (a0.deps.map Arr2_i64.row)]] 0 0)) 1 (.val (.int .i64 a1))) 5 (.val (.bool b))) 11 (.sl false none 2 none (a0.stacks.map cascade_stack.row))) 12 (.val (.int .i64 ((a0.stacks.length : Nat) : Int)))) 13 (.val (.int .i64 ((v3 : Nat) : Int)))), RZ⟩) false h ?_ ?_
 ·refine wr ?_ ?_ <;> repeat' first | rfl | constructor
 rintro v3 c2 hi3 h -
 rcases (drop_cases a0.stacks v3 hi3).symm with ⟨hi3', _, hd6⟩ | ⟨x6, hi3', hx4, hd6⟩
 ·rw [hd6] at h
  simp only [cascade_state_ready_L1] at h
  refine Ws fun Z hZ => ?_
  simp only [go_sem, seval, hi3']
  refine hZ _ (pp (Wk_seq ?_))
  try simp only [Int.ofNat_lt, hi3', if_true, if_false] at h
  refine Wk_cond_f rfl (Wk_exit (pp (Ws fun Z hZ => ?_)))
  simp only [go_sem, seval]
  refine hZ _ (pp (Wk_ret (pp ?_)))
  cases h
  simp only [go_sem, seval]
  exact ⟨_, rfl, RokI.h, PureI.h⟩
 rw [hd6] at h
 simp only [cascade_state_ready_L1] at h
 have hw5 := wrap_succ hi3' hl1
 refine Ws fun Z hZ => ?_
 simp only [go_sem, seval, hi3']
 refine hZ _ (pp (Wk_seq ?_))
 try simp only [Int.ofNat_lt, hi3', if_true, if_false] at h
 refine Wk_cond_t rfl (Wk_skip (pp (Wk_seq (Wk_block (Wk_seq ?_)))))
 try rw [gx_nat hx4] at h
 refine Wk_regionZ fun Z hZ => ?_
 simp only [go_sem, seval, hx4, hi3']
 refine hZ _ (pp (Wk_seq ?_))
 obtain ⟨r1, hr7, h⟩ := Option.bind_eq_some_iff.1 h
 refine Wk_regionZ fun Z hZ => ?_
 simp only [go_sem, seval, hr7]
 refine hZ _ (pp (sw (Wk_cond_bool rfl) (fun hc8 => ?_) (fun hc8 => ?_)))
 ·rw [if_neg (ne_true_of_eq_false hc8)] at h
  refine Wk_skip (pp (Wk_regionZ fun Z hZ => ?_))
  simp only [go_sem, seval, hw5, hc8]
  refine hZ _ (pp ?_)
  first | refine ⟨c2, ?_, h⟩ | refine ⟨hi3', c2, ?_, h⟩
  refine wr ?_ ?_ <;> repeat' first | rfl | constructor
 rw [if_pos hc8] at h
 refine Wk_seq (Wk_seq ?_)
 obtain ⟨r2, hr9, h⟩ := Option.bind_eq_some_iff.1 h
 refine Wk_regionZ fun Z hZ => ?_
 simp only [go_sem, seval, hc8, hr9]
 refine hZ _ (pp (Wk_cond_nbool rfl (fun hc10 => ?_) (fun hc10 => ?_)))
 ·rw [if_neg (ne_true_of_eq_false hc10)] at h
  refine Ws fun Z hZ => ?_
  simp only [go_sem, seval, hc10]
  refine hZ _ (pp (Wk_ret (pp ?_)))
  cases h
  simp only [go_sem, seval]
  exact ⟨_, rfl, RokI.h, PureI.h⟩
 rw [if_pos hc10] at h
 refine Wk_skip (pp (Wk_regionZ fun Z hZ => ?_))
 simp only [go_sem, seval, hc10]
 refine hZ _ (pp (Wk_regionZ fun Z hZ => ?_))
 simp only [go_sem, seval, hw5]
 refine hZ _ (pp ?_)
 first | refine ⟨true, ?_, h⟩ | refine ⟨hi3', true, ?_, h⟩
 refine wr ?_ ?_ <;> repeat' first | rfl | constructor
def fs_cascade_state_ready (N : Nat) : FnS := ⟨[], true, fn2 (decPt 6 cascade_state.dec) (decI .i64) fun q0 q1 => (cascade_state_ready N q0 q1).map fun r => .val (.bool r), false⟩
attribute [go_sem] fs_cascade_state_ready
theorem fs_cascade_state_ready_ok (N : Nat) : FSOk Try.prog 43 (fs_cascade_state_ready N) := ok2 (fun q0 q1 r h => by
 obtain ⟨r', hr, rfl⟩ := Option.map_eq_some_iff.1 h
 exact w_cascade_state_ready N q0 q1 r' hr) (fun h => decPt_le cascade_state.dec_le h) (decI_le)


noncomputable def G_cascade_state_lowest_1 (N d f : Nat) : Option FnS := glist [(7, 42, fs_slices_Index_int N)] d f
attribute [go_sem] G_cascade_state_lowest_1
theorem w_cascade_state_lowest_1 (N : Nat) (a0 : cascade_stack) (c0_0 : Int) (r : Bool) (h : cascade_state_lowest_1 N a0 c0_0 = some r) : Con Try.prog 46 [] true [.agg [.val (.int .i64 a0.actor), .sl false none 1 none (a0.txns.map (rowI .i64))], .iref 1 [[.val (.int .i64 c0_0)]] 0 0] (.val (.bool r)) := by
 refine fun_ok4 (G := (G_cascade_state_lowest_1 N)) Try.func46 rfl (by decide) (by kernel_rfl) (gc 7 (fs_slices_Index_int_ok N) gn) [] mix (Nat.le_of_ble_eq_true rfl) ?_
 simp only [Try.f46]
 unfold cascade_state_lowest_1 at h
 refine Ws fun Z hZ => ?_
 simp only [go_sem, seval]
 refine hZ _ (pp (Wk_seq ?_))
 obtain ⟨r1, hr1, h⟩ := Option.bind_eq_some_iff.1 h
 refine Wk_regionZ fun Z hZ => ?_
 simp only [go_sem, seval, hr1]
 refine hZ _ (pp (Wk_ret (pp ?_)))
 cases h
 simp only [go_sem, seval]
 exact ⟨_, rfl, RokI.h, PureI.h⟩
def fs_cascade_state_lowest_1 (N : Nat) : FnS := { own := [], pure := true, fn := fun cs => match cs with
 | [c0, .iref 1 [[c1_0]] 0 0] => (cascade_stack.decA c0).bind fun qc0 => ((decI .i64) c1_0).bind fun qc1_0 => (cascade_state_lowest_1 N qc0 qc1_0).map fun r => .val (.bool r)
 | _ => none }
attribute [go_sem] fs_cascade_state_lowest_1
theorem fs_cascade_state_lowest_1_ok (N : Nat) : FSOk Try.prog 46 (fs_cascade_state_lowest_1 N) := by
 refine ⟨fun cs r h => ?_, fun h => by cases h⟩
 simp only [fs_cascade_state_lowest_1] at h
 split at h
 ·simp only [Option.bind_eq_some_iff, Option.map_eq_some_iff] at h
  obtain ⟨q0, h0, q1, h1, r', hr, rfl⟩ := h
  exact ((w_cascade_state_lowest_1 N q0 q1 r' hr).args (LeL.cons (cascade_stack.decA_le h0) (LeL.cons (Le.iref1 (LeL.cons (decI_le h1) (LeL.nil))) (LeL.nil))))
 ·cases h


noncomputable def G_slices_IndexFunc_stack_cascade_state_lowest_1 (N d f : Nat) : Option FnS := glist [(16, 46, fs_cascade_state_lowest_1 N)] d f
attribute [go_sem] G_slices_IndexFunc_stack_cascade_state_lowest_1
theorem w_slices_IndexFunc_stack_cascade_state_lowest_1 (N : Nat) (a0 : (List cascade_stack)) (k1_0_0 : Int) (r : Int) (h : slices_IndexFunc_stack_cascade_state_lowest_1 N a0 k1_0_0 = some r) : Con Try.prog 70 [] true [.sl false none 2 none (a0.map cascade_stack.row), .clo 46 [.iref 1 [[.val (.int .i64 k1_0_0)]] 0 0]] (.val (.int .i64 r)) := by
 refine fun_ok4 (G := (G_slices_IndexFunc_stack_cascade_state_lowest_1 N)) Try.func70 rfl (by decide) (by kernel_rfl) (gc 16 (fs_cascade_state_lowest_1_ok N) gn) [] mix (Nat.le_of_ble_eq_true rfl) ?_
 simp only [Try.f70]
 unfold slices_IndexFunc_stack_cascade_state_lowest_1 at h
 refine Ws fun Z hZ => ?_
 simp only [go_sem, seval]
 refine hZ _ (pp (Wk_seq (Ws fun Z hZ => ?_)))
 simp only [go_sem, seval]
 refine hZ _ (pp (Wk_block (Wk_real fun hreal2 => ?_)))
 have hl1 := hreal2.lenT 0 (by decide) (by simp only [go_sem, seval]; rfl)
 first | rw [List.length_map] at hl1 | rw [mxR_len] at hl1 | rw [← List.map_append, List.length_map] at hl1
 refine Wk_range (fun (v2 : Nat) (b : Unit) => ⟨tab 19 (updT (updT (updT (updT deadT 0 (.sl false none 2 none (a0.map cascade_stack.row))) 1 (.clo 46 [.iref 1 [[.val (.int .i64 k1_0_0)]] 0 0])) 7 (.val (.int .i64 ((a0.length : Nat) : Int)))) 8 (.val (.int .i64 ((v2 : Nat) : Int)))), RZ⟩) () h ?_ ?_
 ·refine wr ?_ ?_ <;> repeat' first | rfl | constructor
 rintro v2 ⟨⟩ hi3 h -
 rcases (drop_cases a0 v2 hi3).symm with ⟨hi3', _, hd6⟩ | ⟨x5, hi3', hx4, hd6⟩
 ·rw [hd6] at h
  simp only [slices_IndexFunc_stack_cascade_state_lowest_1_L1] at h
  refine Ws fun Z hZ => ?_
  simp only [go_sem, seval, hi3']
  refine hZ _ (pp (Wk_seq ?_))
  try simp only [Int.ofNat_lt, hi3', if_true, if_false] at h
  refine Wk_cond_f rfl (Wk_exit (pp (Ws fun Z hZ => ?_)))
  simp only [go_sem, seval]
  refine hZ _ (pp (Wk_ret (pp ?_)))
  cases h
  simp only [go_sem, seval]
  exact ⟨_, rfl, RokI.h, PureI.h⟩
 rw [hd6] at h
 simp only [slices_IndexFunc_stack_cascade_state_lowest_1_L1] at h
 have hw5 := wrap_succ hi3' hl1
 refine Ws fun Z hZ => ?_
 simp only [go_sem, seval, hi3']
 refine hZ _ (pp (Wk_seq ?_))
 try simp only [Int.ofNat_lt, hi3', if_true, if_false] at h
 refine Wk_cond_t rfl (Wk_skip (pp (Wk_seq (Wk_block (Ws fun Z hZ => ?_)))))
 simp only [go_sem, seval]
 refine hZ _ (pp (Wk_seq ?_))
 try rw [gx_nat hx4] at h
 obtain ⟨r1, hr7, h⟩ := Option.bind_eq_some_iff.1 h
 refine Wk_regionZ fun Z hZ => ?_
 simp only [go_sem, seval, hx4, hi3', hr7]
 refine hZ _ (pp (Wk_cond_bool rfl (fun hc8 => ?_) (fun hc8 => ?_)))
 ·rw [if_pos hc8] at h
  refine Ws fun Z hZ => ?_
  simp only [go_sem, seval, hc8]
  refine hZ _ (pp (Wk_ret (pp ?_)))
  cases h
  simp only [go_sem, seval]
  exact ⟨_, rfl, RokI.h, PureI.h⟩
 rw [if_neg (ne_true_of_eq_false hc8)] at h
 refine Wk_skip (pp (Wk_regionZ fun Z hZ => ?_))
 simp only [go_sem, seval, hw5, hc8]
 refine hZ _ (pp ?_)
 first | refine ⟨(), ?_, h⟩ | refine ⟨hi3', (), ?_, h⟩
 refine wr ?_ ?_ <;> repeat' first | rfl | constructor
def fs_slices_IndexFunc_stack_cascade_state_lowest_1 (N : Nat) : FnS := { own := [], pure := true, fn := fun cs => match cs with
 | [c0, .clo 46 [.iref 1 [[k1_0_0]] 0 0]] => ((decL 2 cascade_stack.dec) c0).bind fun qc0 => ((decI .i64) k1_0_0).bind fun qk1_0_0 => (slices_IndexFunc_stack_cascade_state_lowest_1 N qc0 qk1_0_0).map fun r => .val (.int .i64 r)
 | _ => none }
attribute [go_sem] fs_slices_IndexFunc_stack_cascade_state_lowest_1
theorem fs_slices_IndexFunc_stack_cascade_state_lowest_1_ok (N : Nat) : FSOk Try.prog 70 (fs_slices_IndexFunc_stack_cascade_state_lowest_1 N) := by
 refine ⟨fun cs r h => ?_, fun h => by cases h⟩
 simp only [fs_slices_IndexFunc_stack_cascade_state_lowest_1] at h
 split at h
 ·simp only [Option.bind_eq_some_iff, Option.map_eq_some_iff] at h
  obtain ⟨q0, h0, q1, h1, r', hr, rfl⟩ := h
  exact ((w_slices_IndexFunc_stack_cascade_state_lowest_1 N q0 q1 r' hr).args (LeL.cons (decL_le cascade_stack.dec_le h0) (LeL.cons (Le.clo (LeL.cons (Le.iref1 (LeL.cons (decI_le h1) (LeL.nil))) (LeL.nil))) (LeL.nil))))
 ·cases h


noncomputable def G_slices_ContainsFunc_stack_cascade_state_lowest_1 (N d f : Nat) : Option FnS := glist [(7, 70, fs_slices_IndexFunc_stack_cascade_state_lowest_1 N)] d f
attribute [go_sem] G_slices_ContainsFunc_stack_cascade_state_lowest_1
theorem w_slices_ContainsFunc_stack_cascade_state_lowest_1 (N : Nat) (a0 : (List cascade_stack)) (k1_0_0 : Int) (r : Bool) (h : slices_ContainsFunc_stack_cascade_state_lowest_1 N a0 k1_0_0 = some r) : Con Try.prog 45 [] true [.sl false none 2 none (a0.map cascade_stack.row), .clo 46 [.iref 1 [[.val (.int .i64 k1_0_0)]] 0 0]] (.val (.bool r)) := by
 refine fun_ok4 (G := (G_slices_ContainsFunc_stack_cascade_state_lowest_1 N)) Try.func45 rfl (by decide) (by kernel_rfl) (gc 7 (fs_slices_IndexFunc_stack_cascade_state_lowest_1_ok N) gn) [] mix (Nat.le_of_ble_eq_true rfl) ?_
 simp only [Try.f45]
 unfold slices_ContainsFunc_stack_cascade_state_lowest_1 at h
 refine Ws fun Z hZ => ?_
 simp only [go_sem, seval]
 refine hZ _ (pp (Wk_seq ?_))
 obtain ⟨r1, hr1, h⟩ := Option.bind_eq_some_iff.1 h
 refine Wk_regionZ fun Z hZ => ?_
 simp only [go_sem, seval, hr1]
 refine hZ _ (pp (Wk_ret (pp ?_)))
 cases h
 simp only [go_sem, seval]
 exact ⟨_, rfl, RokI.h, PureI.h⟩
def fs_slices_ContainsFunc_stack_cascade_state_lowest_1 (N : Nat) : FnS := { own := [], pure := true, fn := fun cs => match cs with
 | [c0, .clo 46 [.iref 1 [[k1_0_0]] 0 0]] => ((decL 2 cascade_stack.dec) c0).bind fun qc0 => ((decI .i64) k1_0_0).bind fun qk1_0_0 => (slices_ContainsFunc_stack_cascade_state_lowest_1 N qc0 qk1_0_0).map fun r => .val (.bool r)
 | _ => none }
attribute [go_sem] fs_slices_ContainsFunc_stack_cascade_state_lowest_1
theorem fs_slices_ContainsFunc_stack_cascade_state_lowest_1_ok (N : Nat) : FSOk Try.prog 45 (fs_slices_ContainsFunc_stack_cascade_state_lowest_1 N) := by
 refine ⟨fun cs r h => ?_, fun h => by cases h⟩
 simp only [fs_slices_ContainsFunc_stack_cascade_state_lowest_1] at h
 split at h
 ·simp only [Option.bind_eq_some_iff, Option.map_eq_some_iff] at h
  obtain ⟨q0, h0, q1, h1, r', hr, rfl⟩ := h
  exact ((w_slices_ContainsFunc_stack_cascade_state_lowest_1 N q0 q1 r' hr).args (LeL.cons (decL_le cascade_stack.dec_le h0) (LeL.cons (Le.clo (LeL.cons (Le.iref1 (LeL.cons (decI_le h1) (LeL.nil))) (LeL.nil))) (LeL.nil))))
 ·cases h


noncomputable def G_cascade_state_lowest (N d f : Nat) : Option FnS := glist [(10, 45, fs_slices_ContainsFunc_stack_cascade_state_lowest_1 N)] d f
attribute [go_sem] G_cascade_state_lowest
theorem w_cascade_state_lowest (N : Nat) (a0 : cascade_state) (a1 : Int) (r : Bool) (h : cascade_state_lowest N a0 a1 = some r) : Con Try.prog 33 [] true [.iref 6 [[.sl false none 2 none (a0.stacks.map cascade_stack.row), .sl false none 2 none (a0.prepared.map Arr2_i64.row), .sl false none 1 none (a0.known.map (rowI .i64)), .sl false none 1 none (a0.committed.map (rowI .i64)), .sl false none 1 none (a0.aborted.map (rowI .i64)), .sl false none 2 none (a0.deps.map Arr2_i64.row)]] 0 0, .val (.int .i64 a1)] (.val (.bool r)) := by
 refine fun_ok4 (G := (G_cascade_state_lowest N)) Try.func33 rfl (by decide) (by kernel_rfl) (gc 10 (fs_slices_ContainsFunc_stack_cascade_state_lowest_1_ok N) gn) [] mix (Nat.le_of_ble_eq_true rfl) ?_
 simp only [Try.f33]
 unfold cascade_state_lowest at h
 refine Ws fun Z hZ => ?_
 simp only [go_sem, seval]
 refine hZ _ (pp (Wk_seq ?_))
 obtain ⟨r1, hr1, h⟩ := Option.bind_eq_some_iff.1 h
 refine Wk_regionZ fun Z hZ => ?_
 simp only [go_sem, seval, hr1]
 refine hZ _ (pp (Wk_ret (pp ?_)))
 cases h
 simp only [go_sem, seval]
 exact ⟨_, rfl, RokI.h, PureI.h⟩
def fs_cascade_state_lowest (N : Nat) : FnS := ⟨[], true, fn2 (decPt 6 cascade_state.dec) (decI .i64) fun q0 q1 => (cascade_state_lowest N q0 q1).map fun r => .val (.bool r), false⟩
attribute [go_sem] fs_cascade_state_lowest
theorem fs_cascade_state_lowest_ok (N : Nat) : FSOk Try.prog 33 (fs_cascade_state_lowest N) := ok2 (fun q0 q1 r h => by
 obtain ⟨r', hr, rfl⟩ := Option.map_eq_some_iff.1 h
 exact w_cascade_state_lowest N q0 q1 r' hr) (fun h => decPt_le cascade_state.dec_le h) (decI_le)


noncomputable def G_cascade_state_allowed (N d f : Nat) : Option FnS := glist [(9, 47, fs_cascade_between N), (15, 30, fs_cascade_state_ended N), (20, 35, fs_cascade_state_on N), (27, 47, fs_cascade_between N), (33, 48, fs_cascade_state_begun N), (58, 49, fs_cascade_state_has N), (64, 47, fs_cascade_between N), (69, 27, fs_slices_Contains_int N), (77, 49, fs_cascade_state_has N), (89, 43, fs_cascade_state_ready N), (95, 33, fs_cascade_state_lowest N)] d f
attribute [go_sem] G_cascade_state_allowed
theorem w_cascade_state_allowed (N : Nat) (a0 : cascade_state) (a1 : TxnEvent) (r : Bool) (h : cascade_state_allowed N a0 a1 = some r) : Con Try.prog 36 [] true [.iref 6 [[.sl false none 2 none (a0.stacks.map cascade_stack.row), .sl false none 2 none (a0.prepared.map Arr2_i64.row), .sl false none 1 none (a0.known.map (rowI .i64)), .sl false none 1 none (a0.committed.map (rowI .i64)), .sl false none 1 none (a0.aborted.map (rowI .i64)), .sl false none 2 none (a0.deps.map Arr2_i64.row)]] 0 0, .agg (TxnEvent.row a1)] (.val (.bool r)) := by
 refine fun_ok4 (G := (G_cascade_state_allowed N)) Try.func36 rfl (by decide) (by kernel_rfl) (gc 9 (fs_cascade_between_ok N) (gc 15 (fs_cascade_state_ended_ok N) (gc 20 (fs_cascade_state_on_ok N) (gc 27 (fs_cascade_between_ok N) (gc 33 (fs_cascade_state_begun_ok N) (gc 58 (fs_cascade_state_has_ok N) (gc 64 (fs_cascade_between_ok N) (gc 69 (fs_slices_Contains_int_ok N) (gc 77 (fs_cascade_state_has_ok N) (gc 89 (fs_cascade_state_ready_ok N) (gc 95 (fs_cascade_state_lowest_ok N) gn))))))))))) [] mix (Nat.le_of_ble_eq_true rfl) ?_
 simp only [Try.f36]
 unfold cascade_state_allowed at h
 refine Ws fun Z hZ => ?_
 simp only [go_sem, seval]
 refine hZ _ (pp (Wk_seq ?_))
 apply Wk_join1 (fun (c7 : Bool) => ⟨tab 102 (updT (updT (updT deadT 0 (.iref 6 [[.sl false none 2 none (a0.stacks.map cascade_stack.row), .sl false none 2 none (a0.prepared.map Arr2_i64.row), .sl false none 1 none (a0.known.map (rowI .i64)), .sl false none 1 none (a0.committed.map (rowI .i64)), .sl false none 1 none (a0.aborted.map (rowI .i64)), .sl false none 2 none (a0.deps.map Arr2_i64.row)]] 0 0)) 3 (.pref 3 [] 0 0)) 16 (.val (.bool c7))), (upd RZ 3 (.sl true none 3 (some 1) [TxnEvent.row a1]))⟩)
 ·intro hJ1
  obtain ⟨r8, hr2, h⟩ := Option.bind_eq_some_iff.1 h
  refine Wk_regionZ fun Z hZ => ?_
  simp only [go_sem, seval, hr2]
  refine RX_guard_nbool rfl (fun hc3 => ?_) (fun hc3 => ?_)
  ·rw [if_neg (ne_true_of_eq_false hc3)] at h
   simp only [go_sem, seval, hc3]
   refine hZ _ (pp (hJ1 _ true ?_ h))
   refine wr ?_ ?_ <;> repeat' first | rfl | constructor
  rw [if_pos hc3] at h
  obtain ⟨r9, hr4, h⟩ := Option.bind_eq_some_iff.1 h
  simp only [go_sem, seval, hc3, hr4]
  refine hZ _ (pp (hJ1 _ r9 ?_ h))
  refine wr ?_ ?_ <;> repeat' first | rfl | constructor
 intro c7 h
 unfold cascade_state_allowed_J1 at h
 refine Wk_cond_bool rfl (fun hc5 => ?_) (fun hc5 => ?_)
 ·rw [if_pos hc5] at h
  refine Ws fun Z hZ => ?_
  simp only [go_sem, seval, hc5]
  refine hZ _ (pp (Wk_ret (pp ?_)))
  cases h
  simp only [go_sem, seval]
  exact ⟨_, rfl, RokI.h, PureI.h⟩
 rw [if_neg (ne_true_of_eq_false hc5)] at h
 refine Wk_skip (pp ?_)
 unfold cascade_state_allowed_J4 at h
 refine Wk_seq ?_
 obtain ⟨r10, hr6, h⟩ := Option.bind_eq_some_iff.1 h
 refine Wk_regionZ fun Z hZ => ?_
 simp only [go_sem, seval, hc5, hr6]
 refine hZ _ (pp (Wk_seq (Ws fun Z hZ => ?_)))
 simp only [go_sem, seval]
 refine hZ _ (pp (Wk_block (Ws fun Z hZ => ?_)))
 simp only [go_sem, seval]
 refine hZ _ (pp (Wk_cond_dec rfl (fun hc7 => ?_) (fun hc7 => ?_)))
 ·have hc7d := decide_eq_true hc7
  rw [if_pos hc7] at h
  refine Wk_seq ?_
  apply Wk_join1 (fun (c17 : Bool) => ⟨tab 102 (updT (updT (updT (updT deadT 0 (.iref 6 [[.sl false none 2 none (a0.stacks.map cascade_stack.row), .sl false none 2 none (a0.prepared.map Arr2_i64.row), .sl false none 1 none (a0.known.map (rowI .i64)), .sl false none 1 none (a0.committed.map (rowI .i64)), .sl false none 1 none (a0.aborted.map (rowI .i64)), .sl false none 2 none (a0.deps.map Arr2_i64.row)]] 0 0)) 3 (.pref 3 [] 0 0)) 5 (.sl false none 1 none (r10.map (rowI .i64)))) 34 (.val (.bool c17))), (upd RZ 3 (.sl true none 3 (some 1) [TxnEvent.row a1]))⟩)
  ·intro hJ8
   obtain ⟨r18, hr9, h⟩ := Option.bind_eq_some_iff.1 h
   refine Wk_regionZ fun Z hZ => ?_
   simp only [go_sem, seval, hc7d, hr9]
   refine RX_guard_nbool rfl (fun hc10 => ?_) (fun hc10 => ?_)
   ·rw [if_neg (ne_true_of_eq_false hc10)] at h
    simp only [go_sem, seval, hc10]
    refine hZ _ (pp (hJ8 _ true ?_ h))
    refine wr ?_ ?_ <;> repeat' first | rfl | constructor
   rw [if_pos hc10] at h
   obtain ⟨r19, hr11, h⟩ := Option.bind_eq_some_iff.1 h
   simp only [go_sem, seval, hc10, hr11]
   refine hZ _ (pp (hJ8 _ r19 ?_ h))
   refine wr ?_ ?_ <;> repeat' first | rfl | constructor
  intro c17 h
  unfold cascade_state_allowed_J2 at h
  refine Wk_cond_bool rfl (fun hc12 => ?_) (fun hc12 => ?_)
  ·rw [if_pos hc12] at h
   refine Ws fun Z hZ => ?_
   simp only [go_sem, seval, hc12]
   refine hZ _ (pp (Wk_ret (pp ?_)))
   cases h
   simp only [go_sem, seval]
   exact ⟨_, rfl, RokI.h, PureI.h⟩
  rw [if_neg (ne_true_of_eq_false hc12)] at h
  refine Wk_skip (pp ?_)
  unfold cascade_state_allowed_J3 at h
  refine Ws fun Z hZ => ?_
  simp only [go_sem, seval, hc12]
  refine hZ _ (pp (Wk_seq (Wk_regionD fun Z hZ => ?_)))
  simp only [go_sem, seval]
  refine RX_guard_dec rfl (fun hc13 => ?_) (fun hc13 => ?_)
  ·have hc13d := decide_eq_true hc13
   rw [if_pos hc13] at h
   simp only [go_sem, seval, hc13d]
   refine hZ _ (by kernel_rfl) (pp (Wk_ret (pp ?_)))
   cases h
   simp only [go_sem, seval]
   exact ⟨_, rfl, RokI.h, PureI.h⟩
  have hc13d := decide_eq_false hc13
  rw [if_neg hc13] at h
  obtain ⟨x20, hb14, hx15, h⟩ := gx_some h
  simp only [go_sem, seval, hc13d, hb14, hx15]
  refine RX_guard_dec rfl (fun hc16 => ?_) (fun hc16 => ?_)
  ·have hc16d := decide_eq_true hc16
   rw [if_pos hc16] at h
   simp only [go_sem, seval, hc16d]
   refine hZ _ (by kernel_rfl) (pp (Wk_ret (pp ?_)))
   cases h
   simp only [go_sem, seval]
   exact ⟨_, rfl, RokI.h, PureI.h⟩
  have hc16d := decide_eq_false hc16
  rw [if_neg hc16] at h
  obtain ⟨r21, hr17, h⟩ := Option.bind_eq_some_iff.1 h
  simp only [go_sem, seval, hb14, hx15, hc16d, hr17]
  repeat with_reducible refine and_bar (by kernel_rfl) ?_
  refine hZ _ (by kernel_rfl) (pp (Wk_ret (pp ?_)))
  cases h
  simp only [go_sem, seval]
  exact ⟨_, rfl, RokI.h, PureI.h⟩
 have hc7d := decide_eq_false hc7
 rw [if_neg hc7] at h
 refine Ws fun Z hZ => ?_
 simp only [go_sem, seval, hc7d]
 refine hZ _ (pp (Wk_cond_dec rfl (fun hc18 => ?_) (fun hc18 => ?_)))
 ·have hc18d := decide_eq_true hc18
  rw [if_pos hc18] at h
  refine Wk_seq ?_
  obtain ⟨r22, hr19, h⟩ := Option.bind_eq_some_iff.1 h
  refine Wk_regionZ fun Z hZ => ?_
  simp only [go_sem, seval, hc18d, hr19]
  refine sw (RX_guard_bool rfl) (fun hc20 => ?_) (fun hc20 => ?_)
  ·rw [if_neg (ne_true_of_eq_false hc20)] at h
   simp only [go_sem, seval, hc20]
   refine hZ _ (pp (Wk_ret (pp ?_)))
   cases h
   simp only [go_sem, seval]
   exact ⟨_, rfl, RokI.h, PureI.h⟩
  rw [if_pos hc20] at h
  obtain ⟨r23, hr21, h⟩ := Option.bind_eq_some_iff.1 h
  simp only [go_sem, seval, hc20, hr21]
  refine RX_guard_bool rfl (fun hc22 => ?_) (fun hc22 => ?_)
  ·rw [if_pos hc22] at h
   obtain ⟨r24, hr23, h⟩ := Option.bind_eq_some_iff.1 h
   simp only [go_sem, seval, hc22, hr23]
   refine hZ _ (pp (Wk_ret (pp ?_)))
   cases h
   simp only [go_sem, seval]
   exact ⟨_, rfl, RokI.h, PureI.h⟩
  rw [if_neg (ne_true_of_eq_false hc22)] at h
  simp only [go_sem, seval, hc22]
  refine hZ _ (pp (Wk_ret (pp ?_)))
  cases h
  simp only [go_sem, seval]
  exact ⟨_, rfl, RokI.h, PureI.h⟩
 have hc18d := decide_eq_false hc18
 rw [if_neg hc18] at h
 refine Ws fun Z hZ => ?_
 simp only [go_sem, seval, hc18d]
 refine hZ _ (pp (sw (Wk_cond_dec rfl) (fun hc24 => ?_) (fun hc24 => ?_)))
 ·have hc24d := decide_eq_false hc24
  rw [if_neg hc24] at h
  refine Ws fun Z hZ => ?_
  simp only [go_sem, seval, hc24d]
  refine hZ _ (pp (Wk_cond_dec rfl (fun hc29 => ?_) (fun hc29 => ?_)))
  ·have hc29d := decide_eq_true hc29
   rw [if_pos hc29] at h
   refine Ws fun Z hZ => ?_
   simp only [go_sem, seval, hc29d]
   refine hZ _ (pp (Wk_ret (pp ?_)))
   cases h
   simp only [go_sem, seval]
   exact ⟨_, rfl, RokI.h, PureI.h⟩
  have hc29d := decide_eq_false hc29
  rw [if_neg hc29] at h
  refine Wk_skip (pp (Ws fun Z hZ => ?_))
  simp only [go_sem, seval, hc29d]
  refine hZ _ (pp (Wk_ret (pp ?_)))
  cases h
  simp only [go_sem, seval]
  exact ⟨_, rfl, RokI.h, PureI.h⟩
 have hc24d := decide_eq_true hc24
 rw [if_pos hc24] at h
 refine Ws fun Z hZ => ?_
 simp only [go_sem, seval, hc24d]
 refine sw (RX_guard_dec rfl) (fun hc25 => ?_) (fun hc25 => ?_)
 ·have hc25d := decide_eq_false hc25
  rw [if_neg hc25] at h
  simp only [go_sem, seval, hc25d]
  refine hZ _ (pp (Wk_ret (pp ?_)))
  cases h
  simp only [go_sem, seval]
  exact ⟨_, rfl, RokI.h, PureI.h⟩
 have hc25d := decide_eq_true hc25
 rw [if_pos hc25] at h
 obtain ⟨r25, hr26, h⟩ := Option.bind_eq_some_iff.1 h
 simp only [go_sem, seval, hc25d, hr26]
 refine RX_guard_bool rfl (fun hc27 => ?_) (fun hc27 => ?_)
 ·rw [if_pos hc27] at h
  obtain ⟨r26, hr28, h⟩ := Option.bind_eq_some_iff.1 h
  simp only [go_sem, seval, hc27, hr28]
  refine hZ _ (pp (Wk_ret (pp ?_)))
  cases h
  simp only [go_sem, seval]
  exact ⟨_, rfl, RokI.h, PureI.h⟩
 rw [if_neg (ne_true_of_eq_false hc27)] at h
 simp only [go_sem, seval, hc27]
 refine hZ _ (pp (Wk_ret (pp ?_)))
 cases h
 simp only [go_sem, seval]
 exact ⟨_, rfl, RokI.h, PureI.h⟩
def fs_cascade_state_allowed (N : Nat) : FnS := ⟨[], true, fn2 (decPt 6 cascade_state.dec) TxnEvent.decA fun q0 q1 => (cascade_state_allowed N q0 q1).map fun r => .val (.bool r), false⟩
attribute [go_sem] fs_cascade_state_allowed
theorem fs_cascade_state_allowed_ok (N : Nat) : FSOk Try.prog 36 (fs_cascade_state_allowed N) := ok2 (fun q0 q1 r h => by
 obtain ⟨r', hr, rfl⟩ := Option.map_eq_some_iff.1 h
 exact w_cascade_state_allowed N q0 q1 r' hr) (fun h => decPt_le cascade_state.dec_le h) (TxnEvent.decA_le)


theorem w_slices_Clone_int_nn (N : Nat) (a0 : (List Int)) (r : (List Int)) (h : slices_Clone_int N a0 = some r) : Con Try.prog 24 [] true [.sl false (some false) 1 none (a0.map (rowI .i64))] (.sl true none 1 none (r.map (rowI .i64))) := by
 refine fun_ok4 (G := (glist [])) Try.func24 rfl (by decide) (by kernel_rfl) gn [] mix (Nat.le_of_ble_eq_true rfl) ?_
 simp only [Try.f24]
 unfold slices_Clone_int at h
 refine Ws fun Z hZ => ?_
 simp only [go_sem, seval]
 refine hZ _ (pp (Wk_seq (Ws fun Z hZ => ?_)))
 simp only [go_sem, seval]
 refine hZ _ (pp (Wk_cond_f rfl ?_))
 first | rw [if_pos (rfl : true = true)] at h | rw [if_neg Bool.false_ne_true] at h | skip
 refine Wk_skip (pp (Wk_seq ?_))
 first | obtain ⟨ha1, h⟩ := apn_some h | (obtain ⟨ha1, h⟩ := apx_some h; rw [List.nil_append] at h)
 simp only [Nat.reduceAdd] at ha1
 refine Wk_regionZ fun Z hZ => ?_
 simp only [go_sem, seval, ha1]
 refine hZ _ (pp (Wk_ret (pp ?_)))
 cases h
 simp only [go_sem, seval]
 exact ⟨_, rfl, RokI.h, PureI.h⟩
theorem w_slices_Clone_int_nil (N : Nat)  (r : (List Int)) (h : slices_Clone_int N [] = some r) : Con Try.prog 24 [] true [.val (.slice none 0 0)] (.sl true none 1 none (r.map (rowI .i64))) := by
 refine fun_ok4 (G := (glist [])) Try.func24 rfl (by decide) (by kernel_rfl) gn [] mix (Nat.le_of_ble_eq_true rfl) ?_
 simp only [Try.f24]
 unfold slices_Clone_int at h
 refine Ws fun Z hZ => ?_
 simp only [go_sem, seval]
 refine hZ _ (pp (Wk_seq (Ws fun Z hZ => ?_)))
 simp only [go_sem, seval]
 refine hZ _ (pp (Wk_cond_t rfl ?_))
 first | rw [if_pos (rfl : true = true)] at h | rw [if_neg Bool.false_ne_true] at h | skip
 refine Ws fun Z hZ => ?_
 simp only [go_sem, seval]
 refine hZ _ (pp (Wk_ret (pp ?_)))
 obtain rfl : r = [] := by simpa [apn] using h.symm
 simp only [go_sem, seval]
 exact ⟨_, rfl, RokI.h, PureI.h⟩
theorem w_slices_Clone_int (N : Nat) (a0 : (List Int)) (r : (List Int)) (h : slices_Clone_int N a0 = some r) : Con Try.prog 24 [] true [.sl false none 1 none (a0.map (rowI .i64))] (.sl true none 1 none (r.map (rowI .i64))) :=
 Con_nl (fun e => by obtain rfl : a0 = [] := List.map_eq_nil_iff.1 e; exact w_slices_Clone_int_nil N r h) (w_slices_Clone_int_nn N a0 r h)
def fs_slices_Clone_int (N : Nat) : FnS := ⟨[], true, fn1 (decL 1 (dec1 (decI .i64))) fun q0 => (slices_Clone_int N q0).map fun r => .sl false none 1 none (r.map (rowI .i64)), false⟩
attribute [go_sem] fs_slices_Clone_int
theorem fs_slices_Clone_int_ok (N : Nat) : FSOk Try.prog 24 (fs_slices_Clone_int N) := ok1 (fun q0 r h => by
 obtain ⟨r', hr, rfl⟩ := Option.map_eq_some_iff.1 h
 exact (w_slices_Clone_int N q0 r' hr).res (by (try simp only [go_sem]); exact RokI.h)) (fun h => decL_le (decI1_le .i64) h)

def fso_slices_Clone_int (N : Nat) : FnS := ⟨[], true, fn1 (decL 1 (dec1 (decI .i64))) fun q0 => (slices_Clone_int N q0).map fun r => .sl true none 1 none (r.map (rowI .i64)), false⟩
attribute [go_sem] fso_slices_Clone_int
theorem fso_slices_Clone_int_ok (N : Nat) : FSOk Try.prog 24 (fso_slices_Clone_int N) := ok1 (fun q0 r h => by
 obtain ⟨r', hr, rfl⟩ := Option.map_eq_some_iff.1 h
 exact w_slices_Clone_int N q0 r' hr) (fun h => decL_le (decI1_le .i64) h)


theorem w_slices_Compact_int (N : Nat) (a0 : (List Int)) (r : (List Int)) (h : slices_Compact_int N a0 = some r) : Con Try.prog 26 [true] true [.sl true none 1 none (a0.map (rowI .i64))] (.sl true none 1 none (r.map (rowI .i64))) := by
 refine fun_own5 (G := (glist [])) (L := noL) Try.func26 rfl (by decide) (by kernel_rfl) gn (fun _ _ _ h => by cases h) [] mix (Nat.le_of_ble_eq_true rfl) ?_
 rw [show entryF [true] [.sl true none 1 none (a0.map (rowI .i64))] = (updT deadT 0 (.pal 0 [] 0 a0.length none)) from by funext t; match t with | 0 => simp [entryF, entryTmp, viewD, updT] | t + 1 => rfl]
 rw [show R0 [true] [.sl true none 1 none (a0.map (rowI .i64))] = upd RZ 0 (.sl true none 1 none (a0.map (rowI .i64))) from by funext t; match t with | 0 => rfl | t + 1 => rfl]
 simp only [Try.f26]
 unfold slices_Compact_int at h
 refine Ws fun Z hZ => ?_
 simp only [go_sem, seval]
 refine hZ _ (pp (Wk_seq (Ws fun Z hZ => ?_)))
 simp only [go_sem, seval]
 refine hZ _ (pp (Wk_cond_dec rfl (fun hc1 => ?_) (fun hc1 => ?_)))
 ·have hc1d := decide_eq_true hc1
  rw [if_pos hc1] at h
  refine Ws fun Z hZ => ?_
  simp only [go_sem, seval, hc1d]
  refine hZ _ (pp (Wk_ret (pp ?_)))
  cases h
  simp only [go_sem, seval, FinO_ret]
  exact ⟨_, rfl, RokI.h, KeepI.h, PureI.h⟩
 have hc1d := decide_eq_false hc1
 rw [if_neg hc1] at h
 refine Wk_skip (pp (Wk_seq (Ws fun Z hZ => ?_)))
 simp only [go_sem, seval, hc1d]
 refine hZ _ (pp (Wk_block (Wk_real fun hreal3 => ?_)))
 have hl2 := hreal3.lenX 0 (by simp only [go_sem, seval]; rfl)
 first | rw [List.length_map] at hl2 | rw [mxR_len] at hl2 | rw [← List.map_append, List.length_map] at hl2
 refine Wk_count (fun (v3 : Nat) (b : Unit) => ⟨tab 61 (updT (updT deadT 0 (.pal 0 [] 0 a0.length none)) 3 (.val (.int .i64 ((v3 : Nat) : Int)))), (upd RZ 0 (.sl true none 1 none (a0.map (rowI .i64))))⟩) () h ?_ ?_
 ·refine wr ?_ ?_ <;> repeat' first | rfl | constructor | simp only [go_sem, seval, Bool.or_self, List.length_set, Int.natCast_zero, Int.cast_ofNat_Int, hc1d]
 rintro v3 ⟨⟩ _ h -
 rcases (count_cases a0.length v3).symm with ⟨hi4', hd7⟩ | ⟨hi4', hd7⟩
 ·rw [hd7] at h
  simp only [slices_Compact_int_L1] at h
  refine Wk_seq (Ws fun Z hZ => ?_)
  simp only [go_sem, seval, hi4']
  refine hZ _ (pp ?_)
  try simp only [Int.ofNat_lt, hi4', if_true, if_false] at h
  refine Wk_cond_f rfl (Wk_exit (pp (Ws fun Z hZ => ?_)))
  simp only [go_sem, seval]
  refine hZ _ (pp (Wk_ret (pp ?_)))
  cases h
  simp only [go_sem, seval, FinO_ret]
  exact ⟨_, rfl, RokI.h, KeepI.h, PureI.h⟩
 rw [hd7] at h
 simp only [slices_Compact_int_L1] at h
 have hw6 := wrap_succ hi4' hl2
 refine Wk_seq (Ws fun Z hZ => ?_)
 simp only [go_sem, seval, hi4']
 refine hZ _ (pp ?_)
 try simp only [Int.ofNat_lt, hi4', if_true, if_false] at h
 refine Wk_cond_t rfl (Wk_skip (pp (Wk_seq (Wk_block (Wk_seq ?_)))))
 obtain ⟨x1, hb8, hx9, h⟩ := gx_some h
 try simp only [Int.toNat_natCast] at hx9
 try simp only [Int.ofNat_lt, Int.natCast_nonneg, true_and] at hb8
 obtain ⟨x2, hb10, hx11, h⟩ := gx_some h
 refine Wk_regionD fun Z hZ => ?_
 simp only [go_sem, seval, hi4', hx9, hb10, hx11]
 refine hZ _ (by kernel_rfl) (pp (sw (Wk_cond_dec rfl) (fun hc12 => ?_) (fun hc12 => ?_)))
 ·have hc12d := decide_eq_false hc12
  rw [if_neg hc12] at h
  refine Wk_skip (pp (Wk_regionZ fun Z hZ => ?_))
  simp only [go_sem, seval, hw6, hc12d]
  refine hZ _ (pp ?_)
  first | refine ⟨(), ?_, h⟩ | refine ⟨hi4', (), ?_, h⟩
  refine wr ?_ ?_ <;> repeat' first | rfl | constructor | simp only [go_sem, seval, Bool.or_self, List.length_set, Int.natCast_zero, Int.cast_ofNat_Int, hc1d, hi4', hw6, hb8, hx9, hb10, hx11, hc12d]
 have hc12d := decide_eq_true hc12
 rw [if_pos hc12] at h
 refine Wk_seq ?_
 obtain ⟨hs13, h⟩ := slx_some h
 try simp only [Int.toNat_natCast] at hs13 h
 refine Wk_regionZ fun Z hZ => ?_
 simp only [go_sem, seval, hc12d, hs13, Nat.zero_le]
 refine hZ _ (pp (Wk_seq (Ws fun Z hZ => ?_)))
 simp only [go_sem, seval]
 refine hZ _ (pp (Wk_block (Wk_fuel (fun (b : List Int × Int × Int) => ⟨tab 61 (updT (updT (updT (updT deadT 0 (.pal 0 [] 0 b.1.length none)) 3 (.val (.int .i64 b.2.1))) 4 (.pal 0 [] v3 (a0.length - v3) none)) 5 (.val (.int .i64 b.2.2))), (upd RZ 0 (.sl true none 1 none (b.1.map (rowI .i64))))⟩) (a0, ((v3 : Nat) : Int), 1) h ?_ ?_)))
 ·refine wr ?_ ?_ <;> repeat' first | rfl | constructor | simp only [go_sem, seval, Bool.or_self, List.length_set, Int.natCast_zero, Int.cast_ofNat_Int, hc1d, hi4', hw6, hb8, hx9, hb10, hx11, hc12d, hs13, Nat.sub_zero, Nat.zero_le]
 rintro n ⟨l12, v13, v14⟩ h -
 cases n with
 | zero => simp [slices_Compact_int_L2] at h
 | succ n =>
 simp only [slices_Compact_int_L2] at h
 refine Wk_seq (Ws fun Z hZ => ?_)
 simp only [go_sem, seval]
 refine hZ _ (pp (sw (Wk_cond_dec rfl) (fun hc14 => ?_) (fun hc14 => ?_)))
 ·have hc14d := decide_eq_false hc14
  rw [if_neg hc14] at h
  refine Wk_exit (pp ?_)
  unfold slices_Compact_int_J1 at h
  refine Wk_seq ?_
  obtain ⟨hs24, h⟩ := slx_some h
  try simp only [Int.toNat_natCast] at hs24 h
  refine Wk_regionZ fun Z hZ => ?_
  simp only [go_sem, seval, Nat.zero_le, hc14d, hs24, clr_rows (row := (rowI .i64)) (z := 0) (rz := [.val (.int .i64 0)]) (k := (v13).toNat) (l := l12) (by have := hs24; omega) rfl, altX, clearX, rewritten, RowOk.allD (rowI_ok .i64)]
  refine hZ _ (pp (Wk_seq ?_))
  obtain ⟨hs25, h⟩ := slx_some h
  try simp only [Int.toNat_zero] at hs25 h
  refine Wk_regionZ fun Z hZ => ?_
  simp only [go_sem, seval, Nat.sub_zero, hs24, deepV, hs25]
  refine hZ _ (pp (Wk_ret (pp ?_)))
  cases h
  simp only [go_sem, seval, FinO_ret]
  exact ⟨_, rfl, RokI.h, KeepI.h, PureI.h⟩
 have hc14d := decide_eq_true hc14
 rw [if_pos hc14] at h
 refine Wk_skip (pp (Wk_seq (Wk_block (Wk_seq ?_))))
 obtain ⟨x16, hb15, hx16, h⟩ := gx_some h
 obtain ⟨x17, hb17, hx18, h⟩ := gx_some h
 refine Wk_regionD fun Z hZ => ?_
 simp only [go_sem, seval, hb15, win_get hx16, win_lt hb15, hb17, win_get hx18, win_lt hb17]
 refine hZ _ (by kernel_rfl) (pp (sw (Wk_cond_ndec rfl) (fun hc19 => ?_) (fun hc19 => ?_)))
 ·have hc19d := decide_eq_true hc19
  rw [if_pos hc19] at h
  refine Wk_skip (pp (Wk_regionZ fun Z hZ => ?_))
  simp only [go_sem, seval, hc19d]
  refine hZ _ (pp (⟨_, Nat.lt_succ_self _, (l12, v13, IntKind.i64.wrap (v14 + 1)), ?_, h⟩))
  refine wr ?_ ?_ <;> repeat' first | rfl | constructor | simp only [go_sem, seval, Bool.or_self, List.length_set, Int.natCast_zero, Int.cast_ofNat_Int, hc1d, hi4', hw6, hb8, hx9, hb10, hx11, hc12d, hs13, Nat.sub_zero, Nat.zero_le, hc14d, hb15, hx16, win_get hx16, win_lt hb15, hb17, hx18, win_get hx18, win_lt hb17, hc19d]
 have hc19d := decide_eq_false hc19
 rw [if_neg hc19] at h
 refine Wk_seq ?_
 obtain ⟨x18, hb20, hx21, h⟩ := gx_some h
 have hx23 := set_get (y := x16) hx21
 refine Wk_regionZ fun Z hZ => ?_
 simp only [go_sem, seval, hb15, win_lt hb15, hc19d, win_get hx16, hb20, hx21, map_modify2 (row := (rowI .i64)) (y := x16) (rx := [.val (.int .i64 x18)]) (ry := [.val (.int .i64 x16)]) hx21 rfl rfl]
 refine hZ _ (pp (Wk_regionZ fun Z hZ => ?_))
 simp only [go_sem, seval]
 refine hZ _ (pp (Wk_regionZ fun Z hZ => ?_))
 simp only [go_sem, seval]
 refine hZ _ (pp (⟨_, Nat.lt_succ_self _, ((l12.set ((v13).toNat) x16), IntKind.i64.wrap (v13 + 1), IntKind.i64.wrap (v14 + 1)), ?_, h⟩))
 refine wr ?_ ?_ <;> repeat' first | rfl | constructor | simp only [go_sem, seval, List.length_set]
def fso_slices_Compact_int (N : Nat) : FnS := { own := [true], pure := true, fn := fun cs => match cs with
 | [c0] => ((decO 1 (dec1 (decI .i64))) c0).bind fun q0 => (slices_Compact_int N q0).map fun r => .sl true none 1 none (r.map (rowI .i64))
 | _ => none }
theorem fso_slices_Compact_int_own (N : Nat) : (fso_slices_Compact_int N).own = [true] := rfl
theorem fso_slices_Compact_int_pure (N : Nat) : (fso_slices_Compact_int N).pure = true := rfl
theorem fso_slices_Compact_int_peek (N : Nat) : (fso_slices_Compact_int N).peek = false := rfl
attribute [go_sem] fso_slices_Compact_int fso_slices_Compact_int_own fso_slices_Compact_int_pure fso_slices_Compact_int_peek
theorem fso_slices_Compact_int_ok (N : Nat) : FSOk Try.prog 26 (fso_slices_Compact_int N) := by
 refine ⟨fun cs r h => ?_, fun h => by cases h⟩
 simp only [fso_slices_Compact_int] at h
 split at h
 ·simp only [Option.bind_eq_some_iff, Option.map_eq_some_iff] at h
  obtain ⟨q0, h0, r', hr, rfl⟩ := h
  exact (w_slices_Compact_int N q0 r' hr).argsO rfl (argsO_own (decO_ok (rowI_ok .i64) (decI1_le .i64) h0) (argsO_nil))
 ·cases h


theorem w_math_bits_Len64 (N : Nat) (a0 : Int) (r : Int) (h : math_bits_Len64 N a0 = some r) : Con Try.prog 60 [] true [.val (.int .u64 a0)] (.val (.int .i64 r)) := by
 refine fun_ok4 (G := (glist [])) Try.func60 rfl (by decide) (by kernel_rfl) gn [] mix (Nat.le_of_ble_eq_true rfl) ?_
 simp only [Try.f60]
 unfold math_bits_Len64 at h
 refine Ws fun Z hZ => ?_
 simp only [go_sem, seval]
 refine hZ _ (pp ?_)
 apply Wk_join2 (fun (v1 : Int) (v2 : Int) => ⟨tab 25 (updT (updT deadT 0 (.val (.int .u64 v1))) 2 (.val (.int .i64 v2))), RZ⟩)
 ·intro hJ1
  refine Ws fun Z hZ => ?_
  simp only [go_sem, seval]
  refine hZ _ (pp (Wk_cond_dec rfl (fun hc2 => ?_) (fun hc2 => ?_)))
  ·have hc2d := decide_eq_true hc2
   rw [if_pos hc2] at h
   refine Ws fun Z hZ => ?_
   simp only [go_sem, seval, hc2d]
   refine hZ _ (pp (Wk_regionZ fun Z hZ => ?_))
   simp only [go_sem, seval]
   refine hZ _ (pp (hJ1 _ (shrI .u64 a0 32) 32 ?_ h))
   refine wr ?_ ?_ <;> repeat' first | rfl | constructor
  have hc2d := decide_eq_false hc2
  rw [if_neg hc2] at h
  refine Wk_skip (pp (hJ1 _ a0 0 ?_ h))
  refine wr ?_ ?_ <;> repeat' first | rfl | constructor
 intro v1 v2 h
 unfold math_bits_Len64_J3 at h
 apply Wk_join2 (fun (v3 : Int) (v4 : Int) => ⟨tab 25 (updT (updT deadT 0 (.val (.int .u64 v3))) 2 (.val (.int .i64 v4))), RZ⟩)
 ·intro hJ3
  refine Ws fun Z hZ => ?_
  simp only [go_sem, seval]
  refine hZ _ (pp (Wk_cond_dec rfl (fun hc4 => ?_) (fun hc4 => ?_)))
  ·have hc4d := decide_eq_true hc4
   rw [if_pos hc4] at h
   refine Ws fun Z hZ => ?_
   simp only [go_sem, seval, hc4d]
   refine hZ _ (pp (Wk_regionZ fun Z hZ => ?_))
   simp only [go_sem, seval]
   refine hZ _ (pp (hJ3 _ (shrI .u64 v1 16) (IntKind.i64.wrap (v2 + 16)) ?_ h))
   refine wr ?_ ?_ <;> repeat' first | rfl | constructor
  have hc4d := decide_eq_false hc4
  rw [if_neg hc4] at h
  refine Wk_skip (pp (hJ3 _ v1 v2 ?_ h))
  refine wr ?_ ?_ <;> repeat' first | rfl | constructor
 intro v3 v4 h
 unfold math_bits_Len64_J2 at h
 apply Wk_join2 (fun (v5 : Int) (v6 : Int) => ⟨tab 25 (updT (updT deadT 0 (.val (.int .u64 v5))) 2 (.val (.int .i64 v6))), RZ⟩)
 ·intro hJ5
  refine Ws fun Z hZ => ?_
  simp only [go_sem, seval]
  refine hZ _ (pp (Wk_cond_dec rfl (fun hc6 => ?_) (fun hc6 => ?_)))
  ·have hc6d := decide_eq_true hc6
   rw [if_pos hc6] at h
   refine Ws fun Z hZ => ?_
   simp only [go_sem, seval, hc6d]
   refine hZ _ (pp (Wk_regionZ fun Z hZ => ?_))
   simp only [go_sem, seval]
   refine hZ _ (pp (hJ5 _ (shrI .u64 v3 8) (IntKind.i64.wrap (v4 + 8)) ?_ h))
   refine wr ?_ ?_ <;> repeat' first | rfl | constructor
  have hc6d := decide_eq_false hc6
  rw [if_neg hc6] at h
  refine Wk_skip (pp (hJ5 _ v3 v4 ?_ h))
  refine wr ?_ ?_ <;> repeat' first | rfl | constructor
 intro v5 v6 h
 unfold math_bits_Len64_J1 at h
 refine Wk_seq ?_
 obtain ⟨b7, hb7, hx8, h⟩ := gxs_some h
 refine Wk_regionZ fun Z hZ => ?_
 simp only [go_sem, seval, hb7, hx8]
 refine hZ _ (pp (Wk_ret (pp ?_)))
 cases h
 simp only [go_sem, seval]
 exact ⟨_, rfl, RokI.h, PureI.h⟩
def fs_math_bits_Len64 (N : Nat) : FnS := ⟨[], true, fn1 (decI .u64) fun q0 => (math_bits_Len64 N q0).map fun r => .val (.int .i64 r), false⟩
attribute [go_sem] fs_math_bits_Len64
theorem fs_math_bits_Len64_ok (N : Nat) : FSOk Try.prog 60 (fs_math_bits_Len64 N) := ok1 (fun q0 r h => by
 obtain ⟨r', hr, rfl⟩ := Option.map_eq_some_iff.1 h
 exact w_math_bits_Len64 N q0 r' hr) (decI_le)


noncomputable def G_math_bits_Len (N d f : Nat) : Option FnS := glist [(7, 60, fs_math_bits_Len64 N)] d f
attribute [go_sem] G_math_bits_Len
theorem w_math_bits_Len (N : Nat) (a0 : Int) (r : Int) (h : math_bits_Len N a0 = some r) : Con Try.prog 39 [] true [.val (.int .u64 a0)] (.val (.int .i64 r)) := by
 refine fun_ok4 (G := (G_math_bits_Len N)) Try.func39 rfl (by decide) (by kernel_rfl) (gc 7 (fs_math_bits_Len64_ok N) gn) [] mix (Nat.le_of_ble_eq_true rfl) ?_
 simp only [Try.f39]
 unfold math_bits_Len at h
 refine Ws fun Z hZ => ?_
 simp only [go_sem, seval]
 refine hZ _ (pp (Wk_seq (Wk_cond_f rfl ?_)))
 first | rw [if_pos (rfl : true = true)] at h | rw [if_neg Bool.false_ne_true] at h | skip
 refine Wk_skip (pp (Wk_seq ?_))
 obtain ⟨r1, hr1, h⟩ := Option.bind_eq_some_iff.1 h
 refine Wk_regionZ fun Z hZ => ?_
 simp only [go_sem, seval, hr1]
 refine hZ _ (pp (Wk_ret (pp ?_)))
 cases h
 simp only [go_sem, seval]
 exact ⟨_, rfl, RokI.h, PureI.h⟩
def fs_math_bits_Len (N : Nat) : FnS := ⟨[], true, fn1 (decI .u64) fun q0 => (math_bits_Len N q0).map fun r => .val (.int .i64 r), false⟩
attribute [go_sem] fs_math_bits_Len
theorem fs_math_bits_Len_ok (N : Nat) : FSOk Try.prog 39 (fs_math_bits_Len N) := ok1 (fun q0 r h => by
 obtain ⟨r', hr, rfl⟩ := Option.map_eq_some_iff.1 h
 exact w_math_bits_Len N q0 r' hr) (decI_le)


theorem w_cmp_isNaN_int (N : Nat) (a0 : Int) (r : Bool) (h : cmp_isNaN_int N a0 = some r) : Con Try.prog 40 [] true [.val (.int .i64 a0)] (.val (.bool r)) := by
 refine fun_ok4 (G := (glist [])) Try.func40 rfl (by decide) (by kernel_rfl) gn [] mix (Nat.le_of_ble_eq_true rfl) ?_
 simp only [Try.f40]
 unfold cmp_isNaN_int at h
 refine Ws fun Z hZ => ?_
 simp only [go_sem, seval]
 refine hZ _ (pp (Ws fun Z hZ => ?_))
 simp only [go_sem, seval]
 refine hZ _ (pp (Wk_ret (pp ?_)))
 cases h
 simp only [go_sem, seval]
 exact ⟨_, rfl, RokI.h, PureI.h⟩
def fs_cmp_isNaN_int (N : Nat) : FnS := ⟨[], true, fn1 (decI .i64) fun q0 => (cmp_isNaN_int N q0).map fun r => .val (.bool r), false⟩
attribute [go_sem] fs_cmp_isNaN_int
theorem fs_cmp_isNaN_int_ok (N : Nat) : FSOk Try.prog 40 (fs_cmp_isNaN_int N) := ok1 (fun q0 r h => by
 obtain ⟨r', hr, rfl⟩ := Option.map_eq_some_iff.1 h
 exact w_cmp_isNaN_int N q0 r' hr) (decI_le)


noncomputable def G_cmp_Less_int (N d f : Nat) : Option FnS := glist [(6, 40, fs_cmp_isNaN_int N), (9, 40, fs_cmp_isNaN_int N)] d f
attribute [go_sem] G_cmp_Less_int
theorem w_cmp_Less_int (N : Nat) (a0 : Int) (a1 : Int) (r : Bool) (h : cmp_Less_int N a0 a1 = some r) : Con Try.prog 67 [] true [.val (.int .i64 a0), .val (.int .i64 a1)] (.val (.bool r)) := by
 refine fun_ok4 (G := (G_cmp_Less_int N)) Try.func67 rfl (by decide) (by kernel_rfl) (gc 6 (fs_cmp_isNaN_int_ok N) (gc 9 (fs_cmp_isNaN_int_ok N) gn)) [] mix (Nat.le_of_ble_eq_true rfl) ?_
 simp only [Try.f67]
 unfold cmp_Less_int at h
 refine Ws fun Z hZ => ?_
 simp only [go_sem, seval]
 refine hZ _ (pp (Wk_seq ?_))
 obtain ⟨r1, hr1, h⟩ := Option.bind_eq_some_iff.1 h
 refine Wk_regionZ fun Z hZ => ?_
 simp only [go_sem, seval, hr1]
 refine sw (RX_guard_bool rfl) (fun hc2 => ?_) (fun hc2 => ?_)
 ·rw [if_neg (ne_true_of_eq_false hc2)] at h
  simp only [go_sem, seval, hc2]
  refine hZ _ (pp (Wk_ret (pp ?_)))
  cases h
  simp only [go_sem, seval]
  exact ⟨_, rfl, RokI.h, PureI.h⟩
 rw [if_pos hc2] at h
 obtain ⟨r2, hr3, h⟩ := Option.bind_eq_some_iff.1 h
 simp only [go_sem, seval, hc2, hr3]
 refine RX_guard_nbool rfl (fun hc4 => ?_) (fun hc4 => ?_)
 ·rw [if_neg (ne_true_of_eq_false hc4)] at h
  simp only [go_sem, seval, hc4]
  refine hZ _ (pp (Wk_ret (pp ?_)))
  cases h
  simp only [go_sem, seval]
  exact ⟨_, rfl, RokI.h, PureI.h⟩
 rw [if_pos hc4] at h
 simp only [go_sem, seval, hc4]
 refine hZ _ (pp (Wk_ret (pp ?_)))
 cases h
 simp only [go_sem, seval]
 exact ⟨_, rfl, RokI.h, PureI.h⟩
def fs_cmp_Less_int (N : Nat) : FnS := ⟨[], true, fn2 (decI .i64) (decI .i64) fun q0 q1 => (cmp_Less_int N q0 q1).map fun r => .val (.bool r), false⟩
attribute [go_sem] fs_cmp_Less_int
theorem fs_cmp_Less_int_ok (N : Nat) : FSOk Try.prog 67 (fs_cmp_Less_int N) := ok2 (fun q0 q1 r h => by
 obtain ⟨r', hr, rfl⟩ := Option.map_eq_some_iff.1 h
 exact w_cmp_Less_int N q0 q1 r' hr) (decI_le) (decI_le)


noncomputable def G_slices_insertionSortOrdered_int_cut (N d f : Nat) : Option FnS := glist [(29, 67, fs_cmp_Less_int N)] d f
attribute [go_sem] G_slices_insertionSortOrdered_int_cut
theorem len_slices_insertionSortOrdered_int_cut (N : Nat) (a0 : (List Int)) (a1 : Int) (a2 : Int) (r : (List Int)) (h : slices_insertionSortOrdered_int_cut N a0 a1 a2 = some r) : (r).length = a0.length := by
 unfold slices_insertionSortOrdered_int_cut at h; exact (lenM_some h).2
theorem w_slices_insertionSortOrdered_int_cut (N : Nat) (a0 : (List Int)) (a1 : Int) (a2 : Int) (r : (List Int)) (h : slices_insertionSortOrdered_int_cut N a0 a1 a2 = some r) : ConL Try.prog 61 1 [.sl true none 1 none (a0.map (rowI .i64)), .val (.int .i64 a1), .val (.int .i64 a2)] (.tup []) [.sl true none 1 none (r.map (rowI .i64))] := by
 unfold slices_insertionSortOrdered_int_cut at h
 obtain ⟨h, hlen⟩ := lenM_some h
 refine fun_lent5 (G := (G_slices_insertionSortOrdered_int_cut N)) (L := noL) Try.func61 rfl (by decide) (by kernel_rfl) 1 (by kernel_rfl) (gc 29 (fs_cmp_Less_int_ok N) gn) (fun _ _ _ h => by cases h) [] mix (Nat.le_of_ble_eq_true rfl) (Nat.le_of_ble_eq_true rfl) rfl (by simp [lentSh, hlen]) ?_
 simp only [Try.f61]
 refine Ws fun Z hZ => ?_
 simp only [go_sem, seval]
 refine hZ _ (pp (Wk_block (Wk_fuel (fun (b : Int) => ⟨tab 49 (updT (updT (updT (updT deadT 0 (.pal 0 [] 0 a0.length none)) 1 (.val (.int .i64 a1))) 2 (.val (.int .i64 a2))) 6 (.val (.int .i64 b))), (upd RZ 0 (.sl true none 1 none (a0.map (rowI .i64))))⟩) (IntKind.i64.wrap (a1 + 1)) h ?_ ?_)))
 ·refine wr ?_ ?_ <;> repeat' first | rfl | constructor
 rintro n v1 h -
 cases n with
 | zero => simp [slices_insertionSortOrdered_int_cut_L1] at h
 | succ n =>
 simp only [slices_insertionSortOrdered_int_cut_L1] at h
 refine Wk_seq (Ws fun Z hZ => ?_)
 simp only [go_sem, seval]
 refine hZ _ (pp (sw (Wk_cond_dec rfl) (fun hc1 => ?_) (fun hc1 => ?_)))
 ·have hc1d := decide_eq_false hc1
  rw [if_neg hc1] at h
  refine Wk_exit (pp ?_)
  obtain rfl := Option.some.inj h
  refine FinL_mk (.inr rfl) (Weak.refl _) (by simp only [go_sem, seval, hc1d]; rfl) (by simp only [go_sem, seval]; rfl) (by (try simp only [go_sem, seval]); first | exact Le.refl _ | exact LeI.h) ?_
  exact el_cons (by simp only [go_sem, seval, hc1d] <;> rfl) (by simp only [go_sem, seval] <;> rfl) (el_nil)
 have hc1d := decide_eq_true hc1
 rw [if_pos hc1] at h
 refine Wk_skip (pp (Wk_seq (Wk_block (Ws fun Z hZ => ?_))))
 simp only [go_sem, seval, hc1d]
 refine hZ _ (pp (Wk_block (Wk_fuel (fun (b : Unit) => ⟨tab 49 (updT (updT (updT (updT (updT deadT 0 (.pal 0 [] 0 a0.length none)) 1 (.val (.int .i64 a1))) 2 (.val (.int .i64 a2))) 6 (.val (.int .i64 v1))) 7 (.val (.int .i64 v1))), (upd RZ 0 (.sl true none 1 none (a0.map (rowI .i64))))⟩) () h ?_ ?_)))
 ·refine wr ?_ ?_ <;> repeat' first | rfl | constructor
 rintro n ⟨⟩ h -
 cases n with
 | zero => simp [slices_insertionSortOrdered_int_cut_L2] at h
 | succ n =>
 simp only [slices_insertionSortOrdered_int_cut_L2] at h
 refine Wk_seq ?_
 apply Wk_join1 (fun (c9 : Bool) => ⟨tab 49 (updT (updT (updT (updT (updT (updT deadT 0 (.pal 0 [] 0 a0.length none)) 1 (.val (.int .i64 a1))) 2 (.val (.int .i64 a2))) 6 (.val (.int .i64 v1))) 7 (.val (.int .i64 v1))) 30 (.val (.bool c9))), (upd RZ 0 (.sl true none 1 none (a0.map (rowI .i64))))⟩)
 ·intro hJ2
  refine Wk_regionD fun Z hZ => ?_
  simp only [go_sem, seval]
  refine sw (RX_guard_dec rfl) (fun hc3 => ?_) (fun hc3 => ?_)
  ·have hc3d := decide_eq_false hc3
   rw [if_neg hc3] at h
   simp only [go_sem, seval, hc3d]
   refine hZ _ (by kernel_rfl) (pp (hJ2 _ false ?_ h))
   refine wr ?_ ?_ <;> repeat' first | rfl | constructor
  have hc3d := decide_eq_true hc3
  rw [if_pos hc3] at h
  obtain ⟨x10, hb4, hx5, h⟩ := gx_some h
  obtain ⟨x11, hb6, hx7, h⟩ := gx_some h
  obtain ⟨r12, hr8, h⟩ := Option.bind_eq_some_iff.1 h
  simp only [go_sem, seval, hc3d, hb4, hx5, hb6, hx7, hr8]
  repeat with_reducible refine and_bar (by kernel_rfl) ?_
  refine hZ _ (by kernel_rfl) (pp (hJ2 _ r12 ?_ h))
  refine wr ?_ ?_ <;> repeat' first | rfl | constructor
 intro c9 h
 unfold slices_insertionSortOrdered_int_cut_J1 at h
 refine Wk_cond_bool rfl (fun hc9 => ?_) (fun hc9 => ?_)
 ·rw [if_pos hc9] at h
  refine Wk_skip (pp ?_)
  unfold slices_insertionSortOrdered_int_cut_J2 at h
  refine Wk_seq (Wk_block ?_)
  obtain ⟨x13, hb10, hx11, h⟩ := gx_some h
  obtain ⟨x14, hb12, hx13, h⟩ := gx_some h
  cases h
 rw [if_neg (ne_true_of_eq_false hc9)] at h
 refine Wk_exit (pp (Wk_regionZ fun Z hZ => ?_))
 simp only [go_sem, seval, hc9]
 refine hZ _ (pp (⟨_, Nat.lt_succ_self _, (IntKind.i64.wrap (v1 + 1)), ?_, h⟩))
 refine wr ?_ ?_ <;> repeat' first | rfl | constructor
def fl_slices_insertionSortOrdered_int_cut (N : Nat) : FnL := ⟨1, fun cs rest => match cs, rest with
 | [v0], [c1, c2] => (lst1 1 (dec1 (decI .i64)) v0).bind fun q0 => ((decI .i64) c1).bind fun q1 => ((decI .i64) c2).bind fun q2 => (slices_insertionSortOrdered_int_cut N q0 q1 q2).map fun r => (.tup [], [.sl true none 1 none (r.map (rowI .i64))])
 | _, _ => none, false⟩
attribute [go_sem] fl_slices_insertionSortOrdered_int_cut
theorem fl_slices_insertionSortOrdered_int_cut_ok (N : Nat) : FLOk Try.prog 61 (fl_slices_insertionSortOrdered_int_cut N) := by
 refine flOk (Nat.succ_ne_zero _) rfl ?_
 intro cs rest r ls hlen h
 simp only [fl_slices_insertionSortOrdered_int_cut] at h
 split at h
 ·simp only [Option.bind_eq_some_iff, Option.map_eq_some_iff] at h
  obtain ⟨q0, h0, q1, h1, q2, h2, r', hr, he⟩ := h
  cases he
  exact ConL.told rfl rfl (lv_cons (lst1_ok (rowI_ok .i64) (decI1_le .i64) h0) (lv_nil)) ((LeL.cons (decI_le h1) (LeL.cons (decI_le h2) (LeL.nil)))) (w_slices_insertionSortOrdered_int_cut N q0 q1 q2 r' hr)
 ·cases h


noncomputable def L_slices_pdqsortOrdered_int_cut (N d f : Nat) : Option FnL := llist [(27, 61, fl_slices_insertionSortOrdered_int_cut N)] d f
attribute [go_sem] L_slices_pdqsortOrdered_int_cut
theorem len_slices_pdqsortOrdered_int_cut (N : Nat) (a0 : (List Int)) (a1 : Int) (a2 : Int) (a3 : Int) (r : (List Int)) (h : slices_pdqsortOrdered_int_cut N a0 a1 a2 a3 = some r) : (r).length = a0.length := by
 unfold slices_pdqsortOrdered_int_cut at h; exact (lenM_some h).2
theorem w_slices_pdqsortOrdered_int_cut (N : Nat) (a0 : (List Int)) (a1 : Int) (a2 : Int) (a3 : Int) (r : (List Int)) (h : slices_pdqsortOrdered_int_cut N a0 a1 a2 a3 = some r) : ConL Try.prog 41 1 [.sl true none 1 none (a0.map (rowI .i64)), .val (.int .i64 a1), .val (.int .i64 a2), .val (.int .i64 a3)] (.tup []) [.sl true none 1 none (r.map (rowI .i64))] := by
 unfold slices_pdqsortOrdered_int_cut at h
 obtain ⟨h, hlen⟩ := lenM_some h
 refine fun_lent5 (G := (glist [])) (L := (L_slices_pdqsortOrdered_int_cut N)) Try.func41 rfl (by decide) (by kernel_rfl) 1 (by kernel_rfl) gn (lc 27 (fl_slices_insertionSortOrdered_int_cut_ok N) ln) [] mix (Nat.le_of_ble_eq_true rfl) (Nat.le_of_ble_eq_true rfl) rfl (by simp [lentSh, hlen]) ?_
 simp only [Try.f41]
 refine Ws fun Z hZ => ?_
 simp only [go_sem, seval]
 refine hZ _ (pp (Ws fun Z hZ => ?_))
 simp only [go_sem, seval]
 refine hZ _ (pp (Wk_block (Wk_fuel (fun (b : Unit) => ⟨tab 134 (updT (updT (updT (updT (updT (updT deadT 0 (.pal 0 [] 0 a0.length none)) 1 (.val (.int .i64 a1))) 2 (.val (.int .i64 a2))) 3 (.val (.int .i64 a3))) 8 (.val (.bool true))) 9 (.val (.bool true))), (upd RZ 0 (.sl true none 1 none (a0.map (rowI .i64))))⟩) () h ?_ ?_)))
 ·refine wr ?_ ?_ <;> repeat' first | rfl | constructor
 rintro n ⟨⟩ h -
 cases n with
 | zero => simp [slices_pdqsortOrdered_int_cut_L1] at h
 | succ n =>
 simp only [slices_pdqsortOrdered_int_cut_L1] at h
 refine Wk_block (Ws fun Z hZ => ?_)
 simp only [go_sem, seval]
 refine hZ _ (pp (Wk_seq (Ws fun Z hZ => ?_)))
 simp only [go_sem, seval]
 refine hZ _ (pp (sw (Wk_cond_dec rfl) (fun hc1 => ?_) (fun hc1 => ?_)))
 ·have hc1d := decide_eq_false hc1
  rw [if_neg hc1] at h
  refine Wk_skip (pp (Wk_seq (Ws fun Z hZ => ?_)))
  simp only [go_sem, seval, hc1d]
  refine hZ _ (pp (Wk_cond_dec rfl (fun hc3 => ?_) (fun hc3 => ?_)))
  ·have hc3d := decide_eq_true hc3
   rw [if_pos hc3] at h
   refine Wk_seq ?_
   cases h
  have hc3d := decide_eq_false hc3
  rw [if_neg hc3] at h
  refine Wk_skip (pp (Wk_seq (Ws fun Z hZ => ?_)))
  simp only [go_sem, seval, hc3d]
  refine hZ _ (pp (Wk_cond_f rfl ?_))
  first | rw [if_pos (rfl : true = true)] at h | rw [if_neg Bool.false_ne_true] at h | skip
  refine Wk_skip (pp (Wk_seq ?_))
  cases h
 have hc1d := decide_eq_true hc1
 rw [if_pos hc1] at h
 refine Wk_seq ?_
 obtain ⟨r1, hr2, h⟩ := Option.bind_eq_some_iff.1 h
 refine Wk_regionZ fun Z hZ => ?_
 simp only [go_sem, seval, hc1d, hr2, len_slices_insertionSortOrdered_int_cut N a0 a1 a2 r1 hr2]
 refine hZ _ (pp (Wk_ret (pp ?_)))
 obtain rfl := Option.some.inj h
 refine FinL_mk (.inl rfl) (Weak.refl _) (by simp only [go_sem, seval]; rfl) (by simp only [go_sem, seval]; rfl) (by (try simp only [go_sem, seval]); first | exact Le.refl _ | exact LeI.h) ?_
 exact el_cons (by simp only [go_sem, seval, len_slices_insertionSortOrdered_int_cut N a0 a1 a2 r1 hr2] <;> rfl) (by simp only [go_sem, seval] <;> rfl) (el_nil)
def fl_slices_pdqsortOrdered_int_cut (N : Nat) : FnL := ⟨1, fun cs rest => match cs, rest with
 | [v0], [c1, c2, c3] => (lst1 1 (dec1 (decI .i64)) v0).bind fun q0 => ((decI .i64) c1).bind fun q1 => ((decI .i64) c2).bind fun q2 => ((decI .i64) c3).bind fun q3 => (slices_pdqsortOrdered_int_cut N q0 q1 q2 q3).map fun r => (.tup [], [.sl true none 1 none (r.map (rowI .i64))])
 | _, _ => none, false⟩
attribute [go_sem] fl_slices_pdqsortOrdered_int_cut
theorem fl_slices_pdqsortOrdered_int_cut_ok (N : Nat) : FLOk Try.prog 41 (fl_slices_pdqsortOrdered_int_cut N) := by
 refine flOk (Nat.succ_ne_zero _) rfl ?_
 intro cs rest r ls hlen h
 simp only [fl_slices_pdqsortOrdered_int_cut] at h
 split at h
 ·simp only [Option.bind_eq_some_iff, Option.map_eq_some_iff] at h
  obtain ⟨q0, h0, q1, h1, q2, h2, q3, h3, r', hr, he⟩ := h
  cases he
  exact ConL.told rfl rfl (lv_cons (lst1_ok (rowI_ok .i64) (decI1_le .i64) h0) (lv_nil)) ((LeL.cons (decI_le h1) (LeL.cons (decI_le h2) (LeL.cons (decI_le h3) (LeL.nil))))) (w_slices_pdqsortOrdered_int_cut N q0 q1 q2 q3 r' hr)
 ·cases h


noncomputable def G_slices_Sort_int_small (N d f : Nat) : Option FnS := glist [(9, 39, fs_math_bits_Len N)] d f
attribute [go_sem] G_slices_Sort_int_small
noncomputable def L_slices_Sort_int_small (N d f : Nat) : Option FnL := llist [(10, 41, fl_slices_pdqsortOrdered_int_cut N)] d f
attribute [go_sem] L_slices_Sort_int_small
theorem len_slices_Sort_int_small (N : Nat) (a0 : (List Int)) (r : (List Int)) (h : slices_Sort_int_small N a0 = some r) : (r).length = a0.length := by
 unfold slices_Sort_int_small at h; exact (lenM_some h).2
theorem w_slices_Sort_int_small (N : Nat) (a0 : (List Int)) (r : (List Int)) (h : slices_Sort_int_small N a0 = some r) : ConL Try.prog 25 1 [.sl true none 1 none (a0.map (rowI .i64))] (.tup []) [.sl true none 1 none (r.map (rowI .i64))] := by
 unfold slices_Sort_int_small at h
 obtain ⟨h, hlen⟩ := lenM_some h
 refine fun_lent5 (G := (G_slices_Sort_int_small N)) (L := (L_slices_Sort_int_small N)) Try.func25 rfl (by decide) (by kernel_rfl) 1 (by kernel_rfl) (gc 9 (fs_math_bits_Len_ok N) gn) (lc 10 (fl_slices_pdqsortOrdered_int_cut_ok N) ln) [] mix (Nat.le_of_ble_eq_true rfl) (Nat.le_of_ble_eq_true rfl) rfl (by simp [lentSh, hlen]) ?_
 simp only [Try.f25]
 refine Ws fun Z hZ => ?_
 simp only [go_sem, seval]
 refine hZ _ (pp ?_)
 obtain ⟨r1, hr1, h⟩ := Option.bind_eq_some_iff.1 h
 obtain ⟨r2, hr2, h⟩ := Option.bind_eq_some_iff.1 h
 refine Wk_regionZ fun Z hZ => ?_
 simp only [go_sem, seval, hr1, hr2, len_slices_pdqsortOrdered_int_cut N a0 0 ((a0.length : Nat) : Int) r1 r2 hr2]
 refine hZ _ (pp ?_)
 obtain rfl := Option.some.inj h
 refine FinL_mk (.inr rfl) (Weak.refl _) (by simp only [go_sem, seval]; rfl) (by simp only [go_sem, seval]; rfl) (by (try simp only [go_sem, seval]); first | exact Le.refl _ | exact LeI.h) ?_
 exact el_cons (by simp only [go_sem, seval, len_slices_pdqsortOrdered_int_cut N a0 0 ((a0.length : Nat) : Int) r1 r2 hr2] <;> rfl) (by simp only [go_sem, seval] <;> rfl) (el_nil)
def fl_slices_Sort_int_small (N : Nat) : FnL := ⟨1, fun cs rest => match cs, rest with
 | [v0], [] => (lst1 1 (dec1 (decI .i64)) v0).bind fun q0 =>  (slices_Sort_int_small N q0).map fun r => (.tup [], [.sl true none 1 none (r.map (rowI .i64))])
 | _, _ => none, false⟩
attribute [go_sem] fl_slices_Sort_int_small
theorem fl_slices_Sort_int_small_ok (N : Nat) : FLOk Try.prog 25 (fl_slices_Sort_int_small N) := by
 refine flOk (Nat.succ_ne_zero _) rfl ?_
 intro cs rest r ls hlen h
 simp only [fl_slices_Sort_int_small] at h
 split at h
 ·simp only [Option.bind_eq_some_iff, Option.map_eq_some_iff] at h
  obtain ⟨q0, h0, r', hr, he⟩ := h
  cases he
  exact ConL.told rfl rfl (lv_cons (lst1_ok (rowI_ok .i64) (decI1_le .i64) h0) (lv_nil)) ((LeL.nil)) (w_slices_Sort_int_small N q0 r' hr)
 ·cases h


def ren_slices_Sort_int : Go.Shelf.Ren := ⟨fun | 125 => 39 | 128 => 59 | 129 => 60 | 189 => 25 | 215 => 40 | 216 => 67 | 257 => 41 | 294 => 61 | 295 => 62 | 296 => 63 | 297 => 64 | 298 => 65 | 299 => 66 | 300 => 68 | 301 => 69 | 328 => 80 | 329 => 76 | 330 => 77 | 331 => 81 | 332 => 82 | 343 => 86 | n => n, fun | 0 => 0 | 3 => 3 | 4 => 4 | 5 => 5 | 9 => 9 | 28 => 28 | 46 => 69 | 51 => 84 | 53 => 86 | 131 => 37 | 182 => 77 | 183 => 78 | 218 => 96 | 222 => 100 | 228 => 106 | 229 => 107 | n => n, fun n => n⟩
theorem lay_slices_Sort_int : Go.Proofs.Lays.n189 Try.prog ren_slices_Sort_int where
 mixed := by kernel_rfl
 f125 := Try.func39.trans (congrArg some (by kernel_rfl))
 f128 := Try.func59.trans (congrArg some (by kernel_rfl))
 f129 := Try.func60.trans (congrArg some (by kernel_rfl))
 f189 := Try.func25.trans (congrArg some (by kernel_rfl))
 f215 := Try.func40.trans (congrArg some (by kernel_rfl))
 f216 := Try.func67.trans (congrArg some (by kernel_rfl))
 f257 := Try.func41.trans (congrArg some (by kernel_rfl))
 f294 := Try.func61.trans (congrArg some (by kernel_rfl))
 f295 := Try.func62.trans (congrArg some (by kernel_rfl))
 f296 := Try.func63.trans (congrArg some (by kernel_rfl))
 f297 := Try.func64.trans (congrArg some (by kernel_rfl))
 f298 := Try.func65.trans (congrArg some (by kernel_rfl))
 f299 := Try.func66.trans (congrArg some (by kernel_rfl))
 f300 := Try.func68.trans (congrArg some (by kernel_rfl))
 f301 := Try.func69.trans (congrArg some (by kernel_rfl))
 f328 := Try.func80.trans (congrArg some (by kernel_rfl))
 f329 := Try.func76.trans (congrArg some (by kernel_rfl))
 f330 := Try.func77.trans (congrArg some (by kernel_rfl))
 f331 := Try.func81.trans (congrArg some (by kernel_rfl))
 f332 := Try.func82.trans (congrArg some (by kernel_rfl))
 f343 := Try.func86.trans (congrArg some (by kernel_rfl))
 t0 := Try.underlying0
 a0 := Try.isAgg0
 z0 := Try.sizeOf0
 v0 := Try.zeroValue0
 t3 := Try.underlying3
 a3 := Try.isAgg3
 z3 := Try.sizeOf3
 v3 := Try.zeroValue3
 t4 := Try.underlying4
 a4 := Try.isAgg4
 z4 := Try.sizeOf4
 v4 := Try.zeroValue4
 t5 := Try.underlying5
 a5 := Try.isAgg5
 z5 := Try.sizeOf5
 v5 := Try.zeroValue5
 t9 := Try.underlying9
 a9 := Try.isAgg9
 z9 := Try.sizeOf9
 v9 := Try.zeroValue9
 t28 := Try.underlying28
 a28 := Try.isAgg28
 z28 := Try.sizeOf28
 v28 := Try.zeroValue28
 t46 := Try.underlying69
 a46 := Try.isAgg69
 z46 := Try.sizeOf69
 v46 := Try.zeroValue69
 t51 := Try.underlying84
 a51 := Try.isAgg84
 z51 := Try.sizeOf84
 v51 := Try.zeroValue84
 t53 := Try.underlying86
 a53 := Try.isAgg86
 z53 := Try.sizeOf86
 v53 := Try.zeroValue86
 t131 := Try.underlying37
 a131 := Try.isAgg37
 z131 := Try.sizeOf37
 v131 := Try.zeroValue37
 t182 := Try.underlying77
 a182 := Try.isAgg77
 z182 := Try.sizeOf77
 v182 := Try.zeroValue77
 t183 := Try.underlying78
 a183 := Try.isAgg78
 z183 := Try.sizeOf78
 v183 := Try.zeroValue78
 t218 := Try.underlying96
 a218 := Try.isAgg96
 z218 := Try.sizeOf96
 v218 := Try.zeroValue96
 t222 := Try.underlying100
 a222 := Try.isAgg100
 z222 := Try.sizeOf100
 v222 := Try.zeroValue100
 t228 := Try.underlying106
 a228 := Try.isAgg106
 z228 := Try.sizeOf106
 v228 := Try.zeroValue106
 t229 := Try.underlying107
 a229 := Try.isAgg107
 z229 := Try.sizeOf107
 v229 := Try.zeroValue107
theorem len_slices_Sort_int (N : Nat) (a0 : (List Int)) (r : (List Int)) (h : slices_Sort_int N a0 = some r) : (r).length = a0.length := by
 unfold slices_Sort_int at h
 split at h
 ·exact len_slices_Sort_int_small N a0 r h
 ·exact sortI_len h
theorem w_slices_Sort_int (N : Nat) (a0 : (List Int)) (r : (List Int)) (h : slices_Sort_int N a0 = some r) : ConL Try.prog 25 1 [.sl true none 1 none (a0.map (rowI .i64))] (.tup []) [.sl true none 1 none (r.map (rowI .i64))] := by
 unfold slices_Sort_int at h
 split at h
 ·exact w_slices_Sort_int_small N a0 r h
 ·rename_i hne
  exact sortI_con lay_slices_Sort_int rfl (enters_of Try.func25 (by kernel_rfl) rfl) (fun e => hne (by rw [e]; rfl)) h
def fl_slices_Sort_int (N : Nat) : FnL := ⟨1, fun cs rest => match cs, rest with
 | [v0], [] => (lst1 1 (dec1 (decI .i64)) v0).bind fun q0 =>  (slices_Sort_int N q0).map fun r => (.tup [], [.sl true none 1 none (r.map (rowI .i64))])
 | _, _ => none, false⟩
attribute [go_sem] fl_slices_Sort_int
theorem fl_slices_Sort_int_ok (N : Nat) : FLOk Try.prog 25 (fl_slices_Sort_int N) := by
 refine flOk (Nat.succ_ne_zero _) rfl ?_
 intro cs rest r ls hlen h
 simp only [fl_slices_Sort_int] at h
 split at h
 ·simp only [Option.bind_eq_some_iff, Option.map_eq_some_iff] at h
  obtain ⟨q0, h0, r', hr, he⟩ := h
  cases he
  exact ConL.told rfl rfl (lv_cons (lst1_ok (rowI_ok .i64) (decI1_le .i64) h0) (lv_nil)) ((LeL.nil)) (w_slices_Sort_int N q0 r' hr)
 ·cases h


noncomputable def G_cascade_Closure (N d f : Nat) : Option FnS := glist [(10, 24, fso_slices_Clone_int N), (14, 26, fso_slices_Compact_int N), (25, 27, fs_slices_Contains_int N), (30, 27, fs_slices_Contains_int N)] d f
attribute [go_sem] G_cascade_Closure
noncomputable def L_cascade_Closure (N d f : Nat) : Option FnL := llist [(12, 25, fl_slices_Sort_int N), (40, 25, fl_slices_Sort_int N)] d f
attribute [go_sem] L_cascade_Closure
theorem w_cascade_Closure (N : Nat) (a0 : (List Arr2_i64)) (a1 : (List Int)) (r : (List Int)) (h : cascade_Closure N a0 a1 = some r) : Con Try.prog 11 [] true [.sl false none 2 none (a0.map Arr2_i64.row), .sl false none 1 none (a1.map (rowI .i64))] (.sl true none 1 none (r.map (rowI .i64))) := by
 refine fun_ok5 (G := (G_cascade_Closure N)) (L := (L_cascade_Closure N)) Try.func11 rfl (by decide) (by kernel_rfl) (gc 10 (fso_slices_Clone_int_ok N) (gc 14 (fso_slices_Compact_int_ok N) (gc 25 (fs_slices_Contains_int_ok N) (gc 30 (fs_slices_Contains_int_ok N) gn)))) (lc 12 (fl_slices_Sort_int_ok N) (lc 40 (fl_slices_Sort_int_ok N) ln)) [] mix (Nat.le_of_ble_eq_true rfl) ?_
 simp only [Try.f11]
 unfold cascade_Closure at h
 refine Ws fun Z hZ => ?_
 simp only [go_sem, seval]
 refine hZ _ (pp (Wk_seq ?_))
 obtain ⟨r1, hr1, h⟩ := Option.bind_eq_some_iff.1 h
 refine Wk_regionZ fun Z hZ => ?_
 simp only [go_sem, seval, hr1]
 refine hZ _ (pp (Wk_seq ?_))
 obtain ⟨r2, hr2, h⟩ := Option.bind_eq_some_iff.1 h
 refine Wk_regionZ fun Z hZ => ?_
 simp only [go_sem, seval, hr2, len_slices_Sort_int N r1 r2 hr2]
 refine hZ _ (pp (Wk_seq ?_))
 obtain ⟨r3, hr3, h⟩ := Option.bind_eq_some_iff.1 h
 refine Wk_regionZ fun Z hZ => ?_
 simp only [go_sem, seval, List.take_of_length_le (Nat.le_of_eq (len_slices_Sort_int N r1 r2 hr2)), hr3]
 refine hZ _ (pp (Wk_seq (Ws fun Z hZ => ?_)))
 simp only [go_sem, seval]
 refine hZ _ (pp (Wk_block (Wk_fuel (fun (b : List Int × Bool) => ⟨tab 42 (updT (updT (updT deadT 0 (.sl false none 2 none (a0.map Arr2_i64.row))) 5 (.pal 14 [] 0 b.1.length none)) 6 (.val (.bool b.2))), (upd RZ 14 (.sl true none 1 none (b.1.map (rowI .i64))))⟩) (r3, true) h ?_ ?_)))
 ·refine wr ?_ ?_ <;> repeat' first | rfl | constructor | simp only [go_sem, seval, Bool.or_self, List.length_set, Int.natCast_zero, Int.cast_ofNat_Int, hr1, hr2, len_slices_Sort_int N r1 r2 hr2, List.take_of_length_le (Nat.le_of_eq (len_slices_Sort_int N r1 r2 hr2)), hr3]
 rintro n ⟨l5, c6⟩ h -
 cases n with
 | zero => simp [cascade_Closure_L1] at h
 | succ n =>
 simp only [cascade_Closure_L1] at h
 refine Wk_seq (Ws fun Z hZ => ?_)
 simp only [go_sem, seval]
 refine hZ _ (pp (sw (Wk_cond_bool rfl) (fun hc4 => ?_) (fun hc4 => ?_)))
 ·rw [if_neg (ne_true_of_eq_false hc4)] at h
  refine Wk_exit (pp ?_)
  unfold cascade_Closure_J2 at h
  refine Wk_seq ?_
  obtain ⟨r28, hr17, h⟩ := Option.bind_eq_some_iff.1 h
  refine Wk_regionZ fun Z hZ => ?_
  simp only [go_sem, seval, hc4, hr17, len_slices_Sort_int N l5 r28 hr17]
  refine hZ _ (pp (Ws fun Z hZ => ?_))
  simp only [go_sem, seval]
  refine hZ _ (pp (Wk_ret (pp ?_)))
  obtain rfl := Option.some.inj h
  simp only [go_sem, seval, List.take_of_length_le (Nat.le_of_eq (len_slices_Sort_int N l5 r28 hr17))]
  exact ⟨_, rfl, RokI.h, PureI.h⟩
 rw [if_pos hc4] at h
 refine Wk_skip (pp (Wk_block (Ws fun Z hZ => ?_)))
 simp only [go_sem, seval, hc4]
 refine hZ _ (pp (Ws fun Z hZ => ?_))
 simp only [go_sem, seval]
 refine hZ _ (pp (Wk_block (Wk_real fun hreal6 => ?_)))
 have hl5 := hreal6.lenT 0 (by decide) (by simp only [go_sem, seval]; rfl)
 first | rw [List.length_map] at hl5 | rw [mxR_len] at hl5 | rw [← List.map_append, List.length_map] at hl5
 refine Wk_range (fun (v11 : Nat) (b : List Int × Bool) => ⟨tab 42 (updT (updT (updT (updT (updT (updT deadT 0 (.sl false none 2 none (a0.map Arr2_i64.row))) 5 (.pal 14 [] 0 b.1.length none)) 6 (.val (.bool b.2))) 16 (.sl false none 2 none (a0.map Arr2_i64.row))) 17 (.val (.int .i64 ((a0.length : Nat) : Int)))) 18 (.val (.int .i64 ((v11 : Nat) : Int)))), (upd RZ 14 (.sl true none 1 none (b.1.map (rowI .i64))))⟩) (l5, false) h ?_ ?_
 ·refine wr ?_ ?_ <;> repeat' first | rfl | constructor | simp only [go_sem, seval, Bool.or_self, List.length_set, Int.natCast_zero, Int.cast_ofNat_Int, hr1, hr2, len_slices_Sort_int N r1 r2 hr2, List.take_of_length_le (Nat.le_of_eq (len_slices_Sort_int N r1 r2 hr2)), hr3, hc4]
 rintro v11 ⟨l9, c10⟩ hi7 h -
 rcases (drop_cases a0 v11 hi7).symm with ⟨hi7', _, hd10⟩ | ⟨x14, hi7', hx8, hd10⟩
 ·rw [hd10] at h
  simp only [cascade_Closure_L2] at h
  refine Ws fun Z hZ => ?_
  simp only [go_sem, seval, hi7']
  refine hZ _ (pp (Wk_seq ?_))
  try simp only [Int.ofNat_lt, hi7', if_true, if_false] at h
  refine Wk_cond_f rfl (Wk_exit (pp (⟨_, Nat.lt_succ_self _, (l9, c10), ?_, h⟩)))
  refine wr ?_ ?_ <;> repeat' first | rfl | constructor | simp only [go_sem, seval, Bool.or_self, List.length_set, Int.natCast_zero, Int.cast_ofNat_Int, hr1, hr2, len_slices_Sort_int N r1 r2 hr2, List.take_of_length_le (Nat.le_of_eq (len_slices_Sort_int N r1 r2 hr2)), hr3, hc4, hi7']
 rw [hd10] at h
 simp only [cascade_Closure_L2] at h
 have hw9 := wrap_succ hi7' hl5
 refine Ws fun Z hZ => ?_
 simp only [go_sem, seval, hi7']
 refine hZ _ (pp (Wk_seq ?_))
 try simp only [Int.ofNat_lt, hi7', if_true, if_false] at h
 refine Wk_cond_t rfl (Wk_skip (pp (Wk_seq (Wk_block (Wk_seq ?_)))))
 try rw [gx_nat hx8] at h
 refine Wk_regionZ fun Z hZ => ?_
 simp only [go_sem, seval, hx8, hi7']
 refine hZ _ (pp ?_)
 apply Wk_join1 (fun (c25 : Bool) => ⟨tab 42 (updT (updT (updT (updT (updT (updT (updT (updT deadT 0 (.sl false none 2 none (a0.map Arr2_i64.row))) 5 (.pal 14 [] 0 l9.length none)) 6 (.val (.bool c10))) 8 (.pref 8 [] 0 0)) 16 (.sl false none 2 none (a0.map Arr2_i64.row))) 17 (.val (.int .i64 ((a0.length : Nat) : Int)))) 18 (.val (.int .i64 ((v11 : Nat) : Int)))) 32 (.val (.bool c25))), (upd (upd RZ 8 (.sl true none 2 (some 1) [[.val (.int .i64 x14.e0), .val (.int .i64 x14.e1)]])) 14 (.sl true none 1 none (l9.map (rowI .i64))))⟩)
 ·intro hJ11
  obtain ⟨r26, hr12, h⟩ := Option.bind_eq_some_iff.1 h
  refine Wk_regionZ fun Z hZ => ?_
  simp only [go_sem, seval, hr12]
  refine RX_guard_bool rfl (fun hc13 => ?_) (fun hc13 => ?_)
  ·rw [if_pos hc13] at h
   obtain ⟨r27, hr14, h⟩ := Option.bind_eq_some_iff.1 h
   simp only [go_sem, seval, hc13, hr14]
   refine hZ _ (pp (hJ11 _ (!r27) ?_ h))
   refine wr ?_ ?_ <;> repeat' first | rfl | constructor | simp only [go_sem, seval, Bool.or_self, List.length_set, Int.natCast_zero, Int.cast_ofNat_Int, hr1, hr2, len_slices_Sort_int N r1 r2 hr2, List.take_of_length_le (Nat.le_of_eq (len_slices_Sort_int N r1 r2 hr2)), hr3, hc4, hx8, hi7', hw9, hr12, hc13, hr14]
  rw [if_neg (ne_true_of_eq_false hc13)] at h
  simp only [go_sem, seval, hc13]
  refine hZ _ (pp (hJ11 _ false ?_ h))
  refine wr ?_ ?_ <;> repeat' first | rfl | constructor | simp only [go_sem, seval, Bool.or_self, List.length_set, Int.natCast_zero, Int.cast_ofNat_Int, hr1, hr2, len_slices_Sort_int N r1 r2 hr2, List.take_of_length_le (Nat.le_of_eq (len_slices_Sort_int N r1 r2 hr2)), hr3, hc4, hx8, hi7', hw9, hr12, hc13]
 intro c25 h
 unfold cascade_Closure_J1 at h
 refine sw (Wk_cond_bool rfl) (fun hc15 => ?_) (fun hc15 => ?_)
 ·rw [if_neg (ne_true_of_eq_false hc15)] at h
  refine Wk_skip (pp (Wk_regionZ fun Z hZ => ?_))
  simp only [go_sem, seval, hw9, hc15]
  refine hZ _ (pp ?_)
  first | refine ⟨(l9, c10), ?_, h⟩ | refine ⟨hi7', (l9, c10), ?_, h⟩
  refine wr ?_ ?_ <;> repeat' first | rfl | constructor | simp only [go_sem, seval, Bool.or_self, List.length_set, Int.natCast_zero, Int.cast_ofNat_Int, hr1, hr2, len_slices_Sort_int N r1 r2 hr2, List.take_of_length_le (Nat.le_of_eq (len_slices_Sort_int N r1 r2 hr2)), hr3, hc4, hx8, hi7', hw9, hc15]
 rw [if_pos hc15] at h
 obtain ⟨ha16, h⟩ := apx_some h
 simp only [List.length_cons, List.length_nil, Nat.zero_add, Nat.reduceAdd] at ha16
 refine Wk_regionZ fun Z hZ => ?_
 simp only [go_sem, seval, hc15, ha16]
 refine hZ _ (pp (Wk_regionZ fun Z hZ => ?_))
 simp only [go_sem, seval, hw9]
 refine hZ _ (pp ?_)
 first | refine ⟨((l9 ++ [x14.e0]), true), ?_, h⟩ | refine ⟨hi7', ((l9 ++ [x14.e0]), true), ?_, h⟩
 refine Weak.trans (weak_rename 5 37 14 (by decide) (by decide) (by simp only [go_sem, seval]) (by simp only [go_sem, seval]; rfl) (by simp only [go_sem, seval]; rfl) (by first | (simp; done) | simp only [go_sem, seval, Bool.or_self, List.length_set, Int.natCast_zero, Int.cast_ofNat_Int, hr1, hr2, len_slices_Sort_int N r1 r2 hr2, List.take_of_length_le (Nat.le_of_eq (len_slices_Sort_int N r1 r2 hr2)), hr3, hc4, hx8, hi7', hw9, hc15, ha16])) ?_
 refine wr ?_ ?_ <;> repeat' first | rfl | constructor | simp only [go_sem, seval]
def fs_cascade_Closure (N : Nat) : FnS := ⟨[], true, fn2 (decL 2 Arr2_i64.dec) (decL 1 (dec1 (decI .i64))) fun q0 q1 => (cascade_Closure N q0 q1).map fun r => .sl false none 1 none (r.map (rowI .i64)), false⟩
attribute [go_sem] fs_cascade_Closure
theorem fs_cascade_Closure_ok (N : Nat) : FSOk Try.prog 11 (fs_cascade_Closure N) := ok2 (fun q0 q1 r h => by
 obtain ⟨r', hr, rfl⟩ := Option.map_eq_some_iff.1 h
 exact (w_cascade_Closure N q0 q1 r' hr).res (by (try simp only [go_sem]); exact RokI.h)) (fun h => decL_le Arr2_i64.dec_le h) (fun h => decL_le (decI1_le .i64) h)

def fso_cascade_Closure (N : Nat) : FnS := ⟨[], true, fn2 (decL 2 Arr2_i64.dec) (decL 1 (dec1 (decI .i64))) fun q0 q1 => (cascade_Closure N q0 q1).map fun r => .sl true none 1 none (r.map (rowI .i64)), false⟩
attribute [go_sem] fso_cascade_Closure
theorem fso_cascade_Closure_ok (N : Nat) : FSOk Try.prog 11 (fso_cascade_Closure N) := ok2 (fun q0 q1 r h => by
 obtain ⟨r', hr, rfl⟩ := Option.map_eq_some_iff.1 h
 exact w_cascade_Closure N q0 q1 r' hr) (fun h => decL_le Arr2_i64.dec_le h) (fun h => decL_le (decI1_le .i64) h)


noncomputable def G_slices_IndexFunc_int_cascade_state_ended (N d f : Nat) : Option FnS := glist [(16, 30, fs_cascade_state_ended N)] d f
attribute [go_sem] G_slices_IndexFunc_int_cascade_state_ended
theorem w_slices_IndexFunc_int_cascade_state_ended (N : Nat) (a0 : (List Int)) (k1_0_0 : (List cascade_stack)) (k1_0_1 : (List Arr2_i64)) (k1_0_2 : (List Int)) (k1_0_3 : (List Int)) (k1_0_4 : (List Int)) (k1_0_5 : (List Arr2_i64)) (r : Int) (h : slices_IndexFunc_int_cascade_state_ended N a0 k1_0_0 k1_0_1 k1_0_2 k1_0_3 k1_0_4 k1_0_5 = some r) : Con Try.prog 32 [] true [.sl false none 1 none (a0.map (rowI .i64)), .clo 1000000030 [.iref 6 [[.sl false none 2 none (k1_0_0.map cascade_stack.row), .sl false none 2 none (k1_0_1.map Arr2_i64.row), .sl false none 1 none (k1_0_2.map (rowI .i64)), .sl false none 1 none (k1_0_3.map (rowI .i64)), .sl false none 1 none (k1_0_4.map (rowI .i64)), .sl false none 2 none (k1_0_5.map Arr2_i64.row)]] 0 0]] (.val (.int .i64 r)) := by
 refine fun_ok4 (G := (G_slices_IndexFunc_int_cascade_state_ended N)) Try.func32 rfl (by decide) (by kernel_rfl) (gc 16 (fs_cascade_state_ended_ok N) gn) [] mix (Nat.le_of_ble_eq_true rfl) ?_
 simp only [Try.f32]
 unfold slices_IndexFunc_int_cascade_state_ended at h
 refine Ws fun Z hZ => ?_
 simp only [go_sem, seval]
 refine hZ _ (pp (Wk_seq (Ws fun Z hZ => ?_)))
 simp only [go_sem, seval]
 refine hZ _ (pp (Wk_block (Wk_real fun hreal2 => ?_)))
 have hl1 := hreal2.lenT 0 (by decide) (by simp only [go_sem, seval]; rfl)
 first | rw [List.length_map] at hl1 | rw [mxR_len] at hl1 | rw [← List.map_append, List.length_map] at hl1
 refine Wk_range (fun (v2 : Nat) (b : Unit) => ⟨tab 19 (updT (updT (updT (updT deadT 0 (.sl false none 1 none (a0.map (rowI .i64)))) 1 (.clo 1000000030 [.iref 6 [[.sl false none 2 none (k1_0_0.map cascade_stack.row), .sl false none 2 none (k1_0_1.map Arr2_i64.row), .sl false none 1 none (k1_0_2.map (rowI .i64)), .sl false none 1 none (k1_0_3.map (rowI .i64)), .sl false none 1 none (k1_0_4.map (rowI .i64)), .sl false none 2 none (k1_0_5.map Arr2_i64.row)]] 0 0])) 7 (.val (.int .i64 ((a0.length : Nat) : Int)))) 8 (.val (.int .i64 ((v2 : Nat) : Int)))), RZ⟩) () h ?_ ?_
 ·refine wr ?_ ?_ <;> repeat' first | rfl | constructor
 rintro v2 ⟨⟩ hi3 h -
 rcases (drop_cases a0 v2 hi3).symm with ⟨hi3', _, hd6⟩ | ⟨x5, hi3', hx4, hd6⟩
 ·rw [hd6] at h
  simp only [slices_IndexFunc_int_cascade_state_ended_L1] at h
  refine Ws fun Z hZ => ?_
  simp only [go_sem, seval, hi3']
  refine hZ _ (pp (Wk_seq ?_))
  try simp only [Int.ofNat_lt, hi3', if_true, if_false] at h
  refine Wk_cond_f rfl (Wk_exit (pp (Ws fun Z hZ => ?_)))
  simp only [go_sem, seval]
  refine hZ _ (pp (Wk_ret (pp ?_)))
  cases h
  simp only [go_sem, seval]
  exact ⟨_, rfl, RokI.h, PureI.h⟩
 rw [hd6] at h
 simp only [slices_IndexFunc_int_cascade_state_ended_L1] at h
 have hw5 := wrap_succ hi3' hl1
 refine Ws fun Z hZ => ?_
 simp only [go_sem, seval, hi3']
 refine hZ _ (pp (Wk_seq ?_))
 try simp only [Int.ofNat_lt, hi3', if_true, if_false] at h
 refine Wk_cond_t rfl (Wk_skip (pp (Wk_seq (Wk_block (Ws fun Z hZ => ?_)))))
 simp only [go_sem, seval]
 refine hZ _ (pp (Wk_seq ?_))
 try rw [gx_nat hx4] at h
 obtain ⟨r1, hr7, h⟩ := Option.bind_eq_some_iff.1 h
 refine Wk_regionZ fun Z hZ => ?_
 simp only [go_sem, seval, hx4, hi3', hr7]
 refine hZ _ (pp (Wk_cond_bool rfl (fun hc8 => ?_) (fun hc8 => ?_)))
 ·rw [if_pos hc8] at h
  refine Ws fun Z hZ => ?_
  simp only [go_sem, seval, hc8]
  refine hZ _ (pp (Wk_ret (pp ?_)))
  cases h
  simp only [go_sem, seval]
  exact ⟨_, rfl, RokI.h, PureI.h⟩
 rw [if_neg (ne_true_of_eq_false hc8)] at h
 refine Wk_skip (pp (Wk_regionZ fun Z hZ => ?_))
 simp only [go_sem, seval, hw5, hc8]
 refine hZ _ (pp ?_)
 first | refine ⟨(), ?_, h⟩ | refine ⟨hi3', (), ?_, h⟩
 refine wr ?_ ?_ <;> repeat' first | rfl | constructor
def fs_slices_IndexFunc_int_cascade_state_ended (N : Nat) : FnS := { own := [], pure := true, fn := fun cs => match cs with
 | [c0, .clo 1000000030 [.iref 6 [[k1_0_0, k1_0_1, k1_0_2, k1_0_3, k1_0_4, k1_0_5]] 0 0]] => ((decL 1 (dec1 (decI .i64))) c0).bind fun qc0 => ((decL 2 cascade_stack.dec) k1_0_0).bind fun qk1_0_0 => ((decL 2 Arr2_i64.dec) k1_0_1).bind fun qk1_0_1 => ((decL 1 (dec1 (decI .i64))) k1_0_2).bind fun qk1_0_2 => ((decL 1 (dec1 (decI .i64))) k1_0_3).bind fun qk1_0_3 => ((decL 1 (dec1 (decI .i64))) k1_0_4).bind fun qk1_0_4 => ((decL 2 Arr2_i64.dec) k1_0_5).bind fun qk1_0_5 => (slices_IndexFunc_int_cascade_state_ended N qc0 qk1_0_0 qk1_0_1 qk1_0_2 qk1_0_3 qk1_0_4 qk1_0_5).map fun r => .val (.int .i64 r)
 | _ => none }
attribute [go_sem] fs_slices_IndexFunc_int_cascade_state_ended
theorem fs_slices_IndexFunc_int_cascade_state_ended_ok (N : Nat) : FSOk Try.prog 32 (fs_slices_IndexFunc_int_cascade_state_ended N) := by
 refine ⟨fun cs r h => ?_, fun h => by cases h⟩
 simp only [fs_slices_IndexFunc_int_cascade_state_ended] at h
 split at h
 ·simp only [Option.bind_eq_some_iff, Option.map_eq_some_iff] at h
  obtain ⟨q0, h0, q1, h1, q2, h2, q3, h3, q4, h4, q5, h5, q6, h6, r', hr, rfl⟩ := h
  exact ((w_slices_IndexFunc_int_cascade_state_ended N q0 q1 q2 q3 q4 q5 q6 r' hr).args (LeL.cons (decL_le (decI1_le .i64) h0) (LeL.cons (Le.clo (LeL.cons (Le.iref1 (LeL.cons (decL_le cascade_stack.dec_le h1) (LeL.cons (decL_le Arr2_i64.dec_le h2) (LeL.cons (decL_le (decI1_le .i64) h3) (LeL.cons (decL_le (decI1_le .i64) h4) (LeL.cons (decL_le (decI1_le .i64) h5) (LeL.cons (decL_le Arr2_i64.dec_le h6) (LeL.nil)))))))) (LeL.nil))) (LeL.nil))))
 ·cases h


noncomputable def G_slices_DeleteFunc_int_cascade_state_ended (N d f : Nat) : Option FnS := glist [(10, 32, fs_slices_IndexFunc_int_cascade_state_ended N), (28, 30, fs_cascade_state_ended N)] d f
attribute [go_sem] G_slices_DeleteFunc_int_cascade_state_ended
theorem w_slices_DeleteFunc_int_cascade_state_ended (N : Nat) (a0 : (List Int)) (k1_0_0 : (List cascade_stack)) (k1_0_1 : (List Arr2_i64)) (k1_0_2 : (List Int)) (k1_0_3 : (List Int)) (k1_0_4 : (List Int)) (k1_0_5 : (List Arr2_i64)) (r : (List Int)) (h : slices_DeleteFunc_int_cascade_state_ended N a0 k1_0_0 k1_0_1 k1_0_2 k1_0_3 k1_0_4 k1_0_5 = some r) : Con Try.prog 29 [true, false] true [.sl true none 1 none (a0.map (rowI .i64)), .clo 1000000030 [.iref 6 [[.sl false none 2 none (k1_0_0.map cascade_stack.row), .sl false none 2 none (k1_0_1.map Arr2_i64.row), .sl false none 1 none (k1_0_2.map (rowI .i64)), .sl false none 1 none (k1_0_3.map (rowI .i64)), .sl false none 1 none (k1_0_4.map (rowI .i64)), .sl false none 2 none (k1_0_5.map Arr2_i64.row)]] 0 0]] (.sl true none 1 none (r.map (rowI .i64))) := by
 refine fun_own5 (G := (G_slices_DeleteFunc_int_cascade_state_ended N)) (L := noL) Try.func29 rfl (by decide) (by kernel_rfl) (gc 10 (fs_slices_IndexFunc_int_cascade_state_ended_ok N) (gc 28 (fs_cascade_state_ended_ok N) gn)) (fun _ _ _ h => by cases h) [] mix (Nat.le_of_ble_eq_true rfl) ?_
 rw [show entryF [true, false] [.sl true none 1 none (a0.map (rowI .i64)), .clo 1000000030 [.iref 6 [[.sl false none 2 none (k1_0_0.map cascade_stack.row), .sl false none 2 none (k1_0_1.map Arr2_i64.row), .sl false none 1 none (k1_0_2.map (rowI .i64)), .sl false none 1 none (k1_0_3.map (rowI .i64)), .sl false none 1 none (k1_0_4.map (rowI .i64)), .sl false none 2 none (k1_0_5.map Arr2_i64.row)]] 0 0]] = (updT (updT deadT 0 (.pal 0 [] 0 a0.length none)) 1 (.clo 1000000030 [.iref 6 [[.sl false none 2 none (k1_0_0.map cascade_stack.row), .sl false none 2 none (k1_0_1.map Arr2_i64.row), .sl false none 1 none (k1_0_2.map (rowI .i64)), .sl false none 1 none (k1_0_3.map (rowI .i64)), .sl false none 1 none (k1_0_4.map (rowI .i64)), .sl false none 2 none (k1_0_5.map Arr2_i64.row)]] 0 0])) from by funext t; match t with | 0 => simp [entryF, entryTmp, viewD, updT] | 1 => rfl | t + 2 => rfl]
 rw [show R0 [true, false] [.sl true none 1 none (a0.map (rowI .i64)), .clo 1000000030 [.iref 6 [[.sl false none 2 none (k1_0_0.map cascade_stack.row), .sl false none 2 none (k1_0_1.map Arr2_i64.row), .sl false none 1 none (k1_0_2.map (rowI .i64)), .sl false none 1 none (k1_0_3.map (rowI .i64)), .sl false none 1 none (k1_0_4.map (rowI .i64)), .sl false none 2 none (k1_0_5.map Arr2_i64.row)]] 0 0]] = upd RZ 0 (.sl true none 1 none (a0.map (rowI .i64))) from by funext t; match t with | 0 => rfl | 1 => rfl | t + 2 => rfl]
 simp only [Try.f29]
 unfold slices_DeleteFunc_int_cascade_state_ended at h
 refine Ws fun Z hZ => ?_
 simp only [go_sem, seval]
 refine hZ _ (pp (Wk_seq ?_))
 obtain ⟨r1, hr1, h⟩ := Option.bind_eq_some_iff.1 h
 refine Wk_regionZ fun Z hZ => ?_
 simp only [go_sem, seval, hr1]
 refine hZ _ (pp (Wk_seq (Ws fun Z hZ => ?_)))
 simp only [go_sem, seval]
 refine hZ _ (pp (Wk_cond_dec rfl (fun hc2 => ?_) (fun hc2 => ?_)))
 ·have hc2d := decide_eq_true hc2
  rw [if_pos hc2] at h
  refine Ws fun Z hZ => ?_
  simp only [go_sem, seval, hc2d]
  refine hZ _ (pp (Wk_ret (pp ?_)))
  cases h
  simp only [go_sem, seval, FinO_ret]
  exact ⟨_, rfl, RokI.h, KeepI.h, PureI.h⟩
 have hc2d := decide_eq_false hc2
 rw [if_neg hc2] at h
 refine Wk_skip (pp (Wk_seq (Ws fun Z hZ => ?_)))
 simp only [go_sem, seval, hc2d]
 refine hZ _ (pp (Wk_block (Wk_fuel (fun (b : List Int × Int × Int) => ⟨tab 42 (updT (updT (updT (updT deadT 0 (.pal 0 [] 0 b.1.length none)) 1 (.clo 1000000030 [.iref 6 [[.sl false none 2 none (k1_0_0.map cascade_stack.row), .sl false none 2 none (k1_0_1.map Arr2_i64.row), .sl false none 1 none (k1_0_2.map (rowI .i64)), .sl false none 1 none (k1_0_3.map (rowI .i64)), .sl false none 1 none (k1_0_4.map (rowI .i64)), .sl false none 2 none (k1_0_5.map Arr2_i64.row)]] 0 0])) 5 (.val (.int .i64 b.2.1))) 6 (.val (.int .i64 b.2.2))), (upd RZ 0 (.sl true none 1 none (b.1.map (rowI .i64))))⟩) (a0, r1, IntKind.i64.wrap (r1 + 1)) h ?_ ?_)))
 ·refine wr ?_ ?_ <;> repeat' first | rfl | constructor | simp only [go_sem, seval, Bool.or_self, List.length_set, Int.natCast_zero, Int.cast_ofNat_Int, hr1, hc2d]
 rintro n ⟨l4, v5, v6⟩ h -
 cases n with
 | zero => simp [slices_DeleteFunc_int_cascade_state_ended_L1] at h
 | succ n =>
 simp only [slices_DeleteFunc_int_cascade_state_ended_L1] at h
 refine Wk_seq (Ws fun Z hZ => ?_)
 simp only [go_sem, seval]
 refine hZ _ (pp (sw (Wk_cond_dec rfl) (fun hc3 => ?_) (fun hc3 => ?_)))
 ·have hc3d := decide_eq_false hc3
  rw [if_neg hc3] at h
  refine Wk_exit (pp ?_)
  unfold slices_DeleteFunc_int_cascade_state_ended_J1 at h
  refine Wk_seq ?_
  obtain ⟨hs12, h⟩ := slx_some h
  try simp only [Int.toNat_natCast] at hs12 h
  refine Wk_regionZ fun Z hZ => ?_
  simp only [go_sem, seval, hc3d, hs12, Nat.zero_le, clr_rows (row := (rowI .i64)) (z := 0) (rz := [.val (.int .i64 0)]) (k := (v5).toNat) (l := l4) (by have := hs12; omega) rfl, altX, clearX, rewritten, RowOk.allD (rowI_ok .i64)]
  refine hZ _ (pp (Wk_seq ?_))
  obtain ⟨hs13, h⟩ := slx_some h
  try simp only [Int.toNat_zero] at hs13 h
  refine Wk_regionZ fun Z hZ => ?_
  simp only [go_sem, seval, hs12, Nat.sub_zero, deepV, hs13]
  refine hZ _ (pp (Wk_ret (pp ?_)))
  cases h
  simp only [go_sem, seval, FinO_ret]
  exact ⟨_, rfl, RokI.h, KeepI.h, PureI.h⟩
 have hc3d := decide_eq_true hc3
 rw [if_pos hc3] at h
 refine Wk_skip (pp (Wk_seq (Wk_block (Wk_seq ?_))))
 obtain ⟨x13, hb4, hx5, h⟩ := gx_some h
 refine Wk_regionZ fun Z hZ => ?_
 simp only [go_sem, seval, hb4, hx5]
 refine hZ _ (pp (Wk_seq ?_))
 obtain ⟨r14, hr6, h⟩ := Option.bind_eq_some_iff.1 h
 refine Wk_regionZ fun Z hZ => ?_
 simp only [go_sem, seval, hr6]
 refine hZ _ (pp (sw (Wk_cond_nbool rfl) (fun hc7 => ?_) (fun hc7 => ?_)))
 ·rw [if_pos hc7] at h
  refine Wk_skip (pp (Wk_regionZ fun Z hZ => ?_))
  simp only [go_sem, seval, hc7]
  refine hZ _ (pp (⟨_, Nat.lt_succ_self _, (l4, v5, IntKind.i64.wrap (v6 + 1)), ?_, h⟩))
  refine wr ?_ ?_ <;> repeat' first | rfl | constructor | simp only [go_sem, seval, Bool.or_self, List.length_set, Int.natCast_zero, Int.cast_ofNat_Int, hr1, hc2d, hc3d, hb4, hx5, hr6, hc7]
 rw [if_neg (ne_true_of_eq_false hc7)] at h
 refine Wk_seq ?_
 obtain ⟨x15, hb8, hx9, h⟩ := gx_some h
 have hx11 := set_get (y := x13) hx9
 refine Wk_regionZ fun Z hZ => ?_
 simp only [go_sem, seval, hc7, hb8, hx9, map_modify2 (row := (rowI .i64)) (y := x13) (rx := [.val (.int .i64 x15)]) (ry := [.val (.int .i64 x13)]) hx9 rfl rfl]
 refine hZ _ (pp (Wk_regionZ fun Z hZ => ?_))
 simp only [go_sem, seval]
 refine hZ _ (pp (Wk_regionZ fun Z hZ => ?_))
 simp only [go_sem, seval]
 refine hZ _ (pp (⟨_, Nat.lt_succ_self _, ((l4.set ((v5).toNat) x13), IntKind.i64.wrap (v5 + 1), IntKind.i64.wrap (v6 + 1)), ?_, h⟩))
 refine wr ?_ ?_ <;> repeat' first | rfl | constructor | simp only [go_sem, seval, List.length_set]
def fso_slices_DeleteFunc_int_cascade_state_ended (N : Nat) : FnS := { own := [true, false], pure := true, fn := fun cs => match cs with
 | [c0, .clo 1000000030 [.iref 6 [[k1_0_0, k1_0_1, k1_0_2, k1_0_3, k1_0_4, k1_0_5]] 0 0]] => ((decO 1 (dec1 (decI .i64))) c0).bind fun q0 => ((decL 2 cascade_stack.dec) k1_0_0).bind fun q1 => ((decL 2 Arr2_i64.dec) k1_0_1).bind fun q2 => ((decL 1 (dec1 (decI .i64))) k1_0_2).bind fun q3 => ((decL 1 (dec1 (decI .i64))) k1_0_3).bind fun q4 => ((decL 1 (dec1 (decI .i64))) k1_0_4).bind fun q5 => ((decL 2 Arr2_i64.dec) k1_0_5).bind fun q6 => (slices_DeleteFunc_int_cascade_state_ended N q0 q1 q2 q3 q4 q5 q6).map fun r => .sl true none 1 none (r.map (rowI .i64))
 | _ => none }
theorem fso_slices_DeleteFunc_int_cascade_state_ended_own (N : Nat) : (fso_slices_DeleteFunc_int_cascade_state_ended N).own = [true, false] := rfl
theorem fso_slices_DeleteFunc_int_cascade_state_ended_pure (N : Nat) : (fso_slices_DeleteFunc_int_cascade_state_ended N).pure = true := rfl
theorem fso_slices_DeleteFunc_int_cascade_state_ended_peek (N : Nat) : (fso_slices_DeleteFunc_int_cascade_state_ended N).peek = false := rfl
attribute [go_sem] fso_slices_DeleteFunc_int_cascade_state_ended fso_slices_DeleteFunc_int_cascade_state_ended_own fso_slices_DeleteFunc_int_cascade_state_ended_pure fso_slices_DeleteFunc_int_cascade_state_ended_peek
theorem fso_slices_DeleteFunc_int_cascade_state_ended_ok (N : Nat) : FSOk Try.prog 29 (fso_slices_DeleteFunc_int_cascade_state_ended N) := by
 refine ⟨fun cs r h => ?_, fun h => by cases h⟩
 simp only [fso_slices_DeleteFunc_int_cascade_state_ended] at h
 split at h
 ·simp only [Option.bind_eq_some_iff, Option.map_eq_some_iff] at h
  obtain ⟨q0, h0, q1, h1, q2, h2, q3, h3, q4, h4, q5, h5, q6, h6, r', hr, rfl⟩ := h
  exact (w_slices_DeleteFunc_int_cascade_state_ended N q0 q1 q2 q3 q4 q5 q6 r' hr).argsO rfl (argsO_own (decO_ok (rowI_ok .i64) (decI1_le .i64) h0) (argsO_le (Le.clo (LeL.cons (Le.iref1 (LeL.cons (decL_le cascade_stack.dec_le h1) (LeL.cons (decL_le Arr2_i64.dec_le h2) (LeL.cons (decL_le (decI1_le .i64) h3) (LeL.cons (decL_le (decI1_le .i64) h4) (LeL.cons (decL_le (decI1_le .i64) h5) (LeL.cons (decL_le Arr2_i64.dec_le h6) (LeL.nil)))))))) (LeL.nil))) (argsO_nil)))
 ·cases h


theorem w_cascade_state_exec_1 (N : Nat) (a0 : cascade_stack) (c0_0 : Int) (c0_1 : Int) (c0_2 : Int) (r : Bool) (h : cascade_state_exec_1 N a0 c0_0 c0_1 c0_2 = some r) : Con Try.prog 74 [] true [.agg [.val (.int .i64 a0.actor), .sl false none 1 none (a0.txns.map (rowI .i64))], .iref 3 [[.val (.int .i64 c0_0), .val (.int .i64 c0_1), .val (.int .i64 c0_2)]] 0 0] (.val (.bool r)) := by
 refine fun_ok4 (G := (glist [])) Try.func74 rfl (by decide) (by kernel_rfl) gn [] mix (Nat.le_of_ble_eq_true rfl) ?_
 simp only [Try.f74]
 unfold cascade_state_exec_1 at h
 refine Ws fun Z hZ => ?_
 simp only [go_sem, seval]
 refine hZ _ (pp (Ws fun Z hZ => ?_))
 simp only [go_sem, seval]
 refine hZ _ (pp (Wk_ret (pp ?_)))
 cases h
 simp only [go_sem, seval]
 exact ⟨_, rfl, RokI.h, PureI.h⟩
def fs_cascade_state_exec_1 (N : Nat) : FnS := { own := [], pure := true, fn := fun cs => match cs with
 | [c0, .iref 3 [[c1_0, c1_1, c1_2]] 0 0] => (cascade_stack.decA c0).bind fun qc0 => ((decI .i64) c1_0).bind fun qc1_0 => ((decI .i64) c1_1).bind fun qc1_1 => ((decI .i64) c1_2).bind fun qc1_2 => (cascade_state_exec_1 N qc0 qc1_0 qc1_1 qc1_2).map fun r => .val (.bool r)
 | _ => none }
attribute [go_sem] fs_cascade_state_exec_1
theorem fs_cascade_state_exec_1_ok (N : Nat) : FSOk Try.prog 74 (fs_cascade_state_exec_1 N) := by
 refine ⟨fun cs r h => ?_, fun h => by cases h⟩
 simp only [fs_cascade_state_exec_1] at h
 split at h
 ·simp only [Option.bind_eq_some_iff, Option.map_eq_some_iff] at h
  obtain ⟨q0, h0, q1, h1, q2, h2, q3, h3, r', hr, rfl⟩ := h
  exact ((w_cascade_state_exec_1 N q0 q1 q2 q3 r' hr).args (LeL.cons (cascade_stack.decA_le h0) (LeL.cons (Le.iref1 (LeL.cons (decI_le h1) (LeL.cons (decI_le h2) (LeL.cons (decI_le h3) (LeL.nil))))) (LeL.nil))))
 ·cases h


noncomputable def G_slices_IndexFunc_stack_cascade_state_exec_1 (N d f : Nat) : Option FnS := glist [(16, 74, fs_cascade_state_exec_1 N)] d f
attribute [go_sem] G_slices_IndexFunc_stack_cascade_state_exec_1
theorem w_slices_IndexFunc_stack_cascade_state_exec_1 (N : Nat) (a0 : (List cascade_stack)) (k1_0_0 : Int) (k1_0_1 : Int) (k1_0_2 : Int) (r : Int) (h : slices_IndexFunc_stack_cascade_state_exec_1 N a0 k1_0_0 k1_0_1 k1_0_2 = some r) : Con Try.prog 70 [] true [.sl false none 2 none (a0.map cascade_stack.row), .clo 74 [.iref 3 [[.val (.int .i64 k1_0_0), .val (.int .i64 k1_0_1), .val (.int .i64 k1_0_2)]] 0 0]] (.val (.int .i64 r)) := by
 refine fun_ok4 (G := (G_slices_IndexFunc_stack_cascade_state_exec_1 N)) Try.func70 rfl (by decide) (by kernel_rfl) (gc 16 (fs_cascade_state_exec_1_ok N) gn) [] mix (Nat.le_of_ble_eq_true rfl) ?_
 simp only [Try.f70]
 unfold slices_IndexFunc_stack_cascade_state_exec_1 at h
 refine Ws fun Z hZ => ?_
 simp only [go_sem, seval]
 refine hZ _ (pp (Wk_seq (Ws fun Z hZ => ?_)))
 simp only [go_sem, seval]
 refine hZ _ (pp (Wk_block (Wk_real fun hreal2 => ?_)))
 have hl1 := hreal2.lenT 0 (by decide) (by simp only [go_sem, seval]; rfl)
 first | rw [List.length_map] at hl1 | rw [mxR_len] at hl1 | rw [← List.map_append, List.length_map] at hl1
 refine Wk_range (fun (v2 : Nat) (b : Unit) => ⟨tab 19 (updT (updT (updT (updT deadT 0 (.sl false none 2 none (a0.map cascade_stack.row))) 1 (.clo 74 [.iref 3 [[.val (.int .i64 k1_0_0), .val (.int .i64 k1_0_1), .val (.int .i64 k1_0_2)]] 0 0])) 7 (.val (.int .i64 ((a0.length : Nat) : Int)))) 8 (.val (.int .i64 ((v2 : Nat) : Int)))), RZ⟩) () h ?_ ?_
 ·refine wr ?_ ?_ <;> repeat' first | rfl | constructor
 rintro v2 ⟨⟩ hi3 h -
 rcases (drop_cases a0 v2 hi3).symm with ⟨hi3', _, hd6⟩ | ⟨x5, hi3', hx4, hd6⟩
 ·rw [hd6] at h
  simp only [slices_IndexFunc_stack_cascade_state_exec_1_L1] at h
  refine Ws fun Z hZ => ?_
  simp only [go_sem, seval, hi3']
  refine hZ _ (pp (Wk_seq ?_))
  try simp only [Int.ofNat_lt, hi3', if_true, if_false] at h
  refine Wk_cond_f rfl (Wk_exit (pp (Ws fun Z hZ => ?_)))
  simp only [go_sem, seval]
  refine hZ _ (pp (Wk_ret (pp ?_)))
  cases h
  simp only [go_sem, seval]
  exact ⟨_, rfl, RokI.h, PureI.h⟩
 rw [hd6] at h
 simp only [slices_IndexFunc_stack_cascade_state_exec_1_L1] at h
 have hw5 := wrap_succ hi3' hl1
 refine Ws fun Z hZ => ?_
 simp only [go_sem, seval, hi3']
 refine hZ _ (pp (Wk_seq ?_))
 try simp only [Int.ofNat_lt, hi3', if_true, if_false] at h
 refine Wk_cond_t rfl (Wk_skip (pp (Wk_seq (Wk_block (Ws fun Z hZ => ?_)))))
 simp only [go_sem, seval]
 refine hZ _ (pp (Wk_seq ?_))
 try rw [gx_nat hx4] at h
 obtain ⟨r1, hr7, h⟩ := Option.bind_eq_some_iff.1 h
 refine Wk_regionZ fun Z hZ => ?_
 simp only [go_sem, seval, hx4, hi3', hr7]
 refine hZ _ (pp (Wk_cond_bool rfl (fun hc8 => ?_) (fun hc8 => ?_)))
 ·rw [if_pos hc8] at h
  refine Ws fun Z hZ => ?_
  simp only [go_sem, seval, hc8]
  refine hZ _ (pp (Wk_ret (pp ?_)))
  cases h
  simp only [go_sem, seval]
  exact ⟨_, rfl, RokI.h, PureI.h⟩
 rw [if_neg (ne_true_of_eq_false hc8)] at h
 refine Wk_skip (pp (Wk_regionZ fun Z hZ => ?_))
 simp only [go_sem, seval, hw5, hc8]
 refine hZ _ (pp ?_)
 first | refine ⟨(), ?_, h⟩ | refine ⟨hi3', (), ?_, h⟩
 refine wr ?_ ?_ <;> repeat' first | rfl | constructor
def fs_slices_IndexFunc_stack_cascade_state_exec_1 (N : Nat) : FnS := { own := [], pure := true, fn := fun cs => match cs with
 | [c0, .clo 74 [.iref 3 [[k1_0_0, k1_0_1, k1_0_2]] 0 0]] => ((decL 2 cascade_stack.dec) c0).bind fun qc0 => ((decI .i64) k1_0_0).bind fun qk1_0_0 => ((decI .i64) k1_0_1).bind fun qk1_0_1 => ((decI .i64) k1_0_2).bind fun qk1_0_2 => (slices_IndexFunc_stack_cascade_state_exec_1 N qc0 qk1_0_0 qk1_0_1 qk1_0_2).map fun r => .val (.int .i64 r)
 | _ => none }
attribute [go_sem] fs_slices_IndexFunc_stack_cascade_state_exec_1
theorem fs_slices_IndexFunc_stack_cascade_state_exec_1_ok (N : Nat) : FSOk Try.prog 70 (fs_slices_IndexFunc_stack_cascade_state_exec_1 N) := by
 refine ⟨fun cs r h => ?_, fun h => by cases h⟩
 simp only [fs_slices_IndexFunc_stack_cascade_state_exec_1] at h
 split at h
 ·simp only [Option.bind_eq_some_iff, Option.map_eq_some_iff] at h
  obtain ⟨q0, h0, q1, h1, q2, h2, q3, h3, r', hr, rfl⟩ := h
  exact ((w_slices_IndexFunc_stack_cascade_state_exec_1 N q0 q1 q2 q3 r' hr).args (LeL.cons (decL_le cascade_stack.dec_le h0) (LeL.cons (Le.clo (LeL.cons (Le.iref1 (LeL.cons (decI_le h1) (LeL.cons (decI_le h2) (LeL.cons (decI_le h3) (LeL.nil))))) (LeL.nil))) (LeL.nil))))
 ·cases h


noncomputable def G_cascade_state_exec (N d f : Nat) : Option FnS := glist [(12, 70, fs_slices_IndexFunc_stack_cascade_state_exec_1 N), (43, 27, fs_slices_Contains_int N)] d f
attribute [go_sem] G_cascade_state_exec
theorem w_cascade_state_exec (N : Nat) (a0 : cascade_state) (a1 : TxnEvent) (r : cascade_state) (h : cascade_state_exec N a0 a1 = some r) : ConL Try.prog 50 1 [.sl true none 6 (some 1) [cascade_state.rowD a0], .agg (TxnEvent.row a1)] (.tup []) [.sl true none 6 (some 1) [cascade_state.rowD r]] := by
 refine fun_lent5 (G := (G_cascade_state_exec N)) (L := noL) Try.func50 rfl (by decide) (by kernel_rfl) 1 (by kernel_rfl) (gc 12 (fs_slices_IndexFunc_stack_cascade_state_exec_1_ok N) (gc 43 (fs_slices_Contains_int_ok N) gn)) (fun _ _ _ h => by cases h) [] mix (Nat.le_of_ble_eq_true rfl) (Nat.le_of_ble_eq_true rfl) rfl rfl ?_
 simp only [Try.f50]
 unfold cascade_state_exec at h
 refine Ws fun Z hZ => ?_
 simp (config := { maxSteps := 4000000 }) only [go_sem, seval]
 refine hZ _ (pp (Wk_seq ?_))
 obtain ⟨r1, hr1, h⟩ := Option.bind_eq_some_iff.1 h
 refine Wk_regionZ fun Z hZ => ?_
 simp (config := { maxSteps := 4000000 }) only [go_sem, seval, hr1]
 refine hZ _ (pp ?_)
 apply Wk_join2 (fun (l3 : List cascade_stack) (v4 : Int) => ⟨tab 77 (updT (updT (updT deadT 0 (.pref 0 [] 0 0)) 3 (.pref 3 [] 0 0)) 4 (.val (.int .i64 v4))), (upd (upd RZ 0 (.sl true none 6 (some 1) [[.sl true none 2 none (l3.map cascade_stack.rowD), .sl true none 2 none (a0.prepared.map Arr2_i64.row), .sl true none 1 none (a0.known.map (rowI .i64)), .sl true none 1 none (a0.committed.map (rowI .i64)), .sl true none 1 none (a0.aborted.map (rowI .i64)), .sl true none 2 none (a0.deps.map Arr2_i64.row)]])) 3 (.sl true none 3 (some 1) [TxnEvent.row a1]))⟩)
 ·intro hJ2
  refine Ws fun Z hZ => ?_
  simp (config := { maxSteps := 4000000 }) only [go_sem, seval]
  refine hZ _ (pp (sw (Wk_cond_dec rfl) (fun hc3 => ?_) (fun hc3 => ?_)))
  ·have hc3d := decide_eq_false hc3
   first | rw [if_neg hc3] at h | rw [if_neg (ne_true_of_eq_false hc3d)] at h | simp only [hc3d, Bool.not_true, Bool.not_false, Bool.false_eq_true, if_true, if_false] at h
   refine Wk_skip (pp (hJ2 _ a0.stacks r1 ?_ h))
   refine wr ?_ ?_ <;> repeat' first | rfl | constructor | simp only [go_sem, seval, Bool.or_self, List.length_set, Int.natCast_zero, Int.cast_ofNat_Int, hr1, hc3d]
  have hc3d := decide_eq_true hc3
  first | rw [if_pos hc3] at h | rw [if_pos hc3d] at h | simp only [hc3d, Bool.not_true, Bool.not_false, Bool.false_eq_true, if_true, if_false] at h
  refine Wk_regionT [0, 1, 2, 3, 4, 5, 6, 10, 11, 12, 13, 14] [7, 8, 9] [] [15, 16, 17, 18] [0] (by kernel_rfl) fun Z hZ Y hY => ?_
  simp (config := { maxSteps := 4000000 }) only [go_sem, seval, hc3d]
  refine hY _ (by kernel_rfl) (Hop_cons (by kernel_rfl) fun Y hY => ?_)
  simp (config := { maxSteps := 4000000 }) only [go_sem, seval]
  refine hY _ (by kernel_rfl) (Hop_cons (by kernel_rfl) fun Y hY => ?_)
  simp (config := { maxSteps := 4000000 }) only [go_sem, seval]
  refine hY _ (by kernel_rfl) (Hop_cons (by simp only [go_sem, seval, chkA, baseN, headB, srcB, Option.isNone, Bool.and_true]; try rfl) fun Y hY => ?_)
  obtain ⟨ha4, h⟩ := apx_some h
  simp only [List.length_cons, List.length_nil, Nat.zero_add, Nat.reduceAdd] at ha4
  simp (config := { maxSteps := 4000000 }) only [go_sem, seval, ha4]
  refine hY _ (by kernel_rfl) (Hop_nil ?_)
  simp (config := { maxSteps := 4000000 }) only [go_sem, seval]
  refine hZ _ (pp (Wk_weak (weak_nilO 0 [(0, 0), (a0.stacks.length, 1)] 1 (by simp only [go_sem, seval, get_last']) (by simp only [go_sem, seval, mod_last']; try rfl)) (hJ2 _ (a0.stacks ++ [(cascade_stack.mk a1.Actor [])]) ((a0.stacks.length : Nat) : Int) ?_ h)))
  refine wr ?_ ?_ <;> repeat' first | rfl | constructor | simp only [go_sem, seval]
 intro l3 v4 h
 unfold cascade_state_exec_J2 at h
 refine Wk_seq ?_
 obtain ⟨x5, hb5, hx6, h⟩ := gx_some h
 refine Wk_regionZ fun Z hZ => ?_
 simp (config := { maxSteps := 4000000 }) only [go_sem, seval, hb5, hx6]
 refine hZ _ (pp (Wk_seq (Wk_seq ?_)))
 obtain ⟨r6, hr7, h⟩ := Option.bind_eq_some_iff.1 h
 refine Wk_regionZ fun Z hZ => ?_
 simp (config := { maxSteps := 4000000 }) only [go_sem, seval, hx6, hr7]
 refine hZ _ (pp (Wk_cond_bool rfl (fun hc8 => ?_) (fun hc8 => ?_)))
 ·first | rw [if_pos hc8] at h | simp only [hc8, Bool.or_false, Bool.or_true, Bool.false_or, Bool.true_or, Bool.and_true, Bool.true_and, Bool.and_false, Bool.false_and, Bool.not_true, Bool.not_false, Bool.false_eq_true, if_true, if_false] at h
  refine Wk_ret (pp ?_)
  obtain rfl := Option.some.inj h
  refine FinL_mk (.inl rfl) (Weak.refl _) (by simp only [go_sem, seval, hc8]; rfl) (by simp only [go_sem, seval]; rfl) (by (try simp only [go_sem, seval]); first | exact Le.refl _ | exact LeI.h) ?_
  exact el_cons (by simp only [go_sem, seval, hc8] <;> rfl) (by simp only [go_sem, seval] <;> rfl) (el_nil)
 first | rw [if_neg (ne_true_of_eq_false hc8)] at h | simp only [hc8, Bool.or_false, Bool.or_true, Bool.false_or, Bool.true_or, Bool.and_true, Bool.true_and, Bool.and_false, Bool.false_and, Bool.not_true, Bool.not_false, Bool.false_eq_true, if_true, if_false] at h
 refine Wk_skip (pp ?_)
 apply Wk_join1 (fun (l9 : List Arr2_i64) => ⟨tab 77 (updT (updT (updT (updT deadT 0 (.pref 0 [] 0 0)) 3 (.pref 3 [] 0 0)) 4 (.val (.int .i64 v4))) 5 (.pal 0 [(0, 0), ((v4).toNat, 1)] 0 x5.txns.length none)), (upd (upd RZ 0 (.sl true none 6 (some 1) [[.sl true none 2 none (l3.map cascade_stack.rowD), .sl true none 2 none (a0.prepared.map Arr2_i64.row), .sl true none 1 none (a0.known.map (rowI .i64)), .sl true none 1 none (a0.committed.map (rowI .i64)), .sl true none 1 none (a0.aborted.map (rowI .i64)), .sl true none 2 none (l9.map Arr2_i64.row)]])) 3 (.sl true none 3 (some 1) [TxnEvent.row a1]))⟩)
 ·intro hJ9
  refine Ws fun Z hZ => ?_
  simp (config := { maxSteps := 4000000 }) only [go_sem, seval, hc8]
  refine hZ _ (pp (Ws fun Z hZ => ?_))
  simp (config := { maxSteps := 4000000 }) only [go_sem, seval]
  refine hZ _ (pp (sw (Wk_cond_dec rfl) (fun hc10 => ?_) (fun hc10 => ?_)))
  ·have hc10d := decide_eq_false hc10
   first | rw [if_neg hc10] at h | rw [if_neg (ne_true_of_eq_false hc10d)] at h | simp only [hc10d, Bool.not_true, Bool.not_false, Bool.false_eq_true, if_true, if_false] at h
   refine Wk_skip (pp (hJ9 _ a0.deps ?_ h))
   refine wr ?_ ?_ <;> repeat' first | rfl | constructor | simp only [go_sem, seval, Bool.or_self, List.length_set, Int.natCast_zero, Int.cast_ofNat_Int, hr1, hb5, hx6, hr7, hc8, hc10d]
  have hc10d := decide_eq_true hc10
  first | rw [if_pos hc10] at h | rw [if_pos hc10d] at h | simp only [hc10d, Bool.not_true, Bool.not_false, Bool.false_eq_true, if_true, if_false] at h
  refine Wk_regionT [0, 1, 2, 3, 4, 5, 6, 7, 8] [9, 10, 11, 12, 13] [] [14, 15, 16, 17] [0, 3] (by kernel_rfl) fun Z hZ Y hY => ?_
  simp (config := { maxSteps := 4000000 }) only [go_sem, seval, hc10d]
  refine hY _ (by kernel_rfl) (Hop_cons (by kernel_rfl) fun Y hY => ?_)
  simp (config := { maxSteps := 4000000 }) only [go_sem, seval]
  refine hY _ (by kernel_rfl) (Hop_cons (by kernel_rfl) fun Y hY => ?_)
  obtain ⟨x10, hb11, hx12, h⟩ := gx_some h
  simp (config := { maxSteps := 4000000 }) only [go_sem, seval, hx6, hb11]
  refine hY _ (by kernel_rfl) (Hop_cons (by kernel_rfl) fun Y hY => ?_)
  simp (config := { maxSteps := 4000000 }) only [go_sem, seval, hx6, hx12]
  refine hY _ (by kernel_rfl) (Hop_cons (by kernel_rfl) fun Y hY => ?_)
  simp (config := { maxSteps := 4000000 }) only [go_sem, seval]
  refine hY _ (by kernel_rfl) (Hop_cons (by kernel_rfl) fun Y hY => ?_)
  simp (config := { maxSteps := 4000000 }) only [go_sem, seval]
  refine hY _ (by kernel_rfl) (Hop_nil ?_)
  obtain ⟨ha13, h⟩ := apx_some h
  simp only [List.length_cons, List.length_nil, Nat.zero_add, Nat.reduceAdd] at ha13
  simp (config := { maxSteps := 4000000 }) only [go_sem, seval, ha13]
  refine hZ _ (pp (hJ9 _ (a0.deps ++ [(Arr2_i64.mk a1.Txn x10)]) ?_ h))
  refine wr ?_ ?_ <;> repeat' first | rfl | constructor | simp only [go_sem, seval]
 intro l9 h
 unfold cascade_state_exec_J1 at h
 refine Wk_regionT [0, 1, 2, 3, 4, 5, 6, 7] [8, 9] [] [10, 11, 12] [0] (by kernel_rfl) fun Z hZ Y hY => ?_
 simp (config := { maxSteps := 4000000 }) only [go_sem, seval]
 refine hY _ (by kernel_rfl) (Hop_cons (by kernel_rfl) fun Y hY => ?_)
 simp (config := { maxSteps := 4000000 }) only [go_sem, seval]
 refine hY _ (by kernel_rfl) (Hop_cons (by simp only [go_sem, seval, chkA, baseN, headB, srcB, Option.isNone, Bool.and_true]; try rfl) fun Y hY => ?_)
 obtain ⟨ha14, h⟩ := apx_some h
 simp only [List.length_cons, List.length_nil, Nat.zero_add, Nat.reduceAdd] at ha14
 simp (config := { maxSteps := 4000000 }) only [go_sem, seval, hx6, ha14, over_of (row := cascade_stack.rowD) (rx := [.val (.int .i64 x5.actor), .sl true none 1 none (x5.txns.map (rowI .i64))]) hx6 rfl rfl]
 refine hY _ (by kernel_rfl) (Hop_nil ?_)
 obtain ⟨x11, hb15, hx16, h⟩ := gx_some h
 obtain rfl := get_same hx6 hx16
 simp (config := { maxSteps := 4000000 }) only [go_sem, seval, hb5, over_get (row := cascade_stack.rowD) _ hx6, over_mod (row := cascade_stack.rowD) hx6 rfl]
 refine hZ _ (pp ?_)
 obtain rfl := Option.some.inj h
 refine FinL_mk (.inr rfl) (Weak.trans (weak_tree (n := 0) (c' := .sl true none 6 (some 1) [[.sl true none 2 none ((l3.set ((v4).toNat) (cascade_stack.mk x5.actor (x5.txns ++ [a1.Txn]))).map cascade_stack.rowD), .sl true none 2 none (a0.prepared.map Arr2_i64.row), .sl true none 1 none (a0.known.map (rowI .i64)), .sl true none 1 none (a0.committed.map (rowI .i64)), .sl true none 1 none (a0.aborted.map (rowI .i64)), .sl true none 2 none (l9.map Arr2_i64.row)]]) (by simp only [go_sem, seval]; rfl) (by first | simp only [over_eq (row := cascade_stack.rowD) (l := l3) (i := ((v4).toNat)) (y := (cascade_stack.mk x5.actor (x5.txns ++ [a1.Txn]))) (rc := [.val (.int .i64 x5.actor), .sl true none 1 none ((x5.txns ++ [a1.Txn]).map (rowI .i64))]) rfl] | (rw [← over_eq (row := cascade_stack.rowD) (l := l3) (i := ((v4).toNat)) (y := (cascade_stack.mk x5.actor (x5.txns ++ [a1.Txn]))) (rc := [.val (.int .i64 x5.actor), .sl true none 1 none ((x5.txns ++ [a1.Txn]).map (rowI .i64))]) rfl]; simp only [List.map_append, List.map_cons, List.map_nil]; rfl))) (Weak.refl _)) (by simp only [go_sem, seval]; rfl) (by simp only [go_sem, seval]; rfl) (by (try simp only [go_sem, seval]); first | exact Le.refl _ | exact LeI.h) ?_
 exact el_cons (by simp only [go_sem, seval, Bool.or_self] <;> rfl) (by simp only [go_sem, seval] <;> rfl) (el_nil)
def fl_cascade_state_exec (N : Nat) : FnL := ⟨1, fun cs rest => match cs, rest with
 | [v0], [c1] => (varE 6 cascade_state.decE v0).bind fun q0 => (TxnEvent.decA c1).bind fun q1 => (cascade_state_exec N q0 q1).map fun r => (.tup [], [.sl true none 6 (some 1) [cascade_state.rowD r]])
 | _, _ => none, true⟩
attribute [go_sem] fl_cascade_state_exec
theorem fl_cascade_state_exec_ok (N : Nat) : FLOk Try.prog 50 (fl_cascade_state_exec N) := by
 refine flOkP (Nat.succ_ne_zero _) ?_
 intro cs rest r ls hlen h
 simp only [fl_cascade_state_exec] at h
 split at h
 ·simp only [Option.bind_eq_some_iff, Option.map_eq_some_iff] at h
  obtain ⟨q0, h0, q1, h1, r', hr, he⟩ := h
  cases he
  obtain rfl := varE_eq cascade_state.decE_eq h0
  exact ⟨ConL.restLe rfl ((LeL.cons (TxnEvent.decA_le h1) (LeL.nil))) (w_cascade_state_exec N q0 q1 r' hr), rfl, PureIL.h⟩
 ·cases h


noncomputable def G_cascade_state_remove_1 (N d f : Nat) : Option FnS := glist [(6, 27, fs_slices_Contains_int N)] d f
attribute [go_sem] G_cascade_state_remove_1
theorem w_cascade_state_remove_1 (N : Nat) (a0 : Int) (c0_0 : (List Int)) (r : Bool) (h : cascade_state_remove_1 N a0 c0_0 = some r) : Con Try.prog 44 [] true [.val (.int .i64 a0), .iref 1 [[.sl false none 1 none (c0_0.map (rowI .i64))]] 0 0] (.val (.bool r)) := by
 refine fun_ok4 (G := (G_cascade_state_remove_1 N)) Try.func44 rfl (by decide) (by kernel_rfl) (gc 6 (fs_slices_Contains_int_ok N) gn) [] mix (Nat.le_of_ble_eq_true rfl) ?_
 simp only [Try.f44]
 unfold cascade_state_remove_1 at h
 refine Ws fun Z hZ => ?_
 simp only [go_sem, seval]
 refine hZ _ (pp (Wk_seq ?_))
 obtain ⟨r1, hr1, h⟩ := Option.bind_eq_some_iff.1 h
 refine Wk_regionZ fun Z hZ => ?_
 simp only [go_sem, seval, hr1]
 refine hZ _ (pp (Wk_ret (pp ?_)))
 cases h
 simp only [go_sem, seval]
 exact ⟨_, rfl, RokI.h, PureI.h⟩
def fs_cascade_state_remove_1 (N : Nat) : FnS := { own := [], pure := true, fn := fun cs => match cs with
 | [c0, .iref 1 [[c1_0]] 0 0] => ((decI .i64) c0).bind fun qc0 => ((decL 1 (dec1 (decI .i64))) c1_0).bind fun qc1_0 => (cascade_state_remove_1 N qc0 qc1_0).map fun r => .val (.bool r)
 | _ => none }
attribute [go_sem] fs_cascade_state_remove_1
theorem fs_cascade_state_remove_1_ok (N : Nat) : FSOk Try.prog 44 (fs_cascade_state_remove_1 N) := by
 refine ⟨fun cs r h => ?_, fun h => by cases h⟩
 simp only [fs_cascade_state_remove_1] at h
 split at h
 ·simp only [Option.bind_eq_some_iff, Option.map_eq_some_iff] at h
  obtain ⟨q0, h0, q1, h1, r', hr, rfl⟩ := h
  exact ((w_cascade_state_remove_1 N q0 q1 r' hr).args (LeL.cons (decI_le h0) (LeL.cons (Le.iref1 (LeL.cons (decL_le (decI1_le .i64) h1) (LeL.nil))) (LeL.nil))))
 ·cases h


noncomputable def G_slices_IndexFunc_int_cascade_state_remove_1 (N d f : Nat) : Option FnS := glist [(16, 44, fs_cascade_state_remove_1 N)] d f
attribute [go_sem] G_slices_IndexFunc_int_cascade_state_remove_1
theorem w_slices_IndexFunc_int_cascade_state_remove_1 (N : Nat) (a0 : (List Int)) (k1_0_0 : (List Int)) (r : Int) (h : slices_IndexFunc_int_cascade_state_remove_1 N a0 k1_0_0 = some r) : Con Try.prog 32 [] true [.sl false none 1 none (a0.map (rowI .i64)), .clo 44 [.iref 1 [[.sl false none 1 none (k1_0_0.map (rowI .i64))]] 0 0]] (.val (.int .i64 r)) := by
 refine fun_ok4 (G := (G_slices_IndexFunc_int_cascade_state_remove_1 N)) Try.func32 rfl (by decide) (by kernel_rfl) (gc 16 (fs_cascade_state_remove_1_ok N) gn) [] mix (Nat.le_of_ble_eq_true rfl) ?_
 simp only [Try.f32]
 unfold slices_IndexFunc_int_cascade_state_remove_1 at h
 refine Ws fun Z hZ => ?_
 simp only [go_sem, seval]
 refine hZ _ (pp (Wk_seq (Ws fun Z hZ => ?_)))
 simp only [go_sem, seval]
 refine hZ _ (pp (Wk_block (Wk_real fun hreal2 => ?_)))
 have hl1 := hreal2.lenT 0 (by decide) (by simp only [go_sem, seval]; rfl)
 first | rw [List.length_map] at hl1 | rw [mxR_len] at hl1 | rw [← List.map_append, List.length_map] at hl1
 refine Wk_range (fun (v2 : Nat) (b : Unit) => ⟨tab 19 (updT (updT (updT (updT deadT 0 (.sl false none 1 none (a0.map (rowI .i64)))) 1 (.clo 44 [.iref 1 [[.sl false none 1 none (k1_0_0.map (rowI .i64))]] 0 0])) 7 (.val (.int .i64 ((a0.length : Nat) : Int)))) 8 (.val (.int .i64 ((v2 : Nat) : Int)))), RZ⟩) () h ?_ ?_
 ·refine wr ?_ ?_ <;> repeat' first | rfl | constructor
 rintro v2 ⟨⟩ hi3 h -
 rcases (drop_cases a0 v2 hi3).symm with ⟨hi3', _, hd6⟩ | ⟨x5, hi3', hx4, hd6⟩
 ·rw [hd6] at h
  simp only [slices_IndexFunc_int_cascade_state_remove_1_L1] at h
  refine Ws fun Z hZ => ?_
  simp only [go_sem, seval, hi3']
  refine hZ _ (pp (Wk_seq ?_))
  try simp only [Int.ofNat_lt, hi3', if_true, if_false] at h
  refine Wk_cond_f rfl (Wk_exit (pp (Ws fun Z hZ => ?_)))
  simp only [go_sem, seval]
  refine hZ _ (pp (Wk_ret (pp ?_)))
  cases h
  simp only [go_sem, seval]
  exact ⟨_, rfl, RokI.h, PureI.h⟩
 rw [hd6] at h
 simp only [slices_IndexFunc_int_cascade_state_remove_1_L1] at h
 have hw5 := wrap_succ hi3' hl1
 refine Ws fun Z hZ => ?_
 simp only [go_sem, seval, hi3']
 refine hZ _ (pp (Wk_seq ?_))
 try simp only [Int.ofNat_lt, hi3', if_true, if_false] at h
 refine Wk_cond_t rfl (Wk_skip (pp (Wk_seq (Wk_block (Ws fun Z hZ => ?_)))))
 simp only [go_sem, seval]
 refine hZ _ (pp (Wk_seq ?_))
 try rw [gx_nat hx4] at h
 obtain ⟨r1, hr7, h⟩ := Option.bind_eq_some_iff.1 h
 refine Wk_regionZ fun Z hZ => ?_
 simp only [go_sem, seval, hx4, hi3', hr7]
 refine hZ _ (pp (Wk_cond_bool rfl (fun hc8 => ?_) (fun hc8 => ?_)))
 ·rw [if_pos hc8] at h
  refine Ws fun Z hZ => ?_
  simp only [go_sem, seval, hc8]
  refine hZ _ (pp (Wk_ret (pp ?_)))
  cases h
  simp only [go_sem, seval]
  exact ⟨_, rfl, RokI.h, PureI.h⟩
 rw [if_neg (ne_true_of_eq_false hc8)] at h
 refine Wk_skip (pp (Wk_regionZ fun Z hZ => ?_))
 simp only [go_sem, seval, hw5, hc8]
 refine hZ _ (pp ?_)
 first | refine ⟨(), ?_, h⟩ | refine ⟨hi3', (), ?_, h⟩
 refine wr ?_ ?_ <;> repeat' first | rfl | constructor
def fs_slices_IndexFunc_int_cascade_state_remove_1 (N : Nat) : FnS := { own := [], pure := true, fn := fun cs => match cs with
 | [c0, .clo 44 [.iref 1 [[k1_0_0]] 0 0]] => ((decL 1 (dec1 (decI .i64))) c0).bind fun qc0 => ((decL 1 (dec1 (decI .i64))) k1_0_0).bind fun qk1_0_0 => (slices_IndexFunc_int_cascade_state_remove_1 N qc0 qk1_0_0).map fun r => .val (.int .i64 r)
 | _ => none }
attribute [go_sem] fs_slices_IndexFunc_int_cascade_state_remove_1
theorem fs_slices_IndexFunc_int_cascade_state_remove_1_ok (N : Nat) : FSOk Try.prog 32 (fs_slices_IndexFunc_int_cascade_state_remove_1 N) := by
 refine ⟨fun cs r h => ?_, fun h => by cases h⟩
 simp only [fs_slices_IndexFunc_int_cascade_state_remove_1] at h
 split at h
 ·simp only [Option.bind_eq_some_iff, Option.map_eq_some_iff] at h
  obtain ⟨q0, h0, q1, h1, r', hr, rfl⟩ := h
  exact ((w_slices_IndexFunc_int_cascade_state_remove_1 N q0 q1 r' hr).args (LeL.cons (decL_le (decI1_le .i64) h0) (LeL.cons (Le.clo (LeL.cons (Le.iref1 (LeL.cons (decL_le (decI1_le .i64) h1) (LeL.nil))) (LeL.nil))) (LeL.nil))))
 ·cases h


noncomputable def G_slices_DeleteFunc_int_cascade_state_remove_1 (N d f : Nat) : Option FnS := glist [(10, 32, fs_slices_IndexFunc_int_cascade_state_remove_1 N), (28, 44, fs_cascade_state_remove_1 N)] d f
attribute [go_sem] G_slices_DeleteFunc_int_cascade_state_remove_1
theorem w_slices_DeleteFunc_int_cascade_state_remove_1 (N : Nat) (a0 : (List Int)) (k1_0_0 : (List Int)) (r : (List Int)) (h : slices_DeleteFunc_int_cascade_state_remove_1 N a0 k1_0_0 = some r) : Con Try.prog 29 [true, false] true [.sl true none 1 none (a0.map (rowI .i64)), .clo 44 [.iref 1 [[.sl false none 1 none (k1_0_0.map (rowI .i64))]] 0 0]] (.sl true none 1 none (r.map (rowI .i64))) := by
 refine fun_own5 (G := (G_slices_DeleteFunc_int_cascade_state_remove_1 N)) (L := noL) Try.func29 rfl (by decide) (by kernel_rfl) (gc 10 (fs_slices_IndexFunc_int_cascade_state_remove_1_ok N) (gc 28 (fs_cascade_state_remove_1_ok N) gn)) (fun _ _ _ h => by cases h) [] mix (Nat.le_of_ble_eq_true rfl) ?_
 rw [show entryF [true, false] [.sl true none 1 none (a0.map (rowI .i64)), .clo 44 [.iref 1 [[.sl false none 1 none (k1_0_0.map (rowI .i64))]] 0 0]] = (updT (updT deadT 0 (.pal 0 [] 0 a0.length none)) 1 (.clo 44 [.iref 1 [[.sl false none 1 none (k1_0_0.map (rowI .i64))]] 0 0])) from by funext t; match t with | 0 => simp [entryF, entryTmp, viewD, updT] | 1 => rfl | t + 2 => rfl]
 rw [show R0 [true, false] [.sl true none 1 none (a0.map (rowI .i64)), .clo 44 [.iref 1 [[.sl false none 1 none (k1_0_0.map (rowI .i64))]] 0 0]] = upd RZ 0 (.sl true none 1 none (a0.map (rowI .i64))) from by funext t; match t with | 0 => rfl | 1 => rfl | t + 2 => rfl]
 simp only [Try.f29]
 unfold slices_DeleteFunc_int_cascade_state_remove_1 at h
 refine Ws fun Z hZ => ?_
 simp only [go_sem, seval]
 refine hZ _ (pp (Wk_seq ?_))
 obtain ⟨r1, hr1, h⟩ := Option.bind_eq_some_iff.1 h
 refine Wk_regionZ fun Z hZ => ?_
 simp only [go_sem, seval, hr1]
 refine hZ _ (pp (Wk_seq (Ws fun Z hZ => ?_)))
 simp only [go_sem, seval]
 refine hZ _ (pp (Wk_cond_dec rfl (fun hc2 => ?_) (fun hc2 => ?_)))
 ·have hc2d := decide_eq_true hc2
  rw [if_pos hc2] at h
  refine Ws fun Z hZ => ?_
  simp only [go_sem, seval, hc2d]
  refine hZ _ (pp (Wk_ret (pp ?_)))
  cases h
  simp only [go_sem, seval, FinO_ret]
  exact ⟨_, rfl, RokI.h, KeepI.h, PureI.h⟩
 have hc2d := decide_eq_false hc2
 rw [if_neg hc2] at h
 refine Wk_skip (pp (Wk_seq (Ws fun Z hZ => ?_)))
 simp only [go_sem, seval, hc2d]
 refine hZ _ (pp (Wk_block (Wk_fuel (fun (b : List Int × Int × Int) => ⟨tab 42 (updT (updT (updT (updT deadT 0 (.pal 0 [] 0 b.1.length none)) 1 (.clo 44 [.iref 1 [[.sl false none 1 none (k1_0_0.map (rowI .i64))]] 0 0])) 5 (.val (.int .i64 b.2.1))) 6 (.val (.int .i64 b.2.2))), (upd RZ 0 (.sl true none 1 none (b.1.map (rowI .i64))))⟩) (a0, r1, IntKind.i64.wrap (r1 + 1)) h ?_ ?_)))
 ·refine wr ?_ ?_ <;> repeat' first | rfl | constructor | simp only [go_sem, seval, Bool.or_self, List.length_set, Int.natCast_zero, Int.cast_ofNat_Int, hr1, hc2d]
 rintro n ⟨l4, v5, v6⟩ h -
 cases n with
 | zero => simp [slices_DeleteFunc_int_cascade_state_remove_1_L1] at h
 | succ n =>
 simp only [slices_DeleteFunc_int_cascade_state_remove_1_L1] at h
 refine Wk_seq (Ws fun Z hZ => ?_)
 simp only [go_sem, seval]
 refine hZ _ (pp (sw (Wk_cond_dec rfl) (fun hc3 => ?_) (fun hc3 => ?_)))
 ·have hc3d := decide_eq_false hc3
  rw [if_neg hc3] at h
  refine Wk_exit (pp ?_)
  unfold slices_DeleteFunc_int_cascade_state_remove_1_J1 at h
  refine Wk_seq ?_
  obtain ⟨hs12, h⟩ := slx_some h
  try simp only [Int.toNat_natCast] at hs12 h
  refine Wk_regionZ fun Z hZ => ?_
  simp only [go_sem, seval, hc3d, hs12, Nat.zero_le, clr_rows (row := (rowI .i64)) (z := 0) (rz := [.val (.int .i64 0)]) (k := (v5).toNat) (l := l4) (by have := hs12; omega) rfl, altX, clearX, rewritten, RowOk.allD (rowI_ok .i64)]
  refine hZ _ (pp (Wk_seq ?_))
  obtain ⟨hs13, h⟩ := slx_some h
  try simp only [Int.toNat_zero] at hs13 h
  refine Wk_regionZ fun Z hZ => ?_
  simp only [go_sem, seval, hs12, Nat.sub_zero, deepV, hs13]
  refine hZ _ (pp (Wk_ret (pp ?_)))
  cases h
  simp only [go_sem, seval, FinO_ret]
  exact ⟨_, rfl, RokI.h, KeepI.h, PureI.h⟩
 have hc3d := decide_eq_true hc3
 rw [if_pos hc3] at h
 refine Wk_skip (pp (Wk_seq (Wk_block (Wk_seq ?_))))
 obtain ⟨x13, hb4, hx5, h⟩ := gx_some h
 refine Wk_regionZ fun Z hZ => ?_
 simp only [go_sem, seval, hb4, hx5]
 refine hZ _ (pp (Wk_seq ?_))
 obtain ⟨r14, hr6, h⟩ := Option.bind_eq_some_iff.1 h
 refine Wk_regionZ fun Z hZ => ?_
 simp only [go_sem, seval, hr6]
 refine hZ _ (pp (sw (Wk_cond_nbool rfl) (fun hc7 => ?_) (fun hc7 => ?_)))
 ·rw [if_pos hc7] at h
  refine Wk_skip (pp (Wk_regionZ fun Z hZ => ?_))
  simp only [go_sem, seval, hc7]
  refine hZ _ (pp (⟨_, Nat.lt_succ_self _, (l4, v5, IntKind.i64.wrap (v6 + 1)), ?_, h⟩))
  refine wr ?_ ?_ <;> repeat' first | rfl | constructor | simp only [go_sem, seval, Bool.or_self, List.length_set, Int.natCast_zero, Int.cast_ofNat_Int, hr1, hc2d, hc3d, hb4, hx5, hr6, hc7]
 rw [if_neg (ne_true_of_eq_false hc7)] at h
 refine Wk_seq ?_
 obtain ⟨x15, hb8, hx9, h⟩ := gx_some h
 have hx11 := set_get (y := x13) hx9
 refine Wk_regionZ fun Z hZ => ?_
 simp only [go_sem, seval, hc7, hb8, hx9, map_modify2 (row := (rowI .i64)) (y := x13) (rx := [.val (.int .i64 x15)]) (ry := [.val (.int .i64 x13)]) hx9 rfl rfl]
 refine hZ _ (pp (Wk_regionZ fun Z hZ => ?_))
 simp only [go_sem, seval]
 refine hZ _ (pp (Wk_regionZ fun Z hZ => ?_))
 simp only [go_sem, seval]
 refine hZ _ (pp (⟨_, Nat.lt_succ_self _, ((l4.set ((v5).toNat) x13), IntKind.i64.wrap (v5 + 1), IntKind.i64.wrap (v6 + 1)), ?_, h⟩))
 refine wr ?_ ?_ <;> repeat' first | rfl | constructor | simp only [go_sem, seval, List.length_set]
def fso_slices_DeleteFunc_int_cascade_state_remove_1 (N : Nat) : FnS := { own := [true, false], pure := true, fn := fun cs => match cs with
 | [c0, .clo 44 [.iref 1 [[k1_0_0]] 0 0]] => ((decO 1 (dec1 (decI .i64))) c0).bind fun q0 => ((decL 1 (dec1 (decI .i64))) k1_0_0).bind fun q1 => (slices_DeleteFunc_int_cascade_state_remove_1 N q0 q1).map fun r => .sl true none 1 none (r.map (rowI .i64))
 | _ => none }
theorem fso_slices_DeleteFunc_int_cascade_state_remove_1_own (N : Nat) : (fso_slices_DeleteFunc_int_cascade_state_remove_1 N).own = [true, false] := rfl
theorem fso_slices_DeleteFunc_int_cascade_state_remove_1_pure (N : Nat) : (fso_slices_DeleteFunc_int_cascade_state_remove_1 N).pure = true := rfl
theorem fso_slices_DeleteFunc_int_cascade_state_remove_1_peek (N : Nat) : (fso_slices_DeleteFunc_int_cascade_state_remove_1 N).peek = false := rfl
attribute [go_sem] fso_slices_DeleteFunc_int_cascade_state_remove_1 fso_slices_DeleteFunc_int_cascade_state_remove_1_own fso_slices_DeleteFunc_int_cascade_state_remove_1_pure fso_slices_DeleteFunc_int_cascade_state_remove_1_peek
theorem fso_slices_DeleteFunc_int_cascade_state_remove_1_ok (N : Nat) : FSOk Try.prog 29 (fso_slices_DeleteFunc_int_cascade_state_remove_1 N) := by
 refine ⟨fun cs r h => ?_, fun h => by cases h⟩
 simp only [fso_slices_DeleteFunc_int_cascade_state_remove_1] at h
 split at h
 ·simp only [Option.bind_eq_some_iff, Option.map_eq_some_iff] at h
  obtain ⟨q0, h0, q1, h1, r', hr, rfl⟩ := h
  exact (w_slices_DeleteFunc_int_cascade_state_remove_1 N q0 q1 r' hr).argsO rfl (argsO_own (decO_ok (rowI_ok .i64) (decI1_le .i64) h0) (argsO_le (Le.clo (LeL.cons (Le.iref1 (LeL.cons (decL_le (decI1_le .i64) h1) (LeL.nil))) (LeL.nil))) (argsO_nil)))
 ·cases h


noncomputable def G_cascade_state_remove (N d f : Nat) : Option FnS := glist [(27, 29, fso_slices_DeleteFunc_int_cascade_state_remove_1 N)] d f
attribute [go_sem] G_cascade_state_remove
theorem w_cascade_state_remove (N : Nat) (a0 : cascade_state) (a1 : (List Int)) (r : cascade_state) (h : cascade_state_remove N a0 a1 = some r) : ConL Try.prog 31 1 [.sl true none 6 (some 1) [cascade_state.rowD a0], .sl false none 1 none (a1.map (rowI .i64))] (.tup []) [.sl true none 6 (some 1) [cascade_state.rowD r]] := by
 refine fun_lent5 (G := (G_cascade_state_remove N)) (L := noL) Try.func31 rfl (by decide) (by kernel_rfl) 1 (by kernel_rfl) (gc 27 (fso_slices_DeleteFunc_int_cascade_state_remove_1_ok N) gn) (fun _ _ _ h => by cases h) [] mix (Nat.le_of_ble_eq_true rfl) (Nat.le_of_ble_eq_true rfl) rfl rfl ?_
 simp only [Try.f31]
 unfold cascade_state_remove at h
 refine Ws fun Z hZ => ?_
 simp (config := { maxSteps := 4000000 }) only [go_sem, seval]
 refine hZ _ (pp (Ws fun Z hZ => ?_))
 simp (config := { maxSteps := 4000000 }) only [go_sem, seval]
 refine hZ _ (pp (Wk_block (Wk_real fun hreal2 => ?_)))
 have hl1 := hreal2.cell 0 0 (by simp only [go_sem, seval]; rfl) rfl
 first | rw [List.length_map] at hl1 | rw [mxR_len] at hl1 | rw [← List.map_append, List.length_map] at hl1
 refine Wk_count (fun (v2 : Nat) (b : List cascade_stack) => ⟨tab 31 (updT (updT (updT (updT deadT 0 (.pref 0 [] 0 0)) 3 (.pref 3 [] 0 0)) 9 (.val (.int .i64 ((a0.stacks.length : Nat) : Int)))) 10 (.val (.int .i64 ((v2 : Nat) : Int)))), (upd (upd RZ 0 (.sl true none 6 (some 1) [[.sl true none 2 none (b.map cascade_stack.rowD), .sl true none 2 none (a0.prepared.map Arr2_i64.row), .sl true none 1 none (a0.known.map (rowI .i64)), .sl true none 1 none (a0.committed.map (rowI .i64)), .sl true none 1 none (a0.aborted.map (rowI .i64)), .sl true none 2 none (a0.deps.map Arr2_i64.row)]])) 3 (.sl true none 1 (some 1) [[.sl false none 1 none (a1.map (rowI .i64))]]))⟩) a0.stacks h ?_ ?_
 ·refine wr ?_ ?_ <;> repeat' first | rfl | constructor | simp only [go_sem, seval, Bool.or_self, List.length_set, Int.natCast_zero, Int.cast_ofNat_Int]
 rintro v2 l1 _ h -
 rcases (count_cases a0.stacks.length v2).symm with ⟨hi3', hd6⟩ | ⟨hi3', hd6⟩
 ·rw [hd6] at h
  simp only [cascade_state_remove_L1] at h
  refine Ws fun Z hZ => ?_
  simp (config := { maxSteps := 4000000 }) only [go_sem, seval, hi3']
  refine hZ _ (pp (Wk_seq ?_))
  try simp only [Int.ofNat_lt, hi3', if_true, if_false] at h
  refine Wk_cond_f rfl (Wk_exit (pp ?_))
  obtain rfl := Option.some.inj h
  refine FinL_mk (.inr rfl) (Weak.refl _) (by simp only [go_sem, seval]; rfl) (by simp only [go_sem, seval]; rfl) (by (try simp only [go_sem, seval]); first | exact Le.refl _ | exact LeI.h) ?_
  exact el_cons (by simp only [go_sem, seval] <;> rfl) (by simp only [go_sem, seval] <;> rfl) (el_nil)
 rw [hd6] at h
 simp only [cascade_state_remove_L1] at h
 have hw5 := wrap_succ hi3' hl1
 refine Ws fun Z hZ => ?_
 simp (config := { maxSteps := 4000000 }) only [go_sem, seval, hi3']
 refine hZ _ (pp (Wk_seq ?_))
 try simp only [Int.ofNat_lt, hi3', if_true, if_false] at h
 refine Wk_cond_t rfl (Wk_skip (pp (Wk_seq (Wk_block (Ws fun Z hZ => ?_)))))
 simp (config := { maxSteps := 4000000 }) only [go_sem, seval]
 refine hZ _ (pp ?_)
 obtain ⟨x1, hb7, hx8, h⟩ := gx_some h
 try simp only [Int.toNat_natCast] at hx8
 try simp only [Int.ofNat_lt, Int.natCast_nonneg, true_and] at hb7
 refine Wk_regionT [0, 1, 2, 3, 4, 5, 6, 7, 8, 9, 10, 11, 12, 13] [14] [] [15, 16, 17] [0] (by kernel_rfl) fun Z hZ Y hY => ?_
 simp (config := { maxSteps := 4000000 }) only [go_sem, seval, hb7, hx8]
 refine hY _ (by kernel_rfl) (Hop_cons (by simp only [go_sem, seval, chkA, Option.isNone, Bool.and_true]; try rfl) fun Y hY => ?_)
 obtain ⟨r2, hr9, h⟩ := Option.bind_eq_some_iff.1 h
 simp (config := { maxSteps := 4000000 }) only [go_sem, seval, hx8, over_of (row := cascade_stack.rowD) (rx := [.val (.int .i64 x1.actor), .sl true none 1 none (x1.txns.map (rowI .i64))]) hx8 rfl rfl, hr9]
 refine hY _ (by kernel_rfl) (Hop_nil ?_)
 simp (config := { maxSteps := 4000000 }) only [go_sem, seval, hb7, over_get (row := cascade_stack.rowD) _ hx8, over_mod (row := cascade_stack.rowD) hx8 rfl]
 refine hZ _ (pp (Wk_regionZ fun Z hZ => ?_))
 simp (config := { maxSteps := 4000000 }) only [go_sem, seval, hw5]
 refine hZ _ (pp ?_)
 first | refine ⟨(l1.set v2 (cascade_stack.mk x1.actor r2)), ?_, h⟩ | refine ⟨hi3', (l1.set v2 (cascade_stack.mk x1.actor r2)), ?_, h⟩
 refine Weak.trans (weak_tree (n := 0) (c' := .sl true none 6 (some 1) [[.sl true none 2 none ((l1.set v2 (cascade_stack.mk x1.actor r2)).map cascade_stack.rowD), .sl true none 2 none (a0.prepared.map Arr2_i64.row), .sl true none 1 none (a0.known.map (rowI .i64)), .sl true none 1 none (a0.committed.map (rowI .i64)), .sl true none 1 none (a0.aborted.map (rowI .i64)), .sl true none 2 none (a0.deps.map Arr2_i64.row)]]) (by simp only [go_sem, seval]; rfl) (by first | simp only [over_eq (row := cascade_stack.rowD) (l := l1) (i := v2) (y := (cascade_stack.mk x1.actor r2)) (rc := [.val (.int .i64 x1.actor), .sl true none 1 none (r2.map (rowI .i64))]) rfl] | (rw [← over_eq (row := cascade_stack.rowD) (l := l1) (i := v2) (y := (cascade_stack.mk x1.actor r2)) (rc := [.val (.int .i64 x1.actor), .sl true none 1 none (r2.map (rowI .i64))]) rfl]; simp only [List.map_append, List.map_cons, List.map_nil]; rfl))) ?_
 refine wr ?_ ?_ <;> repeat' first | rfl | constructor | simp only [go_sem, seval, Bool.or_self, List.length_set, Int.natCast_zero, Int.cast_ofNat_Int, hi3', hw5, hb7, hx8, over_of (row := cascade_stack.rowD) (rx := [.val (.int .i64 x1.actor), .sl true none 1 none (x1.txns.map (rowI .i64))]) hx8 rfl rfl, over_get (row := cascade_stack.rowD) _ hx8, over_mod (row := cascade_stack.rowD) hx8 rfl, hr9]
def fl_cascade_state_remove (N : Nat) : FnL := ⟨1, fun cs rest => match cs, rest with
 | [v0], [c1] => (varE 6 cascade_state.decE v0).bind fun q0 => ((decL 1 (dec1 (decI .i64))) c1).bind fun q1 => (cascade_state_remove N q0 q1).map fun r => (.tup [], [.sl true none 6 (some 1) [cascade_state.rowD r]])
 | _, _ => none, true⟩
attribute [go_sem] fl_cascade_state_remove
theorem fl_cascade_state_remove_ok (N : Nat) : FLOk Try.prog 31 (fl_cascade_state_remove N) := by
 refine flOkP (Nat.succ_ne_zero _) ?_
 intro cs rest r ls hlen h
 simp only [fl_cascade_state_remove] at h
 split at h
 ·simp only [Option.bind_eq_some_iff, Option.map_eq_some_iff] at h
  obtain ⟨q0, h0, q1, h1, r', hr, he⟩ := h
  cases he
  obtain rfl := varE_eq cascade_state.decE_eq h0
  exact ⟨ConL.restLe rfl ((LeL.cons (decL_le (decI1_le .i64) h1) (LeL.nil))) (w_cascade_state_remove N q0 q1 r' hr), rfl, PureIL.h⟩
 ·cases h


noncomputable def G_cascade_state_apply (N d f : Nat) : Option FnS := glist [(11, 27, fs_slices_Contains_int N), (74, 11, fso_cascade_Closure N), (77, 29, fso_slices_DeleteFunc_int_cascade_state_ended N)] d f
attribute [go_sem] G_cascade_state_apply
noncomputable def L_cascade_state_apply (N d f : Nat) : Option FnL := llist [(30, 50, fl_cascade_state_exec N), (64, 31, fl_cascade_state_remove N), (89, 31, fl_cascade_state_remove N)] d f
attribute [go_sem] L_cascade_state_apply
theorem w_cascade_state_apply (N : Nat) (a0 : cascade_state) (a1 : TxnEvent) (r : cascade_state) (h : cascade_state_apply N a0 a1 = some r) : ConL Try.prog 37 1 [.sl true none 6 (some 1) [cascade_state.rowD a0], .agg (TxnEvent.row a1)] (.tup []) [.sl true none 6 (some 1) [cascade_state.rowD r]] := by
 refine fun_lent5 (G := (G_cascade_state_apply N)) (L := (L_cascade_state_apply N)) Try.func37 rfl (by decide) (by kernel_rfl) 1 (by kernel_rfl) (gc 11 (fs_slices_Contains_int_ok N) (gc 74 (fso_cascade_Closure_ok N) (gc 77 (fso_slices_DeleteFunc_int_cascade_state_ended_ok N) gn))) (lc 30 (fl_cascade_state_exec_ok N) (lc 64 (fl_cascade_state_remove_ok N) (lc 89 (fl_cascade_state_remove_ok N) ln))) [] mix (Nat.le_of_ble_eq_true rfl) (Nat.le_of_ble_eq_true rfl) rfl rfl ?_
 simp only [Try.f37]
 unfold cascade_state_apply at h
 refine Ws fun Z hZ => ?_
 simp only [go_sem, seval]
 refine hZ _ (pp ?_)
 apply Wk_join1 (fun (l3 : List Int) => ⟨tab 90 (updT (updT deadT 0 (.pref 0 [] 0 0)) 3 (.pref 3 [] 0 0)), (upd (upd RZ 0 (.sl true none 6 (some 1) [[.sl true none 2 none (a0.stacks.map cascade_stack.rowD), .sl true none 2 none (a0.prepared.map Arr2_i64.row), .sl true none 1 none (l3.map (rowI .i64)), .sl true none 1 none (a0.committed.map (rowI .i64)), .sl true none 1 none (a0.aborted.map (rowI .i64)), .sl true none 2 none (a0.deps.map Arr2_i64.row)]])) 3 (.sl true none 3 (some 1) [TxnEvent.row a1]))⟩)
 ·intro hJ1
  refine Wk_seq ?_
  obtain ⟨r4, hr2, h⟩ := Option.bind_eq_some_iff.1 h
  refine Wk_regionD fun Z hZ => ?_
  simp only [go_sem, seval, hr2]
  repeat with_reducible refine and_bar (by kernel_rfl) ?_
  refine hZ _ (by kernel_rfl) (pp (sw (Wk_cond_nbool rfl) (fun hc3 => ?_) (fun hc3 => ?_)))
  ·rw [if_pos hc3] at h
   refine Wk_skip (pp (hJ1 _ a0.known ?_ h))
   refine wr ?_ ?_ <;> repeat' first | rfl | constructor | simp only [go_sem, seval, Bool.or_self, List.length_set, Int.natCast_zero, Int.cast_ofNat_Int, hr2, hc3]
  rw [if_neg (ne_true_of_eq_false hc3)] at h
  refine Wk_regionT [0, 1, 2, 3, 4, 5, 6] [7] [] [8, 9, 10, 11] [0] (by kernel_rfl) fun Z hZ Y hY => ?_
  simp only [go_sem, seval, hc3]
  refine hY _ (by kernel_rfl) (Hop_cons (by kernel_rfl) fun Y hY => ?_)
  simp only [go_sem, seval]
  refine hY _ (by kernel_rfl) (Hop_nil ?_)
  obtain ⟨ha4, h⟩ := apx_some h
  simp only [List.length_cons, List.length_nil, Nat.zero_add, Nat.reduceAdd] at ha4
  simp only [go_sem, seval, ha4]
  refine hZ _ (pp (hJ1 _ (a0.known ++ [a1.Txn]) ?_ h))
  refine wr ?_ ?_ <;> repeat' first | rfl | constructor | simp only [go_sem, seval]
 intro l3 h
 unfold cascade_state_apply_J1 at h
 refine Ws fun Z hZ => ?_
 simp only [go_sem, seval]
 refine hZ _ (pp (Wk_block (Ws fun Z hZ => ?_)))
 simp only [go_sem, seval]
 refine hZ _ (pp (Wk_cond_dec rfl (fun hc5 => ?_) (fun hc5 => ?_)))
 ·have hc5d := decide_eq_true hc5
  rw [if_pos hc5] at h
  obtain ⟨r5, hr6, h⟩ := Option.bind_eq_some_iff.1 h
  refine Wk_regionZ fun Z hZ => ?_
  simp only [go_sem, seval, hc5d, hr6]
  refine hZ _ (pp ?_)
  obtain rfl := Option.some.inj h
  refine FinL_mk (.inr rfl) (Weak.refl _) (by simp only [go_sem, seval]; rfl) (by simp only [go_sem, seval]; rfl) (by (try simp only [go_sem, seval]); first | exact Le.refl _ | exact LeI.h) ?_
  exact el_cons (by simp only [go_sem, seval] <;> rfl) (by simp only [go_sem, seval] <;> rfl) (el_nil)
 have hc5d := decide_eq_false hc5
 rw [if_neg hc5] at h
 refine Ws fun Z hZ => ?_
 simp only [go_sem, seval, hc5d]
 refine hZ _ (pp (Wk_cond_dec rfl (fun hc7 => ?_) (fun hc7 => ?_)))
 ·have hc7d := decide_eq_true hc7
  rw [if_pos hc7] at h
  refine Wk_regionT [0, 1, 2, 3, 4, 5, 6, 7, 8] [9, 10] [] [11, 12, 13, 14] [0] (by kernel_rfl) fun Z hZ Y hY => ?_
  simp only [go_sem, seval, hc7d]
  refine hY _ (by kernel_rfl) (Hop_cons (by kernel_rfl) fun Y hY => ?_)
  simp only [go_sem, seval]
  refine hY _ (by kernel_rfl) (Hop_cons (by kernel_rfl) fun Y hY => ?_)
  simp only [go_sem, seval]
  refine hY _ (by kernel_rfl) (Hop_nil ?_)
  obtain ⟨ha8, h⟩ := apx_some h
  simp only [List.length_cons, List.length_nil, Nat.zero_add, Nat.reduceAdd] at ha8
  simp only [go_sem, seval, ha8]
  refine hZ _ (pp ?_)
  obtain rfl := Option.some.inj h
  refine FinL_mk (.inr rfl) (Weak.refl _) (by simp only [go_sem, seval]; rfl) (by simp only [go_sem, seval]; rfl) (by (try simp only [go_sem, seval]); first | exact Le.refl _ | exact LeI.h) ?_
  exact el_cons (by simp only [go_sem, seval, Bool.or_self] <;> rfl) (by simp only [go_sem, seval] <;> rfl) (el_nil)
 have hc7d := decide_eq_false hc7
 rw [if_neg hc7] at h
 refine Ws fun Z hZ => ?_
 simp only [go_sem, seval, hc7d]
 refine hZ _ (pp (Wk_cond_dec rfl (fun hc9 => ?_) (fun hc9 => ?_)))
 ·have hc9d := decide_eq_true hc9
  rw [if_pos hc9] at h
  refine Wk_seq (Wk_regionT [0, 1, 2, 3, 4, 5, 6] [7] [] [8, 9, 10, 11] [0] (by kernel_rfl) fun Z hZ Y hY => ?_)
  simp only [go_sem, seval, hc9d]
  refine hY _ (by kernel_rfl) (Hop_cons (by kernel_rfl) fun Y hY => ?_)
  simp only [go_sem, seval]
  refine hY _ (by kernel_rfl) (Hop_nil ?_)
  obtain ⟨ha10, h⟩ := apx_some h
  simp only [List.length_cons, List.length_nil, Nat.zero_add, Nat.reduceAdd] at ha10
  simp only [go_sem, seval, ha10]
  refine hZ _ (pp ?_)
  obtain ⟨r6, hr11, h⟩ := Option.bind_eq_some_iff.1 h
  refine Wk_regionZ fun Z hZ => ?_
  simp only [go_sem, seval, hr11]
  refine hZ _ (pp ?_)
  obtain rfl := Option.some.inj h
  refine FinL_mk (.inr rfl) (Weak.refl _) (by simp only [go_sem, seval]; rfl) (by simp only [go_sem, seval]; rfl) (by (try simp only [go_sem, seval]); first | exact Le.refl _ | exact LeI.h) ?_
  exact el_cons (by simp only [go_sem, seval, Bool.or_self] <;> rfl) (by simp only [go_sem, seval] <;> rfl) (el_nil)
 have hc9d := decide_eq_false hc9
 rw [if_neg hc9] at h
 refine Ws fun Z hZ => ?_
 simp only [go_sem, seval, hc9d]
 refine hZ _ (pp (sw (Wk_cond_dec rfl) (fun hc12 => ?_) (fun hc12 => ?_)))
 ·have hc12d := decide_eq_false hc12
  rw [if_neg hc12] at h
  refine Wk_skip (pp ?_)
  obtain rfl := Option.some.inj h
  refine FinL_mk (.inr rfl) (Weak.refl _) (by simp only [go_sem, seval, hc12d]; rfl) (by simp only [go_sem, seval]; rfl) (by (try simp only [go_sem, seval]); first | exact Le.refl _ | exact LeI.h) ?_
  exact el_cons (by simp only [go_sem, seval, hc12d] <;> rfl) (by simp only [go_sem, seval] <;> rfl) (el_nil)
 have hc12d := decide_eq_true hc12
 rw [if_pos hc12] at h
 refine Wk_seq (Wk_regionT [0, 1, 2, 3, 4, 5, 8, 9] [6] [] [7, 10, 11] [0] (by kernel_rfl) fun Z hZ Y hY => ?_)
 simp only [go_sem, seval, hc12d]
 refine hY _ (by kernel_rfl) (Hop_cons (by kernel_rfl) fun Y hY => ?_)
 simp only [go_sem, seval]
 refine hY _ (by kernel_rfl) (Hop_nil ?_)
 obtain ⟨r7, hr13, h⟩ := Option.bind_eq_some_iff.1 h
 obtain ⟨r8, hr14, h⟩ := Option.bind_eq_some_iff.1 h
 simp only [go_sem, seval, hr13, hr14]
 refine hZ _ (pp (Wk_seq ?_))
 obtain ⟨ha15, h⟩ := apx_some h
 simp only [Nat.reduceAdd] at ha15
 refine Wk_regionZ fun Z hZ => ?_
 simp only [go_sem, seval, ha15]
 refine hZ _ (pp ?_)
 obtain ⟨r9, hr16, h⟩ := Option.bind_eq_some_iff.1 h
 refine Wk_regionZ fun Z hZ => ?_
 simp only [go_sem, seval, hr16]
 refine hZ _ (pp ?_)
 obtain rfl := Option.some.inj h
 refine FinL_mk (.inr rfl) (Weak.refl _) (by simp only [go_sem, seval]; rfl) (by simp only [go_sem, seval]; rfl) (by (try simp only [go_sem, seval]); first | exact Le.refl _ | exact LeI.h) ?_
 exact el_cons (by simp only [go_sem, seval, Bool.or_self] <;> rfl) (by simp only [go_sem, seval] <;> rfl) (el_nil)
def fl_cascade_state_apply (N : Nat) : FnL := ⟨1, fun cs rest => match cs, rest with
 | [v0], [c1] => (varE 6 cascade_state.decE v0).bind fun q0 => (TxnEvent.decA c1).bind fun q1 => (cascade_state_apply N q0 q1).map fun r => (.tup [], [.sl true none 6 (some 1) [cascade_state.rowD r]])
 | _, _ => none, true⟩
attribute [go_sem] fl_cascade_state_apply
theorem fl_cascade_state_apply_ok (N : Nat) : FLOk Try.prog 37 (fl_cascade_state_apply N) := by
 refine flOkP (Nat.succ_ne_zero _) ?_
 intro cs rest r ls hlen h
 simp only [fl_cascade_state_apply] at h
 split at h
 ·simp only [Option.bind_eq_some_iff, Option.map_eq_some_iff] at h
  obtain ⟨q0, h0, q1, h1, r', hr, he⟩ := h
  cases he
  obtain rfl := varE_eq cascade_state.decE_eq h0
  exact ⟨ConL.restLe rfl ((LeL.cons (TxnEvent.decA_le h1) (LeL.nil))) (w_cascade_state_apply N q0 q1 r' hr), rfl, PureIL.h⟩
 ·cases h


noncomputable def G_cascade_run (N d f : Nat) : Option FnS := glist [(18, 36, fs_cascade_state_allowed N)] d f
attribute [go_sem] G_cascade_run
noncomputable def L_cascade_run (N d f : Nat) : Option FnL := llist [(24, 37, fl_cascade_state_apply N)] d f
attribute [go_sem] L_cascade_run
theorem w_cascade_run (N : Nat) (a0 : (List TxnEvent)) (r : cascade_state × Int) (h : cascade_run N a0 = some r) : ConP Try.prog 18 [.sl false none 3 none (a0.map TxnEvent.row)] (.tup [.pref 0 [] 0 0, .val (.int .i64 r.2)]) (.sl true none 6 (some 1) [cascade_state.rowD r.1]) := by
 refine fun_new5 (G := (G_cascade_run N)) (L := (L_cascade_run N)) Try.func18 rfl (by decide) (by kernel_rfl) (gc 18 (fs_cascade_state_allowed_ok N) gn) (lc 24 (fl_cascade_state_apply_ok N) ln) [] mix (Nat.le_of_ble_eq_true rfl) ?_
 simp only [Try.f18]
 unfold cascade_run at h
 refine Ws fun Z hZ => ?_
 simp (config := { maxSteps := 4000000 }) only [go_sem, seval]
 refine hZ _ (pp (Ws fun Z hZ => ?_))
 simp (config := { maxSteps := 4000000 }) only [go_sem, seval]
 refine hZ _ (pp (Wk_weak (weak_nilO 8 [(0, 0)] 2 (by simp only [go_sem, seval]) (by simp only [go_sem, seval]; try rfl)) (Wk_weak (weak_nilO 8 [(0, 1)] 2 (by simp only [go_sem, seval]) (by simp only [go_sem, seval]; try rfl)) (Wk_weak (weak_nilO 8 [(0, 2)] 1 (by simp only [go_sem, seval]) (by simp only [go_sem, seval]; try rfl)) (Wk_weak (weak_nilO 8 [(0, 3)] 1 (by simp only [go_sem, seval]) (by simp only [go_sem, seval]; try rfl)) (Wk_weak (weak_nilO 8 [(0, 4)] 1 (by simp only [go_sem, seval]) (by simp only [go_sem, seval]; try rfl)) (Wk_weak (weak_nilO 8 [(0, 5)] 2 (by simp only [go_sem, seval]) (by simp only [go_sem, seval]; try rfl)) (Wk_seq (Ws fun Z hZ => ?_)))))))))
 simp (config := { maxSteps := 4000000 }) only [go_sem, seval]
 refine hZ _ (pp (Wk_block (Wk_real fun hreal2 => ?_)))
 have hl1 := hreal2.lenT 0 (by decide) (by simp only [go_sem, seval]; rfl)
 first | rw [List.length_map] at hl1 | rw [mxR_len] at hl1 | rw [← List.map_append, List.length_map] at hl1
 refine Wk_range (fun (v8 : Nat) (b : List cascade_stack × List Arr2_i64 × List Int × List Int × List Int × List Arr2_i64) => ⟨tab 27 (updT (updT (updT (updT deadT 4 (.pref 8 [] 0 0)) 9 (.sl false none 3 none (a0.map TxnEvent.row))) 10 (.val (.int .i64 ((a0.length : Nat) : Int)))) 11 (.val (.int .i64 ((v8 : Nat) : Int)))), (upd RZ 8 (.sl true none 6 (some 1) [[.sl true none 2 none (b.1.map cascade_stack.rowD), .sl true none 2 none (b.2.1.map Arr2_i64.row), .sl true none 1 none (b.2.2.1.map (rowI .i64)), .sl true none 1 none (b.2.2.2.1.map (rowI .i64)), .sl true none 1 none (b.2.2.2.2.1.map (rowI .i64)), .sl true none 2 none (b.2.2.2.2.2.map Arr2_i64.row)]]))⟩) ([], [], [], [], [], []) h ?_ ?_
 ·refine wr ?_ ?_ <;> repeat' first | rfl | constructor | simp only [go_sem, seval, Bool.or_self, List.length_set, Int.natCast_zero, Int.cast_ofNat_Int]
 rintro v8 ⟨l2, l3, l4, l5, l6, l7⟩ hi3 h -
 rcases (drop_cases a0 v8 hi3).symm with ⟨hi3', _, hd6⟩ | ⟨x11, hi3', hx4, hd6⟩
 ·rw [hd6] at h
  simp only [cascade_run_L1] at h
  refine Ws fun Z hZ => ?_
  simp (config := { maxSteps := 4000000 }) only [go_sem, seval, hi3']
  refine hZ _ (pp (Wk_seq ?_))
  try simp only [Int.ofNat_lt, hi3', if_true, if_false] at h
  refine Wk_cond_f rfl (Wk_exit (pp (Ws fun Z hZ => ?_)))
  simp (config := { maxSteps := 4000000 }) only [go_sem, seval]
  refine hZ _ (pp (Wk_ret (pp ?_)))
  obtain rfl := Option.some.inj h
  exact FinP_mk (.inl rfl) (Weak.refl _) 8 (by simp only [go_sem, seval] <;> rfl) (by simp only [go_sem, seval] <;> rfl) (by simp only [go_sem, seval] <;> rfl)
 rw [hd6] at h
 simp only [cascade_run_L1] at h
 have hw5 := wrap_succ hi3' hl1
 refine Ws fun Z hZ => ?_
 simp (config := { maxSteps := 4000000 }) only [go_sem, seval, hi3']
 refine hZ _ (pp (Wk_seq ?_))
 try simp only [Int.ofNat_lt, hi3', if_true, if_false] at h
 refine Wk_cond_t rfl (Wk_skip (pp (Wk_seq (Wk_block (Wk_seq ?_)))))
 try rw [gx_nat hx4] at h
 refine Wk_regionZ fun Z hZ => ?_
 simp (config := { maxSteps := 4000000 }) only [go_sem, seval, hx4, hi3']
 refine hZ _ (pp (Wk_seq (Wk_seq ?_)))
 obtain ⟨r1, hr7, h⟩ := Option.bind_eq_some_iff.1 h
 refine Wk_regionZ fun Z hZ => ?_
 simp (config := { maxSteps := 4000000 }) only [go_sem, seval, hr7]
 refine hZ _ (pp (Wk_cond_nbool rfl (fun hc8 => ?_) (fun hc8 => ?_)))
 ·first | rw [if_neg (ne_true_of_eq_false hc8)] at h | simp only [hc8, Bool.or_false, Bool.or_true, Bool.false_or, Bool.true_or, Bool.and_true, Bool.true_and, Bool.and_false, Bool.false_and, Bool.not_true, Bool.not_false, Bool.false_eq_true, if_true, if_false] at h
  refine Ws fun Z hZ => ?_
  simp (config := { maxSteps := 4000000 }) only [go_sem, seval, hc8]
  refine hZ _ (pp (Wk_ret (pp ?_)))
  obtain rfl := Option.some.inj h
  exact FinP_mk (.inl rfl) (Weak.refl _) 8 (by simp only [go_sem, seval] <;> rfl) (by simp only [go_sem, seval] <;> rfl) (by simp only [go_sem, seval] <;> rfl)
 first | rw [if_pos hc8] at h | simp only [hc8, Bool.or_false, Bool.or_true, Bool.false_or, Bool.true_or, Bool.and_true, Bool.true_and, Bool.and_false, Bool.false_and, Bool.not_true, Bool.not_false, Bool.false_eq_true, if_true, if_false] at h
 refine Wk_skip (pp ?_)
 obtain ⟨r2, hr9, h⟩ := Option.bind_eq_some_iff.1 h
 refine Wk_regionZ fun Z hZ => ?_
 simp (config := { maxSteps := 4000000 }) only [go_sem, seval, hc8, hr9]
 refine hZ _ (pp (Wk_regionZ fun Z hZ => ?_))
 simp (config := { maxSteps := 4000000 }) only [go_sem, seval, hw5]
 refine hZ _ (pp ?_)
 first | refine ⟨(r2.stacks, r2.prepared, r2.known, r2.committed, r2.aborted, r2.deps), ?_, h⟩ | refine ⟨hi3', (r2.stacks, r2.prepared, r2.known, r2.committed, r2.aborted, r2.deps), ?_, h⟩
 refine wr ?_ ?_ <;> repeat' first | rfl | constructor | simp only [go_sem, seval, Bool.or_self, List.length_set, Int.natCast_zero, Int.cast_ofNat_Int, hx4, hi3', hw5, hr7, hc8, hr9]
def fl_cascade_run (N : Nat) : FnL := ⟨0, fun cs rest => match cs, rest with
 | [], [c0] =>  ((decL 3 TxnEvent.dec) c0).bind fun q0 => (cascade_run N q0).map fun r => (.tup [.pref 0 [] 0 0, .val (.int .i64 r.2)], [.sl true none 6 (some 1) [cascade_state.rowD r.1]])
 | _, _ => none, false⟩
attribute [go_sem] fl_cascade_run
theorem fl_cascade_run_ok (N : Nat) : FLOk Try.prog 18 (fl_cascade_run N) := by
 refine flOkN rfl ?_
 intro rest r c h
 simp only [fl_cascade_run] at h
 split at h
 ·simp only [Option.bind_eq_some_iff, Option.map_eq_some_iff] at h
  obtain ⟨q0, h0, r', hr, he⟩ := h
  cases he
  exact ConP.le ((LeL.cons (decL_le TxnEvent.dec_le h0) (LeL.nil))) (w_cascade_run N q0 r' hr)
 ·cases h


noncomputable def G_cmp_Compare_int (N d f : Nat) : Option FnS := glist [(8, 40, fs_cmp_isNaN_int N), (10, 40, fs_cmp_isNaN_int N)] d f
attribute [go_sem] G_cmp_Compare_int
theorem w_cmp_Compare_int (N : Nat) (a0 : Int) (a1 : Int) (r : Int) (h : cmp_Compare_int N a0 a1 = some r) : Con Try.prog 22 [] true [.val (.int .i64 a0), .val (.int .i64 a1)] (.val (.int .i64 r)) := by
 refine fun_ok4 (G := (G_cmp_Compare_int N)) Try.func22 rfl (by decide) (by kernel_rfl) (gc 8 (fs_cmp_isNaN_int_ok N) (gc 10 (fs_cmp_isNaN_int_ok N) gn)) [] mix (Nat.le_of_ble_eq_true rfl) ?_
 simp only [Try.f22]
 unfold cmp_Compare_int at h
 refine Ws fun Z hZ => ?_
 simp only [go_sem, seval]
 refine hZ _ (pp (Wk_seq ?_))
 obtain ⟨r1, hr1, h⟩ := Option.bind_eq_some_iff.1 h
 refine Wk_regionZ fun Z hZ => ?_
 simp only [go_sem, seval, hr1]
 refine hZ _ (pp (Wk_seq ?_))
 obtain ⟨r2, hr2, h⟩ := Option.bind_eq_some_iff.1 h
 refine Wk_regionZ fun Z hZ => ?_
 simp only [go_sem, seval, hr2]
 refine hZ _ (pp (Wk_seq (Ws fun Z hZ => ?_)))
 simp only [go_sem, seval]
 refine hZ _ (pp (Wk_cond_bool rfl (fun hc3 => ?_) (fun hc3 => ?_)))
 ·rw [if_pos hc3] at h
  refine Wk_seq (Ws fun Z hZ => ?_)
  simp only [go_sem, seval, hc3]
  refine hZ _ (pp (Wk_cond_bool rfl (fun hc4 => ?_) (fun hc4 => ?_)))
  ·rw [if_pos hc4] at h
   refine Ws fun Z hZ => ?_
   simp only [go_sem, seval, hc4]
   refine hZ _ (pp (Wk_ret (pp ?_)))
   cases h
   simp only [go_sem, seval]
   exact ⟨_, rfl, RokI.h, PureI.h⟩
  rw [if_neg (ne_true_of_eq_false hc4)] at h
  refine Wk_skip (pp (Ws fun Z hZ => ?_))
  simp only [go_sem, seval, hc4]
  refine hZ _ (pp (Wk_ret (pp ?_)))
  cases h
  simp only [go_sem, seval]
  exact ⟨_, rfl, RokI.h, PureI.h⟩
 rw [if_neg (ne_true_of_eq_false hc3)] at h
 refine Wk_skip (pp (Wk_seq (Ws fun Z hZ => ?_)))
 simp only [go_sem, seval, hc3]
 refine hZ _ (pp (Wk_cond_bool rfl (fun hc5 => ?_) (fun hc5 => ?_)))
 ·rw [if_pos hc5] at h
  refine Ws fun Z hZ => ?_
  simp only [go_sem, seval, hc5]
  refine hZ _ (pp (Wk_ret (pp ?_)))
  cases h
  simp only [go_sem, seval]
  exact ⟨_, rfl, RokI.h, PureI.h⟩
 rw [if_neg (ne_true_of_eq_false hc5)] at h
 refine Wk_skip (pp (Wk_seq (Ws fun Z hZ => ?_)))
 simp only [go_sem, seval, hc5]
 refine hZ _ (pp (Wk_cond_dec rfl (fun hc6 => ?_) (fun hc6 => ?_)))
 ·have hc6d := decide_eq_true hc6
  rw [if_pos hc6] at h
  refine Ws fun Z hZ => ?_
  simp only [go_sem, seval, hc6d]
  refine hZ _ (pp (Wk_ret (pp ?_)))
  cases h
  simp only [go_sem, seval]
  exact ⟨_, rfl, RokI.h, PureI.h⟩
 have hc6d := decide_eq_false hc6
 rw [if_neg hc6] at h
 refine Wk_skip (pp (Wk_seq (Ws fun Z hZ => ?_)))
 simp only [go_sem, seval, hc6d]
 refine hZ _ (pp (Wk_cond_dec rfl (fun hc7 => ?_) (fun hc7 => ?_)))
 ·have hc7d := decide_eq_true hc7
  rw [if_pos hc7] at h
  refine Ws fun Z hZ => ?_
  simp only [go_sem, seval, hc7d]
  refine hZ _ (pp (Wk_ret (pp ?_)))
  cases h
  simp only [go_sem, seval]
  exact ⟨_, rfl, RokI.h, PureI.h⟩
 have hc7d := decide_eq_false hc7
 rw [if_neg hc7] at h
 refine Wk_skip (pp (Ws fun Z hZ => ?_))
 simp only [go_sem, seval, hc7d]
 refine hZ _ (pp (Wk_ret (pp ?_)))
 cases h
 simp only [go_sem, seval]
 exact ⟨_, rfl, RokI.h, PureI.h⟩
def fs_cmp_Compare_int (N : Nat) : FnS := ⟨[], true, fn2 (decI .i64) (decI .i64) fun q0 q1 => (cmp_Compare_int N q0 q1).map fun r => .val (.int .i64 r), false⟩
attribute [go_sem] fs_cmp_Compare_int
theorem fs_cmp_Compare_int_ok (N : Nat) : FSOk Try.prog 22 (fs_cmp_Compare_int N) := ok2 (fun q0 q1 r h => by
 obtain ⟨r', hr, rfl⟩ := Option.map_eq_some_iff.1 h
 exact w_cmp_Compare_int N q0 q1 r' hr) (decI_le) (decI_le)


theorem w_cmp_Or_int (N : Nat) (a0 : (List Int)) (r : Int) (h : cmp_Or_int N a0 = some r) : Con Try.prog 21 [] true [.sl false none 1 none (a0.map (rowI .i64))] (.val (.int .i64 r)) := by
 refine fun_ok4 (G := (glist [])) Try.func21 rfl (by decide) (by kernel_rfl) gn [] mix (Nat.le_of_ble_eq_true rfl) ?_
 simp only [Try.f21]
 unfold cmp_Or_int at h
 refine Ws fun Z hZ => ?_
 simp only [go_sem, seval]
 refine hZ _ (pp (Ws fun Z hZ => ?_))
 simp only [go_sem, seval]
 refine hZ _ (pp (Wk_seq (Ws fun Z hZ => ?_)))
 simp only [go_sem, seval]
 refine hZ _ (pp (Wk_block (Wk_real fun hreal2 => ?_)))
 have hl1 := hreal2.lenT 0 (by decide) (by simp only [go_sem, seval]; rfl)
 first | rw [List.length_map] at hl1 | rw [mxR_len] at hl1 | rw [← List.map_append, List.length_map] at hl1
 refine Wk_range (fun (v2 : Nat) (b : Unit) => ⟨tab 18 (updT (updT (updT (updT deadT 3 (.val (.int .i64 0))) 6 (.sl false none 1 none (a0.map (rowI .i64)))) 7 (.val (.int .i64 ((a0.length : Nat) : Int)))) 8 (.val (.int .i64 ((v2 : Nat) : Int)))), RZ⟩) () h ?_ ?_
 ·refine wr ?_ ?_ <;> repeat' first | rfl | constructor
 rintro v2 ⟨⟩ hi3 h -
 rcases (drop_cases a0 v2 hi3).symm with ⟨hi3', _, hd6⟩ | ⟨x5, hi3', hx4, hd6⟩
 ·rw [hd6] at h
  simp only [cmp_Or_int_L1] at h
  refine Ws fun Z hZ => ?_
  simp only [go_sem, seval, hi3']
  refine hZ _ (pp (Wk_seq ?_))
  try simp only [Int.ofNat_lt, hi3', if_true, if_false] at h
  refine Wk_cond_f rfl (Wk_exit (pp (Ws fun Z hZ => ?_)))
  simp only [go_sem, seval]
  refine hZ _ (pp (Wk_ret (pp ?_)))
  cases h
  simp only [go_sem, seval]
  exact ⟨_, rfl, RokI.h, PureI.h⟩
 rw [hd6] at h
 simp only [cmp_Or_int_L1] at h
 have hw5 := wrap_succ hi3' hl1
 refine Ws fun Z hZ => ?_
 simp only [go_sem, seval, hi3']
 refine hZ _ (pp (Wk_seq ?_))
 try simp only [Int.ofNat_lt, hi3', if_true, if_false] at h
 refine Wk_cond_t rfl (Wk_skip (pp (Wk_seq (Wk_block (Wk_seq ?_)))))
 try rw [gx_nat hx4] at h
 refine Wk_regionZ fun Z hZ => ?_
 simp only [go_sem, seval, hx4, hi3']
 refine hZ _ (pp (Ws fun Z hZ => ?_))
 simp only [go_sem, seval]
 refine hZ _ (pp (Wk_cond_ndec rfl (fun hc7 => ?_) (fun hc7 => ?_)))
 ·have hc7d := decide_eq_false hc7
  rw [if_neg hc7] at h
  refine Ws fun Z hZ => ?_
  simp only [go_sem, seval, hc7d]
  refine hZ _ (pp (Wk_ret (pp ?_)))
  cases h
  simp only [go_sem, seval]
  exact ⟨_, rfl, RokI.h, PureI.h⟩
 have hc7d := decide_eq_true hc7
 rw [if_pos hc7] at h
 refine Wk_skip (pp (Wk_regionZ fun Z hZ => ?_))
 simp only [go_sem, seval, hw5, hc7d]
 refine hZ _ (pp ?_)
 first | refine ⟨(), ?_, h⟩ | refine ⟨hi3', (), ?_, h⟩
 refine wr ?_ ?_ <;> repeat' first | rfl | constructor
def fs_cmp_Or_int (N : Nat) : FnS := ⟨[], true, fn1 (decL 1 (dec1 (decI .i64))) fun q0 => (cmp_Or_int N q0).map fun r => .val (.int .i64 r), false⟩
attribute [go_sem] fs_cmp_Or_int
theorem fs_cmp_Or_int_ok (N : Nat) : FSOk Try.prog 21 (fs_cmp_Or_int N) := ok1 (fun q0 r h => by
 obtain ⟨r', hr, rfl⟩ := Option.map_eq_some_iff.1 h
 exact w_cmp_Or_int N q0 r' hr) (fun h => decL_le (decI1_le .i64) h)


noncomputable def G_cascade_Dependencies_1 (N d f : Nat) : Option FnS := glist [(9, 22, fs_cmp_Compare_int N), (14, 22, fs_cmp_Compare_int N), (16, 21, fs_cmp_Or_int N)] d f
attribute [go_sem] G_cascade_Dependencies_1
theorem w_cascade_Dependencies_1 (N : Nat) (a0 : Arr2_i64) (a1 : Arr2_i64) (r : Int) (h : cascade_Dependencies_1 N a0 a1 = some r) : Con Try.prog 20 [] true [.agg [.val (.int .i64 a0.e0), .val (.int .i64 a0.e1)], .agg [.val (.int .i64 a1.e0), .val (.int .i64 a1.e1)]] (.val (.int .i64 r)) := by
 refine fun_ok4 (G := (G_cascade_Dependencies_1 N)) Try.func20 rfl (by decide) (by kernel_rfl) (gc 9 (fs_cmp_Compare_int_ok N) (gc 14 (fs_cmp_Compare_int_ok N) (gc 16 (fs_cmp_Or_int_ok N) gn))) [] mix (Nat.le_of_ble_eq_true rfl) ?_
 simp only [Try.f20]
 unfold cascade_Dependencies_1 at h
 refine Ws fun Z hZ => ?_
 simp only [go_sem, seval]
 refine hZ _ (pp (Wk_seq ?_))
 obtain ⟨r1, hr1, h⟩ := Option.bind_eq_some_iff.1 h
 obtain ⟨r2, hr2, h⟩ := Option.bind_eq_some_iff.1 h
 obtain ⟨r3, hr3, h⟩ := Option.bind_eq_some_iff.1 h
 refine Wk_regionD fun Z hZ => ?_
 simp only [go_sem, seval, hr1, hr2, hr3]
 repeat with_reducible refine and_bar (by kernel_rfl) ?_
 refine hZ _ (by kernel_rfl) (pp (Wk_ret (pp ?_)))
 cases h
 simp only [go_sem, seval]
 exact ⟨_, rfl, RokI.h, PureI.h⟩
def fs_cascade_Dependencies_1 (N : Nat) : FnS := ⟨[], true, fn2 Arr2_i64.decA Arr2_i64.decA fun q0 q1 => (cascade_Dependencies_1 N q0 q1).map fun r => .val (.int .i64 r), false⟩
attribute [go_sem] fs_cascade_Dependencies_1
theorem fs_cascade_Dependencies_1_ok (N : Nat) : FSOk Try.prog 20 (fs_cascade_Dependencies_1 N) := ok2 (fun q0 q1 r h => by
 obtain ⟨r', hr, rfl⟩ := Option.map_eq_some_iff.1 h
 exact w_cascade_Dependencies_1 N q0 q1 r' hr) (Arr2_i64.decA_le) (Arr2_i64.decA_le)


noncomputable def G_slices_insertionSortCmpFunc_2int_cascade_Dependencies_1_cut (N d f : Nat) : Option FnS := glist [(32, 20, fs_cascade_Dependencies_1 N)] d f
attribute [go_sem] G_slices_insertionSortCmpFunc_2int_cascade_Dependencies_1_cut
theorem len_slices_insertionSortCmpFunc_2int_cascade_Dependencies_1_cut (N : Nat) (a0 : (List Arr2_i64)) (a1 : Int) (a2 : Int) (r : (List Arr2_i64)) (h : slices_insertionSortCmpFunc_2int_cascade_Dependencies_1_cut N a0 a1 a2 = some r) : (r).length = a0.length := by
 unfold slices_insertionSortCmpFunc_2int_cascade_Dependencies_1_cut at h; exact (lenM_some h).2
theorem w_slices_insertionSortCmpFunc_2int_cascade_Dependencies_1_cut (N : Nat) (a0 : (List Arr2_i64)) (a1 : Int) (a2 : Int) (r : (List Arr2_i64)) (h : slices_insertionSortCmpFunc_2int_cascade_Dependencies_1_cut N a0 a1 a2 = some r) : ConL Try.prog 51 1 [.sl true none 2 none (a0.map Arr2_i64.row), .val (.int .i64 a1), .val (.int .i64 a2), .clo 20 []] (.tup []) [.sl true none 2 none (r.map Arr2_i64.row)] := by
 unfold slices_insertionSortCmpFunc_2int_cascade_Dependencies_1_cut at h
 obtain ⟨h, hlen⟩ := lenM_some h
 refine fun_lent5 (G := (G_slices_insertionSortCmpFunc_2int_cascade_Dependencies_1_cut N)) (L := noL) Try.func51 rfl (by decide) (by kernel_rfl) 1 (by kernel_rfl) (gc 32 (fs_cascade_Dependencies_1_ok N) gn) (fun _ _ _ h => by cases h) [] mix (Nat.le_of_ble_eq_true rfl) (Nat.le_of_ble_eq_true rfl) rfl (by simp [lentSh, hlen]) ?_
 simp only [Try.f51]
 refine Ws fun Z hZ => ?_
 simp only [go_sem, seval]
 refine hZ _ (pp (Wk_block (Wk_fuel (fun (b : Int) => ⟨tab 53 (updT (updT (updT (updT (updT deadT 0 (.pal 0 [] 0 a0.length none)) 1 (.val (.int .i64 a1))) 2 (.val (.int .i64 a2))) 3 (.clo 20 [])) 8 (.val (.int .i64 b))), (upd RZ 0 (.sl true none 2 none (a0.map Arr2_i64.row)))⟩) (IntKind.i64.wrap (a1 + 1)) h ?_ ?_)))
 ·refine wr ?_ ?_ <;> repeat' first | rfl | constructor
 rintro n v1 h -
 cases n with
 | zero => simp [slices_insertionSortCmpFunc_2int_cascade_Dependencies_1_cut_L1] at h
 | succ n =>
 simp only [slices_insertionSortCmpFunc_2int_cascade_Dependencies_1_cut_L1] at h
 refine Wk_seq (Ws fun Z hZ => ?_)
 simp only [go_sem, seval]
 refine hZ _ (pp (sw (Wk_cond_dec rfl) (fun hc1 => ?_) (fun hc1 => ?_)))
 ·have hc1d := decide_eq_false hc1
  rw [if_neg hc1] at h
  refine Wk_exit (pp ?_)
  obtain rfl := Option.some.inj h
  refine FinL_mk (.inr rfl) (Weak.refl _) (by simp only [go_sem, seval, hc1d]; rfl) (by simp only [go_sem, seval]; rfl) (by (try simp only [go_sem, seval]); first | exact Le.refl _ | exact LeI.h) ?_
  exact el_cons (by simp only [go_sem, seval, hc1d] <;> rfl) (by simp only [go_sem, seval] <;> rfl) (el_nil)
 have hc1d := decide_eq_true hc1
 rw [if_pos hc1] at h
 refine Wk_skip (pp (Wk_seq (Wk_block (Ws fun Z hZ => ?_))))
 simp only [go_sem, seval, hc1d]
 refine hZ _ (pp (Wk_block (Wk_fuel (fun (b : Unit) => ⟨tab 53 (updT (updT (updT (updT (updT (updT deadT 0 (.pal 0 [] 0 a0.length none)) 1 (.val (.int .i64 a1))) 2 (.val (.int .i64 a2))) 3 (.clo 20 [])) 8 (.val (.int .i64 v1))) 9 (.val (.int .i64 v1))), (upd RZ 0 (.sl true none 2 none (a0.map Arr2_i64.row)))⟩) () h ?_ ?_)))
 ·refine wr ?_ ?_ <;> repeat' first | rfl | constructor
 rintro n ⟨⟩ h -
 cases n with
 | zero => simp [slices_insertionSortCmpFunc_2int_cascade_Dependencies_1_cut_L2] at h
 | succ n =>
 simp only [slices_insertionSortCmpFunc_2int_cascade_Dependencies_1_cut_L2] at h
 refine Wk_seq ?_
 apply Wk_join1 (fun (c9 : Bool) => ⟨tab 53 (updT (updT (updT (updT (updT (updT (updT deadT 0 (.pal 0 [] 0 a0.length none)) 1 (.val (.int .i64 a1))) 2 (.val (.int .i64 a2))) 3 (.clo 20 [])) 8 (.val (.int .i64 v1))) 9 (.val (.int .i64 v1))) 34 (.val (.bool c9))), (upd RZ 0 (.sl true none 2 none (a0.map Arr2_i64.row)))⟩)
 ·intro hJ2
  refine Wk_regionD fun Z hZ => ?_
  simp only [go_sem, seval]
  refine sw (RX_guard_dec rfl) (fun hc3 => ?_) (fun hc3 => ?_)
  ·have hc3d := decide_eq_false hc3
   rw [if_neg hc3] at h
   simp only [go_sem, seval, hc3d]
   refine hZ _ (by kernel_rfl) (pp (hJ2 _ false ?_ h))
   refine wr ?_ ?_ <;> repeat' first | rfl | constructor
  have hc3d := decide_eq_true hc3
  rw [if_pos hc3] at h
  obtain ⟨x10, hb4, hx5, h⟩ := gx_some h
  obtain ⟨x11, hb6, hx7, h⟩ := gx_some h
  obtain ⟨r12, hr8, h⟩ := Option.bind_eq_some_iff.1 h
  simp only [go_sem, seval, hc3d, hb4, hx5, hb6, hx7, hr8]
  repeat with_reducible refine and_bar (by kernel_rfl) ?_
  refine hZ _ (by kernel_rfl) (pp (hJ2 _ (decide (r12 < 0)) ?_ h))
  refine wr ?_ ?_ <;> repeat' first | rfl | constructor
 intro c9 h
 unfold slices_insertionSortCmpFunc_2int_cascade_Dependencies_1_cut_J1 at h
 refine Wk_cond_bool rfl (fun hc9 => ?_) (fun hc9 => ?_)
 ·rw [if_pos hc9] at h
  refine Wk_skip (pp ?_)
  unfold slices_insertionSortCmpFunc_2int_cascade_Dependencies_1_cut_J2 at h
  refine Wk_seq (Wk_block ?_)
  obtain ⟨x13, hb10, hx11, h⟩ := gx_some h
  obtain ⟨x14, hb12, hx13, h⟩ := gx_some h
  cases h
 rw [if_neg (ne_true_of_eq_false hc9)] at h
 refine Wk_exit (pp (Wk_regionZ fun Z hZ => ?_))
 simp only [go_sem, seval, hc9]
 refine hZ _ (pp (⟨_, Nat.lt_succ_self _, (IntKind.i64.wrap (v1 + 1)), ?_, h⟩))
 refine wr ?_ ?_ <;> repeat' first | rfl | constructor
def fl_slices_insertionSortCmpFunc_2int_cascade_Dependencies_1_cut (N : Nat) : FnL := ⟨1, fun cs rest => match cs, rest with
 | [v0], [c1, c2, .clo 20 []] => (lst1 2 Arr2_i64.dec v0).bind fun q0 => ((decI .i64) c1).bind fun q1 => ((decI .i64) c2).bind fun q2 => (slices_insertionSortCmpFunc_2int_cascade_Dependencies_1_cut N q0 q1 q2).map fun r => (.tup [], [.sl true none 2 none (r.map Arr2_i64.row)])
 | _, _ => none, false⟩
attribute [go_sem] fl_slices_insertionSortCmpFunc_2int_cascade_Dependencies_1_cut
theorem fl_slices_insertionSortCmpFunc_2int_cascade_Dependencies_1_cut_ok (N : Nat) : FLOk Try.prog 51 (fl_slices_insertionSortCmpFunc_2int_cascade_Dependencies_1_cut N) := by
 refine flOk (Nat.succ_ne_zero _) rfl ?_
 intro cs rest r ls hlen h
 simp only [fl_slices_insertionSortCmpFunc_2int_cascade_Dependencies_1_cut] at h
 split at h
 ·simp only [Option.bind_eq_some_iff, Option.map_eq_some_iff] at h
  obtain ⟨q0, h0, q1, h1, q2, h2, r', hr, he⟩ := h
  cases he
  exact ConL.told rfl rfl (lv_cons (lst1_ok Arr2_i64.row_ok Arr2_i64.dec_le h0) (lv_nil)) ((LeL.cons (decI_le h1) (LeL.cons (decI_le h2) (LeL.cons (Le.clo (LeL.nil)) (LeL.nil))))) (w_slices_insertionSortCmpFunc_2int_cascade_Dependencies_1_cut N q0 q1 q2 r' hr)
 ·cases h


noncomputable def L_slices_pdqsortCmpFunc_2int_cascade_Dependencies_1_cut (N d f : Nat) : Option FnL := llist [(30, 51, fl_slices_insertionSortCmpFunc_2int_cascade_Dependencies_1_cut N)] d f
attribute [go_sem] L_slices_pdqsortCmpFunc_2int_cascade_Dependencies_1_cut
theorem len_slices_pdqsortCmpFunc_2int_cascade_Dependencies_1_cut (N : Nat) (a0 : (List Arr2_i64)) (a1 : Int) (a2 : Int) (a3 : Int) (r : (List Arr2_i64)) (h : slices_pdqsortCmpFunc_2int_cascade_Dependencies_1_cut N a0 a1 a2 a3 = some r) : (r).length = a0.length := by
 unfold slices_pdqsortCmpFunc_2int_cascade_Dependencies_1_cut at h; exact (lenM_some h).2
theorem w_slices_pdqsortCmpFunc_2int_cascade_Dependencies_1_cut (N : Nat) (a0 : (List Arr2_i64)) (a1 : Int) (a2 : Int) (a3 : Int) (r : (List Arr2_i64)) (h : slices_pdqsortCmpFunc_2int_cascade_Dependencies_1_cut N a0 a1 a2 a3 = some r) : ConL Try.prog 38 1 [.sl true none 2 none (a0.map Arr2_i64.row), .val (.int .i64 a1), .val (.int .i64 a2), .val (.int .i64 a3), .clo 20 []] (.tup []) [.sl true none 2 none (r.map Arr2_i64.row)] := by
 unfold slices_pdqsortCmpFunc_2int_cascade_Dependencies_1_cut at h
 obtain ⟨h, hlen⟩ := lenM_some h
 refine fun_lent5 (G := (glist [])) (L := (L_slices_pdqsortCmpFunc_2int_cascade_Dependencies_1_cut N)) Try.func38 rfl (by decide) (by kernel_rfl) 1 (by kernel_rfl) gn (lc 30 (fl_slices_insertionSortCmpFunc_2int_cascade_Dependencies_1_cut_ok N) ln) [] mix (Nat.le_of_ble_eq_true rfl) (Nat.le_of_ble_eq_true rfl) rfl (by simp [lentSh, hlen]) ?_
 simp only [Try.f38]
 refine Ws fun Z hZ => ?_
 simp only [go_sem, seval]
 refine hZ _ (pp (Ws fun Z hZ => ?_))
 simp only [go_sem, seval]
 refine hZ _ (pp (Wk_block (Wk_fuel (fun (b : Unit) => ⟨tab 148 (updT (updT (updT (updT (updT (updT (updT deadT 0 (.pal 0 [] 0 a0.length none)) 1 (.val (.int .i64 a1))) 2 (.val (.int .i64 a2))) 3 (.val (.int .i64 a3))) 4 (.clo 20 [])) 10 (.val (.bool true))) 11 (.val (.bool true))), (upd RZ 0 (.sl true none 2 none (a0.map Arr2_i64.row)))⟩) () h ?_ ?_)))
 ·refine wr ?_ ?_ <;> repeat' first | rfl | constructor
 rintro n ⟨⟩ h -
 cases n with
 | zero => simp [slices_pdqsortCmpFunc_2int_cascade_Dependencies_1_cut_L1] at h
 | succ n =>
 simp only [slices_pdqsortCmpFunc_2int_cascade_Dependencies_1_cut_L1] at h
 refine Wk_block (Ws fun Z hZ => ?_)
 simp only [go_sem, seval]
 refine hZ _ (pp (Wk_seq (Ws fun Z hZ => ?_)))
 simp only [go_sem, seval]
 refine hZ _ (pp (sw (Wk_cond_dec rfl) (fun hc1 => ?_) (fun hc1 => ?_)))
 ·have hc1d := decide_eq_false hc1
  rw [if_neg hc1] at h
  refine Wk_skip (pp (Wk_seq (Ws fun Z hZ => ?_)))
  simp only [go_sem, seval, hc1d]
  refine hZ _ (pp (Wk_cond_dec rfl (fun hc3 => ?_) (fun hc3 => ?_)))
  ·have hc3d := decide_eq_true hc3
   rw [if_pos hc3] at h
   refine Wk_seq ?_
   cases h
  have hc3d := decide_eq_false hc3
  rw [if_neg hc3] at h
  refine Wk_skip (pp (Wk_seq (Ws fun Z hZ => ?_)))
  simp only [go_sem, seval, hc3d]
  refine hZ _ (pp (Wk_cond_f rfl ?_))
  first | rw [if_pos (rfl : true = true)] at h | rw [if_neg Bool.false_ne_true] at h | skip
  refine Wk_skip (pp (Wk_seq ?_))
  cases h
 have hc1d := decide_eq_true hc1
 rw [if_pos hc1] at h
 refine Wk_seq ?_
 obtain ⟨r1, hr2, h⟩ := Option.bind_eq_some_iff.1 h
 refine Wk_regionZ fun Z hZ => ?_
 simp only [go_sem, seval, hc1d, hr2, len_slices_insertionSortCmpFunc_2int_cascade_Dependencies_1_cut N a0 a1 a2 r1 hr2]
 refine hZ _ (pp (Wk_ret (pp ?_)))
 obtain rfl := Option.some.inj h
 refine FinL_mk (.inl rfl) (Weak.refl _) (by simp only [go_sem, seval]; rfl) (by simp only [go_sem, seval]; rfl) (by (try simp only [go_sem, seval]); first | exact Le.refl _ | exact LeI.h) ?_
 exact el_cons (by simp only [go_sem, seval, len_slices_insertionSortCmpFunc_2int_cascade_Dependencies_1_cut N a0 a1 a2 r1 hr2] <;> rfl) (by simp only [go_sem, seval] <;> rfl) (el_nil)
def fl_slices_pdqsortCmpFunc_2int_cascade_Dependencies_1_cut (N : Nat) : FnL := ⟨1, fun cs rest => match cs, rest with
 | [v0], [c1, c2, c3, .clo 20 []] => (lst1 2 Arr2_i64.dec v0).bind fun q0 => ((decI .i64) c1).bind fun q1 => ((decI .i64) c2).bind fun q2 => ((decI .i64) c3).bind fun q3 => (slices_pdqsortCmpFunc_2int_cascade_Dependencies_1_cut N q0 q1 q2 q3).map fun r => (.tup [], [.sl true none 2 none (r.map Arr2_i64.row)])
 | _, _ => none, false⟩
attribute [go_sem] fl_slices_pdqsortCmpFunc_2int_cascade_Dependencies_1_cut
theorem fl_slices_pdqsortCmpFunc_2int_cascade_Dependencies_1_cut_ok (N : Nat) : FLOk Try.prog 38 (fl_slices_pdqsortCmpFunc_2int_cascade_Dependencies_1_cut N) := by
 refine flOk (Nat.succ_ne_zero _) rfl ?_
 intro cs rest r ls hlen h
 simp only [fl_slices_pdqsortCmpFunc_2int_cascade_Dependencies_1_cut] at h
 split at h
 ·simp only [Option.bind_eq_some_iff, Option.map_eq_some_iff] at h
  obtain ⟨q0, h0, q1, h1, q2, h2, q3, h3, r', hr, he⟩ := h
  cases he
  exact ConL.told rfl rfl (lv_cons (lst1_ok Arr2_i64.row_ok Arr2_i64.dec_le h0) (lv_nil)) ((LeL.cons (decI_le h1) (LeL.cons (decI_le h2) (LeL.cons (decI_le h3) (LeL.cons (Le.clo (LeL.nil)) (LeL.nil)))))) (w_slices_pdqsortCmpFunc_2int_cascade_Dependencies_1_cut N q0 q1 q2 q3 r' hr)
 ·cases h


noncomputable def G_slices_SortFunc_2int_cascade_Dependencies_1_small (N d f : Nat) : Option FnS := glist [(11, 39, fs_math_bits_Len N)] d f
attribute [go_sem] G_slices_SortFunc_2int_cascade_Dependencies_1_small
noncomputable def L_slices_SortFunc_2int_cascade_Dependencies_1_small (N d f : Nat) : Option FnL := llist [(13, 38, fl_slices_pdqsortCmpFunc_2int_cascade_Dependencies_1_cut N)] d f
attribute [go_sem] L_slices_SortFunc_2int_cascade_Dependencies_1_small
theorem len_slices_SortFunc_2int_cascade_Dependencies_1_small (N : Nat) (a0 : (List Arr2_i64)) (r : (List Arr2_i64)) (h : slices_SortFunc_2int_cascade_Dependencies_1_small N a0 = some r) : (r).length = a0.length := by
 unfold slices_SortFunc_2int_cascade_Dependencies_1_small at h; exact (lenM_some h).2
theorem w_slices_SortFunc_2int_cascade_Dependencies_1_small (N : Nat) (a0 : (List Arr2_i64)) (r : (List Arr2_i64)) (h : slices_SortFunc_2int_cascade_Dependencies_1_small N a0 = some r) : ConL Try.prog 19 1 [.sl true none 2 none (a0.map Arr2_i64.row), .clo 20 []] (.tup []) [.sl true none 2 none (r.map Arr2_i64.row)] := by
 unfold slices_SortFunc_2int_cascade_Dependencies_1_small at h
 obtain ⟨h, hlen⟩ := lenM_some h
 refine fun_lent5 (G := (G_slices_SortFunc_2int_cascade_Dependencies_1_small N)) (L := (L_slices_SortFunc_2int_cascade_Dependencies_1_small N)) Try.func19 rfl (by decide) (by kernel_rfl) 1 (by kernel_rfl) (gc 11 (fs_math_bits_Len_ok N) gn) (lc 13 (fl_slices_pdqsortCmpFunc_2int_cascade_Dependencies_1_cut_ok N) ln) [] mix (Nat.le_of_ble_eq_true rfl) (Nat.le_of_ble_eq_true rfl) rfl (by simp [lentSh, hlen]) ?_
 simp only [Try.f19]
 refine Ws fun Z hZ => ?_
 simp only [go_sem, seval]
 refine hZ _ (pp ?_)
 obtain ⟨r1, hr1, h⟩ := Option.bind_eq_some_iff.1 h
 obtain ⟨r2, hr2, h⟩ := Option.bind_eq_some_iff.1 h
 refine Wk_regionZ fun Z hZ => ?_
 simp only [go_sem, seval, hr1, hr2, len_slices_pdqsortCmpFunc_2int_cascade_Dependencies_1_cut N a0 0 ((a0.length : Nat) : Int) r1 r2 hr2]
 refine hZ _ (pp ?_)
 obtain rfl := Option.some.inj h
 refine FinL_mk (.inr rfl) (Weak.refl _) (by simp only [go_sem, seval]; rfl) (by simp only [go_sem, seval]; rfl) (by (try simp only [go_sem, seval]); first | exact Le.refl _ | exact LeI.h) ?_
 exact el_cons (by simp only [go_sem, seval, len_slices_pdqsortCmpFunc_2int_cascade_Dependencies_1_cut N a0 0 ((a0.length : Nat) : Int) r1 r2 hr2] <;> rfl) (by simp only [go_sem, seval] <;> rfl) (el_nil)
def fl_slices_SortFunc_2int_cascade_Dependencies_1_small (N : Nat) : FnL := ⟨1, fun cs rest => match cs, rest with
 | [v0], [.clo 20 []] => (lst1 2 Arr2_i64.dec v0).bind fun q0 =>  (slices_SortFunc_2int_cascade_Dependencies_1_small N q0).map fun r => (.tup [], [.sl true none 2 none (r.map Arr2_i64.row)])
 | _, _ => none, false⟩
attribute [go_sem] fl_slices_SortFunc_2int_cascade_Dependencies_1_small
theorem fl_slices_SortFunc_2int_cascade_Dependencies_1_small_ok (N : Nat) : FLOk Try.prog 19 (fl_slices_SortFunc_2int_cascade_Dependencies_1_small N) := by
 refine flOk (Nat.succ_ne_zero _) rfl ?_
 intro cs rest r ls hlen h
 simp only [fl_slices_SortFunc_2int_cascade_Dependencies_1_small] at h
 split at h
 ·simp only [Option.bind_eq_some_iff, Option.map_eq_some_iff] at h
  obtain ⟨q0, h0, r', hr, he⟩ := h
  cases he
  exact ConL.told rfl rfl (lv_cons (lst1_ok Arr2_i64.row_ok Arr2_i64.dec_le h0) (lv_nil)) ((LeL.cons (Le.clo (LeL.nil)) (LeL.nil))) (w_slices_SortFunc_2int_cascade_Dependencies_1_small N q0 r' hr)
 ·cases h


def ren_slices_SortFunc_2int_cascade_Dependencies_1 : Go.Shelf.Ren := ⟨fun | 6 => 19 | 14 => 38 | 15 => 39 | 20 => 51 | 21 => 52 | 22 => 53 | 23 => 54 | 24 => 55 | 25 => 56 | 26 => 57 | 27 => 58 | 28 => 59 | 29 => 60 | 46 => 75 | 47 => 76 | 48 => 77 | 49 => 78 | 50 => 79 | 57 => 85 | n => n, fun | 0 => 0 | 3 => 3 | 4 => 4 | 5 => 5 | 9 => 9 | 22 => 24 | 24 => 29 | 25 => 52 | 39 => 69 | 45 => 77 | 46 => 78 | 50 => 37 | 53 => 84 | 55 => 86 | 66 => 96 | 70 => 100 | 76 => 106 | 77 => 107 | n => n, fun n => n⟩
theorem lay_slices_SortFunc_2int_cascade_Dependencies_1 : Go.Proofs.SlLaysF0.n6 Try.prog ren_slices_SortFunc_2int_cascade_Dependencies_1 where
 mixed := by kernel_rfl
 f6 := ⟨Try.f19.name, by decide, Try.func19.trans (congrArg some (by kernel_rfl))⟩
 f14 := ⟨Try.f38.name, by decide, Try.func38.trans (congrArg some (by kernel_rfl))⟩
 f15 := Try.func39.trans (congrArg some (by kernel_rfl))
 f20 := ⟨Try.f51.name, by decide, Try.func51.trans (congrArg some (by kernel_rfl))⟩
 f21 := ⟨Try.f52.name, by decide, Try.func52.trans (congrArg some (by kernel_rfl))⟩
 f22 := ⟨Try.f53.name, by decide, Try.func53.trans (congrArg some (by kernel_rfl))⟩
 f23 := ⟨Try.f54.name, by decide, Try.func54.trans (congrArg some (by kernel_rfl))⟩
 f24 := ⟨Try.f55.name, by decide, Try.func55.trans (congrArg some (by kernel_rfl))⟩
 f25 := ⟨Try.f56.name, by decide, Try.func56.trans (congrArg some (by kernel_rfl))⟩
 f26 := ⟨Try.f57.name, by decide, Try.func57.trans (congrArg some (by kernel_rfl))⟩
 f27 := ⟨Try.f58.name, by decide, Try.func58.trans (congrArg some (by kernel_rfl))⟩
 f28 := Try.func59.trans (congrArg some (by kernel_rfl))
 f29 := Try.func60.trans (congrArg some (by kernel_rfl))
 f46 := ⟨Try.f75.name, by decide, Try.func75.trans (congrArg some (by kernel_rfl))⟩
 f47 := Try.func76.trans (congrArg some (by kernel_rfl))
 f48 := Try.func77.trans (congrArg some (by kernel_rfl))
 f49 := ⟨Try.f78.name, by decide, Try.func78.trans (congrArg some (by kernel_rfl))⟩
 f50 := ⟨Try.f79.name, by decide, Try.func79.trans (congrArg some (by kernel_rfl))⟩
 f57 := ⟨Try.f85.name, by decide, Try.func85.trans (congrArg some (by kernel_rfl))⟩
 t0 := Try.underlying0
 a0 := Try.isAgg0
 z0 := Try.sizeOf0
 v0 := Try.zeroValue0
 t3 := Try.underlying3
 a3 := Try.isAgg3
 z3 := Try.sizeOf3
 v3 := Try.zeroValue3
 t4 := Try.underlying4
 a4 := Try.isAgg4
 z4 := Try.sizeOf4
 v4 := Try.zeroValue4
 t5 := Try.underlying5
 a5 := Try.isAgg5
 z5 := Try.sizeOf5
 v5 := Try.zeroValue5
 t9 := Try.underlying9
 a9 := Try.isAgg9
 z9 := Try.sizeOf9
 v9 := Try.zeroValue9
 t22 := Try.underlying24
 a22 := Try.isAgg24
 z22 := Try.sizeOf24
 v22 := Try.zeroValue24
 t25 := Try.underlying52
 a25 := Try.isAgg52
 z25 := Try.sizeOf52
 v25 := Try.zeroValue52
 t39 := Try.underlying69
 a39 := Try.isAgg69
 z39 := Try.sizeOf69
 v39 := Try.zeroValue69
 t45 := Try.underlying77
 a45 := Try.isAgg77
 z45 := Try.sizeOf77
 v45 := Try.zeroValue77
 t46 := Try.underlying78
 a46 := Try.isAgg78
 z46 := Try.sizeOf78
 v46 := Try.zeroValue78
 t50 := Try.underlying37
 a50 := Try.isAgg37
 z50 := Try.sizeOf37
 v50 := Try.zeroValue37
 t53 := Try.underlying84
 a53 := Try.isAgg84
 z53 := Try.sizeOf84
 v53 := Try.zeroValue84
 t55 := Try.underlying86
 a55 := Try.isAgg86
 z55 := Try.sizeOf86
 v55 := Try.zeroValue86
 t66 := Try.underlying96
 a66 := Try.isAgg96
 z66 := Try.sizeOf96
 v66 := Try.zeroValue96
 t70 := Try.underlying100
 a70 := Try.isAgg100
 z70 := Try.sizeOf100
 v70 := Try.zeroValue100
 t76 := Try.underlying106
 a76 := Try.isAgg106
 z76 := Try.sizeOf106
 v76 := Try.zeroValue106
 t77 := Try.underlying107
 a77 := Try.isAgg107
 z77 := Try.sizeOf107
 v77 := Try.zeroValue107
def enc_slices_SortFunc_2int_cascade_Dependencies_1 (x : Arr2_i64) : List Value := [.int .i64 x.e0, .int .i64 x.e1]
theorem len_slices_SortFunc_2int_cascade_Dependencies_1 (N : Nat) (a0 : (List Arr2_i64)) (r : (List Arr2_i64)) (h : slices_SortFunc_2int_cascade_Dependencies_1 N a0 = some r) : (r).length = a0.length := by
 unfold slices_SortFunc_2int_cascade_Dependencies_1 at h
 split at h
 ·exact len_slices_SortFunc_2int_cascade_Dependencies_1_small N a0 r h
 ·exact sortM_len h
theorem w_slices_SortFunc_2int_cascade_Dependencies_1 (N : Nat) (a0 : (List Arr2_i64)) (r : (List Arr2_i64)) (h : slices_SortFunc_2int_cascade_Dependencies_1 N a0 = some r) : ConL Try.prog 19 1 [.sl true none 2 none (a0.map Arr2_i64.row), .clo 20 []] (.tup []) [.sl true none 2 none (r.map Arr2_i64.row)] := by
 unfold slices_SortFunc_2int_cascade_Dependencies_1 at h
 split at h
 ·exact w_slices_SortFunc_2int_cascade_Dependencies_1_small N a0 r h
 ·rename_i hne
  obtain ⟨h1, h2, h3, rfl⟩ := sortM_some h
  refine sortK_con lay_slices_SortFunc_2int_cascade_Dependencies_1 2 (by decide) Try.isAgg29 Try.sizeOf29 enc_slices_SortFunc_2int_cascade_Dependencies_1 (fun _ => rfl) (fun x v hv => by simp only [enc_slices_SortFunc_2int_cascade_Dependencies_1, List.mem_cons, List.not_mem_nil, or_false] at hv; rcases hv with rfl | rfl <;> rfl) Arr2_i64.row (fun _ => rfl) rfl (enters_of Try.func19 (by kernel_rfl) rfl) (enters_of Try.func20 (by kernel_rfl) rfl) h2 (fun x y => ⟨true, ?_⟩) (fun e => hne (by rw [e]; rfl)) h3
  obtain ⟨z, hz⟩ := h1 x y
  have hw := w_cascade_Dependencies_1 N x y  z hz
  show Con Try.prog 20 [] true _ (.val (.int .i64 ((cascade_Dependencies_1 N x y ).getD 0)))
  rw [hz]
  exact hw
noncomputable def fl_slices_SortFunc_2int_cascade_Dependencies_1 (N : Nat) : FnL := ⟨1, fun cs rest => match cs, rest with
 | [v0], [.clo 20 []] => (lst1 2 Arr2_i64.dec v0).bind fun q0 =>  (slices_SortFunc_2int_cascade_Dependencies_1 N q0).map fun r => (.tup [], [.sl true none 2 none (r.map Arr2_i64.row)])
 | _, _ => none, false⟩
attribute [go_sem] fl_slices_SortFunc_2int_cascade_Dependencies_1
theorem fl_slices_SortFunc_2int_cascade_Dependencies_1_ok (N : Nat) : FLOk Try.prog 19 (fl_slices_SortFunc_2int_cascade_Dependencies_1 N) := by
 refine flOk (Nat.succ_ne_zero _) rfl ?_
 intro cs rest r ls hlen h
 simp only [fl_slices_SortFunc_2int_cascade_Dependencies_1] at h
 split at h
 ·simp only [Option.bind_eq_some_iff, Option.map_eq_some_iff] at h
  obtain ⟨q0, h0, r', hr, he⟩ := h
  cases he
  exact ConL.told rfl rfl (lv_cons (lst1_ok Arr2_i64.row_ok Arr2_i64.dec_le h0) (lv_nil)) ((LeL.cons (Le.clo (LeL.nil)) (LeL.nil))) (w_slices_SortFunc_2int_cascade_Dependencies_1 N q0 r' hr)
 ·cases h


noncomputable def G_cascade_Dependencies (N d f : Nat) : Option FnS := glist [(21, 23, fso_slices_Compact_2int N)] d f
attribute [go_sem] G_cascade_Dependencies
noncomputable def L_cascade_Dependencies (N d f : Nat) : Option FnL := llist [(7, 18, fl_cascade_run N), (16, 19, fl_slices_SortFunc_2int_cascade_Dependencies_1 N)] d f
attribute [go_sem] L_cascade_Dependencies
theorem w_cascade_Dependencies (N : Nat) (a0 : (List TxnEvent)) (r : (List Arr2_i64)) (h : cascade_Dependencies N a0 = some r) : Con Try.prog 9 [] true [.sl false none 3 none (a0.map TxnEvent.row)] (.sl true none 2 none (r.map Arr2_i64.row)) := by
 refine fun_ok5 (G := (G_cascade_Dependencies N)) (L := (L_cascade_Dependencies N)) Try.func9 rfl (by decide) (by kernel_rfl) (gc 21 (fso_slices_Compact_2int_ok N) gn) (lc 7 (fl_cascade_run_ok N) (lc 16 (fl_slices_SortFunc_2int_cascade_Dependencies_1_ok N) ln)) [] mix (Nat.le_of_ble_eq_true rfl) ?_
 simp only [Try.f9]
 unfold cascade_Dependencies at h
 refine Ws fun Z hZ => ?_
 simp only [go_sem, seval]
 refine hZ _ (pp (Wk_seq ?_))
 obtain ⟨r1, hr1, h⟩ := Option.bind_eq_some_iff.1 h
 refine Wk_regionZ fun Z hZ => ?_
 simp only [go_sem, seval, hr1]
 refine hZ _ (pp (Wk_seq (Ws fun Z hZ => ?_)))
 simp only [go_sem, seval]
 refine hZ _ (pp (Wk_cond_dec rfl (fun hc2 => ?_) (fun hc2 => ?_)))
 ·have hc2d := decide_eq_true hc2
  rw [if_pos hc2] at h
  refine Ws fun Z hZ => ?_
  simp only [go_sem, seval, hc2d]
  refine hZ _ (pp (Wk_ret (pp ?_)))
  obtain rfl := Option.some.inj h
  simp only [go_sem, seval]
  exact ⟨_, rfl, RokI.h, PureI.h⟩
 have hc2d := decide_eq_false hc2
 rw [if_neg hc2] at h
 refine Wk_skip (pp (Wk_seq ?_))
 obtain ⟨r2, hr3, h⟩ := Option.bind_eq_some_iff.1 h
 refine Wk_regionZ fun Z hZ => ?_
 simp only [go_sem, seval, hc2d, hr3, len_slices_SortFunc_2int_cascade_Dependencies_1 N r1.1.deps r2 hr3]
 refine hZ _ (pp (Wk_seq ?_))
 obtain ⟨r3, hr4, h⟩ := Option.bind_eq_some_iff.1 h
 refine Wk_regionZ fun Z hZ => ?_
 simp only [go_sem, seval, len_slices_SortFunc_2int_cascade_Dependencies_1 N r1.1.deps r2 hr3, List.take_of_length_le (Nat.le_of_eq (len_slices_SortFunc_2int_cascade_Dependencies_1 N r1.1.deps r2 hr3)), hr4]
 refine hZ _ (pp (Wk_ret (pp ?_)))
 obtain rfl := Option.some.inj h
 simp only [go_sem, seval]
 exact ⟨_, rfl, RokI.h, PureI.h⟩
noncomputable def fs_cascade_Dependencies (N : Nat) : FnS := ⟨[], true, fn1 (decL 3 TxnEvent.dec) fun q0 => (cascade_Dependencies N q0).map fun r => .sl false none 2 none (r.map Arr2_i64.row), false⟩
attribute [go_sem] fs_cascade_Dependencies
theorem fs_cascade_Dependencies_ok (N : Nat) : FSOk Try.prog 9 (fs_cascade_Dependencies N) := ok1 (fun q0 r h => by
 obtain ⟨r', hr, rfl⟩ := Option.map_eq_some_iff.1 h
 exact (w_cascade_Dependencies N q0 r' hr).res (by (try simp only [go_sem]); exact RokI.h)) (fun h => decL_le TxnEvent.dec_le h)

noncomputable def fso_cascade_Dependencies (N : Nat) : FnS := ⟨[], true, fn1 (decL 3 TxnEvent.dec) fun q0 => (cascade_Dependencies N q0).map fun r => .sl true none 2 none (r.map Arr2_i64.row), false⟩
attribute [go_sem] fso_cascade_Dependencies
theorem fso_cascade_Dependencies_ok (N : Nat) : FSOk Try.prog 9 (fso_cascade_Dependencies N) := ok1 (fun q0 r h => by
 obtain ⟨r', hr, rfl⟩ := Option.map_eq_some_iff.1 h
 exact w_cascade_Dependencies N q0 r' hr) (fun h => decL_le TxnEvent.dec_le h)


noncomputable def G_cascade_state_status (N d f : Nat) : Option FnS := glist [(11, 27, fs_slices_Contains_int N), (18, 27, fs_slices_Contains_int N), (22, 43, fs_cascade_state_ready N), (29, 27, fs_slices_Contains_int N)] d f
attribute [go_sem] G_cascade_state_status
theorem w_cascade_state_status (N : Nat) (a0 : cascade_state) (a1 : Int) (r : Int) (h : cascade_state_status N a0 a1 = some r) : Con Try.prog 28 [] true [.iref 6 [[.sl false none 2 none (a0.stacks.map cascade_stack.row), .sl false none 2 none (a0.prepared.map Arr2_i64.row), .sl false none 1 none (a0.known.map (rowI .i64)), .sl false none 1 none (a0.committed.map (rowI .i64)), .sl false none 1 none (a0.aborted.map (rowI .i64)), .sl false none 2 none (a0.deps.map Arr2_i64.row)]] 0 0, .val (.int .i64 a1)] (.val (.int .i64 r)) := by
 refine fun_ok4 (G := (G_cascade_state_status N)) Try.func28 rfl (by decide) (by kernel_rfl) (gc 11 (fs_slices_Contains_int_ok N) (gc 18 (fs_slices_Contains_int_ok N) (gc 22 (fs_cascade_state_ready_ok N) (gc 29 (fs_slices_Contains_int_ok N) gn)))) [] mix (Nat.le_of_ble_eq_true rfl) ?_
 simp only [Try.f28]
 unfold cascade_state_status at h
 refine Ws fun Z hZ => ?_
 simp only [go_sem, seval]
 refine hZ _ (pp (Wk_seq (Wk_block (Wk_seq ?_))))
 obtain ⟨r1, hr1, h⟩ := Option.bind_eq_some_iff.1 h
 refine Wk_regionZ fun Z hZ => ?_
 simp only [go_sem, seval, hr1]
 refine hZ _ (pp (Wk_cond_bool rfl (fun hc2 => ?_) (fun hc2 => ?_)))
 ·rw [if_pos hc2] at h
  refine Ws fun Z hZ => ?_
  simp only [go_sem, seval, hc2]
  refine hZ _ (pp (Wk_ret (pp ?_)))
  cases h
  simp only [go_sem, seval]
  exact ⟨_, rfl, RokI.h, PureI.h⟩
 rw [if_neg (ne_true_of_eq_false hc2)] at h
 refine Wk_seq ?_
 obtain ⟨r2, hr3, h⟩ := Option.bind_eq_some_iff.1 h
 refine Wk_regionZ fun Z hZ => ?_
 simp only [go_sem, seval, hc2, hr3]
 refine hZ _ (pp (Wk_cond_bool rfl (fun hc4 => ?_) (fun hc4 => ?_)))
 ·rw [if_pos hc4] at h
  refine Ws fun Z hZ => ?_
  simp only [go_sem, seval, hc4]
  refine hZ _ (pp (Wk_ret (pp ?_)))
  cases h
  simp only [go_sem, seval]
  exact ⟨_, rfl, RokI.h, PureI.h⟩
 rw [if_neg (ne_true_of_eq_false hc4)] at h
 refine Wk_seq ?_
 obtain ⟨r3, hr5, h⟩ := Option.bind_eq_some_iff.1 h
 refine Wk_regionZ fun Z hZ => ?_
 simp only [go_sem, seval, hc4, hr5]
 refine hZ _ (pp (Wk_cond_bool rfl (fun hc6 => ?_) (fun hc6 => ?_)))
 ·rw [if_pos hc6] at h
  refine Ws fun Z hZ => ?_
  simp only [go_sem, seval, hc6]
  refine hZ _ (pp (Wk_ret (pp ?_)))
  cases h
  simp only [go_sem, seval]
  exact ⟨_, rfl, RokI.h, PureI.h⟩
 rw [if_neg (ne_true_of_eq_false hc6)] at h
 refine Wk_seq ?_
 obtain ⟨r4, hr7, h⟩ := Option.bind_eq_some_iff.1 h
 refine Wk_regionZ fun Z hZ => ?_
 simp only [go_sem, seval, hc6, hr7]
 refine hZ _ (pp (Wk_cond_bool rfl (fun hc8 => ?_) (fun hc8 => ?_)))
 ·rw [if_pos hc8] at h
  refine Ws fun Z hZ => ?_
  simp only [go_sem, seval, hc8]
  refine hZ _ (pp (Wk_ret (pp ?_)))
  cases h
  simp only [go_sem, seval]
  exact ⟨_, rfl, RokI.h, PureI.h⟩
 rw [if_neg (ne_true_of_eq_false hc8)] at h
 refine Wk_skip (pp (Ws fun Z hZ => ?_))
 simp only [go_sem, seval, hc8]
 refine hZ _ (pp (Wk_ret (pp ?_)))
 cases h
 simp only [go_sem, seval]
 exact ⟨_, rfl, RokI.h, PureI.h⟩
def fs_cascade_state_status (N : Nat) : FnS := ⟨[], true, fn2 (decPt 6 cascade_state.dec) (decI .i64) fun q0 q1 => (cascade_state_status N q0 q1).map fun r => .val (.int .i64 r), false⟩
attribute [go_sem] fs_cascade_state_status
theorem fs_cascade_state_status_ok (N : Nat) : FSOk Try.prog 28 (fs_cascade_state_status N) := ok2 (fun q0 q1 r h => by
 obtain ⟨r', hr, rfl⟩ := Option.map_eq_some_iff.1 h
 exact w_cascade_state_status N q0 q1 r' hr) (fun h => decPt_le cascade_state.dec_le h) (decI_le)


noncomputable def G_cascade_Status (N d f : Nat) : Option FnS := glist [(16, 28, fs_cascade_state_status N)] d f
attribute [go_sem] G_cascade_Status
noncomputable def L_cascade_Status (N d f : Nat) : Option FnL := llist [(9, 18, fl_cascade_run N)] d f
attribute [go_sem] L_cascade_Status
theorem w_cascade_Status (N : Nat) (a0 : (List TxnEvent)) (a1 : Int) (r : Int) (h : cascade_Status N a0 a1 = some r) : Con Try.prog 12 [] true [.sl false none 3 none (a0.map TxnEvent.row), .val (.int .i64 a1)] (.val (.int .i64 r)) := by
 refine fun_ok5 (G := (G_cascade_Status N)) (L := (L_cascade_Status N)) Try.func12 rfl (by decide) (by kernel_rfl) (gc 16 (fs_cascade_state_status_ok N) gn) (lc 9 (fl_cascade_run_ok N) ln) [] mix (Nat.le_of_ble_eq_true rfl) ?_
 simp only [Try.f12]
 unfold cascade_Status at h
 refine Ws fun Z hZ => ?_
 simp only [go_sem, seval]
 refine hZ _ (pp (Wk_seq ?_))
 obtain ⟨r1, hr1, h⟩ := Option.bind_eq_some_iff.1 h
 refine Wk_regionZ fun Z hZ => ?_
 simp only [go_sem, seval, hr1]
 refine hZ _ (pp (Wk_seq (Ws fun Z hZ => ?_)))
 simp only [go_sem, seval]
 refine hZ _ (pp (Wk_cond_dec rfl (fun hc2 => ?_) (fun hc2 => ?_)))
 ·have hc2d := decide_eq_true hc2
  rw [if_pos hc2] at h
  refine Ws fun Z hZ => ?_
  simp only [go_sem, seval, hc2d]
  refine hZ _ (pp (Wk_ret (pp ?_)))
  obtain rfl := Option.some.inj h
  simp only [go_sem, seval]
  exact ⟨_, rfl, RokI.h, PureI.h⟩
 have hc2d := decide_eq_false hc2
 rw [if_neg hc2] at h
 refine Wk_skip (pp (Wk_seq ?_))
 obtain ⟨r2, hr3, h⟩ := Option.bind_eq_some_iff.1 h
 refine Wk_regionZ fun Z hZ => ?_
 simp only [go_sem, seval, hc2d, hr3]
 refine hZ _ (pp (Wk_ret (pp ?_)))
 obtain rfl := Option.some.inj h
 simp only [go_sem, seval]
 exact ⟨_, rfl, RokI.h, PureI.h⟩
def fs_cascade_Status (N : Nat) : FnS := ⟨[], true, fn2 (decL 3 TxnEvent.dec) (decI .i64) fun q0 q1 => (cascade_Status N q0 q1).map fun r => .val (.int .i64 r), false⟩
attribute [go_sem] fs_cascade_Status
theorem fs_cascade_Status_ok (N : Nat) : FSOk Try.prog 12 (fs_cascade_Status N) := ok2 (fun q0 q1 r h => by
 obtain ⟨r', hr, rfl⟩ := Option.map_eq_some_iff.1 h
 exact w_cascade_Status N q0 q1 r' hr) (fun h => decL_le TxnEvent.dec_le h) (decI_le)


noncomputable def G_cascade_Stack (N d f : Nat) : Option FnS := glist [(16, 35, fs_cascade_state_on N)] d f
attribute [go_sem] G_cascade_Stack
noncomputable def L_cascade_Stack (N d f : Nat) : Option FnL := llist [(9, 18, fl_cascade_run N)] d f
attribute [go_sem] L_cascade_Stack
theorem w_cascade_Stack (N : Nat) (a0 : (List TxnEvent)) (a1 : Int) (r : (List Int)) (h : cascade_Stack N a0 a1 = some r) : Con Try.prog 17 [] false [.sl false none 3 none (a0.map TxnEvent.row), .val (.int .i64 a1)] (.sl false none 1 none (r.map (rowI .i64))) := by
 refine fun_ok5 (G := (G_cascade_Stack N)) (L := (L_cascade_Stack N)) Try.func17 rfl (by decide) (by kernel_rfl) (gc 16 (fs_cascade_state_on_ok N) gn) (lc 9 (fl_cascade_run_ok N) ln) [] mix (Nat.le_of_ble_eq_true rfl) ?_
 simp only [Try.f17]
 unfold cascade_Stack at h
 refine Ws fun Z hZ => ?_
 simp only [go_sem, seval]
 refine hZ _ (pp (Wk_seq ?_))
 obtain ⟨r1, hr1, h⟩ := Option.bind_eq_some_iff.1 h
 refine Wk_regionZ fun Z hZ => ?_
 simp only [go_sem, seval, hr1]
 refine hZ _ (pp (Wk_seq (Ws fun Z hZ => ?_)))
 simp only [go_sem, seval]
 refine hZ _ (pp (Wk_cond_dec rfl (fun hc2 => ?_) (fun hc2 => ?_)))
 ·have hc2d := decide_eq_true hc2
  rw [if_pos hc2] at h
  refine Ws fun Z hZ => ?_
  simp only [go_sem, seval, hc2d]
  refine hZ _ (pp (Wk_ret (pp ?_)))
  obtain rfl := Option.some.inj h
  simp only [go_sem, seval]
  exact ⟨_, rfl, RokI.h⟩
 have hc2d := decide_eq_false hc2
 rw [if_neg hc2] at h
 refine Wk_skip (pp (Wk_seq ?_))
 obtain ⟨r2, hr3, h⟩ := Option.bind_eq_some_iff.1 h
 refine Wk_regionZ fun Z hZ => ?_
 simp only [go_sem, seval, hc2d, hr3]
 refine hZ _ (pp (Wk_ret (pp ?_)))
 obtain rfl := Option.some.inj h
 simp only [go_sem, seval]
 exact ⟨_, rfl, RokI.h⟩
def fs_cascade_Stack (N : Nat) : FnS := ⟨[], false, fn2 (decL 3 TxnEvent.dec) (decI .i64) fun q0 q1 => (cascade_Stack N q0 q1).map fun r => .sl false none 1 none (r.map (rowI .i64)), false⟩
attribute [go_sem] fs_cascade_Stack
theorem fs_cascade_Stack_ok (N : Nat) : FSOk Try.prog 17 (fs_cascade_Stack N) := ok2 (fun q0 q1 r h => by
 obtain ⟨r', hr, rfl⟩ := Option.map_eq_some_iff.1 h
 exact w_cascade_Stack N q0 q1 r' hr) (fun h => decL_le TxnEvent.dec_le h) (decI_le)


noncomputable def G_slices_IndexFunc_int_cascade_state_lowest (N d f : Nat) : Option FnS := glist [(16, 33, fs_cascade_state_lowest N)] d f
attribute [go_sem] G_slices_IndexFunc_int_cascade_state_lowest
theorem w_slices_IndexFunc_int_cascade_state_lowest (N : Nat) (a0 : (List Int)) (k1_0_0 : (List cascade_stack)) (k1_0_1 : (List Arr2_i64)) (k1_0_2 : (List Int)) (k1_0_3 : (List Int)) (k1_0_4 : (List Int)) (k1_0_5 : (List Arr2_i64)) (r : Int) (h : slices_IndexFunc_int_cascade_state_lowest N a0 k1_0_0 k1_0_1 k1_0_2 k1_0_3 k1_0_4 k1_0_5 = some r) : Con Try.prog 32 [] true [.sl false none 1 none (a0.map (rowI .i64)), .clo 1000000033 [.iref 6 [[.sl false none 2 none (k1_0_0.map cascade_stack.row), .sl false none 2 none (k1_0_1.map Arr2_i64.row), .sl false none 1 none (k1_0_2.map (rowI .i64)), .sl false none 1 none (k1_0_3.map (rowI .i64)), .sl false none 1 none (k1_0_4.map (rowI .i64)), .sl false none 2 none (k1_0_5.map Arr2_i64.row)]] 0 0]] (.val (.int .i64 r)) := by
 refine fun_ok4 (G := (G_slices_IndexFunc_int_cascade_state_lowest N)) Try.func32 rfl (by decide) (by kernel_rfl) (gc 16 (fs_cascade_state_lowest_ok N) gn) [] mix (Nat.le_of_ble_eq_true rfl) ?_
 simp only [Try.f32]
 unfold slices_IndexFunc_int_cascade_state_lowest at h
 refine Ws fun Z hZ => ?_
 simp only [go_sem, seval]
 refine hZ _ (pp (Wk_seq (Ws fun Z hZ => ?_)))
 simp only [go_sem, seval]
 refine hZ _ (pp (Wk_block (Wk_real fun hreal2 => ?_)))
 have hl1 := hreal2.lenT 0 (by decide) (by simp only [go_sem, seval]; rfl)
 first | rw [List.length_map] at hl1 | rw [mxR_len] at hl1 | rw [← List.map_append, List.length_map] at hl1
 refine Wk_range (fun (v2 : Nat) (b : Unit) => ⟨tab 19 (updT (updT (updT (updT deadT 0 (.sl false none 1 none (a0.map (rowI .i64)))) 1 (.clo 1000000033 [.iref 6 [[.sl false none 2 none (k1_0_0.map cascade_stack.row), .sl false none 2 none (k1_0_1.map Arr2_i64.row), .sl false none 1 none (k1_0_2.map (rowI .i64)), .sl false none 1 none (k1_0_3.map (rowI .i64)), .sl false none 1 none (k1_0_4.map (rowI .i64)), .sl false none 2 none (k1_0_5.map Arr2_i64.row)]] 0 0])) 7 (.val (.int .i64 ((a0.length : Nat) : Int)))) 8 (.val (.int .i64 ((v2 : Nat) : Int)))), RZ⟩) () h ?_ ?_
 ·refine wr ?_ ?_ <;> repeat' first | rfl | constructor
 rintro v2 ⟨⟩ hi3 h -
 rcases (drop_cases a0 v2 hi3).symm with ⟨hi3', _, hd6⟩ | ⟨x5, hi3', hx4, hd6⟩
 ·rw [hd6] at h
  simp only [slices_IndexFunc_int_cascade_state_lowest_L1] at h
  refine Ws fun Z hZ => ?_
  simp only [go_sem, seval, hi3']
  refine hZ _ (pp (Wk_seq ?_))
  try simp only [Int.ofNat_lt, hi3', if_true, if_false] at h
  refine Wk_cond_f rfl (Wk_exit (pp (Ws fun Z hZ => ?_)))
  simp only [go_sem, seval]
  refine hZ _ (pp (Wk_ret (pp ?_)))
  cases h
  simp only [go_sem, seval]
  exact ⟨_, rfl, RokI.h, PureI.h⟩
 rw [hd6] at h
 simp only [slices_IndexFunc_int_cascade_state_lowest_L1] at h
 have hw5 := wrap_succ hi3' hl1
 refine Ws fun Z hZ => ?_
 simp only [go_sem, seval, hi3']
 refine hZ _ (pp (Wk_seq ?_))
 try simp only [Int.ofNat_lt, hi3', if_true, if_false] at h
 refine Wk_cond_t rfl (Wk_skip (pp (Wk_seq (Wk_block (Ws fun Z hZ => ?_)))))
 simp only [go_sem, seval]
 refine hZ _ (pp (Wk_seq ?_))
 try rw [gx_nat hx4] at h
 obtain ⟨r1, hr7, h⟩ := Option.bind_eq_some_iff.1 h
 refine Wk_regionZ fun Z hZ => ?_
 simp only [go_sem, seval, hx4, hi3', hr7]
 refine hZ _ (pp (Wk_cond_bool rfl (fun hc8 => ?_) (fun hc8 => ?_)))
 ·rw [if_pos hc8] at h
  refine Ws fun Z hZ => ?_
  simp only [go_sem, seval, hc8]
  refine hZ _ (pp (Wk_ret (pp ?_)))
  cases h
  simp only [go_sem, seval]
  exact ⟨_, rfl, RokI.h, PureI.h⟩
 rw [if_neg (ne_true_of_eq_false hc8)] at h
 refine Wk_skip (pp (Wk_regionZ fun Z hZ => ?_))
 simp only [go_sem, seval, hw5, hc8]
 refine hZ _ (pp ?_)
 first | refine ⟨(), ?_, h⟩ | refine ⟨hi3', (), ?_, h⟩
 refine wr ?_ ?_ <;> repeat' first | rfl | constructor
def fs_slices_IndexFunc_int_cascade_state_lowest (N : Nat) : FnS := { own := [], pure := true, fn := fun cs => match cs with
 | [c0, .clo 1000000033 [.iref 6 [[k1_0_0, k1_0_1, k1_0_2, k1_0_3, k1_0_4, k1_0_5]] 0 0]] => ((decL 1 (dec1 (decI .i64))) c0).bind fun qc0 => ((decL 2 cascade_stack.dec) k1_0_0).bind fun qk1_0_0 => ((decL 2 Arr2_i64.dec) k1_0_1).bind fun qk1_0_1 => ((decL 1 (dec1 (decI .i64))) k1_0_2).bind fun qk1_0_2 => ((decL 1 (dec1 (decI .i64))) k1_0_3).bind fun qk1_0_3 => ((decL 1 (dec1 (decI .i64))) k1_0_4).bind fun qk1_0_4 => ((decL 2 Arr2_i64.dec) k1_0_5).bind fun qk1_0_5 => (slices_IndexFunc_int_cascade_state_lowest N qc0 qk1_0_0 qk1_0_1 qk1_0_2 qk1_0_3 qk1_0_4 qk1_0_5).map fun r => .val (.int .i64 r)
 | _ => none }
attribute [go_sem] fs_slices_IndexFunc_int_cascade_state_lowest
theorem fs_slices_IndexFunc_int_cascade_state_lowest_ok (N : Nat) : FSOk Try.prog 32 (fs_slices_IndexFunc_int_cascade_state_lowest N) := by
 refine ⟨fun cs r h => ?_, fun h => by cases h⟩
 simp only [fs_slices_IndexFunc_int_cascade_state_lowest] at h
 split at h
 ·simp only [Option.bind_eq_some_iff, Option.map_eq_some_iff] at h
  obtain ⟨q0, h0, q1, h1, q2, h2, q3, h3, q4, h4, q5, h5, q6, h6, r', hr, rfl⟩ := h
  exact ((w_slices_IndexFunc_int_cascade_state_lowest N q0 q1 q2 q3 q4 q5 q6 r' hr).args (LeL.cons (decL_le (decI1_le .i64) h0) (LeL.cons (Le.clo (LeL.cons (Le.iref1 (LeL.cons (decL_le cascade_stack.dec_le h1) (LeL.cons (decL_le Arr2_i64.dec_le h2) (LeL.cons (decL_le (decI1_le .i64) h3) (LeL.cons (decL_le (decI1_le .i64) h4) (LeL.cons (decL_le (decI1_le .i64) h5) (LeL.cons (decL_le Arr2_i64.dec_le h6) (LeL.nil)))))))) (LeL.nil))) (LeL.nil))))
 ·cases h


noncomputable def E_slices_Delete_int : Env := { T := tiOf Try.prog, G := fun d f => none }
theorem E_slices_Delete_int_T : E_slices_Delete_int.T = tiOf Try.prog := rfl
theorem E_slices_Delete_int_F (d : Nat) : E_slices_Delete_int.F d = none := rfl
theorem E_slices_Delete_int_ok : GOk Try.prog { T := tiOf Try.prog, G := E_slices_Delete_int.G } := by
 refine ⟨?_, fun _ _ _ h => by cases h⟩
 intro d f fs hfs
 cases hfs
theorem fo_slices_Delete_int : FunOk Try.prog 34 Try.f34 Try.f34.body.get! := ⟨Try.func34, rfl, by decide, by kernel_rfl⟩
set_option maxHeartbeats 4000000 in
theorem w1_slices_Delete_int {α : Type} (row : α → List C) (ok : RowOk row) (l : List α) (i j : Nat) (r : List α) (hr : r = l.take i ++ l.drop j) (hij : i ≤ j) (hj : j ≤ l.length) :
  Con Try.prog 34 [true, false, false] false [.sl true none 1 none (l.map row), .val (.int .i64 i), .val (.int .i64 j)] (.sl true none 1 none (r.map row)) := by
 refine fun_own (E := E_slices_Delete_int) (tiOf_ok Try.prog _) E_slices_Delete_int_ok mix fo_slices_Delete_int (Nat.le_of_ble_eq_true rfl) ?_
 intro _
 rw [entry_tab (by simp)]
 rw [show entryF [true, false, false] [C.sl true none 1 none (l.map row), C.val (.int .i64 i), C.val (.int .i64 j)] = (updT (updT (updT deadT 0 (.pal 0 [] 0 l.length none)) 1 (.val (.int .i64 i))) 2 (.val (.int .i64 j))) from by funext t; match t with | 0 => simp [entryF, entryTmp, viewD, updT] | 1 => rfl | 2 => rfl | t + 3 => rfl]
 rw [show R0 [true, false, false] [C.sl true none 1 none (l.map row), C.val (.int .i64 i), C.val (.int .i64 j)] = upd RZ 0 (C.sl true none 1 none (l.map row)) from by funext t; match t with | 0 => rfl | 1 => rfl | 2 => rfl | t + 3 => rfl]
 apply W_start
 simp only [Try.f34, Option.get!]
 have hi1 : (i : Int) ≤ (j : Int) := by omega
 have hj1 : (j : Int) ≤ (l.length : Int) := by omega
 have hj0 : i ≤ l.length := by omega
 simp only [go_sem, seval, E_slices_Delete_int_T, E_slices_Delete_int_F, hi1, hj1, hij, hj, hj0, Nat.le_refl, RowOk.frzRows ok, RowOk.all ok, RowOk.allPlain ok, RowOk.allD ok, rewritten, RX_clear, altX, roomS, roomC, reslice2X, clearX, mem_none_le, mem_some_le, Option.map_some, Nat.zero_le, Nat.sub_zero, deepV, List.isEmpty_nil, decide_not, List.length_replicate]
 refine W_cond_dec rfl (fun hc => ?_) (fun hc => ?_)
 ·have e : i = j := by omega
  subst e
  simp only [go_sem, seval, E_slices_Delete_int_T, E_slices_Delete_int_F, hi1, hj1, hij, hj, hj0, Nat.le_refl, RowOk.frzRows ok, RowOk.all ok, RowOk.allPlain ok, RowOk.allD ok, rewritten, RX_clear, altX, roomS, roomC, reslice2X, clearX, mem_none_le, mem_some_le, Option.map_some, Nat.zero_le, Nat.sub_zero, deepV, List.isEmpty_nil, decide_not, List.length_replicate, FinO_ret, FinO_normal]
  refine fin_own ok ?_
  rw [hr]
  simp [List.take_of_length_le]
 ·have hc1 : decide ((i : Int) = (j : Int)) = false := decide_eq_false hc
  have hlt : i < j := by omega
  have hlt2 : i < l.length := by omega
  have hm3 : (l.drop j).take (l.length - j) = l.drop j := List.take_of_length_le (by simp)
  have hd : (l.drop j).length = l.length - j := by simp
  have hle : i + (l.length - j) ≤ l.length := by omega
  have hnle : ¬ l.length ≤ i + (l.length - j) := by omega
  obtain ⟨A, hA⟩ : ∃ A, setRows (List.map row l) i (List.map row (List.drop j l)) = A := ⟨_, rfl⟩
  have hAp : plainL' A := by rw [← hA]; exact plainL'_set (plainL'_map ok _) (plainL'_map ok _)
  have hAl : A.length = l.length := by rw [← hA]; simp [setRows]; omega
  obtain ⟨B, hB⟩ : ∃ B, setRows A (i + (l.length - j)) (List.replicate (l.length - (i + (l.length - j))) [C.val (Value.int .i64 0)]) = B := ⟨_, rfl⟩
  have hBp : plainL' B := by rw [← hB]; exact plainL'_set hAp (plainL'_vals _ [Value.int .i64 0] (by simp [Value.oneCell']))
  have hBe : B.take (i + (l.length - j)) = r.map row := by
   have := del_rows (L := l.map row) (List.replicate (l.length - (i + (l.length - j))) [C.val (Value.int .i64 0)]) hij (by simpa using hj)
   rw [List.length_map, ← List.map_drop, hA, hB] at this
   rw [this, hr]; simp
  simp only [go_sem, seval, E_slices_Delete_int_T, E_slices_Delete_int_F, hi1, hj1, hij, hj, hj0, Nat.le_refl, RowOk.frzRows ok, RowOk.all ok, RowOk.allPlain ok, RowOk.allD ok, rewritten, RX_clear, altX, roomS, roomC, reslice2X, clearX, mem_none_le, mem_some_le, Option.map_some, Nat.zero_le, Nat.sub_zero, deepV, List.isEmpty_nil, decide_not, List.length_replicate, hc1, hlt, hlt2, hm3, hd, hle, hnle, hA, hAl, hAp.1, hAp.2]
  repeat' ((with_reducible refine and_bar ?_ ?_); kernel_rfl)
  simp only [go_sem, seval, E_slices_Delete_int_T, E_slices_Delete_int_F, hi1, hj1, hij, hj, hj0, Nat.le_refl, RowOk.frzRows ok, RowOk.all ok, RowOk.allPlain ok, RowOk.allD ok, rewritten, RX_clear, altX, roomS, roomC, reslice2X, clearX, mem_none_le, mem_some_le, Option.map_some, Nat.zero_le, Nat.sub_zero, deepV, List.isEmpty_nil, decide_not, List.length_replicate, hc1, hlt, hlt2, hm3, hd, hle, hnle, hA, hAl, hAp.1, hAp.2, hB, hBp.1, hBp.2, FinO_ret, FinO_normal]
  repeat' ((with_reducible refine and_bar ?_ ?_); kernel_rfl)
  try simp only [go_sem, seval, E_slices_Delete_int_T, E_slices_Delete_int_F, hi1, hj1, hij, hj, hj0, Nat.le_refl, RowOk.frzRows ok, RowOk.all ok, RowOk.allPlain ok, RowOk.allD ok, rewritten, RX_clear, altX, roomS, roomC, reslice2X, clearX, mem_none_le, mem_some_le, Option.map_some, Nat.zero_le, Nat.sub_zero, deepV, List.isEmpty_nil, decide_not, List.length_replicate, FinO_ret, FinO_normal, hBp.1, hBp.2]
  refine fin_own ok ?_
  rw [← hBe]
theorem w_slices_Delete_int (N : Nat) (a0 : List Int) (a1 : Int) (a2 : Int) (r : List Int) (h : slices_Delete_int N a0 a1 a2 = some r) :
  Con Try.prog 34 [true, false, false] false [.sl true none 1 none (a0.map (rowI .i64)), .val (.int .i64 a1), .val (.int .i64 a2)] (.sl true none 1 none (r.map (rowI .i64))) := by
 unfold slices_Delete_int at h
 obtain ⟨n, m, rfl, rfl, h1, h2, h3⟩ := delM_some h
 exact w1_slices_Delete_int (rowI .i64) (rowI_ok .i64) a0 n m r (Option.some.inj h3).symm h1 h2
def fso_slices_Delete_int (N : Nat) : FnS := { own := [true, false, false], pure := false, fn := fun cs => match cs with
 | [c0, c1, c2] => (decO 1 (dec1 (decI .i64)) c0).bind fun q0 => (decI .i64 c1).bind fun q1 => (decI .i64 c2).bind fun q2 => (slices_Delete_int N q0 q1 q2).map fun r => .sl true none 1 none (r.map (rowI .i64))
 | _ => none }
theorem fso_slices_Delete_int_own (N : Nat) : (fso_slices_Delete_int N).own = [true, false, false] := rfl
theorem fso_slices_Delete_int_pure (N : Nat) : (fso_slices_Delete_int N).pure = false := rfl
theorem fso_slices_Delete_int_peek (N : Nat) : (fso_slices_Delete_int N).peek = false := rfl
attribute [go_sem] fso_slices_Delete_int fso_slices_Delete_int_own fso_slices_Delete_int_pure fso_slices_Delete_int_peek
theorem fso_slices_Delete_int_ok (N : Nat) : FSOk Try.prog 34 (fso_slices_Delete_int N) := by
 refine ⟨fun cs r h => ?_, fun h => by cases h⟩
 simp only [fso_slices_Delete_int] at h
 split at h
 ·simp only [Option.bind_eq_some_iff, Option.map_eq_some_iff] at h
  obtain ⟨q0, h0, q1, h1, q2, h2, r', hr, rfl⟩ := h
  exact (w_slices_Delete_int N q0 q1 q2 r' hr).argsO rfl (argsO_own (decO_ok (rowI_ok .i64) (decI1_le .i64) h0) (argsO_le (decI_le h1) (argsO_le (decI_le h2) argsO_nil)))
 ·cases h


noncomputable def G_cascade_Outcome (N d f : Nat) : Option FnS := glist [(31, 28, fs_cascade_state_status N), (43, 11, fso_cascade_Closure N), (46, 29, fso_slices_DeleteFunc_int_cascade_state_ended N), (61, 27, fs_slices_Contains_int N), (66, 28, fs_cascade_state_status N), (82, 32, fs_slices_IndexFunc_int_cascade_state_lowest N), (103, 34, fso_slices_Delete_int N)] d f
attribute [go_sem] G_cascade_Outcome
noncomputable def L_cascade_Outcome (N d f : Nat) : Option FnL := llist [(15, 18, fl_cascade_run N), (49, 31, fl_cascade_state_remove N), (75, 25, fl_slices_Sort_int N), (98, 31, fl_cascade_state_remove N)] d f
attribute [go_sem] L_cascade_Outcome
theorem w_cascade_Outcome (N : Nat) (a0 : (List TxnEvent)) (r : (List Int) × (List Int)) (h : cascade_Outcome N a0 = some r) : Con Try.prog 13 [] true [.sl false none 3 none (a0.map TxnEvent.row)] (.tup [.sl true none 1 none (r.1.map (rowI .i64)), .sl true none 1 none (r.2.map (rowI .i64))]) := by
 refine fun_ok5 (G := (G_cascade_Outcome N)) (L := (L_cascade_Outcome N)) Try.func13 rfl (by decide) (by kernel_rfl) (gc 31 (fs_cascade_state_status_ok N) (gc 43 (fso_cascade_Closure_ok N) (gc 46 (fso_slices_DeleteFunc_int_cascade_state_ended_ok N) (gc 61 (fs_slices_Contains_int_ok N) (gc 66 (fs_cascade_state_status_ok N) (gc 82 (fs_slices_IndexFunc_int_cascade_state_lowest_ok N) (gc 103 (fso_slices_Delete_int_ok N) gn))))))) (lc 15 (fl_cascade_run_ok N) (lc 49 (fl_cascade_state_remove_ok N) (lc 75 (fl_slices_Sort_int_ok N) (lc 98 (fl_cascade_state_remove_ok N) ln)))) [] mix (Nat.le_of_ble_eq_true rfl) ?_
 simp only [Try.f13]
 unfold cascade_Outcome at h
 refine Ws fun Z hZ => ?_
 simp (config := { maxSteps := 4000000 }) only [go_sem, seval]
 refine hZ _ (pp (Wk_seq ?_))
 obtain ⟨r1, hr1, h⟩ := Option.bind_eq_some_iff.1 h
 refine Wk_regionZ fun Z hZ => ?_
 simp (config := { maxSteps := 4000000 }) only [go_sem, seval, hr1]
 refine hZ _ (pp (Wk_seq (Ws fun Z hZ => ?_)))
 simp (config := { maxSteps := 4000000 }) only [go_sem, seval]
 refine hZ _ (pp (Wk_cond_dec rfl (fun hc2 => ?_) (fun hc2 => ?_)))
 ·have hc2d := decide_eq_true hc2
  first | rw [if_pos hc2] at h | rw [if_pos hc2d] at h | simp only [hc2d, Bool.not_true, Bool.not_false, Bool.false_eq_true, if_true, if_false] at h
  refine Ws fun Z hZ => ?_
  simp (config := { maxSteps := 4000000 }) only [go_sem, seval, hc2d]
  refine hZ _ (pp (Wk_ret (pp ?_)))
  obtain rfl := Option.some.inj h
  simp (config := { maxSteps := 4000000 }) only [go_sem, seval]
  exact ⟨_, rfl, (by repeat' (first | exact ROk.refl _ | exact ROk.nil _ | ((refine ROk.of _ ?_ ?_); (focus ((repeat' (first | exact Le.refl _ | exact LeL.nil | exact Le.nils | exact LeLL.refl _ | refine LeLL.mapAppend ?_ ?_ | refine LeLL.cons ?_ ?_ | refine Le.sl ?_ | refine Le.tup ?_ | refine Le.agg ?_ | refine LeL.cons ?_ ?_)); done)); (focus ((repeat' (first | exact NoOwn.val _ | exact NoOwn.sl _ _ _ _ | refine NoOwn.tup ?_ | refine NoOwn.agg ?_ | exact noOwn_nil | refine noOwn_cons ?_ ?_)); done))) | ((refine ROk.own ?_ ?_); (focus ((repeat' (first | exact Le.refl _ | exact LeL.nil | exact Le.nils | exact LeLL.refl _ | refine LeLL.mapAppend ?_ ?_ | refine LeLL.cons ?_ ?_ | refine Le.sl ?_ | refine Le.tup ?_ | refine Le.agg ?_ | refine LeL.cons ?_ ?_)); done)); (focus ((first | exact RowOk.noOwn (rowI_ok .i64) _ | exact RowOk.noOwn Arr2_i64.row_ok _ | exact RowOk.noOwn TxnEvent.row_ok _ | exact RowOk.noOwn cascade_stack.row_ok _); done))) | refine ROk.agg rfl ?_ | refine ROk.tup rfl ?_ | exact rok_nil | refine rok_cons ?_ ?_)), (by (repeat' (first | exact PureC.val _ | refine PureC.tup ?_ | refine PureC.agg ?_ | exact pure_nil | refine pure_cons ?_ ?_ | refine PureC.sl ?_ | exact pure_rows (pure_rowI .i64) _ | exact pure_rows Arr2_i64.row_pure _ | exact pure_rows TxnEvent.row_pure _ |  exact pure_rows_nil | refine pure_rows_append ?_ ?_ | refine pure_rows_cons ?_ ?_)))⟩
 have hc2d := decide_eq_false hc2
 first | rw [if_neg hc2] at h | rw [if_neg (ne_true_of_eq_false hc2d)] at h | simp only [hc2d, Bool.not_true, Bool.not_false, Bool.false_eq_true, if_true, if_false] at h
 refine Wk_skip (pp (Ws fun Z hZ => ?_))
 simp (config := { maxSteps := 4000000 }) only [go_sem, seval, hc2d]
 refine hZ _ (pp (Wk_seq (Ws fun Z hZ => ?_)))
 simp (config := { maxSteps := 4000000 }) only [go_sem, seval]
 refine hZ _ (pp (Wk_block (Wk_real fun hreal4 => ?_)))
 have hl3 := hreal4.cell 15 2 (by simp only [go_sem, seval]; rfl) rfl
 first | rw [List.length_map] at hl3 | rw [mxR_len] at hl3 | rw [← List.map_append, List.length_map] at hl3
 refine Wk_range (fun (v5 : Nat) (b : List Int) => ⟨tab 106 (updT (updT (updT (updT (updT (updT deadT 2 (.val (.slice none 0 0))) 4 (.pref 15 [] 0 0)) 6 (.pal 36 [] 0 b.length none)) 23 (.pal 15 [(0, 2)] 0 r1.1.known.length none)) 24 (.val (.int .i64 ((r1.1.known.length : Nat) : Int)))) 25 (.val (.int .i64 ((v5 : Nat) : Int)))), (upd (upd RZ 15 (.sl true none 6 (some 1) [[.sl true none 2 none (r1.1.stacks.map cascade_stack.rowD), .sl true none 2 none (r1.1.prepared.map Arr2_i64.row), .sl true none 1 none (r1.1.known.map (rowI .i64)), .sl true none 1 none (r1.1.committed.map (rowI .i64)), .sl true none 1 none (r1.1.aborted.map (rowI .i64)), .sl true none 2 none (r1.1.deps.map Arr2_i64.row)]])) 36 (.sl true none 1 none (b.map (rowI .i64))))⟩) [] h ?_ ?_
 ·refine Weak.trans (weak_adopt 6 36 1 (by simp only [go_sem, seval]) (by simp only [go_sem, seval])) ?_
  refine wr ?_ ?_ <;> repeat' first | rfl | constructor | simp only [go_sem, seval, Bool.or_self, List.length_set, Int.natCast_zero, Int.cast_ofNat_Int, hr1, hc2d]
 rintro v5 l4 hi5 h -
 rcases (drop_cases r1.1.known v5 hi5) with ⟨x8, hi5', hx6, hd8⟩ | ⟨hi5', _, hd8⟩
 ·rw [hd8] at h
  simp only [cascade_Outcome_L1] at h
  have hw7 := wrap_succ hi5' hl3
  refine Ws fun Z hZ => ?_
  simp (config := { maxSteps := 4000000 }) only [go_sem, seval, hi5']
  refine hZ _ (pp (Wk_seq ?_))
  try simp only [Int.ofNat_lt, hi5', if_true, if_false] at h
  refine Wk_cond_t rfl (Wk_skip (pp (Wk_seq (Wk_block (Wk_seq ?_)))))
  try rw [gx_nat hx6] at h
  refine Wk_regionZ fun Z hZ => ?_
  simp (config := { maxSteps := 4000000 }) only [go_sem, seval, hx6, hi5']
  refine hZ _ (pp (Wk_seq ?_))
  obtain ⟨r12, hr9, h⟩ := Option.bind_eq_some_iff.1 h
  refine Wk_regionZ fun Z hZ => ?_
  simp (config := { maxSteps := 4000000 }) only [go_sem, seval, hr9]
  refine hZ _ (pp (sw (Wk_cond_dec rfl) (fun hc10 => ?_) (fun hc10 => ?_)))
  ·have hc10d := decide_eq_false hc10
   first | rw [if_neg hc10] at h | rw [if_neg (ne_true_of_eq_false hc10d)] at h | simp only [hc10d, Bool.not_true, Bool.not_false, Bool.false_eq_true, if_true, if_false] at h
   refine Wk_skip (pp (Wk_regionZ fun Z hZ => ?_))
   simp (config := { maxSteps := 4000000 }) only [go_sem, seval, hw7, hc10d]
   refine hZ _ (pp ?_)
   first | refine ⟨l4, ?_, h⟩ | refine ⟨hi5', l4, ?_, h⟩
   refine wr ?_ ?_ <;> repeat' first | rfl | constructor | simp only [go_sem, seval, Bool.or_self, List.length_set, Int.natCast_zero, Int.cast_ofNat_Int, hr1, hc2d, hx6, hi5', hw7, hr9, hc10d]
  have hc10d := decide_eq_true hc10
  first | rw [if_pos hc10] at h | rw [if_pos hc10d] at h | simp only [hc10d, Bool.not_true, Bool.not_false, Bool.false_eq_true, if_true, if_false] at h
  obtain ⟨ha11, h⟩ := apx_some h
  simp only [List.length_cons, List.length_nil, Nat.zero_add, Nat.reduceAdd] at ha11
  refine Wk_regionZ fun Z hZ => ?_
  simp (config := { maxSteps := 4000000 }) only [go_sem, seval, hc10d, ha11]
  refine hZ _ (pp (Wk_regionZ fun Z hZ => ?_))
  simp (config := { maxSteps := 4000000 }) only [go_sem, seval, hw7]
  refine hZ _ (pp ?_)
  first | refine ⟨(l4 ++ [x8]), ?_, h⟩ | refine ⟨hi5', (l4 ++ [x8]), ?_, h⟩
  refine wr ?_ ?_ <;> repeat' first | rfl | constructor | simp only [go_sem, seval]
 rw [hd8] at h
 simp only [cascade_Outcome_L1] at h
 refine Ws fun Z hZ => ?_
 simp (config := { maxSteps := 4000000 }) only [go_sem, seval, hi5']
 refine hZ _ (pp (Wk_seq ?_))
 try simp only [Int.ofNat_lt, hi5', if_true, if_false] at h
 refine Wk_cond_f rfl (Wk_exit (pp ?_))
 unfold cascade_Outcome_J3 at h
 refine Wk_seq ?_
 obtain ⟨r13, hr12, h⟩ := Option.bind_eq_some_iff.1 h
 obtain ⟨r14, hr13, h⟩ := Option.bind_eq_some_iff.1 h
 refine Wk_regionZ fun Z hZ => ?_
 simp (config := { maxSteps := 4000000 }) only [go_sem, seval, hr12, hr13]
 refine hZ _ (pp (Wk_seq ?_))
 obtain ⟨r15, hr14, h⟩ := Option.bind_eq_some_iff.1 h
 refine Wk_regionZ fun Z hZ => ?_
 simp (config := { maxSteps := 4000000 }) only [go_sem, seval, hr14]
 refine hZ _ (pp (Ws fun Z hZ => ?_))
 simp (config := { maxSteps := 4000000 }) only [go_sem, seval]
 refine hZ _ (pp (Wk_seq (Ws fun Z hZ => ?_)))
 simp (config := { maxSteps := 4000000 }) only [go_sem, seval]
 refine hZ _ (pp (Wk_block (Wk_real fun hreal16 => ?_)))
 have hl15 := hreal16.cell 15 2 (by simp only [go_sem, seval]; rfl) rfl
 first | rw [List.length_map] at hl15 | rw [mxR_len] at hl15 | rw [← List.map_append, List.length_map] at hl15
 refine Wk_range (fun (v20 : Nat) (b : List Int) => ⟨tab 106 (updT (updT (updT (updT (updT (updT (updT deadT 2 (.val (.slice none 0 0))) 3 (.pal 46 [] 0 r14.length none)) 4 (.pref 15 [] 0 0)) 9 (.pal 72 [] 0 b.length none)) 53 (.pal 15 [(0, 2)] 0 r15.known.length none)) 54 (.val (.int .i64 ((r15.known.length : Nat) : Int)))) 55 (.val (.int .i64 ((v20 : Nat) : Int)))), (upd (upd (upd RZ 15 (.sl true none 6 (some 1) [[.sl true none 2 none (r15.stacks.map cascade_stack.rowD), .sl true none 2 none (r15.prepared.map Arr2_i64.row), .sl true none 1 none (r15.known.map (rowI .i64)), .sl true none 1 none (r15.committed.map (rowI .i64)), .sl true none 1 none (r15.aborted.map (rowI .i64)), .sl true none 2 none (r15.deps.map Arr2_i64.row)]])) 46 (.sl true none 1 none (r14.map (rowI .i64)))) 72 (.sl true none 1 none (b.map (rowI .i64))))⟩) [] h ?_ ?_
 ·refine Weak.trans (weak_adopt 9 72 1 (by simp only [go_sem, seval]) (by simp only [go_sem, seval])) ?_
  refine wr ?_ ?_ <;> repeat' first | rfl | constructor | simp only [go_sem, seval, Bool.or_self, List.length_set, Int.natCast_zero, Int.cast_ofNat_Int, hr1, hc2d, hi5', hr12, hr13, hr14]
 rintro v20 l19 hi17 h -
 rcases (drop_cases r15.known v20 hi17) with ⟨x23, hi17', hx18, hd20⟩ | ⟨hi17', _, hd20⟩
 ·rw [hd20] at h
  simp only [cascade_Outcome_L2] at h
  have hw19 := wrap_succ hi17' hl15
  refine Ws fun Z hZ => ?_
  simp (config := { maxSteps := 4000000 }) only [go_sem, seval, hi17']
  refine hZ _ (pp (Wk_seq ?_))
  try simp only [Int.ofNat_lt, hi5', hi17', if_true, if_false] at h
  refine Wk_cond_t rfl (Wk_skip (pp (Wk_seq (Wk_block (Wk_seq ?_)))))
  try rw [gx_nat hx18] at h
  refine Wk_regionZ fun Z hZ => ?_
  simp (config := { maxSteps := 4000000 }) only [go_sem, seval, hx18, hi17']
  refine hZ _ (pp ?_)
  apply Wk_join1 (fun (c31 : Bool) => ⟨tab 106 (updT (updT (updT (updT (updT (updT (updT (updT (updT deadT 2 (.val (.slice none 0 0))) 3 (.pal 46 [] 0 r14.length none)) 4 (.pref 15 [] 0 0)) 9 (.pal 72 [] 0 l19.length none)) 11 (.val (.int .i64 x23))) 53 (.pal 15 [(0, 2)] 0 r15.known.length none)) 54 (.val (.int .i64 ((r15.known.length : Nat) : Int)))) 55 (.val (.int .i64 ((v20 : Nat) : Int)))) 68 (.val (.bool c31))), (upd (upd (upd RZ 15 (.sl true none 6 (some 1) [[.sl true none 2 none (r15.stacks.map cascade_stack.rowD), .sl true none 2 none (r15.prepared.map Arr2_i64.row), .sl true none 1 none (r15.known.map (rowI .i64)), .sl true none 1 none (r15.committed.map (rowI .i64)), .sl true none 1 none (r15.aborted.map (rowI .i64)), .sl true none 2 none (r15.deps.map Arr2_i64.row)]])) 46 (.sl true none 1 none (r14.map (rowI .i64)))) 72 (.sl true none 1 none (l19.map (rowI .i64))))⟩)
  ·intro hJ21
   obtain ⟨r32, hr22, h⟩ := Option.bind_eq_some_iff.1 h
   refine Wk_regionZ fun Z hZ => ?_
   simp (config := { maxSteps := 4000000 }) only [go_sem, seval, hr22]
   refine RX_guard_nbool rfl (fun hc23 => ?_) (fun hc23 => ?_)
   ·first | rw [if_neg (ne_true_of_eq_false hc23)] at h | simp only [hc23, Bool.or_false, Bool.or_true, Bool.false_or, Bool.true_or, Bool.and_true, Bool.true_and, Bool.and_false, Bool.false_and, Bool.not_true, Bool.not_false, Bool.false_eq_true, if_true, if_false] at h
    obtain ⟨r33, hr24, h⟩ := Option.bind_eq_some_iff.1 h
    simp (config := { maxSteps := 4000000 }) only [go_sem, seval, hc23, hr24]
    refine hZ _ (pp (hJ21 _ (decide (r33 = 2)) ?_ h))
    refine wr ?_ ?_ <;> repeat' first | rfl | constructor | simp only [go_sem, seval, Bool.or_self, List.length_set, Int.natCast_zero, Int.cast_ofNat_Int, hr1, hc2d, hi5', hr12, hr13, hr14, hx18, hi17', hw19, hr22, hc23, hr24]
   first | rw [if_pos hc23] at h | simp only [hc23, Bool.or_false, Bool.or_true, Bool.false_or, Bool.true_or, Bool.and_true, Bool.true_and, Bool.and_false, Bool.false_and, Bool.not_true, Bool.not_false, Bool.false_eq_true, if_true, if_false] at h
   simp (config := { maxSteps := 4000000 }) only [go_sem, seval, hc23]
   refine hZ _ (pp (hJ21 _ false ?_ h))
   refine wr ?_ ?_ <;> repeat' first | rfl | constructor | simp only [go_sem, seval, Bool.or_self, List.length_set, Int.natCast_zero, Int.cast_ofNat_Int, hr1, hc2d, hi5', hr12, hr13, hr14, hx18, hi17', hw19, hr22, hc23]
  intro c31 h
  unfold cascade_Outcome_J1 at h
  refine sw (Wk_cond_bool rfl) (fun hc25 => ?_) (fun hc25 => ?_)
  ·first | rw [if_neg (ne_true_of_eq_false hc25)] at h | simp only [hc25, Bool.or_false, Bool.or_true, Bool.false_or, Bool.true_or, Bool.and_true, Bool.true_and, Bool.and_false, Bool.false_and, Bool.not_true, Bool.not_false, Bool.false_eq_true, if_true, if_false] at h
   refine Wk_skip (pp (Wk_regionZ fun Z hZ => ?_))
   simp (config := { maxSteps := 4000000 }) only [go_sem, seval, hw19, hc25]
   refine hZ _ (pp ?_)
   first | refine ⟨l19, ?_, h⟩ | refine ⟨hi17', l19, ?_, h⟩
   refine wr ?_ ?_ <;> repeat' first | rfl | constructor | simp only [go_sem, seval, Bool.or_self, List.length_set, Int.natCast_zero, Int.cast_ofNat_Int, hr1, hc2d, hi5', hr12, hr13, hr14, hx18, hi17', hw19, hc25]
  first | rw [if_pos hc25] at h | simp only [hc25, Bool.or_false, Bool.or_true, Bool.false_or, Bool.true_or, Bool.and_true, Bool.true_and, Bool.and_false, Bool.false_and, Bool.not_true, Bool.not_false, Bool.false_eq_true, if_true, if_false] at h
  obtain ⟨ha26, h⟩ := apx_some h
  simp only [List.length_cons, List.length_nil, Nat.zero_add, Nat.reduceAdd] at ha26
  refine Wk_regionZ fun Z hZ => ?_
  simp (config := { maxSteps := 4000000 }) only [go_sem, seval, hc25, ha26]
  refine hZ _ (pp (Wk_regionZ fun Z hZ => ?_))
  simp (config := { maxSteps := 4000000 }) only [go_sem, seval, hw19]
  refine hZ _ (pp ?_)
  first | refine ⟨(l19 ++ [x23]), ?_, h⟩ | refine ⟨hi17', (l19 ++ [x23]), ?_, h⟩
  refine wr ?_ ?_ <;> repeat' first | rfl | constructor | simp only [go_sem, seval]
 rw [hd20] at h
 simp only [cascade_Outcome_L2] at h
 refine Ws fun Z hZ => ?_
 simp (config := { maxSteps := 4000000 }) only [go_sem, seval, hi17']
 refine hZ _ (pp (Wk_seq ?_))
 try simp only [Int.ofNat_lt, hi5', hi17', if_true, if_false] at h
 refine Wk_cond_f rfl (Wk_exit (pp ?_))
 unfold cascade_Outcome_J2 at h
 refine Wk_seq ?_
 obtain ⟨r34, hr27, h⟩ := Option.bind_eq_some_iff.1 h
 refine Wk_regionZ fun Z hZ => ?_
 simp (config := { maxSteps := 4000000 }) only [go_sem, seval, hr27, len_slices_Sort_int N l19 r34 hr27]
 refine hZ _ (pp (Wk_seq (Wk_block (Wk_fuel (fun (b : List cascade_stack × List Arr2_i64 × List Int × List Int × List Int × List Arr2_i64 × List Int × List Int) => ⟨tab 106 (updT (updT (updT (updT deadT 2 (.pal 91 [] 0 b.2.2.2.2.2.2.1.length none)) 3 (.pal 46 [] 0 r14.length none)) 4 (.pref 15 [] 0 0)) 9 (.pal 103 [] 0 b.2.2.2.2.2.2.2.length none)), (upd (upd (upd (upd RZ 15 (.sl true none 6 (some 1) [[.sl true none 2 none (b.1.map cascade_stack.rowD), .sl true none 2 none (b.2.1.map Arr2_i64.row), .sl true none 1 none (b.2.2.1.map (rowI .i64)), .sl true none 1 none (b.2.2.2.1.map (rowI .i64)), .sl true none 1 none (b.2.2.2.2.1.map (rowI .i64)), .sl true none 2 none (b.2.2.2.2.2.1.map Arr2_i64.row)]])) 46 (.sl true none 1 none (r14.map (rowI .i64)))) 91 (.sl true none 1 none (b.2.2.2.2.2.2.1.map (rowI .i64)))) 103 (.sl true none 1 none (b.2.2.2.2.2.2.2.map (rowI .i64))))⟩) (r15.stacks, r15.prepared, r15.known, r15.committed, r15.aborted, r15.deps, [], r34) h ?_ ?_))))
 ·refine Weak.trans (weak_adopt 2 91 1 (by simp only [go_sem, seval]) (by simp only [go_sem, seval])) (Weak.trans (weak_rename 9 72 103 (by decide) (by decide) (by simp only [go_sem, seval]) (by simp only [go_sem, seval]; rfl) (by simp only [go_sem, seval]; rfl) (by first | (simp; done) | simp only [go_sem, seval, len_slices_Sort_int N l19 r34 hr27])) ?_)
  refine wr ?_ ?_ <;> repeat' first | rfl | constructor | simp only [go_sem, seval, len_slices_Sort_int N l19 r34 hr27]
 rintro n ⟨l35, l36, l37, l38, l39, l40, l41, l42⟩ h -
 cases n with
 | zero => simp [cascade_Outcome_L3] at h
 | succ n =>
 simp only [cascade_Outcome_L3] at h
 refine Wk_seq (Ws fun Z hZ => ?_)
 simp (config := { maxSteps := 4000000 }) only [go_sem, seval]
 refine hZ _ (pp (sw (Wk_cond_dec rfl) (fun hc28 => ?_) (fun hc28 => ?_)))
 ·have hc28d := decide_eq_false hc28
  first | rw [if_neg hc28] at h | rw [if_neg (ne_true_of_eq_false hc28d)] at h | simp only [hc28d, Bool.not_true, Bool.not_false, Bool.false_eq_true, if_true, if_false] at h
  refine Wk_exit (pp (Ws fun Z hZ => ?_))
  simp (config := { maxSteps := 4000000 }) only [go_sem, seval, hc28d]
  refine hZ _ (pp (Wk_ret (pp ?_)))
  obtain rfl := Option.some.inj h
  simp (config := { maxSteps := 4000000 }) only [go_sem, seval]
  exact ⟨_, rfl, (by repeat' (first | exact ROk.refl _ | exact ROk.nil _ | ((refine ROk.of _ ?_ ?_); (focus ((repeat' (first | exact Le.refl _ | exact LeL.nil | exact Le.nils | exact LeLL.refl _ | refine LeLL.mapAppend ?_ ?_ | refine LeLL.cons ?_ ?_ | refine Le.sl ?_ | refine Le.tup ?_ | refine Le.agg ?_ | refine LeL.cons ?_ ?_)); done)); (focus ((repeat' (first | exact NoOwn.val _ | exact NoOwn.sl _ _ _ _ | refine NoOwn.tup ?_ | refine NoOwn.agg ?_ | exact noOwn_nil | refine noOwn_cons ?_ ?_)); done))) | ((refine ROk.own ?_ ?_); (focus ((repeat' (first | exact Le.refl _ | exact LeL.nil | exact Le.nils | exact LeLL.refl _ | refine LeLL.mapAppend ?_ ?_ | refine LeLL.cons ?_ ?_ | refine Le.sl ?_ | refine Le.tup ?_ | refine Le.agg ?_ | refine LeL.cons ?_ ?_)); done)); (focus ((first | exact RowOk.noOwn (rowI_ok .i64) _ | exact RowOk.noOwn Arr2_i64.row_ok _ | exact RowOk.noOwn TxnEvent.row_ok _ | exact RowOk.noOwn cascade_stack.row_ok _); done))) | refine ROk.agg rfl ?_ | refine ROk.tup rfl ?_ | exact rok_nil | refine rok_cons ?_ ?_)), (by (repeat' (first | exact PureC.val _ | refine PureC.tup ?_ | refine PureC.agg ?_ | exact pure_nil | refine pure_cons ?_ ?_ | refine PureC.sl ?_ | exact pure_rows (pure_rowI .i64) _ | exact pure_rows Arr2_i64.row_pure _ | exact pure_rows TxnEvent.row_pure _ |  exact pure_rows_nil | refine pure_rows_append ?_ ?_ | refine pure_rows_cons ?_ ?_)))⟩
 have hc28d := decide_eq_true hc28
 first | rw [if_pos hc28] at h | rw [if_pos hc28d] at h | simp only [hc28d, Bool.not_true, Bool.not_false, Bool.false_eq_true, if_true, if_false] at h
 refine Wk_skip (pp (Wk_block (Wk_seq ?_)))
 obtain ⟨r35, hr29, h⟩ := Option.bind_eq_some_iff.1 h
 refine Wk_regionZ fun Z hZ => ?_
 simp (config := { maxSteps := 4000000 }) only [go_sem, seval, hc28d, hr29]
 refine hZ _ (pp (Wk_seq (Ws fun Z hZ => ?_)))
 simp (config := { maxSteps := 4000000 }) only [go_sem, seval]
 refine hZ _ (pp (Wk_cond_dec rfl (fun hc30 => ?_) (fun hc30 => ?_)))
 ·have hc30d := decide_eq_true hc30
  first | rw [if_pos hc30] at h | rw [if_pos hc30d] at h | simp only [hc30d, Bool.not_true, Bool.not_false, Bool.false_eq_true, if_true, if_false] at h
  refine Wk_exit (pp (Ws fun Z hZ => ?_))
  simp (config := { maxSteps := 4000000 }) only [go_sem, seval, hc30d]
  refine hZ _ (pp (Wk_ret (pp ?_)))
  obtain rfl := Option.some.inj h
  simp (config := { maxSteps := 4000000 }) only [go_sem, seval]
  exact ⟨_, rfl, (by repeat' (first | exact ROk.refl _ | exact ROk.nil _ | ((refine ROk.of _ ?_ ?_); (focus ((repeat' (first | exact Le.refl _ | exact LeL.nil | exact Le.nils | exact LeLL.refl _ | refine LeLL.mapAppend ?_ ?_ | refine LeLL.cons ?_ ?_ | refine Le.sl ?_ | refine Le.tup ?_ | refine Le.agg ?_ | refine LeL.cons ?_ ?_)); done)); (focus ((repeat' (first | exact NoOwn.val _ | exact NoOwn.sl _ _ _ _ | refine NoOwn.tup ?_ | refine NoOwn.agg ?_ | exact noOwn_nil | refine noOwn_cons ?_ ?_)); done))) | ((refine ROk.own ?_ ?_); (focus ((repeat' (first | exact Le.refl _ | exact LeL.nil | exact Le.nils | exact LeLL.refl _ | refine LeLL.mapAppend ?_ ?_ | refine LeLL.cons ?_ ?_ | refine Le.sl ?_ | refine Le.tup ?_ | refine Le.agg ?_ | refine LeL.cons ?_ ?_)); done)); (focus ((first | exact RowOk.noOwn (rowI_ok .i64) _ | exact RowOk.noOwn Arr2_i64.row_ok _ | exact RowOk.noOwn TxnEvent.row_ok _ | exact RowOk.noOwn cascade_stack.row_ok _); done))) | refine ROk.agg rfl ?_ | refine ROk.tup rfl ?_ | exact rok_nil | refine rok_cons ?_ ?_)), (by (repeat' (first | exact PureC.val _ | refine PureC.tup ?_ | refine PureC.agg ?_ | exact pure_nil | refine pure_cons ?_ ?_ | refine PureC.sl ?_ | exact pure_rows (pure_rowI .i64) _ | exact pure_rows Arr2_i64.row_pure _ | exact pure_rows TxnEvent.row_pure _ |  exact pure_rows_nil | refine pure_rows_append ?_ ?_ | refine pure_rows_cons ?_ ?_)))⟩
 have hc30d := decide_eq_false hc30
 first | rw [if_neg hc30] at h | rw [if_neg (ne_true_of_eq_false hc30d)] at h | simp only [hc30d, Bool.not_true, Bool.not_false, Bool.false_eq_true, if_true, if_false] at h
 refine Wk_skip (pp (Wk_seq ?_))
 obtain ⟨x36, hb31, hx32, h⟩ := gx_some h
 obtain ⟨ha33, h⟩ := apx_some h
 simp only [List.length_cons, List.length_nil, Nat.zero_add, Nat.reduceAdd] at ha33
 refine Wk_regionZ fun Z hZ => ?_
 simp (config := { maxSteps := 4000000 }) only [go_sem, seval, hc30d, hb31, hx32, ha33]
 refine hZ _ (pp (Wk_seq ?_))
 obtain ⟨hs34, h⟩ := slx_some h
 try simp only [Int.toNat_natCast, Int.reduceToNat, Int.toNat_zero, Nat.sub_zero, List.drop_zero] at hs34 h
 obtain ⟨r37, hr35, h⟩ := Option.bind_eq_some_iff.1 h
 refine Wk_regionZ fun Z hZ => ?_
 simp (config := { maxSteps := 4000000 }) only [go_sem, seval, hb31, hs34, hr35]
 refine hZ _ (pp ?_)
 obtain ⟨r38, hr36, h⟩ := Option.bind_eq_some_iff.1 h
 refine Wk_regionZ fun Z hZ => ?_
 simp (config := { maxSteps := 4000000 }) only [go_sem, seval, hr36]
 refine hZ _ (pp (⟨_, Nat.lt_succ_self _, (r37.stacks, r37.prepared, r37.known, r37.committed, r37.aborted, r37.deps, (l41 ++ [x36]), r38), ?_, h⟩))
 refine wr ?_ ?_ <;> repeat' first | rfl | constructor | simp only [go_sem, seval, Bool.or_self]
def fs_cascade_Outcome (N : Nat) : FnS := ⟨[], true, fn1 (decL 3 TxnEvent.dec) fun q0 => (cascade_Outcome N q0).map fun r => .tup [.sl false none 1 none (r.1.map (rowI .i64)), .sl false none 1 none (r.2.map (rowI .i64))], false⟩
attribute [go_sem] fs_cascade_Outcome
theorem fs_cascade_Outcome_ok (N : Nat) : FSOk Try.prog 13 (fs_cascade_Outcome N) := ok1 (fun q0 r h => by
 obtain ⟨r', hr, rfl⟩ := Option.map_eq_some_iff.1 h
 exact (w_cascade_Outcome N q0 r' hr).res (by first | ((try simp only [go_sem]); exact RokI.h) | (repeat' (first | exact ROk.refl _ | exact ROk.nil _ | ((refine ROk.of _ ?_ ?_); (focus ((repeat' (first | exact Le.refl _ | exact LeL.nil | exact Le.nils | exact LeLL.refl _ | refine LeLL.mapAppend ?_ ?_ | refine LeLL.cons ?_ ?_ | refine Le.sl ?_ | refine Le.tup ?_ | refine Le.agg ?_ | refine LeL.cons ?_ ?_)); done)); (focus ((repeat' (first | exact NoOwn.val _ | exact NoOwn.sl _ _ _ _ | refine NoOwn.tup ?_ | refine NoOwn.agg ?_ | exact noOwn_nil | refine noOwn_cons ?_ ?_)); done))) | ((refine ROk.own ?_ ?_); (focus ((repeat' (first | exact Le.refl _ | exact LeL.nil | exact Le.nils | exact LeLL.refl _ | refine LeLL.mapAppend ?_ ?_ | refine LeLL.cons ?_ ?_ | refine Le.sl ?_ | refine Le.tup ?_ | refine Le.agg ?_ | refine LeL.cons ?_ ?_)); done)); (focus ((first | exact RowOk.noOwn (rowI_ok .i64) _ | exact RowOk.noOwn Arr2_i64.row_ok _ | exact RowOk.noOwn TxnEvent.row_ok _ | exact RowOk.noOwn cascade_stack.row_ok _); done))) | refine ROk.agg rfl ?_ | refine ROk.tup rfl ?_ | exact rok_nil | refine rok_cons ?_ ?_)))) (fun h => decL_le TxnEvent.dec_le h)

def fso_cascade_Outcome (N : Nat) : FnS := ⟨[], true, fn1 (decL 3 TxnEvent.dec) fun q0 => (cascade_Outcome N q0).map fun r => .tup [.sl true none 1 none (r.1.map (rowI .i64)), .sl true none 1 none (r.2.map (rowI .i64))], false⟩
attribute [go_sem] fso_cascade_Outcome
theorem fso_cascade_Outcome_ok (N : Nat) : FSOk Try.prog 13 (fso_cascade_Outcome N) := ok1 (fun q0 r h => by
 obtain ⟨r', hr, rfl⟩ := Option.map_eq_some_iff.1 h
 exact w_cascade_Outcome N q0 r' hr) (fun h => decL_le TxnEvent.dec_le h)


noncomputable def L_cascade_Check (N d f : Nat) : Option FnL := llist [(8, 18, fl_cascade_run N)] d f
attribute [go_sem] L_cascade_Check
theorem w_cascade_Check (N : Nat) (a0 : (List TxnEvent)) (r : Int × Bool) (h : cascade_Check N a0 = some r) : Con Try.prog 14 [] true [.sl false none 3 none (a0.map TxnEvent.row)] (.tup [.val (.int .i64 r.1), .val (.bool r.2)]) := by
 refine fun_ok5 (G := (glist [])) (L := (L_cascade_Check N)) Try.func14 rfl (by decide) (by kernel_rfl) gn (lc 8 (fl_cascade_run_ok N) ln) [] mix (Nat.le_of_ble_eq_true rfl) ?_
 simp only [Try.f14]
 unfold cascade_Check at h
 refine Ws fun Z hZ => ?_
 simp only [go_sem, seval]
 refine hZ _ (pp (Wk_seq (Wk_seq ?_)))
 obtain ⟨r1, hr1, h⟩ := Option.bind_eq_some_iff.1 h
 refine Wk_regionZ fun Z hZ => ?_
 simp only [go_sem, seval, hr1]
 refine hZ _ (pp (Ws fun Z hZ => ?_))
 simp only [go_sem, seval]
 refine hZ _ (pp (Wk_cond_dec rfl (fun hc2 => ?_) (fun hc2 => ?_)))
 ·have hc2d := decide_eq_true hc2
  rw [if_pos hc2] at h
  refine Ws fun Z hZ => ?_
  simp only [go_sem, seval, hc2d]
  refine hZ _ (pp (Wk_ret (pp ?_)))
  obtain rfl := Option.some.inj h
  simp only [go_sem, seval]
  exact ⟨_, rfl, RokI.h, PureI.h⟩
 have hc2d := decide_eq_false hc2
 rw [if_neg hc2] at h
 refine Wk_skip (pp (Ws fun Z hZ => ?_))
 simp only [go_sem, seval, hc2d]
 refine hZ _ (pp (Wk_ret (pp ?_)))
 obtain rfl := Option.some.inj h
 simp only [go_sem, seval]
 exact ⟨_, rfl, RokI.h, PureI.h⟩
def fs_cascade_Check (N : Nat) : FnS := ⟨[], true, fn1 (decL 3 TxnEvent.dec) fun q0 => (cascade_Check N q0).map fun r => .tup [.val (.int .i64 r.1), .val (.bool r.2)], false⟩
attribute [go_sem] fs_cascade_Check
theorem fs_cascade_Check_ok (N : Nat) : FSOk Try.prog 14 (fs_cascade_Check N) := ok1 (fun q0 r h => by
 obtain ⟨r', hr, rfl⟩ := Option.map_eq_some_iff.1 h
 exact w_cascade_Check N q0 r' hr) (fun h => decL_le TxnEvent.dec_le h)


noncomputable def L_cascade_Order (N d f : Nat) : Option FnL := llist [(7, 18, fl_cascade_run N)] d f
attribute [go_sem] L_cascade_Order
theorem w_cascade_Order (N : Nat) (a0 : (List TxnEvent)) (r : (List Int)) (h : cascade_Order N a0 = some r) : Con Try.prog 15 [] true [.sl false none 3 none (a0.map TxnEvent.row)] (.sl true none 1 none (r.map (rowI .i64))) := by
 refine fun_ok5 (G := (glist [])) (L := (L_cascade_Order N)) Try.func15 rfl (by decide) (by kernel_rfl) gn (lc 7 (fl_cascade_run_ok N) ln) [] mix (Nat.le_of_ble_eq_true rfl) ?_
 simp only [Try.f15]
 unfold cascade_Order at h
 refine Ws fun Z hZ => ?_
 simp only [go_sem, seval]
 refine hZ _ (pp (Wk_seq ?_))
 obtain ⟨r1, hr1, h⟩ := Option.bind_eq_some_iff.1 h
 refine Wk_regionZ fun Z hZ => ?_
 simp only [go_sem, seval, hr1]
 refine hZ _ (pp (Wk_seq (Ws fun Z hZ => ?_)))
 simp only [go_sem, seval]
 refine hZ _ (pp (Wk_cond_dec rfl (fun hc2 => ?_) (fun hc2 => ?_)))
 ·have hc2d := decide_eq_true hc2
  rw [if_pos hc2] at h
  refine Ws fun Z hZ => ?_
  simp only [go_sem, seval, hc2d]
  refine hZ _ (pp (Wk_ret (pp ?_)))
  obtain rfl := Option.some.inj h
  simp only [go_sem, seval]
  exact ⟨_, rfl, RokI.h, PureI.h⟩
 have hc2d := decide_eq_false hc2
 rw [if_neg hc2] at h
 refine Wk_skip (pp (Ws fun Z hZ => ?_))
 simp only [go_sem, seval, hc2d]
 refine hZ _ (pp (Wk_ret (pp ?_)))
 obtain rfl := Option.some.inj h
 simp only [go_sem, seval]
 exact ⟨_, rfl, RokI.h, PureI.h⟩
def fs_cascade_Order (N : Nat) : FnS := ⟨[], true, fn1 (decL 3 TxnEvent.dec) fun q0 => (cascade_Order N q0).map fun r => .sl false none 1 none (r.map (rowI .i64)), false⟩
attribute [go_sem] fs_cascade_Order
theorem fs_cascade_Order_ok (N : Nat) : FSOk Try.prog 15 (fs_cascade_Order N) := ok1 (fun q0 r h => by
 obtain ⟨r', hr, rfl⟩ := Option.map_eq_some_iff.1 h
 exact (w_cascade_Order N q0 r' hr).res (by (try simp only [go_sem]); exact RokI.h)) (fun h => decL_le TxnEvent.dec_le h)

def fso_cascade_Order (N : Nat) : FnS := ⟨[], true, fn1 (decL 3 TxnEvent.dec) fun q0 => (cascade_Order N q0).map fun r => .sl true none 1 none (r.map (rowI .i64)), false⟩
attribute [go_sem] fso_cascade_Order
theorem fso_cascade_Order_ok (N : Nat) : FSOk Try.prog 15 (fso_cascade_Order N) := ok1 (fun q0 r h => by
 obtain ⟨r', hr, rfl⟩ := Option.map_eq_some_iff.1 h
 exact w_cascade_Order N q0 r' hr) (fun h => decL_le TxnEvent.dec_le h)

end Go.Proofs.Ytekgpnhfhkhpaaa
