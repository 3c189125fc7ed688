/- Walks: each function computes its model. No condition. -/
import Derived.Test.YtjpeiibeemmdfaaB
/- Each Go function computes its model: proofs laid by a program of ours. -/
set_option maxHeartbeats 40000000
set_option synthInstance.maxHeartbeats 2000000
set_option synthInstance.maxSize 4000
set_option linter.unusedSimpArgs false
set_option linter.unusedVariables false
set_option maxRecDepth 100000
namespace Go.Proofs.Ytjpeiibeemmdfaa
open Go Go.Proofs Go.Abs
theorem w_view_identifiers (N : Nat) (a0 : (List Int)) (a1 : Int) (r : Bool) (h : view_identifiers N a0 a1 = some r) : Con Try.prog 46 [] true [.sl false none 1 none (a0.map (rowI .i64)), .val (.int .i64 a1)] (.val (.bool r)) := by
  refine fun_ok4 (G := (glist [])) Try.func46 rfl (by decide) (by kernel_rfl) gn [] mix (Nat.le_of_ble_eq_true rfl) ?_
  simp only [Try.f46]
  unfold view_identifiers at h
  refine Wk_seq (Wk_regionZ fun Z hZ => ?_)
  simp only [go_sem, seval]
  refine hZ _ (pp (Wk_seq ?_))
  apply Wk_join1 (fun (c3 : Bool) => ⟨tab 32 (updT (updT deadT 0 (.sl false none 1 none (a0.map (rowI .i64)))) 16 (.val (.bool c3))), RZ⟩)
  · intro hJ1
    refine Wk_regionZ fun Z hZ => ?_
    simp only [go_sem, seval]
    refine RX_guard_dec rfl (fun hc2 => ?_) (fun hc2 => ?_)
    · have hc2d := decide_eq_true hc2
      rw [if_pos hc2] at h
      simp only [go_sem, seval, hc2d]
      refine hZ _ (pp (hJ1 _ true ?_ h))
      refine weak_roots ?_ ?_ <;> repeat' first | exact xn | exact rn | refine xc ?_ ?_ | refine rc ?_ ?_ ?_ | rfl
    have hc2d := decide_eq_false hc2
    rw [if_neg hc2] at h
    simp only [go_sem, seval, hc2d]
    refine hZ _ (pp (hJ1 _ (decide (a1 < ((a0.length : Nat) : Int))) ?_ h))
    refine weak_roots ?_ ?_ <;> repeat' first | exact xn | exact rn | refine xc ?_ ?_ | refine rc ?_ ?_ ?_ | rfl
  intro c3 h
  unfold view_identifiers_J1 at h
  refine Wk_cond_bool rfl (fun hc3 => ?_) (fun hc3 => ?_)
  · rw [if_pos hc3] at h
    refine Wk_seq (Wk_regionZ fun Z hZ => ?_)
    simp only [go_sem, seval, hc3]
    refine hZ _ (pp (Wk_ret (pp ?_)))
    cases h
    simp only [go_sem, seval]
    exact ⟨_, rfl, RokI.h, PureI.h⟩
  rw [if_neg (ne_true_of_eq_false hc3)] at h
  refine Wk_skip (pp ?_)
  unfold view_identifiers_J4 at h
  refine Wk_seq (Wk_regionZ fun Z hZ => ?_)
  simp only [go_sem, seval, hc3]
  refine hZ _ (pp (Wk_seq (Wk_seq (Wk_regionZ fun Z hZ => ?_))))
  simp only [go_sem, seval]
  refine hZ _ (pp (Wk_block (Wk_real fun hreal5 => ?_)))
  have hl4 := hreal5.lenT 0 (by decide) (by simp only [go_sem, seval]; rfl)
  first | rw [List.length_map] at hl4 | rw [← List.map_append, List.length_map] at hl4
  refine Wk_range (fun (v6 : Nat) (b : Int) => ⟨tab 32 (updT (updT (updT (updT deadT 5 (.val (.int .i64 b))) 17 (.sl false none 1 none (a0.map (rowI .i64)))) 18 (.val (.int .i64 ((a0.length : Nat) : Int)))) 19 (.val (.int .i64 ((v6 : Nat) : Int)))), RZ⟩) 0 h ?_ ?_
  · refine weak_roots ?_ ?_ <;> repeat' first | exact xn | exact rn | refine xc ?_ ?_ | refine rc ?_ ?_ ?_ | rfl
  rintro v6 v5 hi6 h -
  rcases (drop_cases a0 v6 hi6).symm with ⟨hi6', _, hd9⟩ | ⟨x9, hi6', hx7, hd9⟩
  · rw [hd9] at h
    simp only [view_identifiers_L1] at h
    refine Wk_seq (Wk_regionZ fun Z hZ => ?_)
    simp only [go_sem, seval, hi6']
    refine hZ _ (pp (Wk_seq ?_))
    try simp only [Int.ofNat_lt, hi6', if_true, if_false] at h
    refine Wk_cond_f rfl (Wk_exit (pp (Wk_seq (Wk_regionZ fun Z hZ => ?_))))
    simp only [go_sem, seval]
    refine hZ _ (pp (Wk_ret (pp ?_)))
    cases h
    simp only [go_sem, seval]
    exact ⟨_, rfl, RokI.h, PureI.h⟩
  rw [hd9] at h
  simp only [view_identifiers_L1] at h
  have hw8 := wrap_succ hi6' hl4
  refine Wk_seq (Wk_regionZ fun Z hZ => ?_)
  simp only [go_sem, seval, hi6']
  refine hZ _ (pp (Wk_seq ?_))
  try simp only [Int.ofNat_lt, hi6', if_true, if_false] at h
  refine Wk_cond_t rfl (Wk_skip (pp (Wk_seq (Wk_block (Wk_seq ?_)))))
  try rw [gx_nat hx7] at h
  refine Wk_regionZ fun Z hZ => ?_
  simp only [go_sem, seval, hx7, hi6']
  refine hZ _ (pp (Wk_seq ?_))
  apply Wk_join1 (fun (c6 : Bool) => ⟨tab 32 (updT (updT (updT (updT (updT deadT 7 (.val (.int .i64 x9))) 17 (.sl false none 1 none (a0.map (rowI .i64)))) 18 (.val (.int .i64 ((a0.length : Nat) : Int)))) 19 (.val (.int .i64 ((v6 : Nat) : Int)))) 29 (.val (.bool c6))), RZ⟩)
  · intro hJ10
    refine Wk_regionZ fun Z hZ => ?_
    simp only [go_sem, seval]
    refine RX_guard_dec rfl (fun hc11 => ?_) (fun hc11 => ?_)
    · have hc11d := decide_eq_true hc11
      rw [if_pos hc11] at h
      simp only [go_sem, seval, hc11d]
      refine hZ _ (pp (hJ10 _ true ?_ h))
      refine weak_roots ?_ ?_ <;> repeat' first | exact xn | exact rn | refine xc ?_ ?_ | refine rc ?_ ?_ ?_ | rfl
    have hc11d := decide_eq_false hc11
    rw [if_neg hc11] at h
    simp only [go_sem, seval, hc11d]
    refine hZ _ (pp (hJ10 _ (decide (1000 < x9)) ?_ h))
    refine weak_roots ?_ ?_ <;> repeat' first | exact xn | exact rn | refine xc ?_ ?_ | refine rc ?_ ?_ ?_ | rfl
  intro c6 h
  unfold view_identifiers_J2 at h
  refine Wk_cond_bool rfl (fun hc12 => ?_) (fun hc12 => ?_)
  · rw [if_pos hc12] at h
    refine Wk_seq (Wk_regionZ fun Z hZ => ?_)
    simp only [go_sem, seval, hc12]
    refine hZ _ (pp (Wk_ret (pp ?_)))
    cases h
    simp only [go_sem, seval]
    exact ⟨_, rfl, RokI.h, PureI.h⟩
  rw [if_neg (ne_true_of_eq_false hc12)] at h
  refine Wk_skip (pp ?_)
  unfold view_identifiers_J3 at h
  refine Wk_regionZ fun Z hZ => ?_
  simp only [go_sem, seval, hc12]
  refine hZ _ (pp (Wk_regionZ fun Z hZ => ?_))
  simp only [go_sem, seval, hw8]
  refine hZ _ (pp ?_)
  first | refine ⟨x9, ?_, h⟩ | refine ⟨hi6', x9, ?_, h⟩
  refine weak_roots ?_ ?_ <;> repeat' first | exact xn | exact rn | refine xc ?_ ?_ | refine rc ?_ ?_ ?_ | rfl
def fs_view_identifiers (N : Nat) : FnS := ⟨[], true, fn2 (decL 1 (dec1 (decI .i64))) (decI .i64) fun q0 q1 => (view_identifiers N q0 q1).map fun r => .val (.bool r), false⟩
attribute [go_sem] fs_view_identifiers
theorem fs_view_identifiers_ok (N : Nat) : FSOk Try.prog 46 (fs_view_identifiers N) := ok2 (fun q0 q1 r h => by
  obtain ⟨r', hr, rfl⟩ := Option.map_eq_some_iff.1 h
  exact w_view_identifiers N q0 q1 r' hr) (fun h => decL_le (decI1_le .i64) h) (decI_le)


noncomputable def G_view_ValidMembers (N d f : Nat) : Option FnS := glist [(4, 46, fs_view_identifiers N)] d f
attribute [go_sem] G_view_ValidMembers
theorem w_view_ValidMembers (N : Nat) (a0 : (List Int)) (r : Bool) (h : view_ValidMembers N a0 = some r) : Con Try.prog 26 [] true [.sl false none 1 none (a0.map (rowI .i64))] (.val (.bool r)) := by
  refine fun_ok4 (G := (G_view_ValidMembers N)) Try.func26 rfl (by decide) (by kernel_rfl) (gc 4 (fs_view_identifiers_ok N) gn) [] mix (Nat.le_of_ble_eq_true rfl) ?_
  simp only [Try.f26]
  unfold view_ValidMembers at h
  refine Wk_seq (Wk_regionZ fun Z hZ => ?_)
  simp only [go_sem, seval]
  refine hZ _ (pp (Wk_seq ?_))
  obtain ⟨r1, hr1, h⟩ := Option.bind_eq_some_iff.1 h
  refine Wk_regionZ fun Z hZ => ?_
  simp only [go_sem, seval, hr1]
  refine hZ _ (pp (Wk_ret (pp ?_)))
  cases h
  simp only [go_sem, seval]
  exact ⟨_, rfl, RokI.h, PureI.h⟩
def fs_view_ValidMembers (N : Nat) : FnS := ⟨[], true, fn1 (decL 1 (dec1 (decI .i64))) fun q0 => (view_ValidMembers N q0).map fun r => .val (.bool r), false⟩
attribute [go_sem] fs_view_ValidMembers
theorem fs_view_ValidMembers_ok (N : Nat) : FSOk Try.prog 26 (fs_view_ValidMembers N) := ok1 (fun q0 r h => by
  obtain ⟨r', hr, rfl⟩ := Option.map_eq_some_iff.1 h
  exact w_view_ValidMembers N q0 r' hr) (fun h => decL_le (decI1_le .i64) h)


theorem w_overlay_identifier (N : Nat) (a0 : Int) (r : Bool) (h : overlay_identifier N a0 = some r) : Con Try.prog 29 [] true [.val (.int .i64 a0)] (.val (.bool r)) := by
  refine fun_ok4 (G := (glist [])) Try.func29 rfl (by decide) (by kernel_rfl) gn [] mix (Nat.le_of_ble_eq_true rfl) ?_
  simp only [Try.f29]
  unfold overlay_identifier at h
  refine Wk_seq (Wk_regionZ fun Z hZ => ?_)
  simp only [go_sem, seval]
  refine hZ _ (pp (Wk_seq (Wk_regionZ fun Z hZ => ?_)))
  simp only [go_sem, seval]
  refine RX_guard_dec rfl (fun hc1 => ?_) (fun hc1 => ?_)
  · have hc1d := decide_eq_true hc1
    rw [if_pos hc1] at h
    simp only [go_sem, seval, hc1d]
    refine hZ _ (pp (Wk_ret (pp ?_)))
    cases h
    simp only [go_sem, seval]
    exact ⟨_, rfl, RokI.h, PureI.h⟩
  have hc1d := decide_eq_false hc1
  rw [if_neg hc1] at h
  simp only [go_sem, seval, hc1d]
  refine hZ _ (pp (Wk_ret (pp ?_)))
  cases h
  simp only [go_sem, seval]
  exact ⟨_, rfl, RokI.h, PureI.h⟩
def fs_overlay_identifier (N : Nat) : FnS := ⟨[], true, fn1 (decI .i64) fun q0 => (overlay_identifier N q0).map fun r => .val (.bool r), false⟩
attribute [go_sem] fs_overlay_identifier
theorem fs_overlay_identifier_ok (N : Nat) : FSOk Try.prog 29 (fs_overlay_identifier N) := ok1 (fun q0 r h => by
  obtain ⟨r', hr, rfl⟩ := Option.map_eq_some_iff.1 h
  exact w_overlay_identifier N q0 r' hr) (decI_le)


theorem w_hashing_shifts (N : Nat)  (r : Arr3_u64) (h : hashing_shifts N  = some r) : Con Try.prog 75 [] true [] (.agg (Arr3_u64.row r)) := by
  refine fun_ok4 (G := (glist [])) Try.func75 rfl (by decide) (by kernel_rfl) gn [] mix (Nat.le_of_ble_eq_true rfl) ?_
  simp only [Try.f75]
  unfold hashing_shifts at h
  refine Wk_seq (Wk_regionZ fun Z hZ => ?_)
  simp only [go_sem, seval]
  refine hZ _ (pp (Wk_seq (Wk_regionZ fun Z hZ => ?_)))
  simp only [go_sem, seval]
  refine hZ _ (pp (Wk_ret (pp ?_)))
  cases h
  simp only [go_sem, seval]
  exact ⟨_, rfl, RokI.h, PureI.h⟩
def fs_hashing_shifts (N : Nat) : FnS := { own := [], pure := true, fn := fun cs => match cs with
  | [] =>  (hashing_shifts N ).map fun r => .agg (Arr3_u64.row r)
  | _ => none }
attribute [go_sem] fs_hashing_shifts
theorem fs_hashing_shifts_ok (N : Nat) : FSOk Try.prog 75 (fs_hashing_shifts N) := by
  refine ⟨fun cs r h => ?_, fun h => by cases h⟩
  simp only [fs_hashing_shifts] at h
  split at h
  · simp only [Option.map_eq_some_iff] at h
    obtain ⟨r', hr, rfl⟩ := h
    exact ((w_hashing_shifts N  r' hr).args (LeL.nil))
  · cases h


theorem w_hashing_factors (N : Nat)  (r : Arr2_u64) (h : hashing_factors N  = some r) : Con Try.prog 76 [] true [] (.agg (Arr2_u64.row r)) := by
  refine fun_ok4 (G := (glist [])) Try.func76 rfl (by decide) (by kernel_rfl) gn [] mix (Nat.le_of_ble_eq_true rfl) ?_
  simp only [Try.f76]
  unfold hashing_factors at h
  refine Wk_seq (Wk_regionZ fun Z hZ => ?_)
  simp only [go_sem, seval]
  refine hZ _ (pp (Wk_seq (Wk_regionZ fun Z hZ => ?_)))
  simp only [go_sem, seval]
  refine hZ _ (pp (Wk_ret (pp ?_)))
  cases h
  simp only [go_sem, seval]
  exact ⟨_, rfl, RokI.h, PureI.h⟩
def fs_hashing_factors (N : Nat) : FnS := { own := [], pure := true, fn := fun cs => match cs with
  | [] =>  (hashing_factors N ).map fun r => .agg (Arr2_u64.row r)
  | _ => none }
attribute [go_sem] fs_hashing_factors
theorem fs_hashing_factors_ok (N : Nat) : FSOk Try.prog 76 (fs_hashing_factors N) := by
  refine ⟨fun cs r h => ?_, fun h => by cases h⟩
  simp only [fs_hashing_factors] at h
  split at h
  · simp only [Option.map_eq_some_iff] at h
    obtain ⟨r', hr, rfl⟩ := h
    exact ((w_hashing_factors N  r' hr).args (LeL.nil))
  · cases h


noncomputable def G_hashing_Mix (N d f : Nat) : Option FnS := glist [(6, 75, fs_hashing_shifts N), (7, 76, fs_hashing_factors N)] d f
attribute [go_sem] G_hashing_Mix
theorem w_hashing_Mix (N : Nat) (a0 : Int) (r : Int) (h : hashing_Mix N a0 = some r) : Con Try.prog 54 [] true [.val (.int .u64 a0)] (.val (.int .u64 r)) := by
  refine fun_ok4 (G := (G_hashing_Mix N)) Try.func54 rfl (by decide) (by kernel_rfl) (gc 6 (fs_hashing_shifts_ok N) (gc 7 (fs_hashing_factors_ok N) gn)) [] mix (Nat.le_of_ble_eq_true rfl) ?_
  simp only [Try.f54]
  unfold hashing_Mix at h
  replace h := brN_some h
  refine Wk_seq (Wk_regionZ fun Z hZ => ?_)
  simp only [go_sem, seval]
  refine hZ _ (pp (Wk_seq ?_))
  obtain ⟨r1, hr1, h⟩ := Option.bind_eq_some_iff.1 h
  unfold hashing_shifts at hr1
  cases hr1
  obtain ⟨r2, hr2, h⟩ := Option.bind_eq_some_iff.1 h
  unfold hashing_factors at hr2
  cases hr2
  refine Wk_regionZ fun Z hZ => ?_
  simp only [go_sem, seval, show hashing_shifts N = some (Arr3_u64.mk 30 27 31) from rfl, show hashing_factors N = some (Arr2_u64.mk 13787848793156543929 10723151780598845931) from rfl]
  refine hZ _ (pp (Wk_seq (Wk_seq (Wk_regionZ fun Z hZ => ?_))))
  simp only [go_sem, seval]
  refine hZ _ (pp (Wk_block (Wk_rounds 3 (Wk_rs (Wk_seq (Wk_regionZ fun Z hZ => ?_))))))
  simp only [go_sem, seval]
  refine hZ _ (pp (Wk_seq (Wk_cond_t rfl ?_)))
  first | rw [if_pos (rfl : true = true)] at h | rw [if_neg Bool.false_ne_true] at h | skip
  refine Wk_skip (pp (Wk_seq (Wk_block (Wk_seq (Wk_regionZ fun Z hZ => ?_)))))
  simp only [go_sem, seval]
  refine hZ _ (pp (Wk_regionD fun Z hZ => ?_))
  simp only [go_sem, seval]
  refine hZ _ (by kernel_rfl) (pp (Wk_regionZ fun Z hZ => ?_))
  simp only [go_sem, seval, show IntKind.i64.wrap 1 = 1 from rfl]
  refine hZ _ (pp (Wk_rs (Wk_seq (Wk_regionZ fun Z hZ => ?_))))
  simp only [go_sem, seval]
  refine hZ _ (pp (Wk_seq (Wk_cond_t rfl ?_)))
  first | rw [if_pos (rfl : true = true)] at h | rw [if_neg Bool.false_ne_true] at h | skip
  refine Wk_skip (pp (Wk_seq (Wk_block (Wk_seq (Wk_regionZ fun Z hZ => ?_)))))
  simp only [go_sem, seval]
  refine hZ _ (pp (Wk_regionD fun Z hZ => ?_))
  simp only [go_sem, seval]
  refine hZ _ (by kernel_rfl) (pp (Wk_regionZ fun Z hZ => ?_))
  simp only [go_sem, seval, show IntKind.i64.wrap 2 = 2 from rfl]
  refine hZ _ (pp (Wk_rs (Wk_seq (Wk_regionZ fun Z hZ => ?_))))
  simp only [go_sem, seval]
  refine hZ _ (pp (Wk_seq (Wk_cond_f rfl ?_)))
  first | rw [if_pos (rfl : true = true)] at h | rw [if_neg Bool.false_ne_true] at h | skip
  refine Wk_exit (pp (Wk_seq (Wk_regionZ fun Z hZ => ?_)))
  simp only [go_sem, seval]
  refine hZ _ (pp (Wk_ret (pp ?_)))
  cases h
  simp only [go_sem, seval]
  exact ⟨_, rfl, RokI.h, PureI.h⟩
def fs_hashing_Mix (N : Nat) : FnS := ⟨[], true, fn1 (decI .u64) fun q0 => (hashing_Mix N q0).map fun r => .val (.int .u64 r), false⟩
attribute [go_sem] fs_hashing_Mix
theorem fs_hashing_Mix_ok (N : Nat) : FSOk Try.prog 54 (fs_hashing_Mix N) := ok1 (fun q0 r h => by
  obtain ⟨r', hr, rfl⟩ := Option.map_eq_some_iff.1 h
  exact w_hashing_Mix N q0 r' hr) (decI_le)


noncomputable def G_hashing_Combine (N d f : Nat) : Option FnS := glist [(10, 54, fs_hashing_Mix N)] d f
attribute [go_sem] G_hashing_Combine
theorem w_hashing_Combine (N : Nat) (a0 : Int) (a1 : Int) (r : Int) (h : hashing_Combine N a0 a1 = some r) : Con Try.prog 47 [] true [.val (.int .u64 a0), .val (.int .u64 a1)] (.val (.int .u64 r)) := by
  refine fun_ok4 (G := (G_hashing_Combine N)) Try.func47 rfl (by decide) (by kernel_rfl) (gc 10 (fs_hashing_Mix_ok N) gn) [] mix (Nat.le_of_ble_eq_true rfl) ?_
  simp only [Try.f47]
  unfold hashing_Combine at h
  refine Wk_seq (Wk_regionZ fun Z hZ => ?_)
  simp only [go_sem, seval]
  refine hZ _ (pp (Wk_seq ?_))
  obtain ⟨r1, hr1, h⟩ := Option.bind_eq_some_iff.1 h
  refine Wk_regionZ fun Z hZ => ?_
  simp only [go_sem, seval, hr1]
  refine hZ _ (pp (Wk_ret (pp ?_)))
  cases h
  simp only [go_sem, seval]
  exact ⟨_, rfl, RokI.h, PureI.h⟩
def fs_hashing_Combine (N : Nat) : FnS := ⟨[], true, fn2 (decI .u64) (decI .u64) fun q0 q1 => (hashing_Combine N q0 q1).map fun r => .val (.int .u64 r), false⟩
attribute [go_sem] fs_hashing_Combine
theorem fs_hashing_Combine_ok (N : Nat) : FSOk Try.prog 47 (fs_hashing_Combine N) := ok2 (fun q0 q1 r h => by
  obtain ⟨r', hr, rfl⟩ := Option.map_eq_some_iff.1 h
  exact w_hashing_Combine N q0 q1 r' hr) (decI_le) (decI_le)


noncomputable def G_hashing_Position (N d f : Nat) : Option FnS := glist [(9, 47, fs_hashing_Combine N)] d f
attribute [go_sem] G_hashing_Position
theorem w_hashing_Position (N : Nat) (a0 : Int) (a1 : Int) (r : Int) (h : hashing_Position N a0 a1 = some r) : Con Try.prog 30 [] true [.val (.int .i64 a0), .val (.int .i64 a1)] (.val (.int .u64 r)) := by
  refine fun_ok4 (G := (G_hashing_Position N)) Try.func30 rfl (by decide) (by kernel_rfl) (gc 9 (fs_hashing_Combine_ok N) gn) [] mix (Nat.le_of_ble_eq_true rfl) ?_
  simp only [Try.f30]
  unfold hashing_Position at h
  refine Wk_seq (Wk_regionZ fun Z hZ => ?_)
  simp only [go_sem, seval]
  refine hZ _ (pp (Wk_seq ?_))
  obtain ⟨r1, hr1, h⟩ := Option.bind_eq_some_iff.1 h
  refine Wk_regionZ fun Z hZ => ?_
  simp only [go_sem, seval, hr1]
  refine hZ _ (pp (Wk_ret (pp ?_)))
  cases h
  simp only [go_sem, seval]
  exact ⟨_, rfl, RokI.h, PureI.h⟩
def fs_hashing_Position (N : Nat) : FnS := ⟨[], true, fn2 (decI .i64) (decI .i64) fun q0 q1 => (hashing_Position N q0 q1).map fun r => .val (.int .u64 r), false⟩
attribute [go_sem] fs_hashing_Position
theorem fs_hashing_Position_ok (N : Nat) : FSOk Try.prog 30 (fs_hashing_Position N) := ok2 (fun q0 q1 r h => by
  obtain ⟨r', hr, rfl⟩ := Option.map_eq_some_iff.1 h
  exact w_hashing_Position N q0 q1 r' hr) (decI_le) (decI_le)


theorem w_cmp_isNaN_uint64 (N : Nat) (a0 : Int) (r : Bool) (h : cmp_isNaN_uint64 N a0 = some r) : Con Try.prog 48 [] true [.val (.int .u64 a0)] (.val (.bool r)) := by
  refine fun_ok4 (G := (glist [])) Try.func48 rfl (by decide) (by kernel_rfl) gn [] mix (Nat.le_of_ble_eq_true rfl) ?_
  simp only [Try.f48]
  unfold cmp_isNaN_uint64 at h
  refine Wk_seq (Wk_regionZ fun Z hZ => ?_)
  simp only [go_sem, seval]
  refine hZ _ (pp (Wk_seq (Wk_regionZ fun Z hZ => ?_)))
  simp only [go_sem, seval]
  refine hZ _ (pp (Wk_ret (pp ?_)))
  cases h
  simp only [go_sem, seval]
  exact ⟨_, rfl, RokI.h, PureI.h⟩
def fs_cmp_isNaN_uint64 (N : Nat) : FnS := ⟨[], true, fn1 (decI .u64) fun q0 => (cmp_isNaN_uint64 N q0).map fun r => .val (.bool r), false⟩
attribute [go_sem] fs_cmp_isNaN_uint64
theorem fs_cmp_isNaN_uint64_ok (N : Nat) : FSOk Try.prog 48 (fs_cmp_isNaN_uint64 N) := ok1 (fun q0 r h => by
  obtain ⟨r', hr, rfl⟩ := Option.map_eq_some_iff.1 h
  exact w_cmp_isNaN_uint64 N q0 r' hr) (decI_le)


noncomputable def G_cmp_Compare_uint64 (N d f : Nat) : Option FnS := glist [(8, 48, fs_cmp_isNaN_uint64 N), (10, 48, fs_cmp_isNaN_uint64 N)] d f
attribute [go_sem] G_cmp_Compare_uint64
theorem w_cmp_Compare_uint64 (N : Nat) (a0 : Int) (a1 : Int) (r : Int) (h : cmp_Compare_uint64 N a0 a1 = some r) : Con Try.prog 33 [] true [.val (.int .u64 a0), .val (.int .u64 a1)] (.val (.int .i64 r)) := by
  refine fun_ok4 (G := (G_cmp_Compare_uint64 N)) Try.func33 rfl (by decide) (by kernel_rfl) (gc 8 (fs_cmp_isNaN_uint64_ok N) (gc 10 (fs_cmp_isNaN_uint64_ok N) gn)) [] mix (Nat.le_of_ble_eq_true rfl) ?_
  simp only [Try.f33]
  unfold cmp_Compare_uint64 at h
  refine Wk_seq (Wk_regionZ fun Z hZ => ?_)
  simp only [go_sem, seval]
  refine hZ _ (pp (Wk_seq ?_))
  obtain ⟨r1, hr1, h⟩ := Option.bind_eq_some_iff.1 h
  refine Wk_regionZ fun Z hZ => ?_
  simp only [go_sem, seval, hr1]
  refine hZ _ (pp (Wk_seq ?_))
  obtain ⟨r2, hr2, h⟩ := Option.bind_eq_some_iff.1 h
  refine Wk_regionZ fun Z hZ => ?_
  simp only [go_sem, seval, hr2]
  refine hZ _ (pp (Wk_seq (Wk_seq (Wk_regionZ fun Z hZ => ?_))))
  simp only [go_sem, seval]
  refine hZ _ (pp (Wk_cond_bool rfl (fun hc3 => ?_) (fun hc3 => ?_)))
  · rw [if_pos hc3] at h
    refine Wk_seq (Wk_seq (Wk_regionZ fun Z hZ => ?_))
    simp only [go_sem, seval, hc3]
    refine hZ _ (pp (Wk_cond_bool rfl (fun hc4 => ?_) (fun hc4 => ?_)))
    · rw [if_pos hc4] at h
      refine Wk_seq (Wk_regionZ fun Z hZ => ?_)
      simp only [go_sem, seval, hc4]
      refine hZ _ (pp (Wk_ret (pp ?_)))
      cases h
      simp only [go_sem, seval]
      exact ⟨_, rfl, RokI.h, PureI.h⟩
    rw [if_neg (ne_true_of_eq_false hc4)] at h
    refine Wk_skip (pp (Wk_seq (Wk_regionZ fun Z hZ => ?_)))
    simp only [go_sem, seval, hc4]
    refine hZ _ (pp (Wk_ret (pp ?_)))
    cases h
    simp only [go_sem, seval]
    exact ⟨_, rfl, RokI.h, PureI.h⟩
  rw [if_neg (ne_true_of_eq_false hc3)] at h
  refine Wk_skip (pp (Wk_seq (Wk_seq (Wk_regionZ fun Z hZ => ?_))))
  simp only [go_sem, seval, hc3]
  refine hZ _ (pp (Wk_cond_bool rfl (fun hc5 => ?_) (fun hc5 => ?_)))
  · rw [if_pos hc5] at h
    refine Wk_seq (Wk_regionZ fun Z hZ => ?_)
    simp only [go_sem, seval, hc5]
    refine hZ _ (pp (Wk_ret (pp ?_)))
    cases h
    simp only [go_sem, seval]
    exact ⟨_, rfl, RokI.h, PureI.h⟩
  rw [if_neg (ne_true_of_eq_false hc5)] at h
  refine Wk_skip (pp (Wk_seq (Wk_seq (Wk_regionZ fun Z hZ => ?_))))
  simp only [go_sem, seval, hc5]
  refine hZ _ (pp (Wk_cond_dec rfl (fun hc6 => ?_) (fun hc6 => ?_)))
  · have hc6d := decide_eq_true hc6
    rw [if_pos hc6] at h
    refine Wk_seq (Wk_regionZ fun Z hZ => ?_)
    simp only [go_sem, seval, hc6d]
    refine hZ _ (pp (Wk_ret (pp ?_)))
    cases h
    simp only [go_sem, seval]
    exact ⟨_, rfl, RokI.h, PureI.h⟩
  have hc6d := decide_eq_false hc6
  rw [if_neg hc6] at h
  refine Wk_skip (pp (Wk_seq (Wk_seq (Wk_regionZ fun Z hZ => ?_))))
  simp only [go_sem, seval, hc6d]
  refine hZ _ (pp (Wk_cond_dec rfl (fun hc7 => ?_) (fun hc7 => ?_)))
  · have hc7d := decide_eq_true hc7
    rw [if_pos hc7] at h
    refine Wk_seq (Wk_regionZ fun Z hZ => ?_)
    simp only [go_sem, seval, hc7d]
    refine hZ _ (pp (Wk_ret (pp ?_)))
    cases h
    simp only [go_sem, seval]
    exact ⟨_, rfl, RokI.h, PureI.h⟩
  have hc7d := decide_eq_false hc7
  rw [if_neg hc7] at h
  refine Wk_skip (pp (Wk_seq (Wk_regionZ fun Z hZ => ?_)))
  simp only [go_sem, seval, hc7d]
  refine hZ _ (pp (Wk_ret (pp ?_)))
  cases h
  simp only [go_sem, seval]
  exact ⟨_, rfl, RokI.h, PureI.h⟩
def fs_cmp_Compare_uint64 (N : Nat) : FnS := ⟨[], true, fn2 (decI .u64) (decI .u64) fun q0 q1 => (cmp_Compare_uint64 N q0 q1).map fun r => .val (.int .i64 r), false⟩
attribute [go_sem] fs_cmp_Compare_uint64
theorem fs_cmp_Compare_uint64_ok (N : Nat) : FSOk Try.prog 33 (fs_cmp_Compare_uint64 N) := ok2 (fun q0 q1 r h => by
  obtain ⟨r', hr, rfl⟩ := Option.map_eq_some_iff.1 h
  exact w_cmp_Compare_uint64 N q0 q1 r' hr) (decI_le) (decI_le)


noncomputable def G_overlay_Observers_1 (N d f : Nat) : Option FnS := glist [(10, 30, fs_hashing_Position N), (16, 30, fs_hashing_Position N), (19, 33, fs_cmp_Compare_uint64 N)] d f
attribute [go_sem] G_overlay_Observers_1
theorem w_overlay_Observers_1 (N : Nat) (a0 : Int) (a1 : Int) (c0_0 : Int) (c1_0 : Int) (r : Int) (h : overlay_Observers_1 N a0 a1 c0_0 c1_0 = some r) : Con Try.prog 32 [] true [.val (.int .i64 a0), .val (.int .i64 a1), .iref 1 [[.val (.int .u64 c0_0)]] 0 0, .iref 1 [[.val (.int .i64 c1_0)]] 0 0] (.val (.int .i64 r)) := by
  refine fun_ok4 (G := (G_overlay_Observers_1 N)) Try.func32 rfl (by decide) (by kernel_rfl) (gc 10 (fs_hashing_Position_ok N) (gc 16 (fs_hashing_Position_ok N) (gc 19 (fs_cmp_Compare_uint64_ok N) gn))) [] mix (Nat.le_of_ble_eq_true rfl) ?_
  simp only [Try.f32]
  unfold overlay_Observers_1 at h
  refine Wk_seq (Wk_regionZ fun Z hZ => ?_)
  simp only [go_sem, seval]
  refine hZ _ (pp (Wk_seq ?_))
  obtain ⟨r1, hr1, h⟩ := Option.bind_eq_some_iff.1 h
  obtain ⟨r2, hr2, h⟩ := Option.bind_eq_some_iff.1 h
  obtain ⟨r3, hr3, h⟩ := Option.bind_eq_some_iff.1 h
  refine Wk_regionD fun Z hZ => ?_
  simp only [go_sem, seval, hr1, hr2, hr3]
  repeat with_reducible refine and_bar (by kernel_rfl) ?_
  refine hZ _ (by kernel_rfl) (pp (Wk_ret (pp ?_)))
  cases h
  simp only [go_sem, seval]
  exact ⟨_, rfl, RokI.h, PureI.h⟩
def fs_overlay_Observers_1 (N : Nat) : FnS := { own := [], pure := true, fn := fun cs => match cs with
  | [c0, c1, .iref 1 [[c2_0]] 0 0, .iref 1 [[c3_0]] 0 0] => ((decI .i64) c0).bind fun qc0 => ((decI .i64) c1).bind fun qc1 => ((decI .u64) c2_0).bind fun qc2_0 => ((decI .i64) c3_0).bind fun qc3_0 => (overlay_Observers_1 N qc0 qc1 qc2_0 qc3_0).map fun r => .val (.int .i64 r)
  | _ => none }
attribute [go_sem] fs_overlay_Observers_1
theorem fs_overlay_Observers_1_ok (N : Nat) : FSOk Try.prog 32 (fs_overlay_Observers_1 N) := by
  refine ⟨fun cs r h => ?_, fun h => by cases h⟩
  simp only [fs_overlay_Observers_1] at h
  split at h
  · simp only [Option.bind_eq_some_iff, Option.map_eq_some_iff] at h
    obtain ⟨q0, h0, q1, h1, q2, h2, q3, h3, r', hr, rfl⟩ := h
    exact ((w_overlay_Observers_1 N q0 q1 q2 q3 r' hr).args (LeL.cons (decI_le h0) (LeL.cons (decI_le h1) (LeL.cons (Le.iref1 (LeL.cons (decI_le h2) (LeL.nil))) (LeL.cons (Le.iref1 (LeL.cons (decI_le h3) (LeL.nil))) (LeL.nil))))))
  · cases h


noncomputable def G_slices_MinFunc_int_overlay_Observers_1 (N d f : Nat) : Option FnS := glist [(26, 32, fs_overlay_Observers_1 N)] d f
attribute [go_sem] G_slices_MinFunc_int_overlay_Observers_1
theorem w_slices_MinFunc_int_overlay_Observers_1 (N : Nat) (a0 : (List Int)) (k1_0_0 : Int) (k1_1_0 : Int) (r : Int) (h : slices_MinFunc_int_overlay_Observers_1 N a0 k1_0_0 k1_1_0 = some r) : Con Try.prog 31 [] true [.sl false none 1 none (a0.map (rowI .i64)), .clo 32 [.iref 1 [[.val (.int .u64 k1_0_0)]] 0 0, .iref 1 [[.val (.int .i64 k1_1_0)]] 0 0]] (.val (.int .i64 r)) := by
  refine fun_ok4 (G := (G_slices_MinFunc_int_overlay_Observers_1 N)) Try.func31 rfl (by decide) (by kernel_rfl) (gc 26 (fs_overlay_Observers_1_ok N) gn) [] mix (Nat.le_of_ble_eq_true rfl) ?_
  simp only [Try.f31]
  unfold slices_MinFunc_int_overlay_Observers_1 at h
  refine Wk_seq (Wk_regionZ fun Z hZ => ?_)
  simp only [go_sem, seval]
  refine hZ _ (pp (Wk_seq (Wk_seq (Wk_regionZ fun Z hZ => ?_))))
  simp only [go_sem, seval]
  refine hZ _ (pp (Wk_cond_dec rfl (fun hc1 => ?_) (fun hc1 => ?_)))
  · have hc1d := decide_eq_true hc1
    rw [if_pos hc1] at h
    cases h
  have hc1d := decide_eq_false hc1
  rw [if_neg hc1] at h
  refine Wk_skip (pp (Wk_seq ?_))
  obtain ⟨x1, hb2, hx3, h⟩ := gx_some h
  try simp only [Int.toNat_zero] at hx3
  try simp only [Int.ofNat_lt, Int.natCast_nonneg, true_and] at hb2
  refine Wk_regionZ fun Z hZ => ?_
  simp only [go_sem, seval, hc1d, hb2, hx3]
  refine hZ _ (pp (Wk_seq (Wk_seq (Wk_regionZ fun Z hZ => ?_))))
  simp only [go_sem, seval]
  refine hZ _ (pp (Wk_block (Wk_real fun hreal5 => ?_)))
  have hl4 := hreal5.lenT 0 (by decide) (by simp only [go_sem, seval]; rfl)
  first | rw [List.length_map] at hl4 | rw [← List.map_append, List.length_map] at hl4
  refine Wk_count (fun (v5 : Nat) (b : Int) => ⟨tab 33 (updT (updT (updT (updT deadT 0 (.sl false none 1 none (a0.map (rowI .i64)))) 1 (.clo 32 [.iref 1 [[.val (.int .u64 k1_0_0)]] 0 0, .iref 1 [[.val (.int .i64 k1_1_0)]] 0 0])) 5 (.val (.int .i64 b))) 6 (.val (.int .i64 ((v5 : Nat) : Int)))), RZ⟩) x1 h ?_ ?_
  · refine weak_roots ?_ ?_ <;> repeat' first | exact xn | exact rn | refine xc ?_ ?_ | refine rc ?_ ?_ ?_ | rfl
  rintro v5 v4 _ h -
  rcases (count_cases a0.length v5).symm with ⟨hi6', hd9⟩ | ⟨hi6', hd9⟩
  · rw [hd9] at h
    simp only [slices_MinFunc_int_overlay_Observers_1_L1] at h
    refine Wk_seq (Wk_seq (Wk_regionZ fun Z hZ => ?_))
    simp only [go_sem, seval, hi6']
    refine hZ _ (pp ?_)
    try simp only [Int.ofNat_lt, hi6', if_true, if_false] at h
    refine Wk_cond_f rfl (Wk_exit (pp (Wk_seq (Wk_regionZ fun Z hZ => ?_))))
    simp only [go_sem, seval]
    refine hZ _ (pp (Wk_ret (pp ?_)))
    cases h
    simp only [go_sem, seval]
    exact ⟨_, rfl, RokI.h, PureI.h⟩
  rw [hd9] at h
  simp only [slices_MinFunc_int_overlay_Observers_1_L1] at h
  have hw8 := wrap_succ hi6' hl4
  refine Wk_seq (Wk_seq (Wk_regionZ fun Z hZ => ?_))
  simp only [go_sem, seval, hi6']
  refine hZ _ (pp ?_)
  try simp only [Int.ofNat_lt, hi6', if_true, if_false] at h
  refine Wk_cond_t rfl (Wk_skip (pp (Wk_seq (Wk_block (Wk_seq ?_)))))
  obtain ⟨x2, hb10, hx11, h⟩ := gx_some h
  try simp only [Int.toNat_natCast] at hx11
  try simp only [Int.ofNat_lt, Int.natCast_nonneg, true_and] at hb10
  obtain ⟨r3, hr12, h⟩ := Option.bind_eq_some_iff.1 h
  refine Wk_regionZ fun Z hZ => ?_
  simp only [go_sem, seval, hi6', hx11, hr12]
  refine hZ _ (pp (Wk_cond_dec rfl (fun hc13 => ?_) (fun hc13 => ?_)))
  · have hc13d := decide_eq_true hc13
    rw [if_pos hc13] at h
    refine Wk_regionZ fun Z hZ => ?_
    simp only [go_sem, seval, hi6', hx11, hc13d]
    refine hZ _ (pp (Wk_regionZ fun Z hZ => ?_))
    simp only [go_sem, seval, hw8]
    refine hZ _ (pp ?_)
    first | refine ⟨x2, ?_, h⟩ | refine ⟨hi6', x2, ?_, h⟩
    refine weak_roots ?_ ?_ <;> repeat' first | exact xn | exact rn | refine xc ?_ ?_ | refine rc ?_ ?_ ?_ | rfl
  have hc13d := decide_eq_false hc13
  rw [if_neg hc13] at h
  refine Wk_skip (pp (Wk_regionZ fun Z hZ => ?_))
  simp only [go_sem, seval, hw8, hc13d]
  refine hZ _ (pp ?_)
  first | refine ⟨v4, ?_, h⟩ | refine ⟨hi6', v4, ?_, h⟩
  refine weak_roots ?_ ?_ <;> repeat' first | exact xn | exact rn | refine xc ?_ ?_ | refine rc ?_ ?_ ?_ | rfl
def fs_slices_MinFunc_int_overlay_Observers_1 (N : Nat) : FnS := { own := [], pure := true, fn := fun cs => match cs with
  | [c0, .clo 32 [.iref 1 [[k1_0_0]] 0 0, .iref 1 [[k1_1_0]] 0 0]] => ((decL 1 (dec1 (decI .i64))) c0).bind fun qc0 => ((decI .u64) k1_0_0).bind fun qk1_0_0 => ((decI .i64) k1_1_0).bind fun qk1_1_0 => (slices_MinFunc_int_overlay_Observers_1 N qc0 qk1_0_0 qk1_1_0).map fun r => .val (.int .i64 r)
  | _ => none }
attribute [go_sem] fs_slices_MinFunc_int_overlay_Observers_1
theorem fs_slices_MinFunc_int_overlay_Observers_1_ok (N : Nat) : FSOk Try.prog 31 (fs_slices_MinFunc_int_overlay_Observers_1 N) := by
  refine ⟨fun cs r h => ?_, fun h => by cases h⟩
  simp only [fs_slices_MinFunc_int_overlay_Observers_1] at h
  split at h
  · simp only [Option.bind_eq_some_iff, Option.map_eq_some_iff] at h
    obtain ⟨q0, h0, q1, h1, q2, h2, r', hr, rfl⟩ := h
    exact ((w_slices_MinFunc_int_overlay_Observers_1 N q0 q1 q2 r' hr).args (LeL.cons (decL_le (decI1_le .i64) h0) (LeL.cons (Le.clo (LeL.cons (Le.iref1 (LeL.cons (decI_le h1) (LeL.nil))) (LeL.cons (Le.iref1 (LeL.cons (decI_le h2) (LeL.nil))) (LeL.nil)))) (LeL.nil))))
  · cases h


noncomputable def G_overlay_Observers (N d f : Nat) : Option FnS := glist [(9, 26, fs_view_ValidMembers N), (13, 29, fs_overlay_identifier N), (33, 30, fs_hashing_Position N), (37, 31, fs_slices_MinFunc_int_overlay_Observers_1 N)] d f
attribute [go_sem] G_overlay_Observers
theorem w_overlay_Observers (N : Nat) (a0 : (List Int)) (a1 : Int) (r : (List Int)) (h : overlay_Observers N a0 a1 = some r) : Con Try.prog 13 [] true [.sl false none 1 none (a0.map (rowI .i64)), .val (.int .i64 a1)] (.sl true none 1 none (r.map (rowI .i64))) := by
  refine fun_ok4 (G := (G_overlay_Observers N)) Try.func13 rfl (by decide) (by kernel_rfl) (gc 9 (fs_view_ValidMembers_ok N) (gc 13 (fs_overlay_identifier_ok N) (gc 33 (fs_hashing_Position_ok N) (gc 37 (fs_slices_MinFunc_int_overlay_Observers_1_ok N) gn)))) [] mix (Nat.le_of_ble_eq_true rfl) ?_
  simp only [Try.f13]
  unfold overlay_Observers at h
  refine Wk_seq (Wk_regionZ fun Z hZ => ?_)
  simp only [go_sem, seval]
  refine hZ _ (pp (Wk_seq ?_))
  apply Wk_join1 (fun (c9 : Bool) => ⟨tab 42 (updT (updT (updT deadT 0 (.sl false none 1 none (a0.map (rowI .i64)))) 1 (.val (.int .i64 a1))) 27 (.val (.bool c9))), RZ⟩)
  · intro hJ1
    obtain ⟨r10, hr2, h⟩ := Option.bind_eq_some_iff.1 h
    refine Wk_regionZ fun Z hZ => ?_
    simp only [go_sem, seval, hr2]
    refine RX_guard_nbool rfl (fun hc3 => ?_) (fun hc3 => ?_)
    · rw [if_neg (ne_true_of_eq_false hc3)] at h
      simp only [go_sem, seval, hc3]
      refine hZ _ (pp (hJ1 _ true ?_ h))
      refine weak_roots ?_ ?_ <;> repeat' first | exact xn | exact rn | refine xc ?_ ?_ | refine rc ?_ ?_ ?_ | rfl
    rw [if_pos hc3] at h
    obtain ⟨r11, hr4, h⟩ := Option.bind_eq_some_iff.1 h
    simp only [go_sem, seval, hc3, hr4]
    refine RX_guard_nbool rfl (fun hc5 => ?_) (fun hc5 => ?_)
    · rw [if_neg (ne_true_of_eq_false hc5)] at h
      simp only [go_sem, seval, hc5]
      refine hZ _ (pp (hJ1 _ true ?_ h))
      refine weak_roots ?_ ?_ <;> repeat' first | exact xn | exact rn | refine xc ?_ ?_ | refine rc ?_ ?_ ?_ | rfl
    rw [if_pos hc5] at h
    simp only [go_sem, seval, hc5]
    refine sw (RX_guard_dec rfl) (fun hc6 => ?_) (fun hc6 => ?_)
    · have hc6d := decide_eq_false hc6
      rw [if_neg hc6] at h
      simp only [go_sem, seval, hc6d]
      refine hZ _ (pp (hJ1 _ false ?_ h))
      refine weak_roots ?_ ?_ <;> repeat' first | exact xn | exact rn | refine xc ?_ ?_ | refine rc ?_ ?_ ?_ | rfl
    have hc6d := decide_eq_true hc6
    rw [if_pos hc6] at h
    obtain ⟨x12, hb7, hx8, h⟩ := gx_some h
    try simp only [Int.toNat_zero] at hx8
    try simp only [Int.ofNat_lt, Int.natCast_nonneg, true_and] at hb7
    simp only [go_sem, seval, hc6d, hb7, hx8]
    refine hZ _ (pp (hJ1 _ (decide (x12 = a1)) ?_ h))
    refine weak_roots ?_ ?_ <;> repeat' first | exact xn | exact rn | refine xc ?_ ?_ | refine rc ?_ ?_ ?_ | rfl
  intro c9 h
  unfold overlay_Observers_J1 at h
  refine Wk_cond_bool rfl (fun hc9 => ?_) (fun hc9 => ?_)
  · rw [if_pos hc9] at h
    refine Wk_seq (Wk_regionZ fun Z hZ => ?_)
    simp only [go_sem, seval, hc9]
    refine hZ _ (pp (Wk_ret (pp ?_)))
    cases h
    simp only [go_sem, seval]
    exact ⟨_, rfl, RokI.h, PureI.h⟩
  rw [if_neg (ne_true_of_eq_false hc9)] at h
  refine Wk_skip (pp ?_)
  unfold overlay_Observers_J2 at h
  refine Wk_seq (Wk_regionZ fun Z hZ => ?_)
  simp only [go_sem, seval, hc9]
  refine hZ _ (pp (Wk_seq (Wk_seq (Wk_regionZ fun Z hZ => ?_))))
  simp only [go_sem, seval]
  refine hZ _ (pp (Wk_block (Wk_rounds 6 (Wk_rs (Wk_seq (Wk_regionZ fun Z hZ => ?_))))))
  simp only [go_sem, seval]
  refine hZ _ (pp (Wk_seq (Wk_cond_t rfl ?_)))
  first | rw [if_pos (rfl : true = true)] at h | rw [if_neg Bool.false_ne_true] at h | skip
  refine Wk_skip (pp (Wk_seq (Wk_block (Wk_seq (Wk_regionZ fun Z hZ => ?_)))))
  simp only [go_sem, seval]
  refine hZ _ (pp (Wk_seq ?_))
  obtain ⟨r13, hr10, h⟩ := Option.bind_eq_some_iff.1 h
  refine Wk_regionZ fun Z hZ => ?_
  simp only [go_sem, seval, hr10]
  refine hZ _ (pp ?_)
  obtain ⟨r14, hr11, h⟩ := Option.bind_eq_some_iff.1 h
  first | obtain ⟨ha12, h⟩ := apn_some h | (obtain ⟨ha12, h⟩ := apx_some h; rw [List.nil_append] at h)
  simp only [List.length_cons, List.length_nil, Nat.zero_add, Nat.reduceAdd] at ha12
  refine Wk_regionZ fun Z hZ => ?_
  simp only [go_sem, seval, hr11, ha12]
  refine hZ _ (pp (Wk_regionZ fun Z hZ => ?_))
  simp only [go_sem, seval, show IntKind.i64.wrap 1 = 1 from rfl]
  refine hZ _ (pp (Wk_rs (Wk_seq (Wk_regionZ fun Z hZ => ?_))))
  simp only [go_sem, seval]
  refine hZ _ (pp (Wk_seq (Wk_cond_t rfl ?_)))
  first | rw [if_pos (rfl : true = true)] at h | rw [if_neg Bool.false_ne_true] at h | skip
  refine Wk_skip (pp (Wk_seq (Wk_block (Wk_seq (Wk_regionZ fun Z hZ => ?_)))))
  simp only [go_sem, seval]
  refine hZ _ (pp (Wk_seq ?_))
  obtain ⟨r15, hr13, h⟩ := Option.bind_eq_some_iff.1 h
  refine Wk_regionZ fun Z hZ => ?_
  simp only [go_sem, seval, hr13]
  refine hZ _ (pp ?_)
  obtain ⟨r16, hr14, h⟩ := Option.bind_eq_some_iff.1 h
  obtain ⟨ha15, h⟩ := apx_some h
  simp only [List.length_cons, List.length_nil, Nat.zero_add, Nat.reduceAdd] at ha15
  refine Wk_regionZ fun Z hZ => ?_
  simp only [go_sem, seval, hr14, ha15]
  refine hZ _ (pp (Wk_regionZ fun Z hZ => ?_))
  simp only [go_sem, seval, show IntKind.i64.wrap 2 = 2 from rfl]
  refine hZ _ (pp (Wk_rs (Wk_seq (Wk_regionZ fun Z hZ => ?_))))
  simp only [go_sem, seval]
  refine hZ _ (pp (Wk_seq (Wk_cond_t rfl ?_)))
  first | rw [if_pos (rfl : true = true)] at h | rw [if_neg Bool.false_ne_true] at h | skip
  refine Wk_skip (pp (Wk_seq (Wk_block (Wk_seq (Wk_regionZ fun Z hZ => ?_)))))
  simp only [go_sem, seval]
  refine hZ _ (pp (Wk_seq ?_))
  obtain ⟨r17, hr16, h⟩ := Option.bind_eq_some_iff.1 h
  refine Wk_regionZ fun Z hZ => ?_
  simp only [go_sem, seval, hr16]
  refine hZ _ (pp ?_)
  obtain ⟨r18, hr17, h⟩ := Option.bind_eq_some_iff.1 h
  obtain ⟨ha18, h⟩ := apx_some h
  simp only [List.length_append, List.length_cons, List.length_nil, Nat.zero_add, Nat.reduceAdd] at ha18
  refine Wk_regionZ fun Z hZ => ?_
  simp only [go_sem, seval, hr17, ha18]
  refine hZ _ (pp (Wk_regionZ fun Z hZ => ?_))
  simp only [go_sem, seval, show IntKind.i64.wrap 3 = 3 from rfl]
  refine hZ _ (pp (Wk_rs (Wk_seq (Wk_regionZ fun Z hZ => ?_))))
  simp only [go_sem, seval]
  refine hZ _ (pp (Wk_seq (Wk_cond_t rfl ?_)))
  first | rw [if_pos (rfl : true = true)] at h | rw [if_neg Bool.false_ne_true] at h | skip
  refine Wk_skip (pp (Wk_seq (Wk_block (Wk_seq (Wk_regionZ fun Z hZ => ?_)))))
  simp only [go_sem, seval]
  refine hZ _ (pp (Wk_seq ?_))
  obtain ⟨r19, hr19, h⟩ := Option.bind_eq_some_iff.1 h
  refine Wk_regionZ fun Z hZ => ?_
  simp only [go_sem, seval, hr19]
  refine hZ _ (pp ?_)
  obtain ⟨r20, hr20, h⟩ := Option.bind_eq_some_iff.1 h
  obtain ⟨ha21, h⟩ := apx_some h
  simp only [List.length_append, List.length_cons, List.length_nil, Nat.zero_add, Nat.reduceAdd] at ha21
  refine Wk_regionZ fun Z hZ => ?_
  simp only [go_sem, seval, hr20, ha21]
  refine hZ _ (pp (Wk_regionZ fun Z hZ => ?_))
  simp only [go_sem, seval, show IntKind.i64.wrap 4 = 4 from rfl]
  refine hZ _ (pp (Wk_rs (Wk_seq (Wk_regionZ fun Z hZ => ?_))))
  simp only [go_sem, seval]
  refine hZ _ (pp (Wk_seq (Wk_cond_t rfl ?_)))
  first | rw [if_pos (rfl : true = true)] at h | rw [if_neg Bool.false_ne_true] at h | skip
  refine Wk_skip (pp (Wk_seq (Wk_block (Wk_seq (Wk_regionZ fun Z hZ => ?_)))))
  simp only [go_sem, seval]
  refine hZ _ (pp (Wk_seq ?_))
  obtain ⟨r21, hr22, h⟩ := Option.bind_eq_some_iff.1 h
  refine Wk_regionZ fun Z hZ => ?_
  simp only [go_sem, seval, hr22]
  refine hZ _ (pp ?_)
  obtain ⟨r22, hr23, h⟩ := Option.bind_eq_some_iff.1 h
  obtain ⟨ha24, h⟩ := apx_some h
  simp only [List.length_append, List.length_cons, List.length_nil, Nat.zero_add, Nat.reduceAdd] at ha24
  refine Wk_regionZ fun Z hZ => ?_
  simp only [go_sem, seval, hr23, ha24]
  refine hZ _ (pp (Wk_regionZ fun Z hZ => ?_))
  simp only [go_sem, seval, show IntKind.i64.wrap 5 = 5 from rfl]
  refine hZ _ (pp (Wk_rs (Wk_seq (Wk_regionZ fun Z hZ => ?_))))
  simp only [go_sem, seval]
  refine hZ _ (pp (Wk_seq (Wk_cond_f rfl ?_)))
  first | rw [if_pos (rfl : true = true)] at h | rw [if_neg Bool.false_ne_true] at h | skip
  refine Wk_exit (pp (Wk_seq (Wk_regionZ fun Z hZ => ?_)))
  simp only [go_sem, seval]
  refine hZ _ (pp (Wk_ret (pp ?_)))
  cases h
  simp only [go_sem, seval]
  exact ⟨_, rfl, RokI.h, PureI.h⟩
def fs_overlay_Observers (N : Nat) : FnS := ⟨[], true, fn2 (decL 1 (dec1 (decI .i64))) (decI .i64) fun q0 q1 => (overlay_Observers N q0 q1).map fun r => .sl false none 1 none (r.map (rowI .i64)), false⟩
attribute [go_sem] fs_overlay_Observers
theorem fs_overlay_Observers_ok (N : Nat) : FSOk Try.prog 13 (fs_overlay_Observers N) := ok2 (fun q0 q1 r h => by
  obtain ⟨r', hr, rfl⟩ := Option.map_eq_some_iff.1 h
  exact (w_overlay_Observers N q0 q1 r' hr).res (by (try simp only [go_sem]); exact RokI.h)) (fun h => decL_le (decI1_le .i64) h) (decI_le)

def fso_overlay_Observers (N : Nat) : FnS := ⟨[], true, fn2 (decL 1 (dec1 (decI .i64))) (decI .i64) fun q0 q1 => (overlay_Observers N q0 q1).map fun r => .sl true none 1 none (r.map (rowI .i64)), false⟩
attribute [go_sem] fso_overlay_Observers
theorem fso_overlay_Observers_ok (N : Nat) : FSOk Try.prog 13 (fso_overlay_Observers N) := ok2 (fun q0 q1 r h => by
  obtain ⟨r', hr, rfl⟩ := Option.map_eq_some_iff.1 h
  exact w_overlay_Observers N q0 q1 r' hr) (fun h => decL_le (decI1_le .i64) h) (decI_le)


theorem w_view_Place (N : Nat) (a0 : (List Int)) (a1 : Int) (r : Int) (h : view_Place N a0 a1 = some r) : Con Try.prog 28 [] true [.sl false none 1 none (a0.map (rowI .i64)), .val (.int .i64 a1)] (.val (.int .i64 r)) := by
  refine fun_ok4 (G := (glist [])) Try.func28 rfl (by decide) (by kernel_rfl) gn [] mix (Nat.le_of_ble_eq_true rfl) ?_
  simp only [Try.f28]
  unfold view_Place at h
  refine Wk_seq (Wk_regionZ fun Z hZ => ?_)
  simp only [go_sem, seval]
  refine hZ _ (pp (Wk_seq (Wk_seq (Wk_regionZ fun Z hZ => ?_))))
  simp only [go_sem, seval]
  refine hZ _ (pp (Wk_block (Wk_real fun hreal2 => ?_)))
  have hl1 := hreal2.lenT 0 (by decide) (by simp only [go_sem, seval]; rfl)
  first | rw [List.length_map] at hl1 | rw [← List.map_append, List.length_map] at hl1
  refine Wk_range (fun (v2 : Nat) (b : Unit) => ⟨tab 19 (updT (updT (updT (updT deadT 1 (.val (.int .i64 a1))) 7 (.sl false none 1 none (a0.map (rowI .i64)))) 8 (.val (.int .i64 ((a0.length : Nat) : Int)))) 9 (.val (.int .i64 ((v2 : Nat) : Int)))), RZ⟩) () h ?_ ?_
  · refine weak_roots ?_ ?_ <;> repeat' first | exact xn | exact rn | refine xc ?_ ?_ | refine rc ?_ ?_ ?_ | rfl
  rintro v2 ⟨⟩ hi3 h -
  rcases (drop_cases a0 v2 hi3).symm with ⟨hi3', _, hd6⟩ | ⟨x5, hi3', hx4, hd6⟩
  · rw [hd6] at h
    simp only [view_Place_L1] at h
    refine Wk_seq (Wk_regionZ fun Z hZ => ?_)
    simp only [go_sem, seval, hi3']
    refine hZ _ (pp (Wk_seq ?_))
    try simp only [Int.ofNat_lt, hi3', if_true, if_false] at h
    refine Wk_cond_f rfl (Wk_exit (pp (Wk_seq (Wk_regionZ fun Z hZ => ?_))))
    simp only [go_sem, seval]
    refine hZ _ (pp (Wk_ret (pp ?_)))
    cases h
    simp only [go_sem, seval]
    exact ⟨_, rfl, RokI.h, PureI.h⟩
  rw [hd6] at h
  simp only [view_Place_L1] at h
  have hw5 := wrap_succ hi3' hl1
  refine Wk_seq (Wk_regionZ fun Z hZ => ?_)
  simp only [go_sem, seval, hi3']
  refine hZ _ (pp (Wk_seq ?_))
  try simp only [Int.ofNat_lt, hi3', if_true, if_false] at h
  refine Wk_cond_t rfl (Wk_skip (pp (Wk_seq (Wk_block (Wk_seq ?_)))))
  try rw [gx_nat hx4] at h
  refine Wk_regionZ fun Z hZ => ?_
  simp only [go_sem, seval, hx4, hi3']
  refine hZ _ (pp (Wk_seq (Wk_regionZ fun Z hZ => ?_)))
  simp only [go_sem, seval]
  refine hZ _ (pp (Wk_cond_dec rfl (fun hc7 => ?_) (fun hc7 => ?_)))
  · have hc7d := decide_eq_true hc7
    rw [if_pos hc7] at h
    refine Wk_seq (Wk_regionZ fun Z hZ => ?_)
    simp only [go_sem, seval, hc7d]
    refine hZ _ (pp (Wk_ret (pp ?_)))
    cases h
    simp only [go_sem, seval]
    exact ⟨_, rfl, RokI.h, PureI.h⟩
  have hc7d := decide_eq_false hc7
  rw [if_neg hc7] at h
  refine Wk_skip (pp (Wk_regionZ fun Z hZ => ?_))
  simp only [go_sem, seval, hw5, hc7d]
  refine hZ _ (pp ?_)
  first | refine ⟨(), ?_, h⟩ | refine ⟨hi3', (), ?_, h⟩
  refine weak_roots ?_ ?_ <;> repeat' first | exact xn | exact rn | refine xc ?_ ?_ | refine rc ?_ ?_ ?_ | rfl
def fs_view_Place (N : Nat) : FnS := ⟨[], true, fn2 (decL 1 (dec1 (decI .i64))) (decI .i64) fun q0 q1 => (view_Place N q0 q1).map fun r => .val (.int .i64 r), false⟩
attribute [go_sem] fs_view_Place
theorem fs_view_Place_ok (N : Nat) : FSOk Try.prog 28 (fs_view_Place N) := ok2 (fun q0 q1 r h => by
  obtain ⟨r', hr, rfl⟩ := Option.map_eq_some_iff.1 h
  exact w_view_Place N q0 q1 r' hr) (fun h => decL_le (decI1_le .i64) h) (decI_le)


noncomputable def G_view_Contains (N d f : Nat) : Option FnS := glist [(7, 28, fs_view_Place N)] d f
attribute [go_sem] G_view_Contains
theorem w_view_Contains (N : Nat) (a0 : (List Int)) (a1 : Int) (r : Bool) (h : view_Contains N a0 a1 = some r) : Con Try.prog 27 [] true [.sl false none 1 none (a0.map (rowI .i64)), .val (.int .i64 a1)] (.val (.bool r)) := by
  refine fun_ok4 (G := (G_view_Contains N)) Try.func27 rfl (by decide) (by kernel_rfl) (gc 7 (fs_view_Place_ok N) gn) [] mix (Nat.le_of_ble_eq_true rfl) ?_
  simp only [Try.f27]
  unfold view_Contains at h
  refine Wk_seq (Wk_regionZ fun Z hZ => ?_)
  simp only [go_sem, seval]
  refine hZ _ (pp (Wk_seq ?_))
  obtain ⟨r1, hr1, h⟩ := Option.bind_eq_some_iff.1 h
  refine Wk_regionZ fun Z hZ => ?_
  simp only [go_sem, seval, hr1]
  refine hZ _ (pp (Wk_ret (pp ?_)))
  cases h
  simp only [go_sem, seval]
  exact ⟨_, rfl, RokI.h, PureI.h⟩
def fs_view_Contains (N : Nat) : FnS := ⟨[], true, fn2 (decL 1 (dec1 (decI .i64))) (decI .i64) fun q0 q1 => (view_Contains N q0 q1).map fun r => .val (.bool r), false⟩
attribute [go_sem] fs_view_Contains
theorem fs_view_Contains_ok (N : Nat) : FSOk Try.prog 27 (fs_view_Contains N) := ok2 (fun q0 q1 r h => by
  obtain ⟨r', hr, rfl⟩ := Option.map_eq_some_iff.1 h
  exact w_view_Contains N q0 q1 r' hr) (fun h => decL_le (decI1_le .i64) h) (decI_le)


theorem w_slices_Clone_int_nn (N : Nat) (a0 : (List Int)) (r : (List Int)) (h : slices_Clone_int N a0 = some r) : Con Try.prog 34 [] true [.sl false (some false) 1 none (a0.map (rowI .i64))] (.sl true none 1 none (r.map (rowI .i64))) := by
  refine fun_ok4 (G := (glist [])) Try.func34 rfl (by decide) (by kernel_rfl) gn [] mix (Nat.le_of_ble_eq_true rfl) ?_
  simp only [Try.f34]
  unfold slices_Clone_int at h
  refine Wk_seq (Wk_regionZ fun Z hZ => ?_)
  simp only [go_sem, seval]
  refine hZ _ (pp (Wk_seq (Wk_seq (Wk_regionZ fun Z hZ => ?_))))
  simp only [go_sem, seval]
  refine hZ _ (pp (Wk_cond_f rfl ?_))
  first | rw [if_pos (rfl : true = true)] at h | rw [if_neg Bool.false_ne_true] at h | skip
  refine Wk_skip (pp (Wk_seq ?_))
  first | obtain ⟨ha1, h⟩ := apn_some h | (obtain ⟨ha1, h⟩ := apx_some h; rw [List.nil_append] at h)
  simp only [Nat.reduceAdd] at ha1
  refine Wk_regionZ fun Z hZ => ?_
  simp only [go_sem, seval, ha1]
  refine hZ _ (pp (Wk_ret (pp ?_)))
  cases h
  simp only [go_sem, seval]
  exact ⟨_, rfl, RokI.h, PureI.h⟩
theorem w_slices_Clone_int_nil (N : Nat)  (r : (List Int)) (h : slices_Clone_int N [] = some r) : Con Try.prog 34 [] true [.val (.slice none 0 0)] (.sl true none 1 none (r.map (rowI .i64))) := by
  refine fun_ok4 (G := (glist [])) Try.func34 rfl (by decide) (by kernel_rfl) gn [] mix (Nat.le_of_ble_eq_true rfl) ?_
  simp only [Try.f34]
  unfold slices_Clone_int at h
  refine Wk_seq (Wk_regionZ fun Z hZ => ?_)
  simp only [go_sem, seval]
  refine hZ _ (pp (Wk_seq (Wk_seq (Wk_regionZ fun Z hZ => ?_))))
  simp only [go_sem, seval]
  refine hZ _ (pp (Wk_cond_t rfl ?_))
  first | rw [if_pos (rfl : true = true)] at h | rw [if_neg Bool.false_ne_true] at h | skip
  refine Wk_seq (Wk_regionZ fun Z hZ => ?_)
  simp only [go_sem, seval]
  refine hZ _ (pp (Wk_ret (pp ?_)))
  obtain rfl : r = [] := by simpa [apn] using h.symm
  simp only [go_sem, seval]
  exact ⟨_, rfl, RokI.h, PureI.h⟩
theorem w_slices_Clone_int (N : Nat) (a0 : (List Int)) (r : (List Int)) (h : slices_Clone_int N a0 = some r) : Con Try.prog 34 [] true [.sl false none 1 none (a0.map (rowI .i64))] (.sl true none 1 none (r.map (rowI .i64))) :=
  Con_nl (fun e => by obtain rfl : a0 = [] := List.map_eq_nil_iff.1 e; exact w_slices_Clone_int_nil N r h) (w_slices_Clone_int_nn N a0 r h)
def fs_slices_Clone_int (N : Nat) : FnS := ⟨[], true, fn1 (decL 1 (dec1 (decI .i64))) fun q0 => (slices_Clone_int N q0).map fun r => .sl false none 1 none (r.map (rowI .i64)), false⟩
attribute [go_sem] fs_slices_Clone_int
theorem fs_slices_Clone_int_ok (N : Nat) : FSOk Try.prog 34 (fs_slices_Clone_int N) := ok1 (fun q0 r h => by
  obtain ⟨r', hr, rfl⟩ := Option.map_eq_some_iff.1 h
  exact (w_slices_Clone_int N q0 r' hr).res (by (try simp only [go_sem]); exact RokI.h)) (fun h => decL_le (decI1_le .i64) h)

def fso_slices_Clone_int (N : Nat) : FnS := ⟨[], true, fn1 (decL 1 (dec1 (decI .i64))) fun q0 => (slices_Clone_int N q0).map fun r => .sl true none 1 none (r.map (rowI .i64)), false⟩
attribute [go_sem] fso_slices_Clone_int
theorem fso_slices_Clone_int_ok (N : Nat) : FSOk Try.prog 34 (fso_slices_Clone_int N) := ok1 (fun q0 r h => by
  obtain ⟨r', hr, rfl⟩ := Option.map_eq_some_iff.1 h
  exact w_slices_Clone_int N q0 r' hr) (fun h => decL_le (decI1_le .i64) h)


noncomputable def G_overlay_Order_1 (N d f : Nat) : Option FnS := glist [(8, 30, fs_hashing_Position N), (11, 30, fs_hashing_Position N), (12, 33, fs_cmp_Compare_uint64 N)] d f
attribute [go_sem] G_overlay_Order_1
theorem w_overlay_Order_1 (N : Nat) (a0 : Int) (a1 : Int) (c0_0 : Int) (r : Int) (h : overlay_Order_1 N a0 a1 c0_0 = some r) : Con Try.prog 36 [] true [.val (.int .i64 a0), .val (.int .i64 a1), .iref 1 [[.val (.int .i64 c0_0)]] 0 0] (.val (.int .i64 r)) := by
  refine fun_ok4 (G := (G_overlay_Order_1 N)) Try.func36 rfl (by decide) (by kernel_rfl) (gc 8 (fs_hashing_Position_ok N) (gc 11 (fs_hashing_Position_ok N) (gc 12 (fs_cmp_Compare_uint64_ok N) gn))) [] mix (Nat.le_of_ble_eq_true rfl) ?_
  simp only [Try.f36]
  unfold overlay_Order_1 at h
  refine Wk_seq (Wk_regionZ fun Z hZ => ?_)
  simp only [go_sem, seval]
  refine hZ _ (pp (Wk_seq ?_))
  obtain ⟨r1, hr1, h⟩ := Option.bind_eq_some_iff.1 h
  obtain ⟨r2, hr2, h⟩ := Option.bind_eq_some_iff.1 h
  obtain ⟨r3, hr3, h⟩ := Option.bind_eq_some_iff.1 h
  refine Wk_regionD fun Z hZ => ?_
  simp only [go_sem, seval, hr1, hr2, hr3]
  repeat with_reducible refine and_bar (by kernel_rfl) ?_
  refine hZ _ (by kernel_rfl) (pp (Wk_ret (pp ?_)))
  cases h
  simp only [go_sem, seval]
  exact ⟨_, rfl, RokI.h, PureI.h⟩
def fs_overlay_Order_1 (N : Nat) : FnS := { own := [], pure := true, fn := fun cs => match cs with
  | [c0, c1, .iref 1 [[c2_0]] 0 0] => ((decI .i64) c0).bind fun qc0 => ((decI .i64) c1).bind fun qc1 => ((decI .i64) c2_0).bind fun qc2_0 => (overlay_Order_1 N qc0 qc1 qc2_0).map fun r => .val (.int .i64 r)
  | _ => none }
attribute [go_sem] fs_overlay_Order_1
theorem fs_overlay_Order_1_ok (N : Nat) : FSOk Try.prog 36 (fs_overlay_Order_1 N) := by
  refine ⟨fun cs r h => ?_, fun h => by cases h⟩
  simp only [fs_overlay_Order_1] at h
  split at h
  · simp only [Option.bind_eq_some_iff, Option.map_eq_some_iff] at h
    obtain ⟨q0, h0, q1, h1, q2, h2, r', hr, rfl⟩ := h
    exact ((w_overlay_Order_1 N q0 q1 q2 r' hr).args (LeL.cons (decI_le h0) (LeL.cons (decI_le h1) (LeL.cons (Le.iref1 (LeL.cons (decI_le h2) (LeL.nil))) (LeL.nil)))))
  · cases h


theorem w_math_bits_Len64 (N : Nat) (a0 : Int) (r : Int) (h : math_bits_Len64 N a0 = some r) : Con Try.prog 64 [] true [.val (.int .u64 a0)] (.val (.int .i64 r)) := by
  refine fun_ok4 (G := (glist [])) Try.func64 rfl (by decide) (by kernel_rfl) gn [] mix (Nat.le_of_ble_eq_true rfl) ?_
  simp only [Try.f64]
  unfold math_bits_Len64 at h
  refine Wk_seq (Wk_regionZ fun Z hZ => ?_)
  simp only [go_sem, seval]
  refine hZ _ (pp ?_)
  apply Wk_join2 (fun (v1 : Int) (v2 : Int) => ⟨tab 25 (updT (updT deadT 0 (.val (.int .u64 v1))) 2 (.val (.int .i64 v2))), RZ⟩)
  · intro hJ1
    refine Wk_seq (Wk_regionZ fun Z hZ => ?_)
    simp only [go_sem, seval]
    refine hZ _ (pp (Wk_cond_dec rfl (fun hc2 => ?_) (fun hc2 => ?_)))
    · have hc2d := decide_eq_true hc2
      rw [if_pos hc2] at h
      refine Wk_seq (Wk_regionZ fun Z hZ => ?_)
      simp only [go_sem, seval, hc2d]
      refine hZ _ (pp (Wk_regionZ fun Z hZ => ?_))
      simp only [go_sem, seval]
      refine hZ _ (pp (hJ1 _ (shrI .u64 a0 32) 32 ?_ h))
      refine weak_roots ?_ ?_ <;> repeat' first | exact xn | exact rn | refine xc ?_ ?_ | refine rc ?_ ?_ ?_ | rfl
    have hc2d := decide_eq_false hc2
    rw [if_neg hc2] at h
    refine Wk_skip (pp (hJ1 _ a0 0 ?_ h))
    refine weak_roots ?_ ?_ <;> repeat' first | exact xn | exact rn | refine xc ?_ ?_ | refine rc ?_ ?_ ?_ | rfl
  intro v1 v2 h
  unfold math_bits_Len64_J3 at h
  apply Wk_join2 (fun (v3 : Int) (v4 : Int) => ⟨tab 25 (updT (updT deadT 0 (.val (.int .u64 v3))) 2 (.val (.int .i64 v4))), RZ⟩)
  · intro hJ3
    refine Wk_seq (Wk_regionZ fun Z hZ => ?_)
    simp only [go_sem, seval]
    refine hZ _ (pp (Wk_cond_dec rfl (fun hc4 => ?_) (fun hc4 => ?_)))
    · have hc4d := decide_eq_true hc4
      rw [if_pos hc4] at h
      refine Wk_seq (Wk_regionZ fun Z hZ => ?_)
      simp only [go_sem, seval, hc4d]
      refine hZ _ (pp (Wk_regionZ fun Z hZ => ?_))
      simp only [go_sem, seval]
      refine hZ _ (pp (hJ3 _ (shrI .u64 v1 16) (IntKind.i64.wrap (v2 + 16)) ?_ h))
      refine weak_roots ?_ ?_ <;> repeat' first | exact xn | exact rn | refine xc ?_ ?_ | refine rc ?_ ?_ ?_ | rfl
    have hc4d := decide_eq_false hc4
    rw [if_neg hc4] at h
    refine Wk_skip (pp (hJ3 _ v1 v2 ?_ h))
    refine weak_roots ?_ ?_ <;> repeat' first | exact xn | exact rn | refine xc ?_ ?_ | refine rc ?_ ?_ ?_ | rfl
  intro v3 v4 h
  unfold math_bits_Len64_J2 at h
  apply Wk_join2 (fun (v5 : Int) (v6 : Int) => ⟨tab 25 (updT (updT deadT 0 (.val (.int .u64 v5))) 2 (.val (.int .i64 v6))), RZ⟩)
  · intro hJ5
    refine Wk_seq (Wk_regionZ fun Z hZ => ?_)
    simp only [go_sem, seval]
    refine hZ _ (pp (Wk_cond_dec rfl (fun hc6 => ?_) (fun hc6 => ?_)))
    · have hc6d := decide_eq_true hc6
      rw [if_pos hc6] at h
      refine Wk_seq (Wk_regionZ fun Z hZ => ?_)
      simp only [go_sem, seval, hc6d]
      refine hZ _ (pp (Wk_regionZ fun Z hZ => ?_))
      simp only [go_sem, seval]
      refine hZ _ (pp (hJ5 _ (shrI .u64 v3 8) (IntKind.i64.wrap (v4 + 8)) ?_ h))
      refine weak_roots ?_ ?_ <;> repeat' first | exact xn | exact rn | refine xc ?_ ?_ | refine rc ?_ ?_ ?_ | rfl
    have hc6d := decide_eq_false hc6
    rw [if_neg hc6] at h
    refine Wk_skip (pp (hJ5 _ v3 v4 ?_ h))
    refine weak_roots ?_ ?_ <;> repeat' first | exact xn | exact rn | refine xc ?_ ?_ | refine rc ?_ ?_ ?_ | rfl
  intro v5 v6 h
  unfold math_bits_Len64_J1 at h
  refine Wk_seq ?_
  obtain ⟨b7, hb7, hx8, h⟩ := gxs_some h
  refine Wk_regionZ fun Z hZ => ?_
  simp only [go_sem, seval, hb7, hx8]
  refine hZ _ (pp (Wk_ret (pp ?_)))
  cases h
  simp only [go_sem, seval]
  exact ⟨_, rfl, RokI.h, PureI.h⟩
def fs_math_bits_Len64 (N : Nat) : FnS := ⟨[], true, fn1 (decI .u64) fun q0 => (math_bits_Len64 N q0).map fun r => .val (.int .i64 r), false⟩
attribute [go_sem] fs_math_bits_Len64
theorem fs_math_bits_Len64_ok (N : Nat) : FSOk Try.prog 64 (fs_math_bits_Len64 N) := ok1 (fun q0 r h => by
  obtain ⟨r', hr, rfl⟩ := Option.map_eq_some_iff.1 h
  exact w_math_bits_Len64 N q0 r' hr) (decI_le)


noncomputable def G_math_bits_Len (N d f : Nat) : Option FnS := glist [(7, 64, fs_math_bits_Len64 N)] d f
attribute [go_sem] G_math_bits_Len
theorem w_math_bits_Len (N : Nat) (a0 : Int) (r : Int) (h : math_bits_Len N a0 = some r) : Con Try.prog 50 [] true [.val (.int .u64 a0)] (.val (.int .i64 r)) := by
  refine fun_ok4 (G := (G_math_bits_Len N)) Try.func50 rfl (by decide) (by kernel_rfl) (gc 7 (fs_math_bits_Len64_ok N) gn) [] mix (Nat.le_of_ble_eq_true rfl) ?_
  simp only [Try.f50]
  unfold math_bits_Len at h
  refine Wk_seq (Wk_regionZ fun Z hZ => ?_)
  simp only [go_sem, seval]
  refine hZ _ (pp (Wk_seq (Wk_cond_f rfl ?_)))
  first | rw [if_pos (rfl : true = true)] at h | rw [if_neg Bool.false_ne_true] at h | skip
  refine Wk_skip (pp (Wk_seq ?_))
  obtain ⟨r1, hr1, h⟩ := Option.bind_eq_some_iff.1 h
  refine Wk_regionZ fun Z hZ => ?_
  simp only [go_sem, seval, hr1]
  refine hZ _ (pp (Wk_ret (pp ?_)))
  cases h
  simp only [go_sem, seval]
  exact ⟨_, rfl, RokI.h, PureI.h⟩
def fs_math_bits_Len (N : Nat) : FnS := ⟨[], true, fn1 (decI .u64) fun q0 => (math_bits_Len N q0).map fun r => .val (.int .i64 r), false⟩
attribute [go_sem] fs_math_bits_Len
theorem fs_math_bits_Len_ok (N : Nat) : FSOk Try.prog 50 (fs_math_bits_Len N) := ok1 (fun q0 r h => by
  obtain ⟨r', hr, rfl⟩ := Option.map_eq_some_iff.1 h
  exact w_math_bits_Len N q0 r' hr) (decI_le)


noncomputable def G_slices_insertionSortCmpFunc_int_overlay_Order_1_cut (N d f : Nat) : Option FnS := glist [(32, 36, fs_overlay_Order_1 N)] d f
attribute [go_sem] G_slices_insertionSortCmpFunc_int_overlay_Order_1_cut
theorem len_slices_insertionSortCmpFunc_int_overlay_Order_1_cut (N : Nat) (a0 : (List Int)) (a1 : Int) (a2 : Int) (k3_0_0 : Int) (r : (List Int)) (h : slices_insertionSortCmpFunc_int_overlay_Order_1_cut N a0 a1 a2 k3_0_0 = some r) : (r).length = a0.length := by
  unfold slices_insertionSortCmpFunc_int_overlay_Order_1_cut at h; exact (lenM_some h).2
theorem w_slices_insertionSortCmpFunc_int_overlay_Order_1_cut (N : Nat) (a0 : (List Int)) (a1 : Int) (a2 : Int) (k3_0_0 : Int) (r : (List Int)) (h : slices_insertionSortCmpFunc_int_overlay_Order_1_cut N a0 a1 a2 k3_0_0 = some r) : ConL Try.prog 55 1 [.sl true none 1 none (a0.map (rowI .i64)), .val (.int .i64 a1), .val (.int .i64 a2), .clo 36 [.iref 1 [[.val (.int .i64 k3_0_0)]] 0 0]] (.tup []) [.sl true none 1 none (r.map (rowI .i64))] := by
  unfold slices_insertionSortCmpFunc_int_overlay_Order_1_cut at h
  obtain ⟨h, hlen⟩ := lenM_some h
  refine fun_lent5 (G := (G_slices_insertionSortCmpFunc_int_overlay_Order_1_cut N)) (L := noL) Try.func55 rfl (by decide) (by kernel_rfl) 1 (by kernel_rfl) (gc 32 (fs_overlay_Order_1_ok N) gn) (fun _ _ _ h => by cases h) [] mix (Nat.le_of_ble_eq_true rfl) (Nat.le_of_ble_eq_true rfl) rfl (by simp [lentSh, hlen]) ?_
  simp only [Try.f55]
  refine Wk_seq (Wk_regionZ fun Z hZ => ?_)
  simp only [go_sem, seval]
  refine hZ _ (pp (Wk_block (Wk_fuel (fun (b : Int) => ⟨tab 53 (updT (updT (updT (updT (updT deadT 0 (.pal 0 [] 0 a0.length none)) 1 (.val (.int .i64 a1))) 2 (.val (.int .i64 a2))) 3 (.clo 36 [.iref 1 [[.val (.int .i64 k3_0_0)]] 0 0])) 8 (.val (.int .i64 b))), (upd RZ 0 (.sl true none 1 none (a0.map (rowI .i64))))⟩) (IntKind.i64.wrap (a1 + 1)) h ?_ ?_)))
  · refine weak_roots ?_ ?_ <;> repeat' first | exact xn | exact rn | refine xc ?_ ?_ | refine rc ?_ ?_ ?_ | rfl
  rintro n v1 h -
  cases n with
  | zero => simp [slices_insertionSortCmpFunc_int_overlay_Order_1_cut_L1] at h
  | succ n =>
  simp only [slices_insertionSortCmpFunc_int_overlay_Order_1_cut_L1] at h
  refine Wk_seq (Wk_seq (Wk_regionZ fun Z hZ => ?_))
  simp only [go_sem, seval]
  refine hZ _ (pp (sw (Wk_cond_dec rfl) (fun hc1 => ?_) (fun hc1 => ?_)))
  · have hc1d := decide_eq_false hc1
    rw [if_neg hc1] at h
    refine Wk_exit (pp ?_)
    obtain rfl := Option.some.inj h
    refine FinL_mk (.inr rfl) (Weak.refl _) (by simp only [go_sem, seval, hc1d]; rfl) (by simp only [go_sem, seval]; rfl) (by (try simp only [go_sem, seval, Bool.or_self, List.length_set, Int.natCast_zero, Int.cast_ofNat_Int, hc1d]); first | exact Le.refl _ | exact LeI.h) ?_
    exact el_cons (by simp only [go_sem, seval, hc1d] <;> rfl) (by simp only [go_sem, seval] <;> rfl) (el_nil)
  have hc1d := decide_eq_true hc1
  rw [if_pos hc1] at h
  refine Wk_skip (pp (Wk_seq (Wk_block (Wk_seq (Wk_regionZ fun Z hZ => ?_)))))
  simp only [go_sem, seval, hc1d]
  refine hZ _ (pp (Wk_block (Wk_fuel (fun (b : Unit) => ⟨tab 53 (updT (updT (updT (updT (updT (updT deadT 0 (.pal 0 [] 0 a0.length none)) 1 (.val (.int .i64 a1))) 2 (.val (.int .i64 a2))) 3 (.clo 36 [.iref 1 [[.val (.int .i64 k3_0_0)]] 0 0])) 8 (.val (.int .i64 v1))) 9 (.val (.int .i64 v1))), (upd RZ 0 (.sl true none 1 none (a0.map (rowI .i64))))⟩) () h ?_ ?_)))
  · refine weak_roots ?_ ?_ <;> repeat' first | exact xn | exact rn | refine xc ?_ ?_ | refine rc ?_ ?_ ?_ | rfl
  rintro n ⟨⟩ h -
  cases n with
  | zero => simp [slices_insertionSortCmpFunc_int_overlay_Order_1_cut_L2] at h
  | succ n =>
  simp only [slices_insertionSortCmpFunc_int_overlay_Order_1_cut_L2] at h
  refine Wk_seq ?_
  apply Wk_join1 (fun (c9 : Bool) => ⟨tab 53 (updT (updT (updT (updT (updT (updT (updT deadT 0 (.pal 0 [] 0 a0.length none)) 1 (.val (.int .i64 a1))) 2 (.val (.int .i64 a2))) 3 (.clo 36 [.iref 1 [[.val (.int .i64 k3_0_0)]] 0 0])) 8 (.val (.int .i64 v1))) 9 (.val (.int .i64 v1))) 34 (.val (.bool c9))), (upd RZ 0 (.sl true none 1 none (a0.map (rowI .i64))))⟩)
  · intro hJ2
    refine Wk_regionD fun Z hZ => ?_
    simp only [go_sem, seval]
    refine sw (RX_guard_dec rfl) (fun hc3 => ?_) (fun hc3 => ?_)
    · have hc3d := decide_eq_false hc3
      rw [if_neg hc3] at h
      simp only [go_sem, seval, hc3d]
      refine hZ _ (by kernel_rfl) (pp (hJ2 _ false ?_ h))
      refine weak_roots ?_ ?_ <;> repeat' first | exact xn | exact rn | refine xc ?_ ?_ | refine rc ?_ ?_ ?_ | rfl
    have hc3d := decide_eq_true hc3
    rw [if_pos hc3] at h
    obtain ⟨x10, hb4, hx5, h⟩ := gx_some h
    obtain ⟨x11, hb6, hx7, h⟩ := gx_some h
    obtain ⟨r12, hr8, h⟩ := Option.bind_eq_some_iff.1 h
    simp only [go_sem, seval, hc3d, hb4, hx5, hb6, hx7, hr8]
    repeat with_reducible refine and_bar (by kernel_rfl) ?_
    refine hZ _ (by kernel_rfl) (pp (hJ2 _ (decide (r12 < 0)) ?_ h))
    refine weak_roots ?_ ?_ <;> repeat' first | exact xn | exact rn | refine xc ?_ ?_ | refine rc ?_ ?_ ?_ | rfl
  intro c9 h
  unfold slices_insertionSortCmpFunc_int_overlay_Order_1_cut_J1 at h
  refine Wk_cond_bool rfl (fun hc9 => ?_) (fun hc9 => ?_)
  · rw [if_pos hc9] at h
    refine Wk_skip (pp ?_)
    unfold slices_insertionSortCmpFunc_int_overlay_Order_1_cut_J2 at h
    refine Wk_seq (Wk_block ?_)
    obtain ⟨x13, hb10, hx11, h⟩ := gx_some h
    obtain ⟨x14, hb12, hx13, h⟩ := gx_some h
    cases h
  rw [if_neg (ne_true_of_eq_false hc9)] at h
  refine Wk_exit (pp (Wk_regionZ fun Z hZ => ?_))
  simp only [go_sem, seval, hc9]
  refine hZ _ (pp (⟨_, Nat.lt_succ_self _, (IntKind.i64.wrap (v1 + 1)), ?_, h⟩))
  refine weak_roots ?_ ?_ <;> repeat' first | exact xn | exact rn | refine xc ?_ ?_ | refine rc ?_ ?_ ?_ | rfl
def fl_slices_insertionSortCmpFunc_int_overlay_Order_1_cut (N : Nat) : FnL := ⟨1, fun cs rest => match cs, rest with
  | [v0], [c1, c2, .clo 36 [.iref 1 [[k3_0_0]] 0 0]] => (lst1 1 (dec1 (decI .i64)) v0).bind fun q0 => ((decI .i64) c1).bind fun q1 => ((decI .i64) c2).bind fun q2 => ((decI .i64) k3_0_0).bind fun q3 => (slices_insertionSortCmpFunc_int_overlay_Order_1_cut N q0 q1 q2 q3).map fun r => (.tup [], [.sl true none 1 none (r.map (rowI .i64))])
  | _, _ => none⟩
attribute [go_sem] fl_slices_insertionSortCmpFunc_int_overlay_Order_1_cut
theorem fl_slices_insertionSortCmpFunc_int_overlay_Order_1_cut_ok (N : Nat) : FLOk Try.prog 55 (fl_slices_insertionSortCmpFunc_int_overlay_Order_1_cut N) := by
  intro cs rest r ls hlen h
  simp only [fl_slices_insertionSortCmpFunc_int_overlay_Order_1_cut] at h
  split at h
  · simp only [Option.bind_eq_some_iff, Option.map_eq_some_iff] at h
    obtain ⟨q0, h0, q1, h1, q2, h2, q3, h3, r', hr, he⟩ := h
    cases he
    exact ConL.told rfl rfl (lv_cons (lst1_ok (rowI_ok .i64) (decI1_le .i64) h0) (lv_nil)) ((LeL.cons (decI_le h1) (LeL.cons (decI_le h2) (LeL.cons (Le.clo (LeL.cons (Le.iref1 (LeL.cons (decI_le h3) (LeL.nil))) (LeL.nil))) (LeL.nil))))) (w_slices_insertionSortCmpFunc_int_overlay_Order_1_cut N q0 q1 q2 q3 r' hr)
  · cases h


noncomputable def L_slices_pdqsortCmpFunc_int_overlay_Order_1_cut (N d f : Nat) : Option FnL := llist [(30, 55, fl_slices_insertionSortCmpFunc_int_overlay_Order_1_cut N)] d f
attribute [go_sem] L_slices_pdqsortCmpFunc_int_overlay_Order_1_cut
theorem len_slices_pdqsortCmpFunc_int_overlay_Order_1_cut (N : Nat) (a0 : (List Int)) (a1 : Int) (a2 : Int) (a3 : Int) (k4_0_0 : Int) (r : (List Int)) (h : slices_pdqsortCmpFunc_int_overlay_Order_1_cut N a0 a1 a2 a3 k4_0_0 = some r) : (r).length = a0.length := by
  unfold slices_pdqsortCmpFunc_int_overlay_Order_1_cut at h; exact (lenM_some h).2
theorem w_slices_pdqsortCmpFunc_int_overlay_Order_1_cut (N : Nat) (a0 : (List Int)) (a1 : Int) (a2 : Int) (a3 : Int) (k4_0_0 : Int) (r : (List Int)) (h : slices_pdqsortCmpFunc_int_overlay_Order_1_cut N a0 a1 a2 a3 k4_0_0 = some r) : ConL Try.prog 49 1 [.sl true none 1 none (a0.map (rowI .i64)), .val (.int .i64 a1), .val (.int .i64 a2), .val (.int .i64 a3), .clo 36 [.iref 1 [[.val (.int .i64 k4_0_0)]] 0 0]] (.tup []) [.sl true none 1 none (r.map (rowI .i64))] := by
  unfold slices_pdqsortCmpFunc_int_overlay_Order_1_cut at h
  obtain ⟨h, hlen⟩ := lenM_some h
  refine fun_lent5 (G := (glist [])) (L := (L_slices_pdqsortCmpFunc_int_overlay_Order_1_cut N)) Try.func49 rfl (by decide) (by kernel_rfl) 1 (by kernel_rfl) gn (lc 30 (fl_slices_insertionSortCmpFunc_int_overlay_Order_1_cut_ok N) ln) [] mix (Nat.le_of_ble_eq_true rfl) (Nat.le_of_ble_eq_true rfl) rfl (by simp [lentSh, hlen]) ?_
  simp only [Try.f49]
  refine Wk_seq (Wk_regionZ fun Z hZ => ?_)
  simp only [go_sem, seval]
  refine hZ _ (pp (Wk_seq (Wk_regionZ fun Z hZ => ?_)))
  simp only [go_sem, seval]
  refine hZ _ (pp (Wk_block (Wk_fuel (fun (b : Unit) => ⟨tab 148 (updT (updT (updT (updT (updT (updT (updT deadT 0 (.pal 0 [] 0 a0.length none)) 1 (.val (.int .i64 a1))) 2 (.val (.int .i64 a2))) 3 (.val (.int .i64 a3))) 4 (.clo 36 [.iref 1 [[.val (.int .i64 k4_0_0)]] 0 0])) 10 (.val (.bool true))) 11 (.val (.bool true))), (upd RZ 0 (.sl true none 1 none (a0.map (rowI .i64))))⟩) () h ?_ ?_)))
  · refine weak_roots ?_ ?_ <;> repeat' first | exact xn | exact rn | refine xc ?_ ?_ | refine rc ?_ ?_ ?_ | rfl
  rintro n ⟨⟩ h -
  cases n with
  | zero => simp [slices_pdqsortCmpFunc_int_overlay_Order_1_cut_L1] at h
  | succ n =>
  simp only [slices_pdqsortCmpFunc_int_overlay_Order_1_cut_L1] at h
  refine Wk_block (Wk_seq (Wk_regionZ fun Z hZ => ?_))
  simp only [go_sem, seval]
  refine hZ _ (pp (Wk_seq (Wk_seq (Wk_regionZ fun Z hZ => ?_))))
  simp only [go_sem, seval]
  refine hZ _ (pp (sw (Wk_cond_dec rfl) (fun hc1 => ?_) (fun hc1 => ?_)))
  · have hc1d := decide_eq_false hc1
    rw [if_neg hc1] at h
    refine Wk_skip (pp (Wk_seq (Wk_seq (Wk_regionZ fun Z hZ => ?_))))
    simp only [go_sem, seval, hc1d]
    refine hZ _ (pp (Wk_cond_dec rfl (fun hc3 => ?_) (fun hc3 => ?_)))
    · have hc3d := decide_eq_true hc3
      rw [if_pos hc3] at h
      refine Wk_seq ?_
      cases h
    have hc3d := decide_eq_false hc3
    rw [if_neg hc3] at h
    refine Wk_skip (pp (Wk_seq (Wk_seq (Wk_regionZ fun Z hZ => ?_))))
    simp only [go_sem, seval, hc3d]
    refine hZ _ (pp (Wk_cond_f rfl ?_))
    first | rw [if_pos (rfl : true = true)] at h | rw [if_neg Bool.false_ne_true] at h | skip
    refine Wk_skip (pp (Wk_seq ?_))
    cases h
  have hc1d := decide_eq_true hc1
  rw [if_pos hc1] at h
  refine Wk_seq ?_
  obtain ⟨r1, hr2, h⟩ := Option.bind_eq_some_iff.1 h
  refine Wk_regionZ fun Z hZ => ?_
  simp only [go_sem, seval, hc1d, hr2, len_slices_insertionSortCmpFunc_int_overlay_Order_1_cut N a0 a1 a2 k4_0_0 r1 hr2]
  refine hZ _ (pp (Wk_ret (pp ?_)))
  obtain rfl := Option.some.inj h
  refine FinL_mk (.inl rfl) (Weak.refl _) (by simp only [go_sem, seval]; rfl) (by simp only [go_sem, seval]; rfl) (by (try simp only [go_sem, seval, Bool.or_self, List.length_set, Int.natCast_zero, Int.cast_ofNat_Int, hc1d, hr2, len_slices_insertionSortCmpFunc_int_overlay_Order_1_cut N a0 a1 a2 k4_0_0 r1 hr2, List.take_of_length_le (Nat.le_of_eq (len_slices_insertionSortCmpFunc_int_overlay_Order_1_cut N a0 a1 a2 k4_0_0 r1 hr2))]); first | exact Le.refl _ | exact LeI.h) ?_
  exact el_cons (by simp only [go_sem, seval, len_slices_insertionSortCmpFunc_int_overlay_Order_1_cut N a0 a1 a2 k4_0_0 r1 hr2] <;> rfl) (by simp only [go_sem, seval] <;> rfl) (el_nil)
def fl_slices_pdqsortCmpFunc_int_overlay_Order_1_cut (N : Nat) : FnL := ⟨1, fun cs rest => match cs, rest with
  | [v0], [c1, c2, c3, .clo 36 [.iref 1 [[k4_0_0]] 0 0]] => (lst1 1 (dec1 (decI .i64)) v0).bind fun q0 => ((decI .i64) c1).bind fun q1 => ((decI .i64) c2).bind fun q2 => ((decI .i64) c3).bind fun q3 => ((decI .i64) k4_0_0).bind fun q4 => (slices_pdqsortCmpFunc_int_overlay_Order_1_cut N q0 q1 q2 q3 q4).map fun r => (.tup [], [.sl true none 1 none (r.map (rowI .i64))])
  | _, _ => none⟩
attribute [go_sem] fl_slices_pdqsortCmpFunc_int_overlay_Order_1_cut
theorem fl_slices_pdqsortCmpFunc_int_overlay_Order_1_cut_ok (N : Nat) : FLOk Try.prog 49 (fl_slices_pdqsortCmpFunc_int_overlay_Order_1_cut N) := by
  intro cs rest r ls hlen h
  simp only [fl_slices_pdqsortCmpFunc_int_overlay_Order_1_cut] at h
  split at h
  · simp only [Option.bind_eq_some_iff, Option.map_eq_some_iff] at h
    obtain ⟨q0, h0, q1, h1, q2, h2, q3, h3, q4, h4, r', hr, he⟩ := h
    cases he
    exact ConL.told rfl rfl (lv_cons (lst1_ok (rowI_ok .i64) (decI1_le .i64) h0) (lv_nil)) ((LeL.cons (decI_le h1) (LeL.cons (decI_le h2) (LeL.cons (decI_le h3) (LeL.cons (Le.clo (LeL.cons (Le.iref1 (LeL.cons (decI_le h4) (LeL.nil))) (LeL.nil))) (LeL.nil)))))) (w_slices_pdqsortCmpFunc_int_overlay_Order_1_cut N q0 q1 q2 q3 q4 r' hr)
  · cases h


noncomputable def G_slices_SortFunc_int_overlay_Order_1_small (N d f : Nat) : Option FnS := glist [(11, 50, fs_math_bits_Len N)] d f
attribute [go_sem] G_slices_SortFunc_int_overlay_Order_1_small
noncomputable def L_slices_SortFunc_int_overlay_Order_1_small (N d f : Nat) : Option FnL := llist [(13, 49, fl_slices_pdqsortCmpFunc_int_overlay_Order_1_cut N)] d f
attribute [go_sem] L_slices_SortFunc_int_overlay_Order_1_small
theorem len_slices_SortFunc_int_overlay_Order_1_small (N : Nat) (a0 : (List Int)) (k1_0_0 : Int) (r : (List Int)) (h : slices_SortFunc_int_overlay_Order_1_small N a0 k1_0_0 = some r) : (r).length = a0.length := by
  unfold slices_SortFunc_int_overlay_Order_1_small at h; exact (lenM_some h).2
theorem w_slices_SortFunc_int_overlay_Order_1_small (N : Nat) (a0 : (List Int)) (k1_0_0 : Int) (r : (List Int)) (h : slices_SortFunc_int_overlay_Order_1_small N a0 k1_0_0 = some r) : ConL Try.prog 35 1 [.sl true none 1 none (a0.map (rowI .i64)), .clo 36 [.iref 1 [[.val (.int .i64 k1_0_0)]] 0 0]] (.tup []) [.sl true none 1 none (r.map (rowI .i64))] := by
  unfold slices_SortFunc_int_overlay_Order_1_small at h
  obtain ⟨h, hlen⟩ := lenM_some h
  refine fun_lent5 (G := (G_slices_SortFunc_int_overlay_Order_1_small N)) (L := (L_slices_SortFunc_int_overlay_Order_1_small N)) Try.func35 rfl (by decide) (by kernel_rfl) 1 (by kernel_rfl) (gc 11 (fs_math_bits_Len_ok N) gn) (lc 13 (fl_slices_pdqsortCmpFunc_int_overlay_Order_1_cut_ok N) ln) [] mix (Nat.le_of_ble_eq_true rfl) (Nat.le_of_ble_eq_true rfl) rfl (by simp [lentSh, hlen]) ?_
  simp only [Try.f35]
  refine Wk_seq (Wk_regionZ fun Z hZ => ?_)
  simp only [go_sem, seval]
  refine hZ _ (pp ?_)
  obtain ⟨r1, hr1, h⟩ := Option.bind_eq_some_iff.1 h
  obtain ⟨r2, hr2, h⟩ := Option.bind_eq_some_iff.1 h
  refine Wk_regionZ fun Z hZ => ?_
  simp only [go_sem, seval, hr1, hr2, len_slices_pdqsortCmpFunc_int_overlay_Order_1_cut N a0 0 ((a0.length : Nat) : Int) r1 k1_0_0 r2 hr2]
  refine hZ _ (pp ?_)
  obtain rfl := Option.some.inj h
  refine FinL_mk (.inr rfl) (Weak.refl _) (by simp only [go_sem, seval]; rfl) (by simp only [go_sem, seval]; rfl) (by (try simp only [go_sem, seval, Bool.or_self, List.length_set, Int.natCast_zero, Int.cast_ofNat_Int, hr1, hr2, len_slices_pdqsortCmpFunc_int_overlay_Order_1_cut N a0 0 ((a0.length : Nat) : Int) r1 k1_0_0 r2 hr2, List.take_of_length_le (Nat.le_of_eq (len_slices_pdqsortCmpFunc_int_overlay_Order_1_cut N a0 0 ((a0.length : Nat) : Int) r1 k1_0_0 r2 hr2))]); first | exact Le.refl _ | exact LeI.h) ?_
  exact el_cons (by simp only [go_sem, seval, len_slices_pdqsortCmpFunc_int_overlay_Order_1_cut N a0 0 ((a0.length : Nat) : Int) r1 k1_0_0 r2 hr2] <;> rfl) (by simp only [go_sem, seval] <;> rfl) (el_nil)
def fl_slices_SortFunc_int_overlay_Order_1_small (N : Nat) : FnL := ⟨1, fun cs rest => match cs, rest with
  | [v0], [.clo 36 [.iref 1 [[k1_0_0]] 0 0]] => (lst1 1 (dec1 (decI .i64)) v0).bind fun q0 => ((decI .i64) k1_0_0).bind fun q1 => (slices_SortFunc_int_overlay_Order_1_small N q0 q1).map fun r => (.tup [], [.sl true none 1 none (r.map (rowI .i64))])
  | _, _ => none⟩
attribute [go_sem] fl_slices_SortFunc_int_overlay_Order_1_small
theorem fl_slices_SortFunc_int_overlay_Order_1_small_ok (N : Nat) : FLOk Try.prog 35 (fl_slices_SortFunc_int_overlay_Order_1_small N) := by
  intro cs rest r ls hlen h
  simp only [fl_slices_SortFunc_int_overlay_Order_1_small] at h
  split at h
  · simp only [Option.bind_eq_some_iff, Option.map_eq_some_iff] at h
    obtain ⟨q0, h0, q1, h1, r', hr, he⟩ := h
    cases he
    exact ConL.told rfl rfl (lv_cons (lst1_ok (rowI_ok .i64) (decI1_le .i64) h0) (lv_nil)) ((LeL.cons (Le.clo (LeL.cons (Le.iref1 (LeL.cons (decI_le h1) (LeL.nil))) (LeL.nil))) (LeL.nil))) (w_slices_SortFunc_int_overlay_Order_1_small N q0 q1 r' hr)
  · cases h


def ren_slices_SortFunc_int_overlay_Order_1 : Go.Shelf.Ren := ⟨fun | 6 => 35 | 14 => 49 | 15 => 50 | 20 => 55 | 21 => 56 | 22 => 57 | 23 => 58 | 24 => 59 | 25 => 60 | 26 => 61 | 27 => 62 | 28 => 63 | 29 => 64 | 46 => 77 | 47 => 78 | 48 => 79 | 49 => 80 | 50 => 81 | 57 => 86 | n => n, fun | 0 => 0 | 3 => 3 | 4 => 4 | 5 => 5 | 9 => 9 | 22 => 22 | 24 => 3 | 25 => 40 | 39 => 50 | 45 => 55 | 46 => 56 | 50 => 60 | 53 => 63 | 55 => 36 | 66 => 75 | 70 => 79 | 76 => 83 | 77 => 84 | n => n, fun n => n⟩
theorem lay_slices_SortFunc_int_overlay_Order_1 : Go.Proofs.SlLaysF.n6 Try.prog ren_slices_SortFunc_int_overlay_Order_1 where
  mixed := by kernel_rfl
  f6 := ⟨Try.f35.name, by decide, Try.func35.trans (congrArg some (by kernel_rfl))⟩
  f14 := ⟨Try.f49.name, by decide, Try.func49.trans (congrArg some (by kernel_rfl))⟩
  f15 := Try.func50.trans (congrArg some (by kernel_rfl))
  f20 := ⟨Try.f55.name, by decide, Try.func55.trans (congrArg some (by kernel_rfl))⟩
  f21 := ⟨Try.f56.name, by decide, Try.func56.trans (congrArg some (by kernel_rfl))⟩
  f22 := ⟨Try.f57.name, by decide, Try.func57.trans (congrArg some (by kernel_rfl))⟩
  f23 := ⟨Try.f58.name, by decide, Try.func58.trans (congrArg some (by kernel_rfl))⟩
  f24 := ⟨Try.f59.name, by decide, Try.func59.trans (congrArg some (by kernel_rfl))⟩
  f25 := ⟨Try.f60.name, by decide, Try.func60.trans (congrArg some (by kernel_rfl))⟩
  f26 := ⟨Try.f61.name, by decide, Try.func61.trans (congrArg some (by kernel_rfl))⟩
  f27 := ⟨Try.f62.name, by decide, Try.func62.trans (congrArg some (by kernel_rfl))⟩
  f28 := Try.func63.trans (congrArg some (by kernel_rfl))
  f29 := Try.func64.trans (congrArg some (by kernel_rfl))
  f46 := ⟨Try.f77.name, by decide, Try.func77.trans (congrArg some (by kernel_rfl))⟩
  f47 := Try.func78.trans (congrArg some (by kernel_rfl))
  f48 := Try.func79.trans (congrArg some (by kernel_rfl))
  f49 := ⟨Try.f80.name, by decide, Try.func80.trans (congrArg some (by kernel_rfl))⟩
  f50 := ⟨Try.f81.name, by decide, Try.func81.trans (congrArg some (by kernel_rfl))⟩
  f57 := ⟨Try.f86.name, by decide, Try.func86.trans (congrArg some (by kernel_rfl))⟩
  t0 := Try.underlying0
  a0 := Try.isAgg0
  z0 := Try.sizeOf0
  v0 := Try.zeroValue0
  t3 := Try.underlying3
  a3 := Try.isAgg3
  z3 := Try.sizeOf3
  v3 := Try.zeroValue3
  t4 := Try.underlying4
  a4 := Try.isAgg4
  z4 := Try.sizeOf4
  v4 := Try.zeroValue4
  t5 := Try.underlying5
  a5 := Try.isAgg5
  z5 := Try.sizeOf5
  v5 := Try.zeroValue5
  t9 := Try.underlying9
  a9 := Try.isAgg9
  z9 := Try.sizeOf9
  v9 := Try.zeroValue9
  t22 := Try.underlying22
  a22 := Try.isAgg22
  z22 := Try.sizeOf22
  v22 := Try.zeroValue22
  a24 := Try.isAgg3
  z24 := Try.sizeOf3
  t25 := Try.underlying40
  a25 := Try.isAgg40
  z25 := Try.sizeOf40
  v25 := Try.zeroValue40
  t39 := Try.underlying50
  a39 := Try.isAgg50
  z39 := Try.sizeOf50
  v39 := Try.zeroValue50
  t45 := Try.underlying55
  a45 := Try.isAgg55
  z45 := Try.sizeOf55
  v45 := Try.zeroValue55
  t46 := Try.underlying56
  a46 := Try.isAgg56
  z46 := Try.sizeOf56
  v46 := Try.zeroValue56
  t50 := Try.underlying60
  a50 := Try.isAgg60
  z50 := Try.sizeOf60
  v50 := Try.zeroValue60
  t53 := Try.underlying63
  a53 := Try.isAgg63
  z53 := Try.sizeOf63
  v53 := Try.zeroValue63
  t55 := Try.underlying36
  a55 := Try.isAgg36
  z55 := Try.sizeOf36
  v55 := Try.zeroValue36
  t66 := Try.underlying75
  a66 := Try.isAgg75
  z66 := Try.sizeOf75
  v66 := Try.zeroValue75
  t70 := Try.underlying79
  a70 := Try.isAgg79
  z70 := Try.sizeOf79
  v70 := Try.zeroValue79
  t76 := Try.underlying83
  a76 := Try.isAgg83
  z76 := Try.sizeOf83
  v76 := Try.zeroValue83
  t77 := Try.underlying84
  a77 := Try.isAgg84
  z77 := Try.sizeOf84
  v77 := Try.zeroValue84
theorem len_slices_SortFunc_int_overlay_Order_1 (N : Nat) (a0 : (List Int)) (k1_0_0 : Int) (r : (List Int)) (h : slices_SortFunc_int_overlay_Order_1 N a0 k1_0_0 = some r) : (r).length = a0.length := by
  unfold slices_SortFunc_int_overlay_Order_1 at h
  split at h
  · exact len_slices_SortFunc_int_overlay_Order_1_small N a0 k1_0_0 r h
  · exact sortM_len h
theorem w_slices_SortFunc_int_overlay_Order_1 (N : Nat) (a0 : (List Int)) (k1_0_0 : Int) (r : (List Int)) (h : slices_SortFunc_int_overlay_Order_1 N a0 k1_0_0 = some r) : ConL Try.prog 35 1 [.sl true none 1 none (a0.map (rowI .i64)), .clo 36 [.iref 1 [[.val (.int .i64 k1_0_0)]] 0 0]] (.tup []) [.sl true none 1 none (r.map (rowI .i64))] := by
  unfold slices_SortFunc_int_overlay_Order_1 at h
  split at h
  · exact w_slices_SortFunc_int_overlay_Order_1_small N a0 k1_0_0 r h
  · rename_i hne
    obtain ⟨h1, h2, h3, rfl⟩ := sortM_some h
    refine sort1_con lay_slices_SortFunc_int_overlay_Order_1 (Value.int .i64) (fun _ => rfl) (rowI .i64) (fun _ => rfl) rfl (enters_of Try.func35 (by kernel_rfl) rfl) (enters_of Try.func36 (by kernel_rfl) rfl) h2 (fun x y => ⟨true, ?_⟩) (fun e => hne (by rw [e]; rfl)) h3
    obtain ⟨z, hz⟩ := h1 x y
    have hw := w_overlay_Order_1 N x y k1_0_0 z hz
    show Con Try.prog 36 [] true _ (.val (.int .i64 ((overlay_Order_1 N x y k1_0_0).getD 0)))
    rw [hz]
    exact hw
noncomputable def fl_slices_SortFunc_int_overlay_Order_1 (N : Nat) : FnL := ⟨1, fun cs rest => match cs, rest with
  | [v0], [.clo 36 [.iref 1 [[k1_0_0]] 0 0]] => (lst1 1 (dec1 (decI .i64)) v0).bind fun q0 => ((decI .i64) k1_0_0).bind fun q1 => (slices_SortFunc_int_overlay_Order_1 N q0 q1).map fun r => (.tup [], [.sl true none 1 none (r.map (rowI .i64))])
  | _, _ => none⟩
attribute [go_sem] fl_slices_SortFunc_int_overlay_Order_1
theorem fl_slices_SortFunc_int_overlay_Order_1_ok (N : Nat) : FLOk Try.prog 35 (fl_slices_SortFunc_int_overlay_Order_1 N) := by
  intro cs rest r ls hlen h
  simp only [fl_slices_SortFunc_int_overlay_Order_1] at h
  split at h
  · simp only [Option.bind_eq_some_iff, Option.map_eq_some_iff] at h
    obtain ⟨q0, h0, q1, h1, r', hr, he⟩ := h
    cases he
    exact ConL.told rfl rfl (lv_cons (lst1_ok (rowI_ok .i64) (decI1_le .i64) h0) (lv_nil)) ((LeL.cons (Le.clo (LeL.cons (Le.iref1 (LeL.cons (decI_le h1) (LeL.nil))) (LeL.nil))) (LeL.nil))) (w_slices_SortFunc_int_overlay_Order_1 N q0 q1 r' hr)
  · cases h


noncomputable def G_overlay_Order (N d f : Nat) : Option FnS := glist [(7, 26, fs_view_ValidMembers N), (18, 34, fso_slices_Clone_int N)] d f
attribute [go_sem] G_overlay_Order
noncomputable def L_overlay_Order (N d f : Nat) : Option FnL := llist [(21, 35, fl_slices_SortFunc_int_overlay_Order_1 N)] d f
attribute [go_sem] L_overlay_Order
theorem w_overlay_Order (N : Nat) (a0 : (List Int)) (a1 : Int) (r : (List Int)) (h : overlay_Order N a0 a1 = some r) : Con Try.prog 14 [] true [.sl false none 1 none (a0.map (rowI .i64)), .val (.int .i64 a1)] (.sl true none 1 none (r.map (rowI .i64))) := by
  refine fun_ok5 (G := (G_overlay_Order N)) (L := (L_overlay_Order N)) Try.func14 rfl (by decide) (by kernel_rfl) (gc 7 (fs_view_ValidMembers_ok N) (gc 18 (fso_slices_Clone_int_ok N) gn)) (lc 21 (fl_slices_SortFunc_int_overlay_Order_1_ok N) ln) [] mix (Nat.le_of_ble_eq_true rfl) ?_
  simp only [Try.f14]
  unfold overlay_Order at h
  refine Wk_seq (Wk_regionZ fun Z hZ => ?_)
  simp only [go_sem, seval]
  refine hZ _ (pp (Wk_seq ?_))
  apply Wk_join1 (fun (c5 : Bool) => ⟨tab 23 (updT (updT (updT deadT 0 (.sl false none 1 none (a0.map (rowI .i64)))) 3 (.pref 3 [] 0 0)) 16 (.val (.bool c5))), (upd RZ 3 (.sl true none 1 (some 1) [[.val (.int .i64 a1)]]))⟩)
  · intro hJ1
    obtain ⟨r6, hr2, h⟩ := Option.bind_eq_some_iff.1 h
    refine Wk_regionZ fun Z hZ => ?_
    simp only [go_sem, seval, hr2]
    refine RX_guard_nbool rfl (fun hc3 => ?_) (fun hc3 => ?_)
    · rw [if_neg (ne_true_of_eq_false hc3)] at h
      simp only [go_sem, seval, hc3]
      refine hZ _ (pp (hJ1 _ true ?_ h))
      refine weak_roots ?_ ?_ <;> repeat' first | exact xn | exact rn | refine xc ?_ ?_ | refine rc ?_ ?_ ?_ | rfl
    rw [if_pos hc3] at h
    simp only [go_sem, seval, hc3]
    refine RX_guard_dec rfl (fun hc4 => ?_) (fun hc4 => ?_)
    · have hc4d := decide_eq_true hc4
      rw [if_pos hc4] at h
      simp only [go_sem, seval, hc4d]
      refine hZ _ (pp (hJ1 _ true ?_ h))
      refine weak_roots ?_ ?_ <;> repeat' first | exact xn | exact rn | refine xc ?_ ?_ | refine rc ?_ ?_ ?_ | rfl
    have hc4d := decide_eq_false hc4
    rw [if_neg hc4] at h
    simp only [go_sem, seval, hc4d]
    refine hZ _ (pp (hJ1 _ (decide (5 ≤ a1)) ?_ h))
    refine weak_roots ?_ ?_ <;> repeat' first | exact xn | exact rn | refine xc ?_ ?_ | refine rc ?_ ?_ ?_ | rfl
  intro c5 h
  unfold overlay_Order_J1 at h
  refine Wk_cond_bool rfl (fun hc5 => ?_) (fun hc5 => ?_)
  · rw [if_pos hc5] at h
    refine Wk_seq (Wk_regionZ fun Z hZ => ?_)
    simp only [go_sem, seval, hc5]
    refine hZ _ (pp (Wk_ret (pp ?_)))
    obtain rfl := Option.some.inj h
    simp only [go_sem, seval]
    exact ⟨_, rfl, RokI.h, PureI.h⟩
  rw [if_neg (ne_true_of_eq_false hc5)] at h
  refine Wk_skip (pp ?_)
  unfold overlay_Order_J2 at h
  refine Wk_seq ?_
  obtain ⟨r7, hr6, h⟩ := Option.bind_eq_some_iff.1 h
  refine Wk_regionZ fun Z hZ => ?_
  simp only [go_sem, seval, hc5, hr6]
  refine hZ _ (pp (Wk_seq (Wk_weak (weak_let (n := 3) (by simp only [go_sem, seval]; rfl) rfl (by simp only [letF_updT, letF_deadT, go_sem, seval]; rfl)) ?_)))
  obtain ⟨r8, hr7, h⟩ := Option.bind_eq_some_iff.1 h
  refine Wk_regionZ fun Z hZ => ?_
  simp only [go_sem, seval, hr7, len_slices_SortFunc_int_overlay_Order_1 N r7 a1 r8 hr7]
  refine hZ _ (pp (Wk_seq (Wk_regionZ fun Z hZ => ?_)))
  simp only [go_sem, seval]
  refine hZ _ (pp (Wk_ret (pp ?_)))
  obtain rfl := Option.some.inj h
  simp only [go_sem, seval, List.take_of_length_le (Nat.le_of_eq (len_slices_SortFunc_int_overlay_Order_1 N r7 a1 r8 hr7))]
  exact ⟨_, rfl, RokI.h, PureI.h⟩
noncomputable def fs_overlay_Order (N : Nat) : FnS := ⟨[], true, fn2 (decL 1 (dec1 (decI .i64))) (decI .i64) fun q0 q1 => (overlay_Order N q0 q1).map fun r => .sl false none 1 none (r.map (rowI .i64)), false⟩
attribute [go_sem] fs_overlay_Order
theorem fs_overlay_Order_ok (N : Nat) : FSOk Try.prog 14 (fs_overlay_Order N) := ok2 (fun q0 q1 r h => by
  obtain ⟨r', hr, rfl⟩ := Option.map_eq_some_iff.1 h
  exact (w_overlay_Order N q0 q1 r' hr).res (by (try simp only [go_sem]); exact RokI.h)) (fun h => decL_le (decI1_le .i64) h) (decI_le)

noncomputable def fso_overlay_Order (N : Nat) : FnS := ⟨[], true, fn2 (decL 1 (dec1 (decI .i64))) (decI .i64) fun q0 q1 => (overlay_Order N q0 q1).map fun r => .sl true none 1 none (r.map (rowI .i64)), false⟩
attribute [go_sem] fso_overlay_Order
theorem fso_overlay_Order_ok (N : Nat) : FSOk Try.prog 14 (fso_overlay_Order N) := ok2 (fun q0 q1 r h => by
  obtain ⟨r', hr, rfl⟩ := Option.map_eq_some_iff.1 h
  exact w_overlay_Order N q0 q1 r' hr) (fun h => decL_le (decI1_le .i64) h) (decI_le)


noncomputable def G_overlay_Subjects (N d f : Nat) : Option FnS := glist [(9, 26, fs_view_ValidMembers N), (14, 27, fs_view_Contains N), (27, 14, fs_overlay_Order N), (32, 28, fs_view_Place N)] d f
attribute [go_sem] G_overlay_Subjects
theorem w_overlay_Subjects (N : Nat) (a0 : (List Int)) (a1 : Int) (r : (List Int)) (h : overlay_Subjects N a0 a1 = some r) : Con Try.prog 11 [] true [.sl false none 1 none (a0.map (rowI .i64)), .val (.int .i64 a1)] (.sl true none 1 none (r.map (rowI .i64))) := by
  refine fun_ok4 (G := (G_overlay_Subjects N)) Try.func11 rfl (by decide) (by kernel_rfl) (gc 9 (fs_view_ValidMembers_ok N) (gc 14 (fs_view_Contains_ok N) (gc 27 (fs_overlay_Order_ok N) (gc 32 (fs_view_Place_ok N) gn)))) [] mix (Nat.le_of_ble_eq_true rfl) ?_
  simp only [Try.f11]
  unfold overlay_Subjects at h
  refine Wk_seq (Wk_regionZ fun Z hZ => ?_)
  simp only [go_sem, seval]
  refine hZ _ (pp (Wk_seq ?_))
  apply Wk_join1 (fun (c7 : Bool) => ⟨tab 43 (updT (updT (updT deadT 0 (.sl false none 1 none (a0.map (rowI .i64)))) 1 (.val (.int .i64 a1))) 21 (.val (.bool c7))), RZ⟩)
  · intro hJ1
    obtain ⟨r8, hr2, h⟩ := Option.bind_eq_some_iff.1 h
    refine Wk_regionZ fun Z hZ => ?_
    simp only [go_sem, seval, hr2]
    refine RX_guard_nbool rfl (fun hc3 => ?_) (fun hc3 => ?_)
    · rw [if_neg (ne_true_of_eq_false hc3)] at h
      simp only [go_sem, seval, hc3]
      refine hZ _ (pp (hJ1 _ true ?_ h))
      refine weak_roots ?_ ?_ <;> repeat' first | exact xn | exact rn | refine xc ?_ ?_ | refine rc ?_ ?_ ?_ | rfl
    rw [if_pos hc3] at h
    obtain ⟨r9, hr4, h⟩ := Option.bind_eq_some_iff.1 h
    simp only [go_sem, seval, hc3, hr4]
    refine RX_guard_nbool rfl (fun hc5 => ?_) (fun hc5 => ?_)
    · rw [if_neg (ne_true_of_eq_false hc5)] at h
      simp only [go_sem, seval, hc5]
      refine hZ _ (pp (hJ1 _ true ?_ h))
      refine weak_roots ?_ ?_ <;> repeat' first | exact xn | exact rn | refine xc ?_ ?_ | refine rc ?_ ?_ ?_ | rfl
    rw [if_pos hc5] at h
    simp only [go_sem, seval, hc5]
    refine hZ _ (pp (hJ1 _ (decide (((a0.length : Nat) : Int) = 1)) ?_ h))
    refine weak_roots ?_ ?_ <;> repeat' first | exact xn | exact rn | refine xc ?_ ?_ | refine rc ?_ ?_ ?_ | rfl
  intro c7 h
  unfold overlay_Subjects_J1 at h
  refine Wk_cond_bool rfl (fun hc6 => ?_) (fun hc6 => ?_)
  · rw [if_pos hc6] at h
    refine Wk_seq (Wk_regionZ fun Z hZ => ?_)
    simp only [go_sem, seval, hc6]
    refine hZ _ (pp (Wk_ret (pp ?_)))
    cases h
    simp only [go_sem, seval]
    exact ⟨_, rfl, RokI.h, PureI.h⟩
  rw [if_neg (ne_true_of_eq_false hc6)] at h
  refine Wk_skip (pp ?_)
  unfold overlay_Subjects_J2 at h
  refine Wk_seq (Wk_regionZ fun Z hZ => ?_)
  simp only [go_sem, seval, hc6]
  refine hZ _ (pp (Wk_seq (Wk_seq (Wk_regionZ fun Z hZ => ?_))))
  simp only [go_sem, seval]
  refine hZ _ (pp (Wk_block (Wk_rounds 6 (Wk_rs (Wk_seq (Wk_regionZ fun Z hZ => ?_))))))
  simp only [go_sem, seval]
  refine hZ _ (pp (Wk_seq (Wk_cond_t rfl ?_)))
  first | rw [if_pos (rfl : true = true)] at h | rw [if_neg Bool.false_ne_true] at h | skip
  refine Wk_skip (pp (Wk_seq (Wk_block (Wk_seq (Wk_regionZ fun Z hZ => ?_)))))
  simp only [go_sem, seval]
  refine hZ _ (pp (Wk_seq ?_))
  obtain ⟨r10, hr7, h⟩ := Option.bind_eq_some_iff.1 h
  refine Wk_regionZ fun Z hZ => ?_
  simp only [go_sem, seval, hr7]
  refine hZ _ (pp ?_)
  obtain ⟨r11, hr8, h⟩ := Option.bind_eq_some_iff.1 h
  obtain ⟨hd9, h⟩ := dvx_some h
  obtain ⟨x12, hb10, hx11, h⟩ := gx_some h
  first | obtain ⟨ha12, h⟩ := apn_some h | (obtain ⟨ha12, h⟩ := apx_some h; rw [List.nil_append] at h)
  simp only [List.length_cons, List.length_nil, Nat.zero_add, Nat.reduceAdd] at ha12
  refine Wk_regionZ fun Z hZ => ?_
  simp only [go_sem, seval, hr8, hd9, hb10, hx11, ha12]
  refine hZ _ (pp (Wk_regionZ fun Z hZ => ?_))
  simp only [go_sem, seval, show IntKind.i64.wrap 1 = 1 from rfl]
  refine hZ _ (pp (Wk_rs (Wk_seq (Wk_regionZ fun Z hZ => ?_))))
  simp only [go_sem, seval]
  refine hZ _ (pp (Wk_seq (Wk_cond_t rfl ?_)))
  first | rw [if_pos (rfl : true = true)] at h | rw [if_neg Bool.false_ne_true] at h | skip
  refine Wk_skip (pp (Wk_seq (Wk_block (Wk_seq (Wk_regionZ fun Z hZ => ?_)))))
  simp only [go_sem, seval]
  refine hZ _ (pp (Wk_seq ?_))
  obtain ⟨r13, hr13, h⟩ := Option.bind_eq_some_iff.1 h
  refine Wk_regionZ fun Z hZ => ?_
  simp only [go_sem, seval, hr13]
  refine hZ _ (pp ?_)
  obtain ⟨r14, hr14, h⟩ := Option.bind_eq_some_iff.1 h
  obtain ⟨hd15, h⟩ := dvx_some h
  obtain ⟨x15, hb16, hx17, h⟩ := gx_some h
  obtain ⟨ha18, h⟩ := apx_some h
  simp only [List.length_cons, List.length_nil, Nat.zero_add, Nat.reduceAdd] at ha18
  refine Wk_regionZ fun Z hZ => ?_
  simp only [go_sem, seval, hr14, hd15, hb16, hx17, ha18]
  refine hZ _ (pp (Wk_regionZ fun Z hZ => ?_))
  simp only [go_sem, seval, show IntKind.i64.wrap 2 = 2 from rfl]
  refine hZ _ (pp (Wk_rs (Wk_seq (Wk_regionZ fun Z hZ => ?_))))
  simp only [go_sem, seval]
  refine hZ _ (pp (Wk_seq (Wk_cond_t rfl ?_)))
  first | rw [if_pos (rfl : true = true)] at h | rw [if_neg Bool.false_ne_true] at h | skip
  refine Wk_skip (pp (Wk_seq (Wk_block (Wk_seq (Wk_regionZ fun Z hZ => ?_)))))
  simp only [go_sem, seval]
  refine hZ _ (pp (Wk_seq ?_))
  obtain ⟨r16, hr19, h⟩ := Option.bind_eq_some_iff.1 h
  refine Wk_regionZ fun Z hZ => ?_
  simp only [go_sem, seval, hr19]
  refine hZ _ (pp ?_)
  obtain ⟨r17, hr20, h⟩ := Option.bind_eq_some_iff.1 h
  obtain ⟨hd21, h⟩ := dvx_some h
  obtain ⟨x18, hb22, hx23, h⟩ := gx_some h
  obtain ⟨ha24, h⟩ := apx_some h
  simp only [List.length_append, List.length_cons, List.length_nil, Nat.zero_add, Nat.reduceAdd] at ha24
  refine Wk_regionZ fun Z hZ => ?_
  simp only [go_sem, seval, hr20, hd21, hb22, hx23, ha24]
  refine hZ _ (pp (Wk_regionZ fun Z hZ => ?_))
  simp only [go_sem, seval, show IntKind.i64.wrap 3 = 3 from rfl]
  refine hZ _ (pp (Wk_rs (Wk_seq (Wk_regionZ fun Z hZ => ?_))))
  simp only [go_sem, seval]
  refine hZ _ (pp (Wk_seq (Wk_cond_t rfl ?_)))
  first | rw [if_pos (rfl : true = true)] at h | rw [if_neg Bool.false_ne_true] at h | skip
  refine Wk_skip (pp (Wk_seq (Wk_block (Wk_seq (Wk_regionZ fun Z hZ => ?_)))))
  simp only [go_sem, seval]
  refine hZ _ (pp (Wk_seq ?_))
  obtain ⟨r19, hr25, h⟩ := Option.bind_eq_some_iff.1 h
  refine Wk_regionZ fun Z hZ => ?_
  simp only [go_sem, seval, hr25]
  refine hZ _ (pp ?_)
  obtain ⟨r20, hr26, h⟩ := Option.bind_eq_some_iff.1 h
  obtain ⟨hd27, h⟩ := dvx_some h
  obtain ⟨x21, hb28, hx29, h⟩ := gx_some h
  obtain ⟨ha30, h⟩ := apx_some h
  simp only [List.length_append, List.length_cons, List.length_nil, Nat.zero_add, Nat.reduceAdd] at ha30
  refine Wk_regionZ fun Z hZ => ?_
  simp only [go_sem, seval, hr26, hd27, hb28, hx29, ha30]
  refine hZ _ (pp (Wk_regionZ fun Z hZ => ?_))
  simp only [go_sem, seval, show IntKind.i64.wrap 4 = 4 from rfl]
  refine hZ _ (pp (Wk_rs (Wk_seq (Wk_regionZ fun Z hZ => ?_))))
  simp only [go_sem, seval]
  refine hZ _ (pp (Wk_seq (Wk_cond_t rfl ?_)))
  first | rw [if_pos (rfl : true = true)] at h | rw [if_neg Bool.false_ne_true] at h | skip
  refine Wk_skip (pp (Wk_seq (Wk_block (Wk_seq (Wk_regionZ fun Z hZ => ?_)))))
  simp only [go_sem, seval]
  refine hZ _ (pp (Wk_seq ?_))
  obtain ⟨r22, hr31, h⟩ := Option.bind_eq_some_iff.1 h
  refine Wk_regionZ fun Z hZ => ?_
  simp only [go_sem, seval, hr31]
  refine hZ _ (pp ?_)
  obtain ⟨r23, hr32, h⟩ := Option.bind_eq_some_iff.1 h
  obtain ⟨hd33, h⟩ := dvx_some h
  obtain ⟨x24, hb34, hx35, h⟩ := gx_some h
  obtain ⟨ha36, h⟩ := apx_some h
  simp only [List.length_append, List.length_cons, List.length_nil, Nat.zero_add, Nat.reduceAdd] at ha36
  refine Wk_regionZ fun Z hZ => ?_
  simp only [go_sem, seval, hr32, hd33, hb34, hx35, ha36]
  refine hZ _ (pp (Wk_regionZ fun Z hZ => ?_))
  simp only [go_sem, seval, show IntKind.i64.wrap 5 = 5 from rfl]
  refine hZ _ (pp (Wk_rs (Wk_seq (Wk_regionZ fun Z hZ => ?_))))
  simp only [go_sem, seval]
  refine hZ _ (pp (Wk_seq (Wk_cond_f rfl ?_)))
  first | rw [if_pos (rfl : true = true)] at h | rw [if_neg Bool.false_ne_true] at h | skip
  refine Wk_exit (pp (Wk_seq (Wk_regionZ fun Z hZ => ?_)))
  simp only [go_sem, seval]
  refine hZ _ (pp (Wk_ret (pp ?_)))
  cases h
  simp only [go_sem, seval]
  exact ⟨_, rfl, RokI.h, PureI.h⟩
noncomputable def fs_overlay_Subjects (N : Nat) : FnS := ⟨[], true, fn2 (decL 1 (dec1 (decI .i64))) (decI .i64) fun q0 q1 => (overlay_Subjects N q0 q1).map fun r => .sl false none 1 none (r.map (rowI .i64)), false⟩
attribute [go_sem] fs_overlay_Subjects
theorem fs_overlay_Subjects_ok (N : Nat) : FSOk Try.prog 11 (fs_overlay_Subjects N) := ok2 (fun q0 q1 r h => by
  obtain ⟨r', hr, rfl⟩ := Option.map_eq_some_iff.1 h
  exact (w_overlay_Subjects N q0 q1 r' hr).res (by (try simp only [go_sem]); exact RokI.h)) (fun h => decL_le (decI1_le .i64) h) (decI_le)

noncomputable def fso_overlay_Subjects (N : Nat) : FnS := ⟨[], true, fn2 (decL 1 (dec1 (decI .i64))) (decI .i64) fun q0 q1 => (overlay_Subjects N q0 q1).map fun r => .sl true none 1 none (r.map (rowI .i64)), false⟩
attribute [go_sem] fso_overlay_Subjects
theorem fso_overlay_Subjects_ok (N : Nat) : FSOk Try.prog 11 (fso_overlay_Subjects N) := ok2 (fun q0 q1 r h => by
  obtain ⟨r', hr, rfl⟩ := Option.map_eq_some_iff.1 h
  exact w_overlay_Subjects N q0 q1 r' hr) (fun h => decL_le (decI1_le .i64) h) (decI_le)


noncomputable def G_overlay_Shared (N d f : Nat) : Option FnS := glist [(11, 29, fs_overlay_identifier N), (15, 13, fs_overlay_Observers N)] d f
attribute [go_sem] G_overlay_Shared
theorem w_overlay_Shared (N : Nat) (a0 : (List Int)) (a1 : Int) (a2 : Int) (r : (List Int)) (h : overlay_Shared N a0 a1 a2 = some r) : Con Try.prog 15 [] true [.sl false none 1 none (a0.map (rowI .i64)), .val (.int .i64 a1), .val (.int .i64 a2)] (.sl true none 1 none (r.map (rowI .i64))) := by
  refine fun_ok4 (G := (G_overlay_Shared N)) Try.func15 rfl (by decide) (by kernel_rfl) (gc 11 (fs_overlay_identifier_ok N) (gc 15 (fs_overlay_Observers_ok N) gn)) [] mix (Nat.le_of_ble_eq_true rfl) ?_
  simp only [Try.f15]
  unfold overlay_Shared at h
  refine Wk_seq (Wk_regionZ fun Z hZ => ?_)
  simp only [go_sem, seval]
  refine hZ _ (pp (Wk_seq (Wk_seq ?_)))
  obtain ⟨r1, hr1, h⟩ := Option.bind_eq_some_iff.1 h
  refine Wk_regionZ fun Z hZ => ?_
  simp only [go_sem, seval, hr1]
  refine hZ _ (pp (Wk_cond_nbool rfl (fun hc2 => ?_) (fun hc2 => ?_)))
  · rw [if_neg (ne_true_of_eq_false hc2)] at h
    refine Wk_seq (Wk_regionZ fun Z hZ => ?_)
    simp only [go_sem, seval, hc2]
    refine hZ _ (pp (Wk_ret (pp ?_)))
    cases h
    simp only [go_sem, seval]
    exact ⟨_, rfl, RokI.h, PureI.h⟩
  rw [if_pos hc2] at h
  refine Wk_skip (pp (Wk_seq (Wk_regionZ fun Z hZ => ?_)))
  simp only [go_sem, seval, hc2]
  refine hZ _ (pp (Wk_seq (Wk_seq ?_)))
  obtain ⟨r2, hr3, h⟩ := Option.bind_eq_some_iff.1 h
  refine Wk_regionZ fun Z hZ => ?_
  simp only [go_sem, seval, hr3]
  refine hZ _ (pp (Wk_block (Wk_real fun hreal5 => ?_)))
  have hl4 := hreal5.lenT 15 (by decide) (by simp only [go_sem, seval]; rfl)
  first | rw [List.length_map] at hl4 | rw [← List.map_append, List.length_map] at hl4
  refine Wk_range (fun (v6 : Nat) (b : List Int) => ⟨tab 31 (updT (updT (updT (updT (updT deadT 1 (.val (.int .i64 a1))) 7 (.pal 28 [] 0 b.length none)) 15 (.sl false none 1 none (r2.map (rowI .i64)))) 16 (.val (.int .i64 ((r2.length : Nat) : Int)))) 17 (.val (.int .i64 ((v6 : Nat) : Int)))), (upd RZ 28 (.sl true none 1 none (b.map (rowI .i64))))⟩) [] h ?_ ?_
  · refine Weak.trans (weak_adopt 7 28 1 (by simp only [go_sem, seval]) (by simp only [go_sem, seval])) ?_
    refine weak_roots ?_ ?_ <;> repeat' first | exact xn | exact rn | refine xc ?_ ?_ | refine rc ?_ ?_ ?_ | rfl | simp only [go_sem, seval, Bool.or_self, List.length_set, Int.natCast_zero, Int.cast_ofNat_Int, hr1, hc2, hr3]
  rintro v6 l5 hi6 h -
  rcases (drop_cases r2 v6 hi6).symm with ⟨hi6', _, hd9⟩ | ⟨x9, hi6', hx7, hd9⟩
  · rw [hd9] at h
    simp only [overlay_Shared_L1] at h
    refine Wk_seq (Wk_regionZ fun Z hZ => ?_)
    simp only [go_sem, seval, hi6']
    refine hZ _ (pp (Wk_seq ?_))
    try simp only [Int.ofNat_lt, hi6', if_true, if_false] at h
    refine Wk_cond_f rfl (Wk_exit (pp (Wk_seq (Wk_regionZ fun Z hZ => ?_))))
    simp only [go_sem, seval]
    refine hZ _ (pp (Wk_ret (pp ?_)))
    cases h
    simp only [go_sem, seval]
    exact ⟨_, rfl, RokI.h, PureI.h⟩
  rw [hd9] at h
  simp only [overlay_Shared_L1] at h
  have hw8 := wrap_succ hi6' hl4
  refine Wk_seq (Wk_regionZ fun Z hZ => ?_)
  simp only [go_sem, seval, hi6']
  refine hZ _ (pp (Wk_seq ?_))
  try simp only [Int.ofNat_lt, hi6', if_true, if_false] at h
  refine Wk_cond_t rfl (Wk_skip (pp (Wk_seq (Wk_block (Wk_seq ?_)))))
  try rw [gx_nat hx7] at h
  refine Wk_regionZ fun Z hZ => ?_
  simp only [go_sem, seval, hx7, hi6']
  refine hZ _ (pp (Wk_seq (Wk_regionZ fun Z hZ => ?_)))
  simp only [go_sem, seval]
  refine hZ _ (pp (sw (Wk_cond_dec rfl) (fun hc10 => ?_) (fun hc10 => ?_)))
  · have hc10d := decide_eq_false hc10
    rw [if_neg hc10] at h
    refine Wk_skip (pp (Wk_regionZ fun Z hZ => ?_))
    simp only [go_sem, seval, hw8, hc10d]
    refine hZ _ (pp ?_)
    first | refine ⟨l5, ?_, h⟩ | refine ⟨hi6', l5, ?_, h⟩
    refine weak_roots ?_ ?_ <;> repeat' first | exact xn | exact rn | refine xc ?_ ?_ | refine rc ?_ ?_ ?_ | rfl | simp only [go_sem, seval, Bool.or_self, List.length_set, Int.natCast_zero, Int.cast_ofNat_Int, hr1, hc2, hr3, hx7, hi6', hw8, hc10d]
  have hc10d := decide_eq_true hc10
  rw [if_pos hc10] at h
  obtain ⟨ha11, h⟩ := apx_some h
  simp only [List.length_cons, List.length_nil, Nat.zero_add, Nat.reduceAdd] at ha11
  refine Wk_regionZ fun Z hZ => ?_
  simp only [go_sem, seval, hc10d, ha11]
  refine hZ _ (pp (Wk_regionZ fun Z hZ => ?_))
  simp only [go_sem, seval, hw8]
  refine hZ _ (pp ?_)
  first | refine ⟨(l5 ++ [((v6 : Nat) : Int)]), ?_, h⟩ | refine ⟨hi6', (l5 ++ [((v6 : Nat) : Int)]), ?_, h⟩
  refine weak_roots ?_ ?_ <;> repeat' first | exact xn | exact rn | refine xc ?_ ?_ | refine rc ?_ ?_ ?_ | rfl | simp only [go_sem, seval]
def fs_overlay_Shared (N : Nat) : FnS := ⟨[], true, fn3 (decL 1 (dec1 (decI .i64))) (decI .i64) (decI .i64) fun q0 q1 q2 => (overlay_Shared N q0 q1 q2).map fun r => .sl false none 1 none (r.map (rowI .i64)), false⟩
attribute [go_sem] fs_overlay_Shared
theorem fs_overlay_Shared_ok (N : Nat) : FSOk Try.prog 15 (fs_overlay_Shared N) := ok3 (fun q0 q1 q2 r h => by
  obtain ⟨r', hr, rfl⟩ := Option.map_eq_some_iff.1 h
  exact (w_overlay_Shared N q0 q1 q2 r' hr).res (by (try simp only [go_sem]); exact RokI.h)) (fun h => decL_le (decI1_le .i64) h) (decI_le) (decI_le)

def fso_overlay_Shared (N : Nat) : FnS := ⟨[], true, fn3 (decL 1 (dec1 (decI .i64))) (decI .i64) (decI .i64) fun q0 q1 q2 => (overlay_Shared N q0 q1 q2).map fun r => .sl true none 1 none (r.map (rowI .i64)), false⟩
attribute [go_sem] fso_overlay_Shared
theorem fso_overlay_Shared_ok (N : Nat) : FSOk Try.prog 15 (fso_overlay_Shared N) := ok3 (fun q0 q1 q2 r h => by
  obtain ⟨r', hr, rfl⟩ := Option.map_eq_some_iff.1 h
  exact w_overlay_Shared N q0 q1 q2 r' hr) (fun h => decL_le (decI1_le .i64) h) (decI_le) (decI_le)


noncomputable def G_law4_awake (N d f : Nat) : Option FnS := glist [(5, 13, fs_overlay_Observers N), (7, 11, fs_overlay_Subjects N), (9, 13, fs_overlay_Observers N), (43, 13, fs_overlay_Observers N), (49, 14, fs_overlay_Order N), (55, 15, fs_overlay_Shared N)] d f
attribute [go_sem] G_law4_awake
theorem w_law4_awake (N : Nat)  (r : Bool) (h : law4_awake N  = some r) : Con Try.prog 9 [] true [] (.val (.bool r)) := by
  refine fun_ok4 (G := (G_law4_awake N)) Try.func9 rfl (by decide) (by kernel_rfl) (gc 5 (fs_overlay_Observers_ok N) (gc 7 (fs_overlay_Subjects_ok N) (gc 9 (fs_overlay_Observers_ok N) (gc 43 (fs_overlay_Observers_ok N) (gc 49 (fs_overlay_Order_ok N) (gc 55 (fs_overlay_Shared_ok N) gn)))))) [] mix (Nat.le_of_ble_eq_true rfl) ?_
  simp only [Try.f9]
  unfold law4_awake at h
  refine Wk_seq (Wk_regionZ fun Z hZ => ?_)
  simp only [go_sem, seval]
  refine hZ _ (pp (Wk_seq ?_))
  obtain ⟨r1, hr1, h⟩ := Option.bind_eq_some_iff.1 h
  refine Wk_regionZ fun Z hZ => ?_
  simp only [go_sem, seval, hr1]
  refine hZ _ (pp (Wk_seq ?_))
  obtain ⟨r2, hr2, h⟩ := Option.bind_eq_some_iff.1 h
  refine Wk_regionZ fun Z hZ => ?_
  simp only [go_sem, seval, hr2]
  refine hZ _ (pp (Wk_seq ?_))
  obtain ⟨r3, hr3, h⟩ := Option.bind_eq_some_iff.1 h
  refine Wk_regionZ fun Z hZ => ?_
  simp only [go_sem, seval, hr3]
  refine hZ _ (pp (Wk_seq (Wk_regionZ fun Z hZ => ?_)))
  simp only [go_sem, seval]
  refine sw (RX_guard_dec rfl) (fun hc4 => ?_) (fun hc4 => ?_)
  · have hc4d := decide_eq_false hc4
    rw [if_neg hc4] at h
    simp only [go_sem, seval, hc4d]
    refine hZ _ (pp (Wk_ret (pp ?_)))
    cases h
    simp only [go_sem, seval]
    exact ⟨_, rfl, RokI.h, PureI.h⟩
  have hc4d := decide_eq_true hc4
  rw [if_pos hc4] at h
  obtain ⟨x4, hb5, hx6, h⟩ := gx_some h
  try simp only [Int.toNat_zero] at hx6
  try simp only [Int.ofNat_lt, Int.natCast_nonneg, true_and] at hb5
  simp only [go_sem, seval, hc4d, hb5, hx6]
  refine sw (RX_guard_dec rfl) (fun hc7 => ?_) (fun hc7 => ?_)
  · have hc7d := decide_eq_false hc7
    rw [if_neg hc7] at h
    simp only [go_sem, seval, hc7d]
    refine hZ _ (pp (Wk_ret (pp ?_)))
    cases h
    simp only [go_sem, seval]
    exact ⟨_, rfl, RokI.h, PureI.h⟩
  have hc7d := decide_eq_true hc7
  rw [if_pos hc7] at h
  simp only [go_sem, seval, hc7d]
  refine sw (RX_guard_dec rfl) (fun hc8 => ?_) (fun hc8 => ?_)
  · have hc8d := decide_eq_false hc8
    rw [if_neg hc8] at h
    simp only [go_sem, seval, hc8d]
    refine hZ _ (pp (Wk_ret (pp ?_)))
    cases h
    simp only [go_sem, seval]
    exact ⟨_, rfl, RokI.h, PureI.h⟩
  have hc8d := decide_eq_true hc8
  rw [if_pos hc8] at h
  obtain ⟨x5, hb9, hx10, h⟩ := gx_some h
  try simp only [Int.reduceToNat] at hx10
  try simp only [Int.ofNat_lt, Int.natCast_nonneg, true_and] at hb9
  simp only [go_sem, seval, hc8d, hb9, hx10]
  refine sw (RX_guard_dec rfl) (fun hc11 => ?_) (fun hc11 => ?_)
  · have hc11d := decide_eq_false hc11
    rw [if_neg hc11] at h
    simp only [go_sem, seval, hc11d]
    refine hZ _ (pp (Wk_ret (pp ?_)))
    cases h
    simp only [go_sem, seval]
    exact ⟨_, rfl, RokI.h, PureI.h⟩
  have hc11d := decide_eq_true hc11
  rw [if_pos hc11] at h
  simp only [go_sem, seval, hc11d]
  refine sw (RX_guard_dec rfl) (fun hc12 => ?_) (fun hc12 => ?_)
  · have hc12d := decide_eq_false hc12
    rw [if_neg hc12] at h
    simp only [go_sem, seval, hc12d]
    refine hZ _ (pp (Wk_ret (pp ?_)))
    cases h
    simp only [go_sem, seval]
    exact ⟨_, rfl, RokI.h, PureI.h⟩
  have hc12d := decide_eq_true hc12
  rw [if_pos hc12] at h
  obtain ⟨x6, hb13, hx14, h⟩ := gx_some h
  try simp only [Int.reduceToNat] at hx14
  try simp only [Int.ofNat_lt, Int.natCast_nonneg, true_and] at hb13
  simp only [go_sem, seval, hc12d, hb13, hx14]
  refine sw (RX_guard_dec rfl) (fun hc15 => ?_) (fun hc15 => ?_)
  · have hc15d := decide_eq_false hc15
    rw [if_neg hc15] at h
    simp only [go_sem, seval, hc15d]
    refine hZ _ (pp (Wk_ret (pp ?_)))
    cases h
    simp only [go_sem, seval]
    exact ⟨_, rfl, RokI.h, PureI.h⟩
  have hc15d := decide_eq_true hc15
  rw [if_pos hc15] at h
  obtain ⟨r7, hr16, h⟩ := Option.bind_eq_some_iff.1 h
  simp only [go_sem, seval, hc15d, hr16]
  refine sw (RX_guard_dec rfl) (fun hc17 => ?_) (fun hc17 => ?_)
  · have hc17d := decide_eq_false hc17
    rw [if_neg hc17] at h
    simp only [go_sem, seval, hc17d]
    refine hZ _ (pp (Wk_ret (pp ?_)))
    cases h
    simp only [go_sem, seval]
    exact ⟨_, rfl, RokI.h, PureI.h⟩
  have hc17d := decide_eq_true hc17
  rw [if_pos hc17] at h
  obtain ⟨r8, hr18, h⟩ := Option.bind_eq_some_iff.1 h
  simp only [go_sem, seval, hc17d, hr18]
  refine RX_guard_dec rfl (fun hc19 => ?_) (fun hc19 => ?_)
  · have hc19d := decide_eq_true hc19
    rw [if_pos hc19] at h
    obtain ⟨r9, hr20, h⟩ := Option.bind_eq_some_iff.1 h
    simp only [go_sem, seval, hc19d, hr20]
    refine hZ _ (pp (Wk_ret (pp ?_)))
    cases h
    simp only [go_sem, seval]
    exact ⟨_, rfl, RokI.h, PureI.h⟩
  have hc19d := decide_eq_false hc19
  rw [if_neg hc19] at h
  simp only [go_sem, seval, hc19d]
  refine hZ _ (pp (Wk_ret (pp ?_)))
  cases h
  simp only [go_sem, seval]
  exact ⟨_, rfl, RokI.h, PureI.h⟩
noncomputable def fs_law4_awake (N : Nat) : FnS := { own := [], pure := true, fn := fun cs => match cs with
  | [] =>  (law4_awake N ).map fun r => .val (.bool r)
  | _ => none }
attribute [go_sem] fs_law4_awake
theorem fs_law4_awake_ok (N : Nat) : FSOk Try.prog 9 (fs_law4_awake N) := by
  refine ⟨fun cs r h => ?_, fun h => by cases h⟩
  simp only [fs_law4_awake] at h
  split at h
  · simp only [Option.map_eq_some_iff] at h
    obtain ⟨r', hr, rfl⟩ := h
    exact ((w_law4_awake N  r' hr).args (LeL.nil))
  · cases h


theorem w_ref3_IsID (N : Nat) (a0 : Int) (r : Bool) (h : ref3_IsID N a0 = some r) : Con Try.prog 38 [] true [.val (.int .i64 a0)] (.val (.bool r)) := by
  refine fun_ok4 (G := (glist [])) Try.func38 rfl (by decide) (by kernel_rfl) gn [] mix (Nat.le_of_ble_eq_true rfl) ?_
  simp only [Try.f38]
  unfold ref3_IsID at h
  refine Wk_seq (Wk_regionZ fun Z hZ => ?_)
  simp only [go_sem, seval]
  refine hZ _ (pp (Wk_seq (Wk_regionZ fun Z hZ => ?_)))
  simp only [go_sem, seval]
  refine RX_guard_dec rfl (fun hc1 => ?_) (fun hc1 => ?_)
  · have hc1d := decide_eq_true hc1
    rw [if_pos hc1] at h
    simp only [go_sem, seval, hc1d]
    refine hZ _ (pp (Wk_ret (pp ?_)))
    cases h
    simp only [go_sem, seval]
    exact ⟨_, rfl, RokI.h, PureI.h⟩
  have hc1d := decide_eq_false hc1
  rw [if_neg hc1] at h
  simp only [go_sem, seval, hc1d]
  refine hZ _ (pp (Wk_ret (pp ?_)))
  cases h
  simp only [go_sem, seval]
  exact ⟨_, rfl, RokI.h, PureI.h⟩
def fs_ref3_IsID (N : Nat) : FnS := ⟨[], true, fn1 (decI .i64) fun q0 => (ref3_IsID N q0).map fun r => .val (.bool r), false⟩
attribute [go_sem] fs_ref3_IsID
theorem fs_ref3_IsID_ok (N : Nat) : FSOk Try.prog 38 (fs_ref3_IsID N) := ok1 (fun q0 r h => by
  obtain ⟨r', hr, rfl⟩ := Option.map_eq_some_iff.1 h
  exact w_ref3_IsID N q0 r' hr) (decI_le)


noncomputable def G_ref3_Rising (N d f : Nat) : Option FnS := glist [(14, 38, fs_ref3_IsID N)] d f
attribute [go_sem] G_ref3_Rising
theorem w_ref3_Rising (N : Nat) (a0 : (List Int)) (r : Bool) (h : ref3_Rising N a0 = some r) : Con Try.prog 25 [] true [.sl false none 1 none (a0.map (rowI .i64))] (.val (.bool r)) := by
  refine fun_ok4 (G := (G_ref3_Rising N)) Try.func25 rfl (by decide) (by kernel_rfl) (gc 14 (fs_ref3_IsID_ok N) gn) [] mix (Nat.le_of_ble_eq_true rfl) ?_
  simp only [Try.f25]
  unfold ref3_Rising at h
  refine Wk_seq (Wk_regionZ fun Z hZ => ?_)
  simp only [go_sem, seval]
  refine hZ _ (pp (Wk_seq (Wk_seq (Wk_regionZ fun Z hZ => ?_))))
  simp only [go_sem, seval]
  refine hZ _ (pp (Wk_block (Wk_real fun hreal2 => ?_)))
  have hl1 := hreal2.lenT 0 (by decide) (by simp only [go_sem, seval]; rfl)
  first | rw [List.length_map] at hl1 | rw [← List.map_append, List.length_map] at hl1
  refine Wk_range (fun (v2 : Nat) (b : Unit) => ⟨tab 32 (updT (updT deadT 0 (.sl false none 1 none (a0.map (rowI .i64)))) 3 (.val (.int .i64 ((v2 : Nat) : Int)))), RZ⟩) () h ?_ ?_
  · refine weak_roots ?_ ?_ <;> repeat' first | exact xn | exact rn | refine xc ?_ ?_ | refine rc ?_ ?_ ?_ | rfl
  rintro v2 ⟨⟩ hi3 h -
  rcases (drop_cases a0 v2 hi3).symm with ⟨hi3', _, hd6⟩ | ⟨x5, hi3', hx4, hd6⟩
  · rw [hd6] at h
    simp only [ref3_Rising_L1] at h
    refine Wk_seq (Wk_seq (Wk_regionZ fun Z hZ => ?_))
    simp only [go_sem, seval, hi3']
    refine hZ _ (pp ?_)
    try simp only [Int.ofNat_lt, hi3', if_true, if_false] at h
    refine Wk_cond_f rfl (Wk_exit (pp (Wk_seq (Wk_regionZ fun Z hZ => ?_))))
    simp only [go_sem, seval]
    refine hZ _ (pp (Wk_ret (pp ?_)))
    cases h
    simp only [go_sem, seval]
    exact ⟨_, rfl, RokI.h, PureI.h⟩
  rw [hd6] at h
  simp only [ref3_Rising_L1] at h
  have hw5 := wrap_succ hi3' hl1
  refine Wk_seq (Wk_seq (Wk_regionZ fun Z hZ => ?_))
  simp only [go_sem, seval, hi3']
  refine hZ _ (pp ?_)
  try simp only [Int.ofNat_lt, hi3', if_true, if_false] at h
  refine Wk_cond_t rfl (Wk_skip (pp (Wk_seq (Wk_block ?_))))
  apply Wk_join1 (fun (c3 : Bool) => ⟨tab 32 (updT (updT (updT deadT 0 (.sl false none 1 none (a0.map (rowI .i64)))) 3 (.val (.int .i64 ((v2 : Nat) : Int)))) 31 (.val (.bool c3))), RZ⟩)
  · intro hJ7
    try rw [gx_nat hx4] at h
    obtain ⟨r4, hr8, h⟩ := Option.bind_eq_some_iff.1 h
    refine Wk_regionD fun Z hZ => ?_
    simp only [go_sem, seval, hx4, hi3', hr8]
    repeat with_reducible refine and_bar (by kernel_rfl) ?_
    refine RX_guard_nbool rfl (fun hc9 => ?_) (fun hc9 => ?_)
    · rw [if_neg (ne_true_of_eq_false hc9)] at h
      simp only [go_sem, seval, hc9]
      refine hZ _ (by kernel_rfl) (pp (hJ7 _ true ?_ h))
      refine weak_roots ?_ ?_ <;> repeat' first | exact xn | exact rn | refine xc ?_ ?_ | refine rc ?_ ?_ ?_ | rfl
    rw [if_pos hc9] at h
    simp only [go_sem, seval, hc9]
    refine RX_guard_dec rfl (fun hc10 => ?_) (fun hc10 => ?_)
    · have hc10d := decide_eq_true hc10
      rw [if_pos hc10] at h
      try rw [gx_nat hx4] at h
      obtain ⟨x6, hb11, hx12, h⟩ := gx_some h
      simp only [go_sem, seval, hx4, hi3', hc10d, hb11, hx12]
      refine hZ _ (by kernel_rfl) (pp (hJ7 _ (decide (x5 ≤ x6)) ?_ h))
      refine weak_roots ?_ ?_ <;> repeat' first | exact xn | exact rn | refine xc ?_ ?_ | refine rc ?_ ?_ ?_ | rfl
    have hc10d := decide_eq_false hc10
    rw [if_neg hc10] at h
    simp only [go_sem, seval, hc10d]
    refine hZ _ (by kernel_rfl) (pp (hJ7 _ false ?_ h))
    refine weak_roots ?_ ?_ <;> repeat' first | exact xn | exact rn | refine xc ?_ ?_ | refine rc ?_ ?_ ?_ | rfl
  intro c3 h
  unfold ref3_Rising_J1 at h
  refine Wk_cond_bool rfl (fun hc13 => ?_) (fun hc13 => ?_)
  · rw [if_pos hc13] at h
    refine Wk_seq (Wk_regionZ fun Z hZ => ?_)
    simp only [go_sem, seval, hc13]
    refine hZ _ (pp (Wk_ret (pp ?_)))
    cases h
    simp only [go_sem, seval]
    exact ⟨_, rfl, RokI.h, PureI.h⟩
  rw [if_neg (ne_true_of_eq_false hc13)] at h
  refine Wk_skip (pp (Wk_regionZ fun Z hZ => ?_))
  simp only [go_sem, seval, hw5, hc13]
  refine hZ _ (pp ?_)
  first | refine ⟨(), ?_, h⟩ | refine ⟨hi3', (), ?_, h⟩
  refine weak_roots ?_ ?_ <;> repeat' first | exact xn | exact rn | refine xc ?_ ?_ | refine rc ?_ ?_ ?_ | rfl
def fs_ref3_Rising (N : Nat) : FnS := ⟨[], true, fn1 (decL 1 (dec1 (decI .i64))) fun q0 => (ref3_Rising N q0).map fun r => .val (.bool r), false⟩
attribute [go_sem] fs_ref3_Rising
theorem fs_ref3_Rising_ok (N : Nat) : FSOk Try.prog 25 (fs_ref3_Rising N) := ok1 (fun q0 r h => by
  obtain ⟨r', hr, rfl⟩ := Option.map_eq_some_iff.1 h
  exact w_ref3_Rising N q0 r' hr) (fun h => decL_le (decI1_le .i64) h)


noncomputable def G_ref3_ValidMembers (N d f : Nat) : Option FnS := glist [(13, 25, fs_ref3_Rising N)] d f
attribute [go_sem] G_ref3_ValidMembers
theorem w_ref3_ValidMembers (N : Nat) (a0 : (List Int)) (r : Bool) (h : ref3_ValidMembers N a0 = some r) : Con Try.prog 10 [] true [.sl false none 1 none (a0.map (rowI .i64))] (.val (.bool r)) := by
  refine fun_ok4 (G := (G_ref3_ValidMembers N)) Try.func10 rfl (by decide) (by kernel_rfl) (gc 13 (fs_ref3_Rising_ok N) gn) [] mix (Nat.le_of_ble_eq_true rfl) ?_
  simp only [Try.f10]
  unfold ref3_ValidMembers at h
  refine Wk_seq (Wk_regionZ fun Z hZ => ?_)
  simp only [go_sem, seval]
  refine hZ _ (pp (Wk_seq (Wk_regionZ fun Z hZ => ?_)))
  simp only [go_sem, seval]
  refine sw (RX_guard_dec rfl) (fun hc1 => ?_) (fun hc1 => ?_)
  · have hc1d := decide_eq_false hc1
    rw [if_neg hc1] at h
    simp only [go_sem, seval, hc1d]
    refine hZ _ (pp (Wk_ret (pp ?_)))
    cases h
    simp only [go_sem, seval]
    exact ⟨_, rfl, RokI.h, PureI.h⟩
  have hc1d := decide_eq_true hc1
  rw [if_pos hc1] at h
  simp only [go_sem, seval, hc1d]
  refine RX_guard_dec rfl (fun hc2 => ?_) (fun hc2 => ?_)
  · have hc2d := decide_eq_true hc2
    rw [if_pos hc2] at h
    obtain ⟨r1, hr3, h⟩ := Option.bind_eq_some_iff.1 h
    simp only [go_sem, seval, hc2d, hr3]
    refine hZ _ (pp (Wk_ret (pp ?_)))
    cases h
    simp only [go_sem, seval]
    exact ⟨_, rfl, RokI.h, PureI.h⟩
  have hc2d := decide_eq_false hc2
  rw [if_neg hc2] at h
  simp only [go_sem, seval, hc2d]
  refine hZ _ (pp (Wk_ret (pp ?_)))
  cases h
  simp only [go_sem, seval]
  exact ⟨_, rfl, RokI.h, PureI.h⟩
def fs_ref3_ValidMembers (N : Nat) : FnS := ⟨[], true, fn1 (decL 1 (dec1 (decI .i64))) fun q0 => (ref3_ValidMembers N q0).map fun r => .val (.bool r), false⟩
attribute [go_sem] fs_ref3_ValidMembers
theorem fs_ref3_ValidMembers_ok (N : Nat) : FSOk Try.prog 10 (fs_ref3_ValidMembers N) := ok1 (fun q0 r h => by
  obtain ⟨r', hr, rfl⟩ := Option.map_eq_some_iff.1 h
  exact w_ref3_ValidMembers N q0 r' hr) (fun h => decL_le (decI1_le .i64) h)


theorem w_ref2_Mix (N : Nat) (a0 : Int) (r : Int) (h : ref2_Mix N a0 = some r) : Con Try.prog 65 [] true [.val (.int .u64 a0)] (.val (.int .u64 r)) := by
  refine fun_ok4 (G := (glist [])) Try.func65 rfl (by decide) (by kernel_rfl) gn [] mix (Nat.le_of_ble_eq_true rfl) ?_
  simp only [Try.f65]
  unfold ref2_Mix at h
  replace h := brN_some h
  refine Wk_seq (Wk_regionZ fun Z hZ => ?_)
  simp only [go_sem, seval]
  refine hZ _ (pp (Wk_seq (Wk_regionZ fun Z hZ => ?_)))
  simp only [go_sem, seval]
  refine hZ _ (pp (Wk_seq (Wk_regionZ fun Z hZ => ?_)))
  simp only [go_sem, seval]
  refine hZ _ (pp (Wk_seq (Wk_regionZ fun Z hZ => ?_)))
  simp only [go_sem, seval]
  refine hZ _ (pp (Wk_seq (Wk_regionZ fun Z hZ => ?_)))
  simp only [go_sem, seval]
  refine hZ _ (pp (Wk_seq (Wk_regionZ fun Z hZ => ?_)))
  simp only [go_sem, seval]
  refine hZ _ (pp (Wk_ret (pp ?_)))
  cases h
  simp only [go_sem, seval]
  exact ⟨_, rfl, RokI.h, PureI.h⟩
def fs_ref2_Mix (N : Nat) : FnS := ⟨[], true, fn1 (decI .u64) fun q0 => (ref2_Mix N q0).map fun r => .val (.int .u64 r), false⟩
attribute [go_sem] fs_ref2_Mix
theorem fs_ref2_Mix_ok (N : Nat) : FSOk Try.prog 65 (fs_ref2_Mix N) := ok1 (fun q0 r h => by
  obtain ⟨r', hr, rfl⟩ := Option.map_eq_some_iff.1 h
  exact w_ref2_Mix N q0 r' hr) (decI_le)


noncomputable def G_ref2_Combine (N d f : Nat) : Option FnS := glist [(10, 65, fs_ref2_Mix N)] d f
attribute [go_sem] G_ref2_Combine
theorem w_ref2_Combine (N : Nat) (a0 : Int) (a1 : Int) (r : Int) (h : ref2_Combine N a0 a1 = some r) : Con Try.prog 51 [] true [.val (.int .u64 a0), .val (.int .u64 a1)] (.val (.int .u64 r)) := by
  refine fun_ok4 (G := (G_ref2_Combine N)) Try.func51 rfl (by decide) (by kernel_rfl) (gc 10 (fs_ref2_Mix_ok N) gn) [] mix (Nat.le_of_ble_eq_true rfl) ?_
  simp only [Try.f51]
  unfold ref2_Combine at h
  refine Wk_seq (Wk_regionZ fun Z hZ => ?_)
  simp only [go_sem, seval]
  refine hZ _ (pp (Wk_seq ?_))
  obtain ⟨r1, hr1, h⟩ := Option.bind_eq_some_iff.1 h
  refine Wk_regionZ fun Z hZ => ?_
  simp only [go_sem, seval, hr1]
  refine hZ _ (pp (Wk_ret (pp ?_)))
  cases h
  simp only [go_sem, seval]
  exact ⟨_, rfl, RokI.h, PureI.h⟩
def fs_ref2_Combine (N : Nat) : FnS := ⟨[], true, fn2 (decI .u64) (decI .u64) fun q0 q1 => (ref2_Combine N q0 q1).map fun r => .val (.int .u64 r), false⟩
attribute [go_sem] fs_ref2_Combine
theorem fs_ref2_Combine_ok (N : Nat) : FSOk Try.prog 51 (fs_ref2_Combine N) := ok2 (fun q0 q1 r h => by
  obtain ⟨r', hr, rfl⟩ := Option.map_eq_some_iff.1 h
  exact w_ref2_Combine N q0 q1 r' hr) (decI_le) (decI_le)


noncomputable def G_ref2_Position (N d f : Nat) : Option FnS := glist [(9, 51, fs_ref2_Combine N)] d f
attribute [go_sem] G_ref2_Position
theorem w_ref2_Position (N : Nat) (a0 : Int) (a1 : Int) (r : Int) (h : ref2_Position N a0 a1 = some r) : Con Try.prog 37 [] true [.val (.int .i64 a0), .val (.int .i64 a1)] (.val (.int .u64 r)) := by
  refine fun_ok4 (G := (G_ref2_Position N)) Try.func37 rfl (by decide) (by kernel_rfl) (gc 9 (fs_ref2_Combine_ok N) gn) [] mix (Nat.le_of_ble_eq_true rfl) ?_
  simp only [Try.f37]
  unfold ref2_Position at h
  refine Wk_seq (Wk_regionZ fun Z hZ => ?_)
  simp only [go_sem, seval]
  refine hZ _ (pp (Wk_seq ?_))
  obtain ⟨r1, hr1, h⟩ := Option.bind_eq_some_iff.1 h
  refine Wk_regionZ fun Z hZ => ?_
  simp only [go_sem, seval, hr1]
  refine hZ _ (pp (Wk_ret (pp ?_)))
  cases h
  simp only [go_sem, seval]
  exact ⟨_, rfl, RokI.h, PureI.h⟩
def fs_ref2_Position (N : Nat) : FnS := ⟨[], true, fn2 (decI .i64) (decI .i64) fun q0 q1 => (ref2_Position N q0 q1).map fun r => .val (.int .u64 r), false⟩
attribute [go_sem] fs_ref2_Position
theorem fs_ref2_Position_ok (N : Nat) : FSOk Try.prog 37 (fs_ref2_Position N) := ok2 (fun q0 q1 r h => by
  obtain ⟨r', hr, rfl⟩ := Option.map_eq_some_iff.1 h
  exact w_ref2_Position N q0 q1 r' hr) (decI_le) (decI_le)


noncomputable def G_ref4_Order (N d f : Nat) : Option FnS := glist [(10, 10, fs_ref3_ValidMembers N), (36, 37, fs_ref2_Position N), (42, 37, fs_ref2_Position N)] d f
attribute [go_sem] G_ref4_Order
theorem w_ref4_Order (N : Nat) (a0 : (List Int)) (a1 : Int) (r : (List Int)) (h : ref4_Order N a0 a1 = some r) : Con Try.prog 19 [] true [.sl false none 1 none (a0.map (rowI .i64)), .val (.int .i64 a1)] (.sl true none 1 none (r.map (rowI .i64))) := by
  refine fun_ok4 (G := (G_ref4_Order N)) Try.func19 rfl (by decide) (by kernel_rfl) (gc 10 (fs_ref3_ValidMembers_ok N) (gc 36 (fs_ref2_Position_ok N) (gc 42 (fs_ref2_Position_ok N) gn))) [] mix (Nat.le_of_ble_eq_true rfl) ?_
  simp only [Try.f19]
  unfold ref4_Order at h
  refine Wk_seq (Wk_regionZ fun Z hZ => ?_)
  simp only [go_sem, seval]
  refine hZ _ (pp (Wk_seq ?_))
  apply Wk_join1 (fun (c5 : Bool) => ⟨tab 65 (updT (updT (updT deadT 0 (.sl false none 1 none (a0.map (rowI .i64)))) 1 (.val (.int .i64 a1))) 19 (.val (.bool c5))), RZ⟩)
  · intro hJ1
    obtain ⟨r6, hr2, h⟩ := Option.bind_eq_some_iff.1 h
    refine Wk_regionZ fun Z hZ => ?_
    simp only [go_sem, seval, hr2]
    refine RX_guard_nbool rfl (fun hc3 => ?_) (fun hc3 => ?_)
    · rw [if_neg (ne_true_of_eq_false hc3)] at h
      simp only [go_sem, seval, hc3]
      refine hZ _ (pp (hJ1 _ true ?_ h))
      refine weak_roots ?_ ?_ <;> repeat' first | exact xn | exact rn | refine xc ?_ ?_ | refine rc ?_ ?_ ?_ | rfl | simp only [go_sem, seval, Bool.or_self, List.length_set, Int.natCast_zero, Int.cast_ofNat_Int, hr2, hc3]
    rw [if_pos hc3] at h
    simp only [go_sem, seval, hc3]
    refine RX_guard_dec rfl (fun hc4 => ?_) (fun hc4 => ?_)
    · have hc4d := decide_eq_true hc4
      rw [if_pos hc4] at h
      simp only [go_sem, seval, hc4d]
      refine hZ _ (pp (hJ1 _ true ?_ h))
      refine weak_roots ?_ ?_ <;> repeat' first | exact xn | exact rn | refine xc ?_ ?_ | refine rc ?_ ?_ ?_ | rfl | simp only [go_sem, seval, Bool.or_self, List.length_set, Int.natCast_zero, Int.cast_ofNat_Int, hr2, hc3, hc4d]
    have hc4d := decide_eq_false hc4
    rw [if_neg hc4] at h
    simp only [go_sem, seval, hc4d]
    refine hZ _ (pp (hJ1 _ (decide (5 ≤ a1)) ?_ h))
    refine weak_roots ?_ ?_ <;> repeat' first | exact xn | exact rn | refine xc ?_ ?_ | refine rc ?_ ?_ ?_ | rfl | simp only [go_sem, seval, Bool.or_self, List.length_set, Int.natCast_zero, Int.cast_ofNat_Int, hr2, hc3, hc4d]
  intro c5 h
  unfold ref4_Order_J1 at h
  refine Wk_cond_bool rfl (fun hc5 => ?_) (fun hc5 => ?_)
  · rw [if_pos hc5] at h
    refine Wk_seq (Wk_regionZ fun Z hZ => ?_)
    simp only [go_sem, seval, hc5]
    refine hZ _ (pp (Wk_ret (pp ?_)))
    cases h
    simp only [go_sem, seval]
    exact ⟨_, rfl, RokI.h, PureI.h⟩
  rw [if_neg (ne_true_of_eq_false hc5)] at h
  refine Wk_skip (pp ?_)
  unfold ref4_Order_J3 at h
  refine Wk_seq (Wk_regionZ fun Z hZ => ?_)
  simp only [go_sem, seval, hc5]
  refine hZ _ (pp (Wk_seq (Wk_seq (Wk_regionZ fun Z hZ => ?_))))
  simp only [go_sem, seval]
  refine hZ _ (pp (Wk_block (Wk_real fun hreal7 => ?_)))
  have hl6 := hreal7.lenT 0 (by decide) (by simp only [go_sem, seval]; rfl)
  first | rw [List.length_map] at hl6 | rw [← List.map_append, List.length_map] at hl6
  refine Wk_range (fun (v7 : Nat) (b : List Int) => ⟨tab 65 (updT (updT (updT (updT deadT 0 (.sl false none 1 none (a0.map (rowI .i64)))) 1 (.val (.int .i64 a1))) 5 (.pal 63 [] 0 b.length none)) 6 (.val (.int .i64 ((v7 : Nat) : Int)))), (upd RZ 63 (.sl true none 1 none (b.map (rowI .i64))))⟩) [] h ?_ ?_
  · refine Weak.trans (weak_adopt 5 63 1 (by simp only [go_sem, seval]) (by simp only [go_sem, seval])) ?_
    refine weak_roots ?_ ?_ <;> repeat' first | exact xn | exact rn | refine xc ?_ ?_ | refine rc ?_ ?_ ?_ | rfl | simp only [go_sem, seval, Bool.or_self, List.length_set, Int.natCast_zero, Int.cast_ofNat_Int, hc5]
  rintro v7 l6 hi8 h -
  rcases (drop_cases a0 v7 hi8).symm with ⟨hi8', _, hd11⟩ | ⟨x10, hi8', hx9, hd11⟩
  · rw [hd11] at h
    simp only [ref4_Order_L1] at h
    refine Wk_seq (Wk_seq (Wk_regionZ fun Z hZ => ?_))
    simp only [go_sem, seval, hi8']
    refine hZ _ (pp ?_)
    try simp only [Int.ofNat_lt, hi8', if_true, if_false] at h
    refine Wk_cond_f rfl (Wk_exit (pp (Wk_seq (Wk_regionZ fun Z hZ => ?_))))
    simp only [go_sem, seval]
    refine hZ _ (pp (Wk_ret (pp ?_)))
    cases h
    simp only [go_sem, seval]
    exact ⟨_, rfl, RokI.h, PureI.h⟩
  rw [hd11] at h
  simp only [ref4_Order_L1] at h
  have hw10 := wrap_succ hi8' hl6
  refine Wk_seq (Wk_seq (Wk_regionZ fun Z hZ => ?_))
  simp only [go_sem, seval, hi8']
  refine hZ _ (pp ?_)
  try simp only [Int.ofNat_lt, hi8', if_true, if_false] at h
  refine Wk_cond_t rfl (Wk_skip (pp (Wk_seq (Wk_block (Wk_seq (Wk_regionZ fun Z hZ => ?_))))))
  simp only [go_sem, seval]
  refine hZ _ (pp ?_)
  apply Wk_join1 (fun (v17 : Int) => ⟨tab 65 (updT (updT (updT (updT (updT deadT 0 (.sl false none 1 none (a0.map (rowI .i64)))) 1 (.val (.int .i64 a1))) 5 (.pal 63 [] 0 l6.length none)) 6 (.val (.int .i64 ((v7 : Nat) : Int)))) 7 (.val (.int .i64 v17))), (upd RZ 63 (.sl true none 1 none (l6.map (rowI .i64))))⟩)
  · intro hJ12
    refine Wk_block (Wk_real fun hreal14 => ?_)
    have hl13 := hreal14.lenX 63 (by simp only [go_sem, seval]; rfl)
    first | rw [List.length_map] at hl13 | rw [← List.map_append, List.length_map] at hl13
    refine Wk_range (fun (v14 : Nat) (b : Unit) => ⟨tab 65 (updT (updT (updT (updT (updT deadT 0 (.sl false none 1 none (a0.map (rowI .i64)))) 1 (.val (.int .i64 a1))) 5 (.pal 63 [] 0 l6.length none)) 6 (.val (.int .i64 ((v7 : Nat) : Int)))) 7 (.val (.int .i64 ((v14 : Nat) : Int)))), (upd RZ 63 (.sl true none 1 none (l6.map (rowI .i64))))⟩) () h ?_ ?_
    · refine weak_roots ?_ ?_ <;> repeat' first | exact xn | exact rn | refine xc ?_ ?_ | refine rc ?_ ?_ ?_ | rfl | simp only [go_sem, seval, Bool.or_self, List.length_set, Int.natCast_zero, Int.cast_ofNat_Int, hc5, hx9, hi8', hw10]
    rintro v14 ⟨⟩ hi15 h -
    rcases (drop_cases l6 v14 hi15).symm with ⟨hi15', _, hd18⟩ | ⟨x18, hi15', hx16, hd18⟩
    · rw [hd18] at h
      simp only [ref4_Order_L2] at h
      refine Wk_seq (Wk_seq ?_)
      try simp only [Int.ofNat_lt, hi8', hi15', if_true, if_false] at h
      refine Wk_regionD fun Z hZ => ?_
      simp only [go_sem, seval, hi15']
      repeat with_reducible refine and_bar (by kernel_rfl) ?_
      refine hZ _ (by kernel_rfl) (pp (Wk_cond_f rfl ?_))
      first | rw [if_pos (rfl : true = true)] at h | rw [if_neg Bool.false_ne_true] at h | skip
      refine Wk_exit (pp (hJ12 _ ((v14 : Nat) : Int) ?_ h))
      refine weak_roots ?_ ?_ <;> repeat' first | exact xn | exact rn | refine xc ?_ ?_ | refine rc ?_ ?_ ?_ | rfl | simp only [go_sem, seval, Bool.or_self, List.length_set, Int.natCast_zero, Int.cast_ofNat_Int, hc5, hx9, hi8', hw10, hi15']
    rw [hd18] at h
    simp only [ref4_Order_L2] at h
    have hw17 := wrap_succ hi15' hl13
    refine Wk_seq (Wk_seq ?_)
    try simp only [Int.ofNat_lt, hi8', hi15', if_true, if_false] at h
    try rw [gx_nat hx16] at h
    obtain ⟨r18, hr19, h⟩ := Option.bind_eq_some_iff.1 h
    try rw [gx_nat hx9] at h
    obtain ⟨r19, hr20, h⟩ := Option.bind_eq_some_iff.1 h
    refine Wk_regionD fun Z hZ => ?_
    simp only [go_sem, seval, hx9, hi8', hx16, hi15', hr19, hr20]
    repeat with_reducible refine and_bar (by kernel_rfl) ?_
    refine hZ _ (by kernel_rfl) (pp (Wk_cond_dec rfl (fun hc21 => ?_) (fun hc21 => ?_)))
    · have hc21d := decide_eq_true hc21
      rw [if_pos hc21] at h
      refine Wk_skip (pp (Wk_block (Wk_regionZ fun Z hZ => ?_)))
      simp only [go_sem, seval, hw17, hc21d]
      refine hZ _ (pp ?_)
      first | refine ⟨(), ?_, h⟩ | refine ⟨hi15', (), ?_, h⟩
      refine weak_roots ?_ ?_ <;> repeat' first | exact xn | exact rn | refine xc ?_ ?_ | refine rc ?_ ?_ ?_ | rfl | simp only [go_sem, seval, Bool.or_self, List.length_set, Int.natCast_zero, Int.cast_ofNat_Int, hc5, hx9, hi8', hw10, hx16, hi15', hw17, hr19, hr20, hc21d]
    have hc21d := decide_eq_false hc21
    rw [if_neg hc21] at h
    refine Wk_exit (pp (hJ12 _ ((v14 : Nat) : Int) ?_ h))
    refine weak_roots ?_ ?_ <;> repeat' first | exact xn | exact rn | refine xc ?_ ?_ | refine rc ?_ ?_ ?_ | rfl | simp only [go_sem, seval, Bool.or_self, List.length_set, Int.natCast_zero, Int.cast_ofNat_Int, hc5, hx9, hi8', hw10, hx16, hi15', hw17, hr19, hr20, hc21d]
  intro v17 h
  unfold ref4_Order_J2 at h
  refine Wk_seq (Wk_regionZ fun Z hZ => ?_)
  simp only [go_sem, seval]
  refine hZ _ (pp (Wk_seq ?_))
  obtain ⟨hs22, h⟩ := slx_some h
  try simp only [Int.toNat_zero] at hs22 h
  first | obtain ⟨ha23, h⟩ := apn_some h | (obtain ⟨ha23, h⟩ := apx_some h; rw [List.nil_append] at h)
  simp only [Nat.reduceAdd] at ha23
  refine Wk_regionZ fun Z hZ => ?_
  simp only [go_sem, seval, hs22, Nat.sub_zero, ha23]
  refine hZ _ (pp (Wk_seq ?_))
  try rw [gx_nat hx9] at h
  obtain ⟨ha24, h⟩ := apx_some h
  simp only [List.length_cons, List.length_nil, Nat.zero_add, Nat.reduceAdd] at ha24
  refine Wk_regionZ fun Z hZ => ?_
  simp only [go_sem, seval, hx9, hi8', ha24]
  refine hZ _ (pp ?_)
  obtain ⟨hs25, h⟩ := slx_some h
  try simp only [Int.toNat_natCast] at hs25 h
  obtain ⟨ha26, h⟩ := apx_some h
  simp only [List.length_append, List.length_cons, List.length_nil, Nat.zero_add, Nat.reduceAdd] at ha26
  refine Wk_regionZ fun Z hZ => ?_
  simp only [go_sem, seval, hs22, Nat.zero_le, ha26]
  refine hZ _ (pp (Wk_regionZ fun Z hZ => ?_))
  simp only [go_sem, seval, hw10]
  refine hZ _ (pp ?_)
  first | refine ⟨(((l6.take ((v17).toNat)) ++ [x10]) ++ ((l6.drop ((v17).toNat)).take (l6.length - (v17).toNat))), ?_, h⟩ | refine ⟨hi8', (((l6.take ((v17).toNat)) ++ [x10]) ++ ((l6.drop ((v17).toNat)).take (l6.length - (v17).toNat))), ?_, h⟩
  refine weak_roots ?_ ?_ <;> repeat' first | exact xn | exact rn | refine xc ?_ ?_ | refine rc ?_ ?_ ?_ | rfl | simp only [go_sem, seval]
def fs_ref4_Order (N : Nat) : FnS := ⟨[], true, fn2 (decL 1 (dec1 (decI .i64))) (decI .i64) fun q0 q1 => (ref4_Order N q0 q1).map fun r => .sl false none 1 none (r.map (rowI .i64)), false⟩
attribute [go_sem] fs_ref4_Order
theorem fs_ref4_Order_ok (N : Nat) : FSOk Try.prog 19 (fs_ref4_Order N) := ok2 (fun q0 q1 r h => by
  obtain ⟨r', hr, rfl⟩ := Option.map_eq_some_iff.1 h
  exact (w_ref4_Order N q0 q1 r' hr).res (by (try simp only [go_sem]); exact RokI.h)) (fun h => decL_le (decI1_le .i64) h) (decI_le)

def fso_ref4_Order (N : Nat) : FnS := ⟨[], true, fn2 (decL 1 (dec1 (decI .i64))) (decI .i64) fun q0 q1 => (ref4_Order N q0 q1).map fun r => .sl true none 1 none (r.map (rowI .i64)), false⟩
attribute [go_sem] fso_ref4_Order
theorem fso_ref4_Order_ok (N : Nat) : FSOk Try.prog 19 (fso_ref4_Order N) := ok2 (fun q0 q1 r h => by
  obtain ⟨r', hr, rfl⟩ := Option.map_eq_some_iff.1 h
  exact w_ref4_Order N q0 q1 r' hr) (fun h => decL_le (decI1_le .i64) h) (decI_le)


theorem w_law4_same (N : Nat) (a0 : (List Int)) (a1 : (List Int)) (r : Bool) (h : law4_same N a0 a1 = some r) : Con Try.prog 18 [] true [.sl false none 1 none (a0.map (rowI .i64)), .sl false none 1 none (a1.map (rowI .i64))] (.val (.bool r)) := by
  refine fun_ok4 (G := (glist [])) Try.func18 rfl (by decide) (by kernel_rfl) gn [] mix (Nat.le_of_ble_eq_true rfl) ?_
  simp only [Try.f18]
  unfold law4_same at h
  refine Wk_seq (Wk_regionZ fun Z hZ => ?_)
  simp only [go_sem, seval]
  refine hZ _ (pp (Wk_seq (Wk_seq (Wk_regionZ fun Z hZ => ?_))))
  simp only [go_sem, seval]
  refine hZ _ (pp (Wk_cond_ndec rfl (fun hc1 => ?_) (fun hc1 => ?_)))
  · have hc1d := decide_eq_false hc1
    rw [if_neg hc1] at h
    refine Wk_seq (Wk_regionZ fun Z hZ => ?_)
    simp only [go_sem, seval, hc1d]
    refine hZ _ (pp (Wk_ret (pp ?_)))
    cases h
    simp only [go_sem, seval]
    exact ⟨_, rfl, RokI.h, PureI.h⟩
  have hc1d := decide_eq_true hc1
  rw [if_pos hc1] at h
  refine Wk_skip (pp (Wk_seq (Wk_seq (Wk_regionZ fun Z hZ => ?_))))
  simp only [go_sem, seval, hc1d]
  refine hZ _ (pp (Wk_block (Wk_real fun hreal3 => ?_)))
  have hl2 := hreal3.lenT 0 (by decide) (by simp only [go_sem, seval]; rfl)
  first | rw [List.length_map] at hl2 | rw [← List.map_append, List.length_map] at hl2
  refine Wk_range (fun (v3 : Nat) (b : Unit) => ⟨tab 26 (updT (updT (updT deadT 0 (.sl false none 1 none (a0.map (rowI .i64)))) 1 (.sl false none 1 none (a1.map (rowI .i64)))) 5 (.val (.int .i64 ((v3 : Nat) : Int)))), RZ⟩) () h ?_ ?_
  · refine weak_roots ?_ ?_ <;> repeat' first | exact xn | exact rn | refine xc ?_ ?_ | refine rc ?_ ?_ ?_ | rfl
  rintro v3 ⟨⟩ hi4 h -
  rcases (drop_cases a0 v3 hi4).symm with ⟨hi4', _, hd7⟩ | ⟨x6, hi4', hx5, hd7⟩
  · rw [hd7] at h
    simp only [law4_same_L1] at h
    refine Wk_seq (Wk_seq (Wk_regionZ fun Z hZ => ?_))
    simp only [go_sem, seval, hi4']
    refine hZ _ (pp ?_)
    try simp only [Int.ofNat_lt, hi4', if_true, if_false] at h
    refine Wk_cond_f rfl (Wk_exit (pp (Wk_seq (Wk_regionZ fun Z hZ => ?_))))
    simp only [go_sem, seval]
    refine hZ _ (pp (Wk_ret (pp ?_)))
    cases h
    simp only [go_sem, seval]
    exact ⟨_, rfl, RokI.h, PureI.h⟩
  rw [hd7] at h
  simp only [law4_same_L1] at h
  have hw6 := wrap_succ hi4' hl2
  refine Wk_seq (Wk_seq (Wk_regionZ fun Z hZ => ?_))
  simp only [go_sem, seval, hi4']
  refine hZ _ (pp ?_)
  try simp only [Int.ofNat_lt, hi4', if_true, if_false] at h
  refine Wk_cond_t rfl (Wk_skip (pp (Wk_seq (Wk_block (Wk_seq ?_)))))
  try rw [gx_nat hx5] at h
  obtain ⟨x1, hb8, hx9, h⟩ := gx_some h
  try simp only [Int.toNat_natCast] at hx9
  try simp only [Int.ofNat_lt, Int.natCast_nonneg, true_and] at hb8
  refine Wk_regionD fun Z hZ => ?_
  simp only [go_sem, seval, hx5, hi4', hb8, hx9]
  refine hZ _ (by kernel_rfl) (pp (Wk_cond_ndec rfl (fun hc10 => ?_) (fun hc10 => ?_)))
  · have hc10d := decide_eq_false hc10
    rw [if_neg hc10] at h
    refine Wk_seq (Wk_regionZ fun Z hZ => ?_)
    simp only [go_sem, seval, hc10d]
    refine hZ _ (pp (Wk_ret (pp ?_)))
    cases h
    simp only [go_sem, seval]
    exact ⟨_, rfl, RokI.h, PureI.h⟩
  have hc10d := decide_eq_true hc10
  rw [if_pos hc10] at h
  refine Wk_skip (pp (Wk_regionZ fun Z hZ => ?_))
  simp only [go_sem, seval, hw6, hc10d]
  refine hZ _ (pp ?_)
  first | refine ⟨(), ?_, h⟩ | refine ⟨hi4', (), ?_, h⟩
  refine weak_roots ?_ ?_ <;> repeat' first | exact xn | exact rn | refine xc ?_ ?_ | refine rc ?_ ?_ ?_ | rfl
def fs_law4_same (N : Nat) : FnS := ⟨[], true, fn2 (decL 1 (dec1 (decI .i64))) (decL 1 (dec1 (decI .i64))) fun q0 q1 => (law4_same N q0 q1).map fun r => .val (.bool r), false⟩
attribute [go_sem] fs_law4_same
theorem fs_law4_same_ok (N : Nat) : FSOk Try.prog 18 (fs_law4_same N) := ok2 (fun q0 q1 r h => by
  obtain ⟨r', hr, rfl⟩ := Option.map_eq_some_iff.1 h
  exact w_law4_same N q0 q1 r' hr) (fun h => decL_le (decI1_le .i64) h) (fun h => decL_le (decI1_le .i64) h)


noncomputable def G_ref4_Ahead (N d f : Nat) : Option FnS := glist [(12, 19, fs_ref4_Order N), (30, 37, fs_ref2_Position N), (33, 37, fs_ref2_Position N)] d f
attribute [go_sem] G_ref4_Ahead
theorem w_ref4_Ahead (N : Nat) (a0 : (List Int)) (a1 : Int) (a2 : Int) (r : Int) (h : ref4_Ahead N a0 a1 a2 = some r) : Con Try.prog 39 [] true [.sl false none 1 none (a0.map (rowI .i64)), .val (.int .i64 a1), .val (.int .i64 a2)] (.val (.int .i64 r)) := by
  refine fun_ok4 (G := (G_ref4_Ahead N)) Try.func39 rfl (by decide) (by kernel_rfl) (gc 12 (fs_ref4_Order_ok N) (gc 30 (fs_ref2_Position_ok N) (gc 33 (fs_ref2_Position_ok N) gn))) [] mix (Nat.le_of_ble_eq_true rfl) ?_
  simp only [Try.f39]
  unfold ref4_Ahead at h
  refine Wk_seq (Wk_regionZ fun Z hZ => ?_)
  simp only [go_sem, seval]
  refine hZ _ (pp (Wk_seq ?_))
  obtain ⟨r1, hr1, h⟩ := Option.bind_eq_some_iff.1 h
  refine Wk_regionZ fun Z hZ => ?_
  simp only [go_sem, seval, hr1]
  refine hZ _ (pp (Wk_seq ?_))
  obtain ⟨x2, hb2, hx3, h⟩ := gx_some h
  refine Wk_regionZ fun Z hZ => ?_
  simp only [go_sem, seval, hb2, hx3]
  refine hZ _ (pp (Wk_seq (Wk_seq (Wk_regionZ fun Z hZ => ?_))))
  simp only [go_sem, seval]
  refine hZ _ (pp (Wk_block (Wk_real fun hreal5 => ?_)))
  have hl4 := hreal5.lenT 7 (by decide) (by simp only [go_sem, seval]; rfl)
  first | rw [List.length_map] at hl4 | rw [← List.map_append, List.length_map] at hl4
  refine Wk_range (fun (v5 : Nat) (b : Int) => ⟨tab 40 (updT (updT (updT (updT (updT deadT 1 (.val (.int .i64 a1))) 2 (.val (.int .i64 a2))) 7 (.sl false none 1 none (r1.map (rowI .i64)))) 8 (.val (.int .i64 b))) 9 (.val (.int .i64 ((v5 : Nat) : Int)))), RZ⟩) x2 h ?_ ?_
  · refine weak_roots ?_ ?_ <;> repeat' first | exact xn | exact rn | refine xc ?_ ?_ | refine rc ?_ ?_ ?_ | rfl
  rintro v5 v4 hi6 h -
  rcases (drop_cases r1 v5 hi6).symm with ⟨hi6', _, hd9⟩ | ⟨x8, hi6', hx7, hd9⟩
  · rw [hd9] at h
    simp only [ref4_Ahead_L1] at h
    refine Wk_seq (Wk_seq (Wk_regionZ fun Z hZ => ?_))
    simp only [go_sem, seval, hi6']
    refine hZ _ (pp ?_)
    try simp only [Int.ofNat_lt, hi6', if_true, if_false] at h
    refine Wk_cond_f rfl (Wk_exit (pp (Wk_seq (Wk_regionZ fun Z hZ => ?_))))
    simp only [go_sem, seval]
    refine hZ _ (pp (Wk_ret (pp ?_)))
    cases h
    simp only [go_sem, seval]
    exact ⟨_, rfl, RokI.h, PureI.h⟩
  rw [hd9] at h
  simp only [ref4_Ahead_L1] at h
  have hw8 := wrap_succ hi6' hl4
  refine Wk_seq (Wk_seq (Wk_regionZ fun Z hZ => ?_))
  simp only [go_sem, seval, hi6']
  refine hZ _ (pp ?_)
  try simp only [Int.ofNat_lt, hi6', if_true, if_false] at h
  refine Wk_cond_t rfl (Wk_skip (pp (Wk_seq (Wk_block (Wk_seq ?_)))))
  try rw [gx_nat hx7] at h
  obtain ⟨r3, hr10, h⟩ := Option.bind_eq_some_iff.1 h
  obtain ⟨r4, hr11, h⟩ := Option.bind_eq_some_iff.1 h
  refine Wk_regionZ fun Z hZ => ?_
  simp only [go_sem, seval, hx7, hi6', hr10, hr11]
  refine hZ _ (pp (Wk_cond_dec rfl (fun hc12 => ?_) (fun hc12 => ?_)))
  · have hc12d := decide_eq_true hc12
    rw [if_pos hc12] at h
    try rw [gx_nat hx7] at h
    refine Wk_regionZ fun Z hZ => ?_
    simp only [go_sem, seval, hx7, hi6', hc12d]
    refine hZ _ (pp (Wk_regionZ fun Z hZ => ?_))
    simp only [go_sem, seval, hw8]
    refine hZ _ (pp ?_)
    first | refine ⟨x8, ?_, h⟩ | refine ⟨hi6', x8, ?_, h⟩
    refine weak_roots ?_ ?_ <;> repeat' first | exact xn | exact rn | refine xc ?_ ?_ | refine rc ?_ ?_ ?_ | rfl
  have hc12d := decide_eq_false hc12
  rw [if_neg hc12] at h
  refine Wk_skip (pp (Wk_regionZ fun Z hZ => ?_))
  simp only [go_sem, seval, hw8, hc12d]
  refine hZ _ (pp ?_)
  first | refine ⟨v4, ?_, h⟩ | refine ⟨hi6', v4, ?_, h⟩
  refine weak_roots ?_ ?_ <;> repeat' first | exact xn | exact rn | refine xc ?_ ?_ | refine rc ?_ ?_ ?_ | rfl
def fs_ref4_Ahead (N : Nat) : FnS := ⟨[], true, fn3 (decL 1 (dec1 (decI .i64))) (decI .i64) (decI .i64) fun q0 q1 q2 => (ref4_Ahead N q0 q1 q2).map fun r => .val (.int .i64 r), false⟩
attribute [go_sem] fs_ref4_Ahead
theorem fs_ref4_Ahead_ok (N : Nat) : FSOk Try.prog 39 (fs_ref4_Ahead N) := ok3 (fun q0 q1 q2 r h => by
  obtain ⟨r', hr, rfl⟩ := Option.map_eq_some_iff.1 h
  exact w_ref4_Ahead N q0 q1 q2 r' hr) (fun h => decL_le (decI1_le .i64) h) (decI_le) (decI_le)


noncomputable def G_ref4_Observers (N d f : Nat) : Option FnS := glist [(8, 10, fs_ref3_ValidMembers N), (12, 38, fs_ref3_IsID N), (35, 39, fs_ref4_Ahead N)] d f
attribute [go_sem] G_ref4_Observers
theorem w_ref4_Observers (N : Nat) (a0 : (List Int)) (a1 : Int) (r : (List Int)) (h : ref4_Observers N a0 a1 = some r) : Con Try.prog 20 [] true [.sl false none 1 none (a0.map (rowI .i64)), .val (.int .i64 a1)] (.sl true none 1 none (r.map (rowI .i64))) := by
  refine fun_ok4 (G := (G_ref4_Observers N)) Try.func20 rfl (by decide) (by kernel_rfl) (gc 8 (fs_ref3_ValidMembers_ok N) (gc 12 (fs_ref3_IsID_ok N) (gc 35 (fs_ref4_Ahead_ok N) gn))) [] mix (Nat.le_of_ble_eq_true rfl) ?_
  simp only [Try.f20]
  unfold ref4_Observers at h
  refine Wk_seq (Wk_regionZ fun Z hZ => ?_)
  simp only [go_sem, seval]
  refine hZ _ (pp (Wk_seq ?_))
  apply Wk_join1 (fun (c9 : Bool) => ⟨tab 39 (updT (updT (updT deadT 0 (.sl false none 1 none (a0.map (rowI .i64)))) 1 (.val (.int .i64 a1))) 26 (.val (.bool c9))), RZ⟩)
  · intro hJ1
    obtain ⟨r10, hr2, h⟩ := Option.bind_eq_some_iff.1 h
    refine Wk_regionZ fun Z hZ => ?_
    simp only [go_sem, seval, hr2]
    refine RX_guard_nbool rfl (fun hc3 => ?_) (fun hc3 => ?_)
    · rw [if_neg (ne_true_of_eq_false hc3)] at h
      simp only [go_sem, seval, hc3]
      refine hZ _ (pp (hJ1 _ true ?_ h))
      refine weak_roots ?_ ?_ <;> repeat' first | exact xn | exact rn | refine xc ?_ ?_ | refine rc ?_ ?_ ?_ | rfl
    rw [if_pos hc3] at h
    obtain ⟨r11, hr4, h⟩ := Option.bind_eq_some_iff.1 h
    simp only [go_sem, seval, hc3, hr4]
    refine RX_guard_nbool rfl (fun hc5 => ?_) (fun hc5 => ?_)
    · rw [if_neg (ne_true_of_eq_false hc5)] at h
      simp only [go_sem, seval, hc5]
      refine hZ _ (pp (hJ1 _ true ?_ h))
      refine weak_roots ?_ ?_ <;> repeat' first | exact xn | exact rn | refine xc ?_ ?_ | refine rc ?_ ?_ ?_ | rfl
    rw [if_pos hc5] at h
    simp only [go_sem, seval, hc5]
    refine sw (RX_guard_dec rfl) (fun hc6 => ?_) (fun hc6 => ?_)
    · have hc6d := decide_eq_false hc6
      rw [if_neg hc6] at h
      simp only [go_sem, seval, hc6d]
      refine hZ _ (pp (hJ1 _ false ?_ h))
      refine weak_roots ?_ ?_ <;> repeat' first | exact xn | exact rn | refine xc ?_ ?_ | refine rc ?_ ?_ ?_ | rfl
    have hc6d := decide_eq_true hc6
    rw [if_pos hc6] at h
    obtain ⟨x12, hb7, hx8, h⟩ := gx_some h
    try simp only [Int.toNat_zero] at hx8
    try simp only [Int.ofNat_lt, Int.natCast_nonneg, true_and] at hb7
    simp only [go_sem, seval, hc6d, hb7, hx8]
    refine hZ _ (pp (hJ1 _ (decide (x12 = a1)) ?_ h))
    refine weak_roots ?_ ?_ <;> repeat' first | exact xn | exact rn | refine xc ?_ ?_ | refine rc ?_ ?_ ?_ | rfl
  intro c9 h
  unfold ref4_Observers_J1 at h
  refine Wk_cond_bool rfl (fun hc9 => ?_) (fun hc9 => ?_)
  · rw [if_pos hc9] at h
    refine Wk_seq (Wk_regionZ fun Z hZ => ?_)
    simp only [go_sem, seval, hc9]
    refine hZ _ (pp (Wk_ret (pp ?_)))
    cases h
    simp only [go_sem, seval]
    exact ⟨_, rfl, RokI.h, PureI.h⟩
  rw [if_neg (ne_true_of_eq_false hc9)] at h
  refine Wk_skip (pp ?_)
  unfold ref4_Observers_J2 at h
  refine Wk_seq (Wk_regionZ fun Z hZ => ?_)
  simp only [go_sem, seval, hc9]
  refine hZ _ (pp (Wk_seq (Wk_seq (Wk_regionZ fun Z hZ => ?_))))
  simp only [go_sem, seval]
  refine hZ _ (pp (Wk_block (Wk_rounds 6 (Wk_rs (Wk_seq (Wk_seq (Wk_regionZ fun Z hZ => ?_)))))))
  simp only [go_sem, seval]
  refine hZ _ (pp (Wk_cond_t rfl ?_))
  first | rw [if_pos (rfl : true = true)] at h | rw [if_neg Bool.false_ne_true] at h | skip
  refine Wk_skip (pp (Wk_seq (Wk_block ?_)))
  obtain ⟨r13, hr10, h⟩ := Option.bind_eq_some_iff.1 h
  first | obtain ⟨ha11, h⟩ := apn_some h | (obtain ⟨ha11, h⟩ := apx_some h; rw [List.nil_append] at h)
  simp only [List.length_cons, List.length_nil, Nat.zero_add, Nat.reduceAdd] at ha11
  refine Wk_regionZ fun Z hZ => ?_
  simp only [go_sem, seval, hr10, ha11]
  refine hZ _ (pp (Wk_regionZ fun Z hZ => ?_))
  simp only [go_sem, seval, show IntKind.i64.wrap 1 = 1 from rfl]
  refine hZ _ (pp (Wk_rs (Wk_seq (Wk_seq (Wk_regionZ fun Z hZ => ?_)))))
  simp only [go_sem, seval]
  refine hZ _ (pp (Wk_cond_t rfl ?_))
  first | rw [if_pos (rfl : true = true)] at h | rw [if_neg Bool.false_ne_true] at h | skip
  refine Wk_skip (pp (Wk_seq (Wk_block ?_)))
  obtain ⟨r14, hr12, h⟩ := Option.bind_eq_some_iff.1 h
  obtain ⟨ha13, h⟩ := apx_some h
  simp only [List.length_cons, List.length_nil, Nat.zero_add, Nat.reduceAdd] at ha13
  refine Wk_regionZ fun Z hZ => ?_
  simp only [go_sem, seval, hr12, ha13]
  refine hZ _ (pp (Wk_regionZ fun Z hZ => ?_))
  simp only [go_sem, seval, show IntKind.i64.wrap 2 = 2 from rfl]
  refine hZ _ (pp (Wk_rs (Wk_seq (Wk_seq (Wk_regionZ fun Z hZ => ?_)))))
  simp only [go_sem, seval]
  refine hZ _ (pp (Wk_cond_t rfl ?_))
  first | rw [if_pos (rfl : true = true)] at h | rw [if_neg Bool.false_ne_true] at h | skip
  refine Wk_skip (pp (Wk_seq (Wk_block ?_)))
  obtain ⟨r15, hr14, h⟩ := Option.bind_eq_some_iff.1 h
  obtain ⟨ha15, h⟩ := apx_some h
  simp only [List.length_append, List.length_cons, List.length_nil, Nat.zero_add, Nat.reduceAdd] at ha15
  refine Wk_regionZ fun Z hZ => ?_
  simp only [go_sem, seval, hr14, ha15]
  refine hZ _ (pp (Wk_regionZ fun Z hZ => ?_))
  simp only [go_sem, seval, show IntKind.i64.wrap 3 = 3 from rfl]
  refine hZ _ (pp (Wk_rs (Wk_seq (Wk_seq (Wk_regionZ fun Z hZ => ?_)))))
  simp only [go_sem, seval]
  refine hZ _ (pp (Wk_cond_t rfl ?_))
  first | rw [if_pos (rfl : true = true)] at h | rw [if_neg Bool.false_ne_true] at h | skip
  refine Wk_skip (pp (Wk_seq (Wk_block ?_)))
  obtain ⟨r16, hr16, h⟩ := Option.bind_eq_some_iff.1 h
  obtain ⟨ha17, h⟩ := apx_some h
  simp only [List.length_append, List.length_cons, List.length_nil, Nat.zero_add, Nat.reduceAdd] at ha17
  refine Wk_regionZ fun Z hZ => ?_
  simp only [go_sem, seval, hr16, ha17]
  refine hZ _ (pp (Wk_regionZ fun Z hZ => ?_))
  simp only [go_sem, seval, show IntKind.i64.wrap 4 = 4 from rfl]
  refine hZ _ (pp (Wk_rs (Wk_seq (Wk_seq (Wk_regionZ fun Z hZ => ?_)))))
  simp only [go_sem, seval]
  refine hZ _ (pp (Wk_cond_t rfl ?_))
  first | rw [if_pos (rfl : true = true)] at h | rw [if_neg Bool.false_ne_true] at h | skip
  refine Wk_skip (pp (Wk_seq (Wk_block ?_)))
  obtain ⟨r17, hr18, h⟩ := Option.bind_eq_some_iff.1 h
  obtain ⟨ha19, h⟩ := apx_some h
  simp only [List.length_append, List.length_cons, List.length_nil, Nat.zero_add, Nat.reduceAdd] at ha19
  refine Wk_regionZ fun Z hZ => ?_
  simp only [go_sem, seval, hr18, ha19]
  refine hZ _ (pp (Wk_regionZ fun Z hZ => ?_))
  simp only [go_sem, seval, show IntKind.i64.wrap 5 = 5 from rfl]
  refine hZ _ (pp (Wk_rs (Wk_seq (Wk_seq (Wk_regionZ fun Z hZ => ?_)))))
  simp only [go_sem, seval]
  refine hZ _ (pp (Wk_cond_f rfl ?_))
  first | rw [if_pos (rfl : true = true)] at h | rw [if_neg Bool.false_ne_true] at h | skip
  refine Wk_exit (pp (Wk_seq (Wk_regionZ fun Z hZ => ?_)))
  simp only [go_sem, seval]
  refine hZ _ (pp (Wk_ret (pp ?_)))
  cases h
  simp only [go_sem, seval]
  exact ⟨_, rfl, RokI.h, PureI.h⟩
def fs_ref4_Observers (N : Nat) : FnS := ⟨[], true, fn2 (decL 1 (dec1 (decI .i64))) (decI .i64) fun q0 q1 => (ref4_Observers N q0 q1).map fun r => .sl false none 1 none (r.map (rowI .i64)), false⟩
attribute [go_sem] fs_ref4_Observers
theorem fs_ref4_Observers_ok (N : Nat) : FSOk Try.prog 20 (fs_ref4_Observers N) := ok2 (fun q0 q1 r h => by
  obtain ⟨r', hr, rfl⟩ := Option.map_eq_some_iff.1 h
  exact (w_ref4_Observers N q0 q1 r' hr).res (by (try simp only [go_sem]); exact RokI.h)) (fun h => decL_le (decI1_le .i64) h) (decI_le)

def fso_ref4_Observers (N : Nat) : FnS := ⟨[], true, fn2 (decL 1 (dec1 (decI .i64))) (decI .i64) fun q0 q1 => (ref4_Observers N q0 q1).map fun r => .sl true none 1 none (r.map (rowI .i64)), false⟩
attribute [go_sem] fso_ref4_Observers
theorem fso_ref4_Observers_ok (N : Nat) : FSOk Try.prog 20 (fso_ref4_Observers N) := ok2 (fun q0 q1 r h => by
  obtain ⟨r', hr, rfl⟩ := Option.map_eq_some_iff.1 h
  exact w_ref4_Observers N q0 q1 r' hr) (fun h => decL_le (decI1_le .i64) h) (decI_le)


theorem w_ref3_Place (N : Nat) (a0 : (List Int)) (a1 : Int) (r : Int) (h : ref3_Place N a0 a1 = some r) : Con Try.prog 41 [] true [.sl false none 1 none (a0.map (rowI .i64)), .val (.int .i64 a1)] (.val (.int .i64 r)) := by
  refine fun_ok4 (G := (glist [])) Try.func41 rfl (by decide) (by kernel_rfl) gn [] mix (Nat.le_of_ble_eq_true rfl) ?_
  simp only [Try.f41]
  unfold ref3_Place at h
  refine Wk_seq (Wk_regionZ fun Z hZ => ?_)
  simp only [go_sem, seval]
  refine hZ _ (pp (Wk_seq (Wk_seq (Wk_regionZ fun Z hZ => ?_))))
  simp only [go_sem, seval]
  refine hZ _ (pp (Wk_block (Wk_real fun hreal2 => ?_)))
  have hl1 := hreal2.lenT 0 (by decide) (by simp only [go_sem, seval]; rfl)
  first | rw [List.length_map] at hl1 | rw [← List.map_append, List.length_map] at hl1
  refine Wk_range (fun (v2 : Nat) (b : Unit) => ⟨tab 19 (updT (updT (updT deadT 0 (.sl false none 1 none (a0.map (rowI .i64)))) 1 (.val (.int .i64 a1))) 5 (.val (.int .i64 ((v2 : Nat) : Int)))), RZ⟩) () h ?_ ?_
  · refine weak_roots ?_ ?_ <;> repeat' first | exact xn | exact rn | refine xc ?_ ?_ | refine rc ?_ ?_ ?_ | rfl
  rintro v2 ⟨⟩ hi3 h -
  rcases (drop_cases a0 v2 hi3).symm with ⟨hi3', _, hd6⟩ | ⟨x5, hi3', hx4, hd6⟩
  · rw [hd6] at h
    simp only [ref3_Place_L1] at h
    refine Wk_seq (Wk_seq (Wk_regionZ fun Z hZ => ?_))
    simp only [go_sem, seval, hi3']
    refine hZ _ (pp ?_)
    try simp only [Int.ofNat_lt, hi3', if_true, if_false] at h
    refine Wk_cond_f rfl (Wk_exit (pp (Wk_seq (Wk_regionZ fun Z hZ => ?_))))
    simp only [go_sem, seval]
    refine hZ _ (pp (Wk_ret (pp ?_)))
    cases h
    simp only [go_sem, seval]
    exact ⟨_, rfl, RokI.h, PureI.h⟩
  rw [hd6] at h
  simp only [ref3_Place_L1] at h
  have hw5 := wrap_succ hi3' hl1
  refine Wk_seq (Wk_seq (Wk_regionZ fun Z hZ => ?_))
  simp only [go_sem, seval, hi3']
  refine hZ _ (pp ?_)
  try simp only [Int.ofNat_lt, hi3', if_true, if_false] at h
  refine Wk_cond_t rfl (Wk_skip (pp (Wk_seq (Wk_block (Wk_seq ?_)))))
  try rw [gx_nat hx4] at h
  refine Wk_regionZ fun Z hZ => ?_
  simp only [go_sem, seval, hx4, hi3']
  refine hZ _ (pp (Wk_cond_dec rfl (fun hc7 => ?_) (fun hc7 => ?_)))
  · have hc7d := decide_eq_true hc7
    rw [if_pos hc7] at h
    refine Wk_seq (Wk_regionZ fun Z hZ => ?_)
    simp only [go_sem, seval, hc7d]
    refine hZ _ (pp (Wk_ret (pp ?_)))
    cases h
    simp only [go_sem, seval]
    exact ⟨_, rfl, RokI.h, PureI.h⟩
  have hc7d := decide_eq_false hc7
  rw [if_neg hc7] at h
  refine Wk_skip (pp (Wk_regionZ fun Z hZ => ?_))
  simp only [go_sem, seval, hw5, hc7d]
  refine hZ _ (pp ?_)
  first | refine ⟨(), ?_, h⟩ | refine ⟨hi3', (), ?_, h⟩
  refine weak_roots ?_ ?_ <;> repeat' first | exact xn | exact rn | refine xc ?_ ?_ | refine rc ?_ ?_ ?_ | rfl
def fs_ref3_Place (N : Nat) : FnS := ⟨[], true, fn2 (decL 1 (dec1 (decI .i64))) (decI .i64) fun q0 q1 => (ref3_Place N q0 q1).map fun r => .val (.int .i64 r), false⟩
attribute [go_sem] fs_ref3_Place
theorem fs_ref3_Place_ok (N : Nat) : FSOk Try.prog 41 (fs_ref3_Place N) := ok2 (fun q0 q1 r h => by
  obtain ⟨r', hr, rfl⟩ := Option.map_eq_some_iff.1 h
  exact w_ref3_Place N q0 q1 r' hr) (fun h => decL_le (decI1_le .i64) h) (decI_le)


noncomputable def G_ref3_Contains (N d f : Nat) : Option FnS := glist [(7, 41, fs_ref3_Place N)] d f
attribute [go_sem] G_ref3_Contains
theorem w_ref3_Contains (N : Nat) (a0 : (List Int)) (a1 : Int) (r : Bool) (h : ref3_Contains N a0 a1 = some r) : Con Try.prog 40 [] true [.sl false none 1 none (a0.map (rowI .i64)), .val (.int .i64 a1)] (.val (.bool r)) := by
  refine fun_ok4 (G := (G_ref3_Contains N)) Try.func40 rfl (by decide) (by kernel_rfl) (gc 7 (fs_ref3_Place_ok N) gn) [] mix (Nat.le_of_ble_eq_true rfl) ?_
  simp only [Try.f40]
  unfold ref3_Contains at h
  refine Wk_seq (Wk_regionZ fun Z hZ => ?_)
  simp only [go_sem, seval]
  refine hZ _ (pp (Wk_seq ?_))
  obtain ⟨r1, hr1, h⟩ := Option.bind_eq_some_iff.1 h
  refine Wk_regionZ fun Z hZ => ?_
  simp only [go_sem, seval, hr1]
  refine hZ _ (pp (Wk_ret (pp ?_)))
  cases h
  simp only [go_sem, seval]
  exact ⟨_, rfl, RokI.h, PureI.h⟩
def fs_ref3_Contains (N : Nat) : FnS := ⟨[], true, fn2 (decL 1 (dec1 (decI .i64))) (decI .i64) fun q0 q1 => (ref3_Contains N q0 q1).map fun r => .val (.bool r), false⟩
attribute [go_sem] fs_ref3_Contains
theorem fs_ref3_Contains_ok (N : Nat) : FSOk Try.prog 40 (fs_ref3_Contains N) := ok2 (fun q0 q1 r h => by
  obtain ⟨r', hr, rfl⟩ := Option.map_eq_some_iff.1 h
  exact w_ref3_Contains N q0 q1 r' hr) (fun h => decL_le (decI1_le .i64) h) (decI_le)


noncomputable def G_ref4_Subjects (N d f : Nat) : Option FnS := glist [(9, 10, fs_ref3_ValidMembers N), (19, 40, fs_ref3_Contains N), (28, 19, fs_ref4_Order N), (33, 41, fs_ref3_Place N)] d f
attribute [go_sem] G_ref4_Subjects
theorem w_ref4_Subjects (N : Nat) (a0 : (List Int)) (a1 : Int) (r : (List Int)) (h : ref4_Subjects N a0 a1 = some r) : Con Try.prog 21 [] true [.sl false none 1 none (a0.map (rowI .i64)), .val (.int .i64 a1)] (.sl true none 1 none (r.map (rowI .i64))) := by
  refine fun_ok4 (G := (G_ref4_Subjects N)) Try.func21 rfl (by decide) (by kernel_rfl) (gc 9 (fs_ref3_ValidMembers_ok N) (gc 19 (fs_ref3_Contains_ok N) (gc 28 (fs_ref4_Order_ok N) (gc 33 (fs_ref3_Place_ok N) gn)))) [] mix (Nat.le_of_ble_eq_true rfl) ?_
  simp only [Try.f21]
  unfold ref4_Subjects at h
  refine Wk_seq (Wk_regionZ fun Z hZ => ?_)
  simp only [go_sem, seval]
  refine hZ _ (pp (Wk_seq ?_))
  apply Wk_join1 (fun (c7 : Bool) => ⟨tab 43 (updT (updT (updT deadT 0 (.sl false none 1 none (a0.map (rowI .i64)))) 1 (.val (.int .i64 a1))) 21 (.val (.bool c7))), RZ⟩)
  · intro hJ1
    obtain ⟨r8, hr2, h⟩ := Option.bind_eq_some_iff.1 h
    refine Wk_regionZ fun Z hZ => ?_
    simp only [go_sem, seval, hr2]
    refine RX_guard_nbool rfl (fun hc3 => ?_) (fun hc3 => ?_)
    · rw [if_neg (ne_true_of_eq_false hc3)] at h
      simp only [go_sem, seval, hc3]
      refine hZ _ (pp (hJ1 _ true ?_ h))
      refine weak_roots ?_ ?_ <;> repeat' first | exact xn | exact rn | refine xc ?_ ?_ | refine rc ?_ ?_ ?_ | rfl
    rw [if_pos hc3] at h
    simp only [go_sem, seval, hc3]
    refine RX_guard_dec rfl (fun hc4 => ?_) (fun hc4 => ?_)
    · have hc4d := decide_eq_true hc4
      rw [if_pos hc4] at h
      simp only [go_sem, seval, hc4d]
      refine hZ _ (pp (hJ1 _ true ?_ h))
      refine weak_roots ?_ ?_ <;> repeat' first | exact xn | exact rn | refine xc ?_ ?_ | refine rc ?_ ?_ ?_ | rfl
    have hc4d := decide_eq_false hc4
    rw [if_neg hc4] at h
    obtain ⟨r9, hr5, h⟩ := Option.bind_eq_some_iff.1 h
    simp only [go_sem, seval, hc4d, hr5]
    refine hZ _ (pp (hJ1 _ (!r9) ?_ h))
    refine weak_roots ?_ ?_ <;> repeat' first | exact xn | exact rn | refine xc ?_ ?_ | refine rc ?_ ?_ ?_ | rfl
  intro c7 h
  unfold ref4_Subjects_J1 at h
  refine Wk_cond_bool rfl (fun hc6 => ?_) (fun hc6 => ?_)
  · rw [if_pos hc6] at h
    refine Wk_seq (Wk_regionZ fun Z hZ => ?_)
    simp only [go_sem, seval, hc6]
    refine hZ _ (pp (Wk_ret (pp ?_)))
    cases h
    simp only [go_sem, seval]
    exact ⟨_, rfl, RokI.h, PureI.h⟩
  rw [if_neg (ne_true_of_eq_false hc6)] at h
  refine Wk_skip (pp ?_)
  unfold ref4_Subjects_J2 at h
  refine Wk_seq (Wk_regionZ fun Z hZ => ?_)
  simp only [go_sem, seval, hc6]
  refine hZ _ (pp (Wk_seq (Wk_seq (Wk_regionZ fun Z hZ => ?_))))
  simp only [go_sem, seval]
  refine hZ _ (pp (Wk_block (Wk_rounds 6 (Wk_rs (Wk_seq (Wk_seq (Wk_regionZ fun Z hZ => ?_)))))))
  simp only [go_sem, seval]
  refine hZ _ (pp (Wk_cond_t rfl ?_))
  first | rw [if_pos (rfl : true = true)] at h | rw [if_neg Bool.false_ne_true] at h | skip
  refine Wk_skip (pp (Wk_seq (Wk_block (Wk_seq ?_))))
  obtain ⟨r10, hr7, h⟩ := Option.bind_eq_some_iff.1 h
  refine Wk_regionZ fun Z hZ => ?_
  simp only [go_sem, seval, hr7]
  refine hZ _ (pp ?_)
  obtain ⟨r11, hr8, h⟩ := Option.bind_eq_some_iff.1 h
  obtain ⟨hd9, h⟩ := dvx_some h
  obtain ⟨x12, hb10, hx11, h⟩ := gx_some h
  first | obtain ⟨ha12, h⟩ := apn_some h | (obtain ⟨ha12, h⟩ := apx_some h; rw [List.nil_append] at h)
  simp only [List.length_cons, List.length_nil, Nat.zero_add, Nat.reduceAdd] at ha12
  refine Wk_regionZ fun Z hZ => ?_
  simp only [go_sem, seval, hr8, hd9, hb10, hx11, ha12]
  refine hZ _ (pp (Wk_regionZ fun Z hZ => ?_))
  simp only [go_sem, seval, show IntKind.i64.wrap 1 = 1 from rfl]
  refine hZ _ (pp (Wk_rs (Wk_seq (Wk_seq (Wk_regionZ fun Z hZ => ?_)))))
  simp only [go_sem, seval]
  refine hZ _ (pp (Wk_cond_t rfl ?_))
  first | rw [if_pos (rfl : true = true)] at h | rw [if_neg Bool.false_ne_true] at h | skip
  refine Wk_skip (pp (Wk_seq (Wk_block (Wk_seq ?_))))
  obtain ⟨r13, hr13, h⟩ := Option.bind_eq_some_iff.1 h
  refine Wk_regionZ fun Z hZ => ?_
  simp only [go_sem, seval, hr13]
  refine hZ _ (pp ?_)
  obtain ⟨r14, hr14, h⟩ := Option.bind_eq_some_iff.1 h
  obtain ⟨hd15, h⟩ := dvx_some h
  obtain ⟨x15, hb16, hx17, h⟩ := gx_some h
  obtain ⟨ha18, h⟩ := apx_some h
  simp only [List.length_cons, List.length_nil, Nat.zero_add, Nat.reduceAdd] at ha18
  refine Wk_regionZ fun Z hZ => ?_
  simp only [go_sem, seval, hr14, hd15, hb16, hx17, ha18]
  refine hZ _ (pp (Wk_regionZ fun Z hZ => ?_))
  simp only [go_sem, seval, show IntKind.i64.wrap 2 = 2 from rfl]
  refine hZ _ (pp (Wk_rs (Wk_seq (Wk_seq (Wk_regionZ fun Z hZ => ?_)))))
  simp only [go_sem, seval]
  refine hZ _ (pp (Wk_cond_t rfl ?_))
  first | rw [if_pos (rfl : true = true)] at h | rw [if_neg Bool.false_ne_true] at h | skip
  refine Wk_skip (pp (Wk_seq (Wk_block (Wk_seq ?_))))
  obtain ⟨r16, hr19, h⟩ := Option.bind_eq_some_iff.1 h
  refine Wk_regionZ fun Z hZ => ?_
  simp only [go_sem, seval, hr19]
  refine hZ _ (pp ?_)
  obtain ⟨r17, hr20, h⟩ := Option.bind_eq_some_iff.1 h
  obtain ⟨hd21, h⟩ := dvx_some h
  obtain ⟨x18, hb22, hx23, h⟩ := gx_some h
  obtain ⟨ha24, h⟩ := apx_some h
  simp only [List.length_append, List.length_cons, List.length_nil, Nat.zero_add, Nat.reduceAdd] at ha24
  refine Wk_regionZ fun Z hZ => ?_
  simp only [go_sem, seval, hr20, hd21, hb22, hx23, ha24]
  refine hZ _ (pp (Wk_regionZ fun Z hZ => ?_))
  simp only [go_sem, seval, show IntKind.i64.wrap 3 = 3 from rfl]
  refine hZ _ (pp (Wk_rs (Wk_seq (Wk_seq (Wk_regionZ fun Z hZ => ?_)))))
  simp only [go_sem, seval]
  refine hZ _ (pp (Wk_cond_t rfl ?_))
  first | rw [if_pos (rfl : true = true)] at h | rw [if_neg Bool.false_ne_true] at h | skip
  refine Wk_skip (pp (Wk_seq (Wk_block (Wk_seq ?_))))
  obtain ⟨r19, hr25, h⟩ := Option.bind_eq_some_iff.1 h
  refine Wk_regionZ fun Z hZ => ?_
  simp only [go_sem, seval, hr25]
  refine hZ _ (pp ?_)
  obtain ⟨r20, hr26, h⟩ := Option.bind_eq_some_iff.1 h
  obtain ⟨hd27, h⟩ := dvx_some h
  obtain ⟨x21, hb28, hx29, h⟩ := gx_some h
  obtain ⟨ha30, h⟩ := apx_some h
  simp only [List.length_append, List.length_cons, List.length_nil, Nat.zero_add, Nat.reduceAdd] at ha30
  refine Wk_regionZ fun Z hZ => ?_
  simp only [go_sem, seval, hr26, hd27, hb28, hx29, ha30]
  refine hZ _ (pp (Wk_regionZ fun Z hZ => ?_))
  simp only [go_sem, seval, show IntKind.i64.wrap 4 = 4 from rfl]
  refine hZ _ (pp (Wk_rs (Wk_seq (Wk_seq (Wk_regionZ fun Z hZ => ?_)))))
  simp only [go_sem, seval]
  refine hZ _ (pp (Wk_cond_t rfl ?_))
  first | rw [if_pos (rfl : true = true)] at h | rw [if_neg Bool.false_ne_true] at h | skip
  refine Wk_skip (pp (Wk_seq (Wk_block (Wk_seq ?_))))
  obtain ⟨r22, hr31, h⟩ := Option.bind_eq_some_iff.1 h
  refine Wk_regionZ fun Z hZ => ?_
  simp only [go_sem, seval, hr31]
  refine hZ _ (pp ?_)
  obtain ⟨r23, hr32, h⟩ := Option.bind_eq_some_iff.1 h
  obtain ⟨hd33, h⟩ := dvx_some h
  obtain ⟨x24, hb34, hx35, h⟩ := gx_some h
  obtain ⟨ha36, h⟩ := apx_some h
  simp only [List.length_append, List.length_cons, List.length_nil, Nat.zero_add, Nat.reduceAdd] at ha36
  refine Wk_regionZ fun Z hZ => ?_
  simp only [go_sem, seval, hr32, hd33, hb34, hx35, ha36]
  refine hZ _ (pp (Wk_regionZ fun Z hZ => ?_))
  simp only [go_sem, seval, show IntKind.i64.wrap 5 = 5 from rfl]
  refine hZ _ (pp (Wk_rs (Wk_seq (Wk_seq (Wk_regionZ fun Z hZ => ?_)))))
  simp only [go_sem, seval]
  refine hZ _ (pp (Wk_cond_f rfl ?_))
  first | rw [if_pos (rfl : true = true)] at h | rw [if_neg Bool.false_ne_true] at h | skip
  refine Wk_exit (pp (Wk_seq (Wk_regionZ fun Z hZ => ?_)))
  simp only [go_sem, seval]
  refine hZ _ (pp (Wk_ret (pp ?_)))
  cases h
  simp only [go_sem, seval]
  exact ⟨_, rfl, RokI.h, PureI.h⟩
def fs_ref4_Subjects (N : Nat) : FnS := ⟨[], true, fn2 (decL 1 (dec1 (decI .i64))) (decI .i64) fun q0 q1 => (ref4_Subjects N q0 q1).map fun r => .sl false none 1 none (r.map (rowI .i64)), false⟩
attribute [go_sem] fs_ref4_Subjects
theorem fs_ref4_Subjects_ok (N : Nat) : FSOk Try.prog 21 (fs_ref4_Subjects N) := ok2 (fun q0 q1 r h => by
  obtain ⟨r', hr, rfl⟩ := Option.map_eq_some_iff.1 h
  exact (w_ref4_Subjects N q0 q1 r' hr).res (by (try simp only [go_sem]); exact RokI.h)) (fun h => decL_le (decI1_le .i64) h) (decI_le)

def fso_ref4_Subjects (N : Nat) : FnS := ⟨[], true, fn2 (decL 1 (dec1 (decI .i64))) (decI .i64) fun q0 q1 => (ref4_Subjects N q0 q1).map fun r => .sl true none 1 none (r.map (rowI .i64)), false⟩
attribute [go_sem] fso_ref4_Subjects
theorem fso_ref4_Subjects_ok (N : Nat) : FSOk Try.prog 21 (fso_ref4_Subjects N) := ok2 (fun q0 q1 r h => by
  obtain ⟨r', hr, rfl⟩ := Option.map_eq_some_iff.1 h
  exact w_ref4_Subjects N q0 q1 r' hr) (fun h => decL_le (decI1_le .i64) h) (decI_le)


noncomputable def G_ref4_Shared (N d f : Nat) : Option FnS := glist [(12, 20, fs_ref4_Observers N)] d f
attribute [go_sem] G_ref4_Shared
theorem w_ref4_Shared (N : Nat) (a0 : (List Int)) (a1 : Int) (a2 : Int) (r : (List Int)) (h : ref4_Shared N a0 a1 a2 = some r) : Con Try.prog 22 [] true [.sl false none 1 none (a0.map (rowI .i64)), .val (.int .i64 a1), .val (.int .i64 a2)] (.sl true none 1 none (r.map (rowI .i64))) := by
  refine fun_ok4 (G := (G_ref4_Shared N)) Try.func22 rfl (by decide) (by kernel_rfl) (gc 12 (fs_ref4_Observers_ok N) gn) [] mix (Nat.le_of_ble_eq_true rfl) ?_
  simp only [Try.f22]
  unfold ref4_Shared at h
  refine Wk_seq (Wk_regionZ fun Z hZ => ?_)
  simp only [go_sem, seval]
  refine hZ _ (pp (Wk_seq ?_))
  obtain ⟨r1, hr1, h⟩ := Option.bind_eq_some_iff.1 h
  refine Wk_regionZ fun Z hZ => ?_
  simp only [go_sem, seval, hr1]
  refine hZ _ (pp (Wk_seq (Wk_regionZ fun Z hZ => ?_)))
  simp only [go_sem, seval]
  refine hZ _ (pp (Wk_seq (Wk_seq (Wk_regionZ fun Z hZ => ?_))))
  simp only [go_sem, seval]
  refine hZ _ (pp (Wk_block (Wk_real fun hreal3 => ?_)))
  have hl2 := hreal3.lenT 7 (by decide) (by simp only [go_sem, seval]; rfl)
  first | rw [List.length_map] at hl2 | rw [← List.map_append, List.length_map] at hl2
  refine Wk_range (fun (v4 : Nat) (b : List Int) => ⟨tab 30 (updT (updT (updT (updT deadT 1 (.val (.int .i64 a1))) 7 (.sl false none 1 none (r1.map (rowI .i64)))) 8 (.pal 28 [] 0 b.length none)) 9 (.val (.int .i64 ((v4 : Nat) : Int)))), (upd RZ 28 (.sl true none 1 none (b.map (rowI .i64))))⟩) [] h ?_ ?_
  · refine Weak.trans (weak_adopt 8 28 1 (by simp only [go_sem, seval]) (by simp only [go_sem, seval])) ?_
    refine weak_roots ?_ ?_ <;> repeat' first | exact xn | exact rn | refine xc ?_ ?_ | refine rc ?_ ?_ ?_ | rfl | simp only [go_sem, seval, Bool.or_self, List.length_set, Int.natCast_zero, Int.cast_ofNat_Int, hr1]
  rintro v4 l3 hi4 h -
  rcases (drop_cases r1 v4 hi4).symm with ⟨hi4', _, hd7⟩ | ⟨x7, hi4', hx5, hd7⟩
  · rw [hd7] at h
    simp only [ref4_Shared_L1] at h
    refine Wk_seq (Wk_seq (Wk_regionZ fun Z hZ => ?_))
    simp only [go_sem, seval, hi4']
    refine hZ _ (pp ?_)
    try simp only [Int.ofNat_lt, hi4', if_true, if_false] at h
    refine Wk_cond_f rfl (Wk_exit (pp (Wk_seq (Wk_regionZ fun Z hZ => ?_))))
    simp only [go_sem, seval]
    refine hZ _ (pp (Wk_ret (pp ?_)))
    cases h
    simp only [go_sem, seval]
    exact ⟨_, rfl, RokI.h, PureI.h⟩
  rw [hd7] at h
  simp only [ref4_Shared_L1] at h
  have hw6 := wrap_succ hi4' hl2
  refine Wk_seq (Wk_seq (Wk_regionZ fun Z hZ => ?_))
  simp only [go_sem, seval, hi4']
  refine hZ _ (pp ?_)
  try simp only [Int.ofNat_lt, hi4', if_true, if_false] at h
  refine Wk_cond_t rfl (Wk_skip (pp (Wk_seq (Wk_block (Wk_seq ?_)))))
  try rw [gx_nat hx5] at h
  refine Wk_regionZ fun Z hZ => ?_
  simp only [go_sem, seval, hx5, hi4']
  refine hZ _ (pp (sw (Wk_cond_dec rfl) (fun hc8 => ?_) (fun hc8 => ?_)))
  · have hc8d := decide_eq_false hc8
    rw [if_neg hc8] at h
    refine Wk_skip (pp (Wk_regionZ fun Z hZ => ?_))
    simp only [go_sem, seval, hw6, hc8d]
    refine hZ _ (pp ?_)
    first | refine ⟨l3, ?_, h⟩ | refine ⟨hi4', l3, ?_, h⟩
    refine weak_roots ?_ ?_ <;> repeat' first | exact xn | exact rn | refine xc ?_ ?_ | refine rc ?_ ?_ ?_ | rfl | simp only [go_sem, seval, Bool.or_self, List.length_set, Int.natCast_zero, Int.cast_ofNat_Int, hr1, hx5, hi4', hw6, hc8d]
  have hc8d := decide_eq_true hc8
  rw [if_pos hc8] at h
  obtain ⟨ha9, h⟩ := apx_some h
  simp only [List.length_cons, List.length_nil, Nat.zero_add, Nat.reduceAdd] at ha9
  refine Wk_regionZ fun Z hZ => ?_
  simp only [go_sem, seval, hc8d, ha9]
  refine hZ _ (pp (Wk_regionZ fun Z hZ => ?_))
  simp only [go_sem, seval, hw6]
  refine hZ _ (pp ?_)
  first | refine ⟨(l3 ++ [((v4 : Nat) : Int)]), ?_, h⟩ | refine ⟨hi4', (l3 ++ [((v4 : Nat) : Int)]), ?_, h⟩
  refine weak_roots ?_ ?_ <;> repeat' first | exact xn | exact rn | refine xc ?_ ?_ | refine rc ?_ ?_ ?_ | rfl | simp only [go_sem, seval]
def fs_ref4_Shared (N : Nat) : FnS := ⟨[], true, fn3 (decL 1 (dec1 (decI .i64))) (decI .i64) (decI .i64) fun q0 q1 q2 => (ref4_Shared N q0 q1 q2).map fun r => .sl false none 1 none (r.map (rowI .i64)), false⟩
attribute [go_sem] fs_ref4_Shared
theorem fs_ref4_Shared_ok (N : Nat) : FSOk Try.prog 22 (fs_ref4_Shared N) := ok3 (fun q0 q1 q2 r h => by
  obtain ⟨r', hr, rfl⟩ := Option.map_eq_some_iff.1 h
  exact (w_ref4_Shared N q0 q1 q2 r' hr).res (by (try simp only [go_sem]); exact RokI.h)) (fun h => decL_le (decI1_le .i64) h) (decI_le) (decI_le)

def fso_ref4_Shared (N : Nat) : FnS := ⟨[], true, fn3 (decL 1 (dec1 (decI .i64))) (decI .i64) (decI .i64) fun q0 q1 q2 => (ref4_Shared N q0 q1 q2).map fun r => .sl true none 1 none (r.map (rowI .i64)), false⟩
attribute [go_sem] fso_ref4_Shared
theorem fso_ref4_Shared_ok (N : Nat) : FSOk Try.prog 22 (fso_ref4_Shared N) := ok3 (fun q0 q1 q2 r h => by
  obtain ⟨r', hr, rfl⟩ := Option.map_eq_some_iff.1 h
  exact w_ref4_Shared N q0 q1 q2 r' hr) (fun h => decL_le (decI1_le .i64) h) (decI_le) (decI_le)


theorem w_slices_Compact_int (N : Nat) (a0 : (List Int)) (r : (List Int)) (h : slices_Compact_int N a0 = some r) : Con Try.prog 43 [true] true [.sl true none 1 none (a0.map (rowI .i64))] (.sl true none 1 none (r.map (rowI .i64))) := by
  refine fun_own5 (G := (glist [])) (L := noL) Try.func43 rfl (by decide) (by kernel_rfl) gn (fun _ _ _ h => by cases h) [] mix (Nat.le_of_ble_eq_true rfl) ?_
  rw [show entryF [true] [.sl true none 1 none (a0.map (rowI .i64))] = (updT deadT 0 (.pal 0 [] 0 a0.length none)) from by funext t; match t with | 0 => simp [entryF, entryTmp, viewD, updT] | t + 1 => rfl]
  rw [show R0 [true] [.sl true none 1 none (a0.map (rowI .i64))] = upd RZ 0 (.sl true none 1 none (a0.map (rowI .i64))) from by funext t; match t with | 0 => rfl | t + 1 => rfl]
  simp only [Try.f43]
  unfold slices_Compact_int at h
  refine Wk_seq (Wk_regionZ fun Z hZ => ?_)
  simp only [go_sem, seval]
  refine hZ _ (pp (Wk_seq (Wk_seq (Wk_regionZ fun Z hZ => ?_))))
  simp only [go_sem, seval]
  refine hZ _ (pp (Wk_cond_dec rfl (fun hc1 => ?_) (fun hc1 => ?_)))
  · have hc1d := decide_eq_true hc1
    rw [if_pos hc1] at h
    refine Wk_seq (Wk_regionZ fun Z hZ => ?_)
    simp only [go_sem, seval, hc1d]
    refine hZ _ (pp (Wk_ret (pp ?_)))
    cases h
    simp only [go_sem, seval, FinO_ret]
    exact ⟨_, rfl, RokI.h, fun q h => h, PureI.h⟩
  have hc1d := decide_eq_false hc1
  rw [if_neg hc1] at h
  refine Wk_skip (pp (Wk_seq (Wk_seq (Wk_regionZ fun Z hZ => ?_))))
  simp only [go_sem, seval, hc1d]
  refine hZ _ (pp (Wk_block (Wk_real fun hreal3 => ?_)))
  have hl2 := hreal3.lenX 0 (by simp only [go_sem, seval]; rfl)
  first | rw [List.length_map] at hl2 | rw [← List.map_append, List.length_map] at hl2
  refine Wk_count (fun (v3 : Nat) (b : Unit) => ⟨tab 61 (updT (updT deadT 0 (.pal 0 [] 0 a0.length none)) 3 (.val (.int .i64 ((v3 : Nat) : Int)))), (upd RZ 0 (.sl true none 1 none (a0.map (rowI .i64))))⟩) () h ?_ ?_
  · refine weak_roots ?_ ?_ <;> repeat' first | exact xn | exact rn | refine xc ?_ ?_ | refine rc ?_ ?_ ?_ | rfl | simp only [go_sem, seval, Bool.or_self, List.length_set, Int.natCast_zero, Int.cast_ofNat_Int, hc1d]
  rintro v3 ⟨⟩ _ h -
  rcases (count_cases a0.length v3).symm with ⟨hi4', hd7⟩ | ⟨hi4', hd7⟩
  · rw [hd7] at h
    simp only [slices_Compact_int_L1] at h
    refine Wk_seq (Wk_seq (Wk_regionZ fun Z hZ => ?_))
    simp only [go_sem, seval, hi4']
    refine hZ _ (pp ?_)
    try simp only [Int.ofNat_lt, hi4', if_true, if_false] at h
    refine Wk_cond_f rfl (Wk_exit (pp (Wk_seq (Wk_regionZ fun Z hZ => ?_))))
    simp only [go_sem, seval]
    refine hZ _ (pp (Wk_ret (pp ?_)))
    cases h
    simp only [go_sem, seval, FinO_ret]
    exact ⟨_, rfl, RokI.h, fun q h => h, PureI.h⟩
  rw [hd7] at h
  simp only [slices_Compact_int_L1] at h
  have hw6 := wrap_succ hi4' hl2
  refine Wk_seq (Wk_seq (Wk_regionZ fun Z hZ => ?_))
  simp only [go_sem, seval, hi4']
  refine hZ _ (pp ?_)
  try simp only [Int.ofNat_lt, hi4', if_true, if_false] at h
  refine Wk_cond_t rfl (Wk_skip (pp (Wk_seq (Wk_block (Wk_seq ?_)))))
  obtain ⟨x1, hb8, hx9, h⟩ := gx_some h
  try simp only [Int.toNat_natCast] at hx9
  try simp only [Int.ofNat_lt, Int.natCast_nonneg, true_and] at hb8
  obtain ⟨x2, hb10, hx11, h⟩ := gx_some h
  refine Wk_regionD fun Z hZ => ?_
  simp only [go_sem, seval, hi4', hx9, hb10, hx11]
  refine hZ _ (by kernel_rfl) (pp (sw (Wk_cond_dec rfl) (fun hc12 => ?_) (fun hc12 => ?_)))
  · have hc12d := decide_eq_false hc12
    rw [if_neg hc12] at h
    refine Wk_skip (pp (Wk_regionZ fun Z hZ => ?_))
    simp only [go_sem, seval, hw6, hc12d]
    refine hZ _ (pp ?_)
    first | refine ⟨(), ?_, h⟩ | refine ⟨hi4', (), ?_, h⟩
    refine weak_roots ?_ ?_ <;> repeat' first | exact xn | exact rn | refine xc ?_ ?_ | refine rc ?_ ?_ ?_ | rfl | simp only [go_sem, seval, Bool.or_self, List.length_set, Int.natCast_zero, Int.cast_ofNat_Int, hc1d, hi4', hw6, hb8, hx9, hb10, hx11, hc12d]
  have hc12d := decide_eq_true hc12
  rw [if_pos hc12] at h
  refine Wk_seq ?_
  obtain ⟨hs13, h⟩ := slx_some h
  try simp only [Int.toNat_natCast] at hs13 h
  refine Wk_regionZ fun Z hZ => ?_
  simp only [go_sem, seval, hc12d, hs13, Nat.zero_le]
  refine hZ _ (pp (Wk_seq (Wk_seq (Wk_regionZ fun Z hZ => ?_))))
  simp only [go_sem, seval]
  refine hZ _ (pp (Wk_block (Wk_fuel (fun (b : List Int × Int × Int) => ⟨tab 61 (updT (updT (updT (updT deadT 0 (.pal 0 [] 0 b.1.length none)) 3 (.val (.int .i64 b.2.1))) 4 (.pal 0 [] v3 (a0.length - v3) none)) 5 (.val (.int .i64 b.2.2))), (upd RZ 0 (.sl true none 1 none (b.1.map (rowI .i64))))⟩) (a0, ((v3 : Nat) : Int), 1) h ?_ ?_)))
  · refine weak_roots ?_ ?_ <;> repeat' first | exact xn | exact rn | refine xc ?_ ?_ | refine rc ?_ ?_ ?_ | rfl | simp only [go_sem, seval, Bool.or_self, List.length_set, Int.natCast_zero, Int.cast_ofNat_Int, hc1d, hi4', hw6, hb8, hx9, hb10, hx11, hc12d, hs13, Nat.sub_zero, Nat.zero_le]
  rintro n ⟨l12, v13, v14⟩ h -
  cases n with
  | zero => simp [slices_Compact_int_L2] at h
  | succ n =>
  simp only [slices_Compact_int_L2] at h
  refine Wk_seq (Wk_seq (Wk_regionZ fun Z hZ => ?_))
  simp only [go_sem, seval]
  refine hZ _ (pp (sw (Wk_cond_dec rfl) (fun hc14 => ?_) (fun hc14 => ?_)))
  · have hc14d := decide_eq_false hc14
    rw [if_neg hc14] at h
    refine Wk_exit (pp ?_)
    unfold slices_Compact_int_J1 at h
    refine Wk_seq ?_
    obtain ⟨hs24, h⟩ := slx_some h
    try simp only [Int.toNat_natCast] at hs24 h
    refine Wk_regionZ fun Z hZ => ?_
    simp only [go_sem, seval, Nat.zero_le, hc14d, hs24, clr_rows (row := (rowI .i64)) (z := 0) (rz := [.val (.int .i64 0)]) (k := (v13).toNat) (l := l12) (by have := hs24; omega) rfl, altX, clearX, rewritten, RowOk.allD (rowI_ok .i64)]
    refine hZ _ (pp (Wk_seq ?_))
    obtain ⟨hs25, h⟩ := slx_some h
    try simp only [Int.toNat_zero] at hs25 h
    refine Wk_regionZ fun Z hZ => ?_
    simp only [go_sem, seval, Nat.sub_zero, hs24, deepV, hs25]
    refine hZ _ (pp (Wk_ret (pp ?_)))
    cases h
    simp only [go_sem, seval, FinO_ret]
    exact ⟨_, rfl, RokI.h, fun q h => h, PureI.h⟩
  have hc14d := decide_eq_true hc14
  rw [if_pos hc14] at h
  refine Wk_skip (pp (Wk_seq (Wk_block (Wk_seq ?_))))
  obtain ⟨x16, hb15, hx16, h⟩ := gx_some h
  obtain ⟨x17, hb17, hx18, h⟩ := gx_some h
  refine Wk_regionD fun Z hZ => ?_
  simp only [go_sem, seval, hb15, win_get hx16, win_lt hb15, hb17, win_get hx18, win_lt hb17]
  refine hZ _ (by kernel_rfl) (pp (sw (Wk_cond_ndec rfl) (fun hc19 => ?_) (fun hc19 => ?_)))
  · have hc19d := decide_eq_true hc19
    rw [if_pos hc19] at h
    refine Wk_skip (pp (Wk_regionZ fun Z hZ => ?_))
    simp only [go_sem, seval, hc19d]
    refine hZ _ (pp (⟨_, Nat.lt_succ_self _, (l12, v13, IntKind.i64.wrap (v14 + 1)), ?_, h⟩))
    refine weak_roots ?_ ?_ <;> repeat' first | exact xn | exact rn | refine xc ?_ ?_ | refine rc ?_ ?_ ?_ | rfl | simp only [go_sem, seval, Bool.or_self, List.length_set, Int.natCast_zero, Int.cast_ofNat_Int, hc1d, hi4', hw6, hb8, hx9, hb10, hx11, hc12d, hs13, Nat.sub_zero, Nat.zero_le, hc14d, hb15, hx16, win_get hx16, win_lt hb15, hb17, hx18, win_get hx18, win_lt hb17, hc19d]
  have hc19d := decide_eq_false hc19
  rw [if_neg hc19] at h
  refine Wk_seq ?_
  obtain ⟨x18, hb20, hx21, h⟩ := gx_some h
  have hx23 := set_get (y := x16) hx21
  refine Wk_regionZ fun Z hZ => ?_
  simp only [go_sem, seval, hb15, win_lt hb15, hc19d, win_get hx16, hb20, hx21, map_modify2 (row := (rowI .i64)) (y := x16) (rx := [.val (.int .i64 x18)]) (ry := [.val (.int .i64 x16)]) hx21 rfl rfl]
  refine hZ _ (pp (Wk_regionZ fun Z hZ => ?_))
  simp only [go_sem, seval]
  refine hZ _ (pp (Wk_regionZ fun Z hZ => ?_))
  simp only [go_sem, seval]
  refine hZ _ (pp (⟨_, Nat.lt_succ_self _, ((l12.set ((v13).toNat) x16), IntKind.i64.wrap (v13 + 1), IntKind.i64.wrap (v14 + 1)), ?_, h⟩))
  refine weak_roots ?_ ?_ <;> repeat' first | exact xn | exact rn | refine xc ?_ ?_ | refine rc ?_ ?_ ?_ | rfl | simp only [go_sem, seval, List.length_set]
def fso_slices_Compact_int (N : Nat) : FnS := { own := [true], pure := true, fn := fun cs => match cs with
  | [c0] => ((decO 1 (dec1 (decI .i64))) c0).bind fun q0 => (slices_Compact_int N q0).map fun r => .sl true none 1 none (r.map (rowI .i64))
  | _ => none }
theorem fso_slices_Compact_int_own (N : Nat) : (fso_slices_Compact_int N).own = [true] := rfl
theorem fso_slices_Compact_int_pure (N : Nat) : (fso_slices_Compact_int N).pure = true := rfl
theorem fso_slices_Compact_int_peek (N : Nat) : (fso_slices_Compact_int N).peek = false := rfl
attribute [go_sem] fso_slices_Compact_int fso_slices_Compact_int_own fso_slices_Compact_int_pure fso_slices_Compact_int_peek
theorem fso_slices_Compact_int_ok (N : Nat) : FSOk Try.prog 43 (fso_slices_Compact_int N) := by
  refine ⟨fun cs r h => ?_, fun h => by cases h⟩
  simp only [fso_slices_Compact_int] at h
  split at h
  · simp only [Option.bind_eq_some_iff, Option.map_eq_some_iff] at h
    obtain ⟨q0, h0, r', hr, rfl⟩ := h
    exact (w_slices_Compact_int N q0 r' hr).argsO rfl (argsO_own (decO_ok (rowI_ok .i64) (decI1_le .i64) h0) (argsO_nil))
  · cases h


theorem w_overlay_Neighbours_1 (N : Nat) (a0 : Int) (c0_0 : Int) (r : Bool) (h : overlay_Neighbours_1 N a0 c0_0 = some r) : Con Try.prog 45 [] true [.val (.int .i64 a0), .iref 1 [[.val (.int .i64 c0_0)]] 0 0] (.val (.bool r)) := by
  refine fun_ok4 (G := (glist [])) Try.func45 rfl (by decide) (by kernel_rfl) gn [] mix (Nat.le_of_ble_eq_true rfl) ?_
  simp only [Try.f45]
  unfold overlay_Neighbours_1 at h
  refine Wk_seq (Wk_regionZ fun Z hZ => ?_)
  simp only [go_sem, seval]
  refine hZ _ (pp (Wk_seq (Wk_regionZ fun Z hZ => ?_)))
  simp only [go_sem, seval]
  refine hZ _ (pp (Wk_ret (pp ?_)))
  cases h
  simp only [go_sem, seval]
  exact ⟨_, rfl, RokI.h, PureI.h⟩
def fs_overlay_Neighbours_1 (N : Nat) : FnS := { own := [], pure := true, fn := fun cs => match cs with
  | [c0, .iref 1 [[c1_0]] 0 0] => ((decI .i64) c0).bind fun qc0 => ((decI .i64) c1_0).bind fun qc1_0 => (overlay_Neighbours_1 N qc0 qc1_0).map fun r => .val (.bool r)
  | _ => none }
attribute [go_sem] fs_overlay_Neighbours_1
theorem fs_overlay_Neighbours_1_ok (N : Nat) : FSOk Try.prog 45 (fs_overlay_Neighbours_1 N) := by
  refine ⟨fun cs r h => ?_, fun h => by cases h⟩
  simp only [fs_overlay_Neighbours_1] at h
  split at h
  · simp only [Option.bind_eq_some_iff, Option.map_eq_some_iff] at h
    obtain ⟨q0, h0, q1, h1, r', hr, rfl⟩ := h
    exact ((w_overlay_Neighbours_1 N q0 q1 r' hr).args (LeL.cons (decI_le h0) (LeL.cons (Le.iref1 (LeL.cons (decI_le h1) (LeL.nil))) (LeL.nil))))
  · cases h


noncomputable def G_slices_IndexFunc_int_overlay_Neighbours_1 (N d f : Nat) : Option FnS := glist [(16, 45, fs_overlay_Neighbours_1 N)] d f
attribute [go_sem] G_slices_IndexFunc_int_overlay_Neighbours_1
theorem w_slices_IndexFunc_int_overlay_Neighbours_1 (N : Nat) (a0 : (List Int)) (k1_0_0 : Int) (r : Int) (h : slices_IndexFunc_int_overlay_Neighbours_1 N a0 k1_0_0 = some r) : Con Try.prog 53 [] true [.sl false none 1 none (a0.map (rowI .i64)), .clo 45 [.iref 1 [[.val (.int .i64 k1_0_0)]] 0 0]] (.val (.int .i64 r)) := by
  refine fun_ok4 (G := (G_slices_IndexFunc_int_overlay_Neighbours_1 N)) Try.func53 rfl (by decide) (by kernel_rfl) (gc 16 (fs_overlay_Neighbours_1_ok N) gn) [] mix (Nat.le_of_ble_eq_true rfl) ?_
  simp only [Try.f53]
  unfold slices_IndexFunc_int_overlay_Neighbours_1 at h
  refine Wk_seq (Wk_regionZ fun Z hZ => ?_)
  simp only [go_sem, seval]
  refine hZ _ (pp (Wk_seq (Wk_seq (Wk_regionZ fun Z hZ => ?_))))
  simp only [go_sem, seval]
  refine hZ _ (pp (Wk_block (Wk_real fun hreal2 => ?_)))
  have hl1 := hreal2.lenT 0 (by decide) (by simp only [go_sem, seval]; rfl)
  first | rw [List.length_map] at hl1 | rw [← List.map_append, List.length_map] at hl1
  refine Wk_range (fun (v2 : Nat) (b : Unit) => ⟨tab 19 (updT (updT (updT (updT deadT 0 (.sl false none 1 none (a0.map (rowI .i64)))) 1 (.clo 45 [.iref 1 [[.val (.int .i64 k1_0_0)]] 0 0])) 7 (.val (.int .i64 ((a0.length : Nat) : Int)))) 8 (.val (.int .i64 ((v2 : Nat) : Int)))), RZ⟩) () h ?_ ?_
  · refine weak_roots ?_ ?_ <;> repeat' first | exact xn | exact rn | refine xc ?_ ?_ | refine rc ?_ ?_ ?_ | rfl
  rintro v2 ⟨⟩ hi3 h -
  rcases (drop_cases a0 v2 hi3).symm with ⟨hi3', _, hd6⟩ | ⟨x5, hi3', hx4, hd6⟩
  · rw [hd6] at h
    simp only [slices_IndexFunc_int_overlay_Neighbours_1_L1] at h
    refine Wk_seq (Wk_regionZ fun Z hZ => ?_)
    simp only [go_sem, seval, hi3']
    refine hZ _ (pp (Wk_seq ?_))
    try simp only [Int.ofNat_lt, hi3', if_true, if_false] at h
    refine Wk_cond_f rfl (Wk_exit (pp (Wk_seq (Wk_regionZ fun Z hZ => ?_))))
    simp only [go_sem, seval]
    refine hZ _ (pp (Wk_ret (pp ?_)))
    cases h
    simp only [go_sem, seval]
    exact ⟨_, rfl, RokI.h, PureI.h⟩
  rw [hd6] at h
  simp only [slices_IndexFunc_int_overlay_Neighbours_1_L1] at h
  have hw5 := wrap_succ hi3' hl1
  refine Wk_seq (Wk_regionZ fun Z hZ => ?_)
  simp only [go_sem, seval, hi3']
  refine hZ _ (pp (Wk_seq ?_))
  try simp only [Int.ofNat_lt, hi3', if_true, if_false] at h
  refine Wk_cond_t rfl (Wk_skip (pp (Wk_seq (Wk_block (Wk_seq (Wk_regionZ fun Z hZ => ?_))))))
  simp only [go_sem, seval]
  refine hZ _ (pp (Wk_seq ?_))
  try rw [gx_nat hx4] at h
  obtain ⟨r1, hr7, h⟩ := Option.bind_eq_some_iff.1 h
  refine Wk_regionZ fun Z hZ => ?_
  simp only [go_sem, seval, hx4, hi3', hr7]
  refine hZ _ (pp (Wk_cond_bool rfl (fun hc8 => ?_) (fun hc8 => ?_)))
  · rw [if_pos hc8] at h
    refine Wk_seq (Wk_regionZ fun Z hZ => ?_)
    simp only [go_sem, seval, hc8]
    refine hZ _ (pp (Wk_ret (pp ?_)))
    cases h
    simp only [go_sem, seval]
    exact ⟨_, rfl, RokI.h, PureI.h⟩
  rw [if_neg (ne_true_of_eq_false hc8)] at h
  refine Wk_skip (pp (Wk_regionZ fun Z hZ => ?_))
  simp only [go_sem, seval, hw5, hc8]
  refine hZ _ (pp ?_)
  first | refine ⟨(), ?_, h⟩ | refine ⟨hi3', (), ?_, h⟩
  refine weak_roots ?_ ?_ <;> repeat' first | exact xn | exact rn | refine xc ?_ ?_ | refine rc ?_ ?_ ?_ | rfl
def fs_slices_IndexFunc_int_overlay_Neighbours_1 (N : Nat) : FnS := { own := [], pure := true, fn := fun cs => match cs with
  | [c0, .clo 45 [.iref 1 [[k1_0_0]] 0 0]] => ((decL 1 (dec1 (decI .i64))) c0).bind fun qc0 => ((decI .i64) k1_0_0).bind fun qk1_0_0 => (slices_IndexFunc_int_overlay_Neighbours_1 N qc0 qk1_0_0).map fun r => .val (.int .i64 r)
  | _ => none }
attribute [go_sem] fs_slices_IndexFunc_int_overlay_Neighbours_1
theorem fs_slices_IndexFunc_int_overlay_Neighbours_1_ok (N : Nat) : FSOk Try.prog 53 (fs_slices_IndexFunc_int_overlay_Neighbours_1 N) := by
  refine ⟨fun cs r h => ?_, fun h => by cases h⟩
  simp only [fs_slices_IndexFunc_int_overlay_Neighbours_1] at h
  split at h
  · simp only [Option.bind_eq_some_iff, Option.map_eq_some_iff] at h
    obtain ⟨q0, h0, q1, h1, r', hr, rfl⟩ := h
    exact ((w_slices_IndexFunc_int_overlay_Neighbours_1 N q0 q1 r' hr).args (LeL.cons (decL_le (decI1_le .i64) h0) (LeL.cons (Le.clo (LeL.cons (Le.iref1 (LeL.cons (decI_le h1) (LeL.nil))) (LeL.nil))) (LeL.nil))))
  · cases h


noncomputable def G_slices_DeleteFunc_int_overlay_Neighbours_1 (N d f : Nat) : Option FnS := glist [(10, 53, fs_slices_IndexFunc_int_overlay_Neighbours_1 N), (28, 45, fs_overlay_Neighbours_1 N)] d f
attribute [go_sem] G_slices_DeleteFunc_int_overlay_Neighbours_1
theorem w_slices_DeleteFunc_int_overlay_Neighbours_1 (N : Nat) (a0 : (List Int)) (k1_0_0 : Int) (r : (List Int)) (h : slices_DeleteFunc_int_overlay_Neighbours_1 N a0 k1_0_0 = some r) : Con Try.prog 44 [true, false] true [.sl true none 1 none (a0.map (rowI .i64)), .clo 45 [.iref 1 [[.val (.int .i64 k1_0_0)]] 0 0]] (.sl true none 1 none (r.map (rowI .i64))) := by
  refine fun_own5 (G := (G_slices_DeleteFunc_int_overlay_Neighbours_1 N)) (L := noL) Try.func44 rfl (by decide) (by kernel_rfl) (gc 10 (fs_slices_IndexFunc_int_overlay_Neighbours_1_ok N) (gc 28 (fs_overlay_Neighbours_1_ok N) gn)) (fun _ _ _ h => by cases h) [] mix (Nat.le_of_ble_eq_true rfl) ?_
  rw [show entryF [true, false] [.sl true none 1 none (a0.map (rowI .i64)), .clo 45 [.iref 1 [[.val (.int .i64 k1_0_0)]] 0 0]] = (updT (updT deadT 0 (.pal 0 [] 0 a0.length none)) 1 (.clo 45 [.iref 1 [[.val (.int .i64 k1_0_0)]] 0 0])) from by funext t; match t with | 0 => simp [entryF, entryTmp, viewD, updT] | 1 => rfl | t + 2 => rfl]
  rw [show R0 [true, false] [.sl true none 1 none (a0.map (rowI .i64)), .clo 45 [.iref 1 [[.val (.int .i64 k1_0_0)]] 0 0]] = upd RZ 0 (.sl true none 1 none (a0.map (rowI .i64))) from by funext t; match t with | 0 => rfl | 1 => rfl | t + 2 => rfl]
  simp only [Try.f44]
  unfold slices_DeleteFunc_int_overlay_Neighbours_1 at h
  refine Wk_seq (Wk_regionZ fun Z hZ => ?_)
  simp only [go_sem, seval]
  refine hZ _ (pp (Wk_seq ?_))
  obtain ⟨r1, hr1, h⟩ := Option.bind_eq_some_iff.1 h
  refine Wk_regionZ fun Z hZ => ?_
  simp only [go_sem, seval, hr1]
  refine hZ _ (pp (Wk_seq (Wk_seq (Wk_regionZ fun Z hZ => ?_))))
  simp only [go_sem, seval]
  refine hZ _ (pp (Wk_cond_dec rfl (fun hc2 => ?_) (fun hc2 => ?_)))
  · have hc2d := decide_eq_true hc2
    rw [if_pos hc2] at h
    refine Wk_seq (Wk_regionZ fun Z hZ => ?_)
    simp only [go_sem, seval, hc2d]
    refine hZ _ (pp (Wk_ret (pp ?_)))
    cases h
    simp only [go_sem, seval, FinO_ret]
    exact ⟨_, rfl, RokI.h, fun q h => h, PureI.h⟩
  have hc2d := decide_eq_false hc2
  rw [if_neg hc2] at h
  refine Wk_skip (pp (Wk_seq (Wk_seq (Wk_regionZ fun Z hZ => ?_))))
  simp only [go_sem, seval, hc2d]
  refine hZ _ (pp (Wk_block (Wk_fuel (fun (b : List Int × Int × Int) => ⟨tab 42 (updT (updT (updT (updT deadT 0 (.pal 0 [] 0 b.1.length none)) 1 (.clo 45 [.iref 1 [[.val (.int .i64 k1_0_0)]] 0 0])) 5 (.val (.int .i64 b.2.1))) 6 (.val (.int .i64 b.2.2))), (upd RZ 0 (.sl true none 1 none (b.1.map (rowI .i64))))⟩) (a0, r1, IntKind.i64.wrap (r1 + 1)) h ?_ ?_)))
  · refine weak_roots ?_ ?_ <;> repeat' first | exact xn | exact rn | refine xc ?_ ?_ | refine rc ?_ ?_ ?_ | rfl | simp only [go_sem, seval, Bool.or_self, List.length_set, Int.natCast_zero, Int.cast_ofNat_Int, hr1, hc2d]
  rintro n ⟨l4, v5, v6⟩ h -
  cases n with
  | zero => simp [slices_DeleteFunc_int_overlay_Neighbours_1_L1] at h
  | succ n =>
  simp only [slices_DeleteFunc_int_overlay_Neighbours_1_L1] at h
  refine Wk_seq (Wk_seq (Wk_regionZ fun Z hZ => ?_))
  simp only [go_sem, seval]
  refine hZ _ (pp (sw (Wk_cond_dec rfl) (fun hc3 => ?_) (fun hc3 => ?_)))
  · have hc3d := decide_eq_false hc3
    rw [if_neg hc3] at h
    refine Wk_exit (pp ?_)
    unfold slices_DeleteFunc_int_overlay_Neighbours_1_J1 at h
    refine Wk_seq ?_
    obtain ⟨hs12, h⟩ := slx_some h
    try simp only [Int.toNat_natCast] at hs12 h
    refine Wk_regionZ fun Z hZ => ?_
    simp only [go_sem, seval, hc3d, hs12, Nat.zero_le, clr_rows (row := (rowI .i64)) (z := 0) (rz := [.val (.int .i64 0)]) (k := (v5).toNat) (l := l4) (by have := hs12; omega) rfl, altX, clearX, rewritten, RowOk.allD (rowI_ok .i64)]
    refine hZ _ (pp (Wk_seq ?_))
    obtain ⟨hs13, h⟩ := slx_some h
    try simp only [Int.toNat_zero] at hs13 h
    refine Wk_regionZ fun Z hZ => ?_
    simp only [go_sem, seval, hs12, Nat.sub_zero, deepV, hs13]
    refine hZ _ (pp (Wk_ret (pp ?_)))
    cases h
    simp only [go_sem, seval, FinO_ret]
    exact ⟨_, rfl, RokI.h, fun q h => h, PureI.h⟩
  have hc3d := decide_eq_true hc3
  rw [if_pos hc3] at h
  refine Wk_skip (pp (Wk_seq (Wk_block (Wk_seq ?_))))
  obtain ⟨x13, hb4, hx5, h⟩ := gx_some h
  refine Wk_regionZ fun Z hZ => ?_
  simp only [go_sem, seval, hb4, hx5]
  refine hZ _ (pp (Wk_seq ?_))
  obtain ⟨r14, hr6, h⟩ := Option.bind_eq_some_iff.1 h
  refine Wk_regionZ fun Z hZ => ?_
  simp only [go_sem, seval, hr6]
  refine hZ _ (pp (sw (Wk_cond_nbool rfl) (fun hc7 => ?_) (fun hc7 => ?_)))
  · rw [if_pos hc7] at h
    refine Wk_skip (pp (Wk_regionZ fun Z hZ => ?_))
    simp only [go_sem, seval, hc7]
    refine hZ _ (pp (⟨_, Nat.lt_succ_self _, (l4, v5, IntKind.i64.wrap (v6 + 1)), ?_, h⟩))
    refine weak_roots ?_ ?_ <;> repeat' first | exact xn | exact rn | refine xc ?_ ?_ | refine rc ?_ ?_ ?_ | rfl | simp only [go_sem, seval, Bool.or_self, List.length_set, Int.natCast_zero, Int.cast_ofNat_Int, hr1, hc2d, hc3d, hb4, hx5, hr6, hc7]
  rw [if_neg (ne_true_of_eq_false hc7)] at h
  refine Wk_seq ?_
  obtain ⟨x15, hb8, hx9, h⟩ := gx_some h
  have hx11 := set_get (y := x13) hx9
  refine Wk_regionZ fun Z hZ => ?_
  simp only [go_sem, seval, hc7, hb8, hx9, map_modify2 (row := (rowI .i64)) (y := x13) (rx := [.val (.int .i64 x15)]) (ry := [.val (.int .i64 x13)]) hx9 rfl rfl]
  refine hZ _ (pp (Wk_regionZ fun Z hZ => ?_))
  simp only [go_sem, seval]
  refine hZ _ (pp (Wk_regionZ fun Z hZ => ?_))
  simp only [go_sem, seval]
  refine hZ _ (pp (⟨_, Nat.lt_succ_self _, ((l4.set ((v5).toNat) x13), IntKind.i64.wrap (v5 + 1), IntKind.i64.wrap (v6 + 1)), ?_, h⟩))
  refine weak_roots ?_ ?_ <;> repeat' first | exact xn | exact rn | refine xc ?_ ?_ | refine rc ?_ ?_ ?_ | rfl | simp only [go_sem, seval, List.length_set]
def fso_slices_DeleteFunc_int_overlay_Neighbours_1 (N : Nat) : FnS := { own := [true, false], pure := true, fn := fun cs => match cs with
  | [c0, .clo 45 [.iref 1 [[k1_0_0]] 0 0]] => ((decO 1 (dec1 (decI .i64))) c0).bind fun q0 => ((decI .i64) k1_0_0).bind fun q1 => (slices_DeleteFunc_int_overlay_Neighbours_1 N q0 q1).map fun r => .sl true none 1 none (r.map (rowI .i64))
  | _ => none }
theorem fso_slices_DeleteFunc_int_overlay_Neighbours_1_own (N : Nat) : (fso_slices_DeleteFunc_int_overlay_Neighbours_1 N).own = [true, false] := rfl
theorem fso_slices_DeleteFunc_int_overlay_Neighbours_1_pure (N : Nat) : (fso_slices_DeleteFunc_int_overlay_Neighbours_1 N).pure = true := rfl
theorem fso_slices_DeleteFunc_int_overlay_Neighbours_1_peek (N : Nat) : (fso_slices_DeleteFunc_int_overlay_Neighbours_1 N).peek = false := rfl
attribute [go_sem] fso_slices_DeleteFunc_int_overlay_Neighbours_1 fso_slices_DeleteFunc_int_overlay_Neighbours_1_own fso_slices_DeleteFunc_int_overlay_Neighbours_1_pure fso_slices_DeleteFunc_int_overlay_Neighbours_1_peek
theorem fso_slices_DeleteFunc_int_overlay_Neighbours_1_ok (N : Nat) : FSOk Try.prog 44 (fso_slices_DeleteFunc_int_overlay_Neighbours_1 N) := by
  refine ⟨fun cs r h => ?_, fun h => by cases h⟩
  simp only [fso_slices_DeleteFunc_int_overlay_Neighbours_1] at h
  split at h
  · simp only [Option.bind_eq_some_iff, Option.map_eq_some_iff] at h
    obtain ⟨q0, h0, q1, h1, r', hr, rfl⟩ := h
    exact (w_slices_DeleteFunc_int_overlay_Neighbours_1 N q0 q1 r' hr).argsO rfl (argsO_own (decO_ok (rowI_ok .i64) (decI1_le .i64) h0) (argsO_le (Le.clo (LeL.cons (Le.iref1 (LeL.cons (decI_le h1) (LeL.nil))) (LeL.nil))) (argsO_nil)))
  · cases h


theorem w_cmp_isNaN_int (N : Nat) (a0 : Int) (r : Bool) (h : cmp_isNaN_int N a0 = some r) : Con Try.prog 85 [] true [.val (.int .i64 a0)] (.val (.bool r)) := by
  refine fun_ok4 (G := (glist [])) Try.func85 rfl (by decide) (by kernel_rfl) gn [] mix (Nat.le_of_ble_eq_true rfl) ?_
  simp only [Try.f85]
  unfold cmp_isNaN_int at h
  refine Wk_seq (Wk_regionZ fun Z hZ => ?_)
  simp only [go_sem, seval]
  refine hZ _ (pp (Wk_seq (Wk_regionZ fun Z hZ => ?_)))
  simp only [go_sem, seval]
  refine hZ _ (pp (Wk_ret (pp ?_)))
  cases h
  simp only [go_sem, seval]
  exact ⟨_, rfl, RokI.h, PureI.h⟩
def fs_cmp_isNaN_int (N : Nat) : FnS := ⟨[], true, fn1 (decI .i64) fun q0 => (cmp_isNaN_int N q0).map fun r => .val (.bool r), false⟩
attribute [go_sem] fs_cmp_isNaN_int
theorem fs_cmp_isNaN_int_ok (N : Nat) : FSOk Try.prog 85 (fs_cmp_isNaN_int N) := ok1 (fun q0 r h => by
  obtain ⟨r', hr, rfl⟩ := Option.map_eq_some_iff.1 h
  exact w_cmp_isNaN_int N q0 r' hr) (decI_le)


noncomputable def G_cmp_Less_int (N d f : Nat) : Option FnS := glist [(6, 85, fs_cmp_isNaN_int N), (9, 85, fs_cmp_isNaN_int N)] d f
attribute [go_sem] G_cmp_Less_int
theorem w_cmp_Less_int (N : Nat) (a0 : Int) (a1 : Int) (r : Bool) (h : cmp_Less_int N a0 a1 = some r) : Con Try.prog 72 [] true [.val (.int .i64 a0), .val (.int .i64 a1)] (.val (.bool r)) := by
  refine fun_ok4 (G := (G_cmp_Less_int N)) Try.func72 rfl (by decide) (by kernel_rfl) (gc 6 (fs_cmp_isNaN_int_ok N) (gc 9 (fs_cmp_isNaN_int_ok N) gn)) [] mix (Nat.le_of_ble_eq_true rfl) ?_
  simp only [Try.f72]
  unfold cmp_Less_int at h
  refine Wk_seq (Wk_regionZ fun Z hZ => ?_)
  simp only [go_sem, seval]
  refine hZ _ (pp (Wk_seq ?_))
  obtain ⟨r1, hr1, h⟩ := Option.bind_eq_some_iff.1 h
  refine Wk_regionZ fun Z hZ => ?_
  simp only [go_sem, seval, hr1]
  refine sw (RX_guard_bool rfl) (fun hc2 => ?_) (fun hc2 => ?_)
  · rw [if_neg (ne_true_of_eq_false hc2)] at h
    simp only [go_sem, seval, hc2]
    refine hZ _ (pp (Wk_ret (pp ?_)))
    cases h
    simp only [go_sem, seval]
    exact ⟨_, rfl, RokI.h, PureI.h⟩
  rw [if_pos hc2] at h
  obtain ⟨r2, hr3, h⟩ := Option.bind_eq_some_iff.1 h
  simp only [go_sem, seval, hc2, hr3]
  refine RX_guard_nbool rfl (fun hc4 => ?_) (fun hc4 => ?_)
  · rw [if_neg (ne_true_of_eq_false hc4)] at h
    simp only [go_sem, seval, hc4]
    refine hZ _ (pp (Wk_ret (pp ?_)))
    cases h
    simp only [go_sem, seval]
    exact ⟨_, rfl, RokI.h, PureI.h⟩
  rw [if_pos hc4] at h
  simp only [go_sem, seval, hc4]
  refine hZ _ (pp (Wk_ret (pp ?_)))
  cases h
  simp only [go_sem, seval]
  exact ⟨_, rfl, RokI.h, PureI.h⟩
def fs_cmp_Less_int (N : Nat) : FnS := ⟨[], true, fn2 (decI .i64) (decI .i64) fun q0 q1 => (cmp_Less_int N q0 q1).map fun r => .val (.bool r), false⟩
attribute [go_sem] fs_cmp_Less_int
theorem fs_cmp_Less_int_ok (N : Nat) : FSOk Try.prog 72 (fs_cmp_Less_int N) := ok2 (fun q0 q1 r h => by
  obtain ⟨r', hr, rfl⟩ := Option.map_eq_some_iff.1 h
  exact w_cmp_Less_int N q0 q1 r' hr) (decI_le) (decI_le)


noncomputable def G_slices_insertionSortOrdered_int (N d f : Nat) : Option FnS := glist [(29, 72, fs_cmp_Less_int N)] d f
attribute [go_sem] G_slices_insertionSortOrdered_int
theorem len_slices_insertionSortOrdered_int (N : Nat) (a0 : (List Int)) (a1 : Int) (a2 : Int) (r : (List Int)) (h : slices_insertionSortOrdered_int N a0 a1 a2 = some r) : (r).length = a0.length := by
  unfold slices_insertionSortOrdered_int at h; exact (lenM_some h).2
theorem w_slices_insertionSortOrdered_int (N : Nat) (a0 : (List Int)) (a1 : Int) (a2 : Int) (r : (List Int)) (h : slices_insertionSortOrdered_int N a0 a1 a2 = some r) : ConL Try.prog 66 1 [.sl true none 1 none (a0.map (rowI .i64)), .val (.int .i64 a1), .val (.int .i64 a2)] (.tup []) [.sl true none 1 none (r.map (rowI .i64))] := by
  unfold slices_insertionSortOrdered_int at h
  obtain ⟨h, hlen⟩ := lenM_some h
  refine fun_lent5 (G := (G_slices_insertionSortOrdered_int N)) (L := noL) Try.func66 rfl (by decide) (by kernel_rfl) 1 (by kernel_rfl) (gc 29 (fs_cmp_Less_int_ok N) gn) (fun _ _ _ h => by cases h) [] mix (Nat.le_of_ble_eq_true rfl) (Nat.le_of_ble_eq_true rfl) rfl (by simp [lentSh, hlen]) ?_
  simp only [Try.f66]
  refine Wk_seq (Wk_regionZ fun Z hZ => ?_)
  simp only [go_sem, seval]
  refine hZ _ (pp (Wk_block (Wk_fuel (fun (b : List Int × Int) => ⟨tab 49 (updT (updT (updT (updT deadT 0 (.pal 0 [] 0 b.1.length none)) 1 (.val (.int .i64 a1))) 2 (.val (.int .i64 a2))) 6 (.val (.int .i64 b.2))), (upd RZ 0 (.sl true none 1 none (b.1.map (rowI .i64))))⟩) (a0, IntKind.i64.wrap (a1 + 1)) h ?_ ?_)))
  · refine weak_roots ?_ ?_ <;> repeat' first | exact xn | exact rn | refine xc ?_ ?_ | refine rc ?_ ?_ ?_ | rfl | simp only [go_sem, seval, Bool.or_self, List.length_set, Int.natCast_zero, Int.cast_ofNat_Int]
  rintro n ⟨l1, v2⟩ h -
  cases n with
  | zero => simp [slices_insertionSortOrdered_int_L1] at h
  | succ n =>
  simp only [slices_insertionSortOrdered_int_L1] at h
  refine Wk_seq (Wk_seq (Wk_regionZ fun Z hZ => ?_))
  simp only [go_sem, seval]
  refine hZ _ (pp (sw (Wk_cond_dec rfl) (fun hc1 => ?_) (fun hc1 => ?_)))
  · have hc1d := decide_eq_false hc1
    rw [if_neg hc1] at h
    refine Wk_exit (pp ?_)
    obtain rfl := Option.some.inj h
    refine FinL_mk (.inr rfl) (Weak.refl _) (by simp only [go_sem, seval, hc1d]; rfl) (by simp only [go_sem, seval]; rfl) (by (try simp only [go_sem, seval, Bool.or_self, List.length_set, Int.natCast_zero, Int.cast_ofNat_Int, hc1d]); first | exact Le.refl _ | exact LeI.h) ?_
    exact el_cons (by simp only [go_sem, seval, hc1d] <;> rfl) (by simp only [go_sem, seval] <;> rfl) (el_nil)
  have hc1d := decide_eq_true hc1
  rw [if_pos hc1] at h
  refine Wk_skip (pp (Wk_seq (Wk_block (Wk_seq (Wk_regionZ fun Z hZ => ?_)))))
  simp only [go_sem, seval, hc1d]
  refine hZ _ (pp (Wk_block (Wk_fuel (fun (b : List Int × Int) => ⟨tab 49 (updT (updT (updT (updT (updT deadT 0 (.pal 0 [] 0 b.1.length none)) 1 (.val (.int .i64 a1))) 2 (.val (.int .i64 a2))) 6 (.val (.int .i64 v2))) 7 (.val (.int .i64 b.2))), (upd RZ 0 (.sl true none 1 none (b.1.map (rowI .i64))))⟩) (l1, v2) h ?_ ?_)))
  · refine weak_roots ?_ ?_ <;> repeat' first | exact xn | exact rn | refine xc ?_ ?_ | refine rc ?_ ?_ ?_ | rfl | simp only [go_sem, seval, Bool.or_self, List.length_set, Int.natCast_zero, Int.cast_ofNat_Int, hc1d]
  rintro n ⟨l6, v7⟩ h -
  cases n with
  | zero => simp [slices_insertionSortOrdered_int_L2] at h
  | succ n =>
  simp only [slices_insertionSortOrdered_int_L2] at h
  refine Wk_seq ?_
  apply Wk_join1 (fun (c9 : Bool) => ⟨tab 49 (updT (updT (updT (updT (updT (updT deadT 0 (.pal 0 [] 0 l6.length none)) 1 (.val (.int .i64 a1))) 2 (.val (.int .i64 a2))) 6 (.val (.int .i64 v2))) 7 (.val (.int .i64 v7))) 30 (.val (.bool c9))), (upd RZ 0 (.sl true none 1 none (l6.map (rowI .i64))))⟩)
  · intro hJ2
    refine Wk_regionD fun Z hZ => ?_
    simp only [go_sem, seval]
    refine sw (RX_guard_dec rfl) (fun hc3 => ?_) (fun hc3 => ?_)
    · have hc3d := decide_eq_false hc3
      rw [if_neg hc3] at h
      simp only [go_sem, seval, hc3d]
      refine hZ _ (by kernel_rfl) (pp (hJ2 _ false ?_ h))
      refine weak_roots ?_ ?_ <;> repeat' first | exact xn | exact rn | refine xc ?_ ?_ | refine rc ?_ ?_ ?_ | rfl | simp only [go_sem, seval, Bool.or_self, List.length_set, Int.natCast_zero, Int.cast_ofNat_Int, hc1d, hc3d]
    have hc3d := decide_eq_true hc3
    rw [if_pos hc3] at h
    obtain ⟨x10, hb4, hx5, h⟩ := gx_some h
    obtain ⟨x11, hb6, hx7, h⟩ := gx_some h
    obtain ⟨r12, hr8, h⟩ := Option.bind_eq_some_iff.1 h
    simp only [go_sem, seval, hc3d, hb4, hx5, hb6, hx7, hr8]
    repeat with_reducible refine and_bar (by kernel_rfl) ?_
    refine hZ _ (by kernel_rfl) (pp (hJ2 _ r12 ?_ h))
    refine weak_roots ?_ ?_ <;> repeat' first | exact xn | exact rn | refine xc ?_ ?_ | refine rc ?_ ?_ ?_ | rfl | simp only [go_sem, seval, Bool.or_self, List.length_set, Int.natCast_zero, Int.cast_ofNat_Int, hc1d, hc3d, hb4, hx5, hb6, hx7, hr8]
  intro c9 h
  unfold slices_insertionSortOrdered_int_J1 at h
  refine sw (Wk_cond_bool rfl) (fun hc9 => ?_) (fun hc9 => ?_)
  · rw [if_neg (ne_true_of_eq_false hc9)] at h
    refine Wk_exit (pp (Wk_regionZ fun Z hZ => ?_))
    simp only [go_sem, seval, hc9]
    refine hZ _ (pp (⟨_, Nat.lt_succ_self _, (l6, IntKind.i64.wrap (v2 + 1)), ?_, h⟩))
    refine weak_roots ?_ ?_ <;> repeat' first | exact xn | exact rn | refine xc ?_ ?_ | refine rc ?_ ?_ ?_ | rfl | simp only [go_sem, seval, Bool.or_self, List.length_set, Int.natCast_zero, Int.cast_ofNat_Int, hc1d, hc9]
  rw [if_pos hc9] at h
  refine Wk_skip (pp ?_)
  unfold slices_insertionSortOrdered_int_J2 at h
  refine Wk_seq (Wk_block ?_)
  obtain ⟨x13, hb10, hx11, h⟩ := gx_some h
  obtain ⟨x14, hb12, hx13, h⟩ := gx_some h
  have hx15 := set_get (y := x13) hx13
  obtain ⟨x15, hb16, hx17, h⟩ := gx_some h
  have hx19 := set_get (y := x14) hx17
  refine Wk_regionH fun Y hY => ?_
  refine RX2_s rfl rfl fun Z hZ => ?_
  simp only [go_sem, seval, hc9]
  repeat with_reducible refine and_bar (by kernel_rfl) ?_
  refine hZ _ ?_
  refine RX2_s rfl rfl fun Z hZ => ?_
  simp only [go_sem, seval]
  refine hZ _ ?_
  refine RX2_s rfl rfl fun Z hZ => ?_
  simp only [go_sem, seval]
  refine hZ _ ?_
  refine RX2_s rfl rfl fun Z hZ => ?_
  simp only [go_sem, seval]
  refine hZ _ ?_
  refine RX2_s rfl rfl fun Z hZ => ?_
  simp only [go_sem, seval]
  refine hZ _ ?_
  refine RX2_s rfl rfl fun Z hZ => ?_
  simp only [go_sem, seval]
  refine hZ _ ?_
  refine RX2_s rfl rfl fun Z hZ => ?_
  simp only [go_sem, seval]
  refine hZ _ ?_
  refine RX2_s rfl rfl fun Z hZ => ?_
  simp only [go_sem, seval]
  refine hZ _ ?_
  refine RX2_s rfl rfl fun Z hZ => ?_
  simp only [go_sem, seval, hb10]
  refine hZ _ ?_
  refine RX2_s rfl rfl fun Z hZ => ?_
  simp only [go_sem, seval, hx11]
  refine hZ _ ?_
  refine RX2_s rfl rfl fun Z hZ => ?_
  simp only [go_sem, seval]
  refine hZ _ ?_
  refine RX2_s rfl rfl fun Z hZ => ?_
  simp only [go_sem, seval]
  refine hZ _ ?_
  refine RX2_s rfl rfl fun Z hZ => ?_
  simp only [go_sem, seval, hb12]
  refine hZ _ ?_
  refine RX2_s rfl rfl fun Z hZ => ?_
  simp only [go_sem, seval, hx13]
  refine hZ _ ?_
  refine RX2_s rfl rfl fun Z hZ => ?_
  simp only [go_sem, seval, hb12]
  refine hZ _ ?_
  refine RX2_w fun Z hZ => ?_
  simp only [go_sem, seval, hx13, map_modify2 (row := (rowI .i64)) (y := x13) (rx := [.val (.int .i64 x14)]) (ry := [.val (.int .i64 x13)]) hx13 rfl rfl]
  refine hZ _ ?_
  refine RX2_s rfl rfl fun Z hZ => ?_
  simp only [go_sem, seval, hb10]
  refine hZ _ ?_
  refine RX2_w fun Z hZ => ?_
  simp only [go_sem, seval, hx17, map_modify2 (row := (rowI .i64)) (y := x14) (rx := [.val (.int .i64 x15)]) (ry := [.val (.int .i64 x14)]) hx17 rfl rfl]
  refine hZ _ ?_
  refine RX2_end (by kernel_rfl) (hY _ (pp (Wk_regionZ fun Z hZ => ?_)))
  simp only [go_sem, seval]
  refine hZ _ (pp (⟨_, Nat.lt_succ_self _, (((l6.set ((v7).toNat) x13).set ((IntKind.i64.wrap (v7 - 1)).toNat) x14), IntKind.i64.wrap (v7 - 1)), ?_, h⟩))
  refine weak_roots ?_ ?_ <;> repeat' first | exact xn | exact rn | refine xc ?_ ?_ | refine rc ?_ ?_ ?_ | rfl | simp only [go_sem, seval, List.length_set]
def fl_slices_insertionSortOrdered_int (N : Nat) : FnL := ⟨1, fun cs rest => match cs, rest with
  | [v0], [c1, c2] => (lst1 1 (dec1 (decI .i64)) v0).bind fun q0 => ((decI .i64) c1).bind fun q1 => ((decI .i64) c2).bind fun q2 => (slices_insertionSortOrdered_int N q0 q1 q2).map fun r => (.tup [], [.sl true none 1 none (r.map (rowI .i64))])
  | _, _ => none⟩
attribute [go_sem] fl_slices_insertionSortOrdered_int
theorem fl_slices_insertionSortOrdered_int_ok (N : Nat) : FLOk Try.prog 66 (fl_slices_insertionSortOrdered_int N) := by
  intro cs rest r ls hlen h
  simp only [fl_slices_insertionSortOrdered_int] at h
  split at h
  · simp only [Option.bind_eq_some_iff, Option.map_eq_some_iff] at h
    obtain ⟨q0, h0, q1, h1, q2, h2, r', hr, he⟩ := h
    cases he
    exact ConL.told rfl rfl (lv_cons (lst1_ok (rowI_ok .i64) (decI1_le .i64) h0) (lv_nil)) ((LeL.cons (decI_le h1) (LeL.cons (decI_le h2) (LeL.nil)))) (w_slices_insertionSortOrdered_int N q0 q1 q2 r' hr)
  · cases h


noncomputable def L_slices_pdqsortOrdered_int (N d f : Nat) : Option FnL := llist [(27, 66, fl_slices_insertionSortOrdered_int N)] d f
attribute [go_sem] L_slices_pdqsortOrdered_int
theorem len_slices_pdqsortOrdered_int (N : Nat) (a0 : (List Int)) (a1 : Int) (a2 : Int) (a3 : Int) (r : (List Int)) (h : slices_pdqsortOrdered_int N a0 a1 a2 a3 = some r) : (r).length = a0.length := by
  unfold slices_pdqsortOrdered_int at h; exact (lenM_some h).2
theorem w_slices_pdqsortOrdered_int (N : Nat) (a0 : (List Int)) (a1 : Int) (a2 : Int) (a3 : Int) (r : (List Int)) (h : slices_pdqsortOrdered_int N a0 a1 a2 a3 = some r) : ConL Try.prog 52 1 [.sl true none 1 none (a0.map (rowI .i64)), .val (.int .i64 a1), .val (.int .i64 a2), .val (.int .i64 a3)] (.tup []) [.sl true none 1 none (r.map (rowI .i64))] := by
  unfold slices_pdqsortOrdered_int at h
  obtain ⟨h, hlen⟩ := lenM_some h
  refine fun_lent5 (G := (glist [])) (L := (L_slices_pdqsortOrdered_int N)) Try.func52 rfl (by decide) (by kernel_rfl) 1 (by kernel_rfl) gn (lc 27 (fl_slices_insertionSortOrdered_int_ok N) ln) [] mix (Nat.le_of_ble_eq_true rfl) (Nat.le_of_ble_eq_true rfl) rfl (by simp [lentSh, hlen]) ?_
  simp only [Try.f52]
  refine Wk_seq (Wk_regionZ fun Z hZ => ?_)
  simp only [go_sem, seval]
  refine hZ _ (pp (Wk_seq (Wk_regionZ fun Z hZ => ?_)))
  simp only [go_sem, seval]
  refine hZ _ (pp (Wk_block (Wk_fuel (fun (b : Unit) => ⟨tab 134 (updT (updT (updT (updT (updT (updT deadT 0 (.pal 0 [] 0 a0.length none)) 1 (.val (.int .i64 a1))) 2 (.val (.int .i64 a2))) 3 (.val (.int .i64 a3))) 8 (.val (.bool true))) 9 (.val (.bool true))), (upd RZ 0 (.sl true none 1 none (a0.map (rowI .i64))))⟩) () h ?_ ?_)))
  · refine weak_roots ?_ ?_ <;> repeat' first | exact xn | exact rn | refine xc ?_ ?_ | refine rc ?_ ?_ ?_ | rfl
  rintro n ⟨⟩ h -
  cases n with
  | zero => simp [slices_pdqsortOrdered_int_L1] at h
  | succ n =>
  simp only [slices_pdqsortOrdered_int_L1] at h
  refine Wk_block (Wk_seq (Wk_regionZ fun Z hZ => ?_))
  simp only [go_sem, seval]
  refine hZ _ (pp (Wk_seq (Wk_seq (Wk_regionZ fun Z hZ => ?_))))
  simp only [go_sem, seval]
  refine hZ _ (pp (sw (Wk_cond_dec rfl) (fun hc1 => ?_) (fun hc1 => ?_)))
  · have hc1d := decide_eq_false hc1
    rw [if_neg hc1] at h
    refine Wk_skip (pp (Wk_seq (Wk_seq (Wk_regionZ fun Z hZ => ?_))))
    simp only [go_sem, seval, hc1d]
    refine hZ _ (pp (Wk_cond_dec rfl (fun hc3 => ?_) (fun hc3 => ?_)))
    · have hc3d := decide_eq_true hc3
      rw [if_pos hc3] at h
      refine Wk_seq ?_
      cases h
    have hc3d := decide_eq_false hc3
    rw [if_neg hc3] at h
    refine Wk_skip (pp (Wk_seq (Wk_seq (Wk_regionZ fun Z hZ => ?_))))
    simp only [go_sem, seval, hc3d]
    refine hZ _ (pp (Wk_cond_f rfl ?_))
    first | rw [if_pos (rfl : true = true)] at h | rw [if_neg Bool.false_ne_true] at h | skip
    refine Wk_skip (pp (Wk_seq ?_))
    cases h
  have hc1d := decide_eq_true hc1
  rw [if_pos hc1] at h
  refine Wk_seq ?_
  obtain ⟨r1, hr2, h⟩ := Option.bind_eq_some_iff.1 h
  refine Wk_regionZ fun Z hZ => ?_
  simp only [go_sem, seval, hc1d, hr2, len_slices_insertionSortOrdered_int N a0 a1 a2 r1 hr2]
  refine hZ _ (pp (Wk_ret (pp ?_)))
  obtain rfl := Option.some.inj h
  refine FinL_mk (.inl rfl) (Weak.refl _) (by simp only [go_sem, seval]; rfl) (by simp only [go_sem, seval]; rfl) (by (try simp only [go_sem, seval, Bool.or_self, List.length_set, Int.natCast_zero, Int.cast_ofNat_Int, hc1d, hr2, len_slices_insertionSortOrdered_int N a0 a1 a2 r1 hr2, List.take_of_length_le (Nat.le_of_eq (len_slices_insertionSortOrdered_int N a0 a1 a2 r1 hr2))]); first | exact Le.refl _ | exact LeI.h) ?_
  exact el_cons (by simp only [go_sem, seval, len_slices_insertionSortOrdered_int N a0 a1 a2 r1 hr2] <;> rfl) (by simp only [go_sem, seval] <;> rfl) (el_nil)
def fl_slices_pdqsortOrdered_int (N : Nat) : FnL := ⟨1, fun cs rest => match cs, rest with
  | [v0], [c1, c2, c3] => (lst1 1 (dec1 (decI .i64)) v0).bind fun q0 => ((decI .i64) c1).bind fun q1 => ((decI .i64) c2).bind fun q2 => ((decI .i64) c3).bind fun q3 => (slices_pdqsortOrdered_int N q0 q1 q2 q3).map fun r => (.tup [], [.sl true none 1 none (r.map (rowI .i64))])
  | _, _ => none⟩
attribute [go_sem] fl_slices_pdqsortOrdered_int
theorem fl_slices_pdqsortOrdered_int_ok (N : Nat) : FLOk Try.prog 52 (fl_slices_pdqsortOrdered_int N) := by
  intro cs rest r ls hlen h
  simp only [fl_slices_pdqsortOrdered_int] at h
  split at h
  · simp only [Option.bind_eq_some_iff, Option.map_eq_some_iff] at h
    obtain ⟨q0, h0, q1, h1, q2, h2, q3, h3, r', hr, he⟩ := h
    cases he
    exact ConL.told rfl rfl (lv_cons (lst1_ok (rowI_ok .i64) (decI1_le .i64) h0) (lv_nil)) ((LeL.cons (decI_le h1) (LeL.cons (decI_le h2) (LeL.cons (decI_le h3) (LeL.nil))))) (w_slices_pdqsortOrdered_int N q0 q1 q2 q3 r' hr)
  · cases h


noncomputable def G_slices_Sort_int (N d f : Nat) : Option FnS := glist [(9, 50, fs_math_bits_Len N)] d f
attribute [go_sem] G_slices_Sort_int
noncomputable def L_slices_Sort_int (N d f : Nat) : Option FnL := llist [(10, 52, fl_slices_pdqsortOrdered_int N)] d f
attribute [go_sem] L_slices_Sort_int
theorem len_slices_Sort_int (N : Nat) (a0 : (List Int)) (r : (List Int)) (h : slices_Sort_int N a0 = some r) : (r).length = a0.length := by
  unfold slices_Sort_int at h; exact (lenM_some h).2
theorem w_slices_Sort_int (N : Nat) (a0 : (List Int)) (r : (List Int)) (h : slices_Sort_int N a0 = some r) : ConL Try.prog 42 1 [.sl true none 1 none (a0.map (rowI .i64))] (.tup []) [.sl true none 1 none (r.map (rowI .i64))] := by
  unfold slices_Sort_int at h
  obtain ⟨h, hlen⟩ := lenM_some h
  refine fun_lent5 (G := (G_slices_Sort_int N)) (L := (L_slices_Sort_int N)) Try.func42 rfl (by decide) (by kernel_rfl) 1 (by kernel_rfl) (gc 9 (fs_math_bits_Len_ok N) gn) (lc 10 (fl_slices_pdqsortOrdered_int_ok N) ln) [] mix (Nat.le_of_ble_eq_true rfl) (Nat.le_of_ble_eq_true rfl) rfl (by simp [lentSh, hlen]) ?_
  simp only [Try.f42]
  refine Wk_seq (Wk_regionZ fun Z hZ => ?_)
  simp only [go_sem, seval]
  refine hZ _ (pp ?_)
  obtain ⟨r1, hr1, h⟩ := Option.bind_eq_some_iff.1 h
  obtain ⟨r2, hr2, h⟩ := Option.bind_eq_some_iff.1 h
  refine Wk_regionZ fun Z hZ => ?_
  simp only [go_sem, seval, hr1, hr2, len_slices_pdqsortOrdered_int N a0 0 ((a0.length : Nat) : Int) r1 r2 hr2]
  refine hZ _ (pp ?_)
  obtain rfl := Option.some.inj h
  refine FinL_mk (.inr rfl) (Weak.refl _) (by simp only [go_sem, seval]; rfl) (by simp only [go_sem, seval]; rfl) (by (try simp only [go_sem, seval, Bool.or_self, List.length_set, Int.natCast_zero, Int.cast_ofNat_Int, hr1, hr2, len_slices_pdqsortOrdered_int N a0 0 ((a0.length : Nat) : Int) r1 r2 hr2, List.take_of_length_le (Nat.le_of_eq (len_slices_pdqsortOrdered_int N a0 0 ((a0.length : Nat) : Int) r1 r2 hr2))]); first | exact Le.refl _ | exact LeI.h) ?_
  exact el_cons (by simp only [go_sem, seval, len_slices_pdqsortOrdered_int N a0 0 ((a0.length : Nat) : Int) r1 r2 hr2] <;> rfl) (by simp only [go_sem, seval] <;> rfl) (el_nil)
def fl_slices_Sort_int (N : Nat) : FnL := ⟨1, fun cs rest => match cs, rest with
  | [v0], [] => (lst1 1 (dec1 (decI .i64)) v0).bind fun q0 =>  (slices_Sort_int N q0).map fun r => (.tup [], [.sl true none 1 none (r.map (rowI .i64))])
  | _, _ => none⟩
attribute [go_sem] fl_slices_Sort_int
theorem fl_slices_Sort_int_ok (N : Nat) : FLOk Try.prog 42 (fl_slices_Sort_int N) := by
  intro cs rest r ls hlen h
  simp only [fl_slices_Sort_int] at h
  split at h
  · simp only [Option.bind_eq_some_iff, Option.map_eq_some_iff] at h
    obtain ⟨q0, h0, r', hr, he⟩ := h
    cases he
    exact ConL.told rfl rfl (lv_cons (lst1_ok (rowI_ok .i64) (decI1_le .i64) h0) (lv_nil)) ((LeL.nil)) (w_slices_Sort_int N q0 r' hr)
  · cases h


noncomputable def G_overlay_Neighbours (N d f : Nat) : Option FnS := glist [(8, 13, fso_overlay_Observers N), (11, 11, fs_overlay_Subjects N), (16, 43, fso_slices_Compact_int N), (19, 44, fso_slices_DeleteFunc_int_overlay_Neighbours_1 N)] d f
attribute [go_sem] G_overlay_Neighbours
noncomputable def L_overlay_Neighbours (N d f : Nat) : Option FnL := llist [(14, 42, fl_slices_Sort_int N)] d f
attribute [go_sem] L_overlay_Neighbours
theorem w_overlay_Neighbours (N : Nat) (a0 : (List Int)) (a1 : Int) (r : (List Int)) (h : overlay_Neighbours N a0 a1 = some r) : Con Try.prog 23 [] true [.sl false none 1 none (a0.map (rowI .i64)), .val (.int .i64 a1)] (.sl true none 1 none (r.map (rowI .i64))) := by
  refine fun_ok5 (G := (G_overlay_Neighbours N)) (L := (L_overlay_Neighbours N)) Try.func23 rfl (by decide) (by kernel_rfl) (gc 8 (fso_overlay_Observers_ok N) (gc 11 (fs_overlay_Subjects_ok N) (gc 16 (fso_slices_Compact_int_ok N) (gc 19 (fso_slices_DeleteFunc_int_overlay_Neighbours_1_ok N) gn)))) (lc 14 (fl_slices_Sort_int_ok N) ln) [] mix (Nat.le_of_ble_eq_true rfl) ?_
  simp only [Try.f23]
  unfold overlay_Neighbours at h
  refine Wk_seq (Wk_regionZ fun Z hZ => ?_)
  simp only [go_sem, seval]
  refine hZ _ (pp (Wk_seq ?_))
  obtain ⟨r1, hr1, h⟩ := Option.bind_eq_some_iff.1 h
  obtain ⟨r2, hr2, h⟩ := Option.bind_eq_some_iff.1 h
  obtain ⟨ha3, h⟩ := apx_some h
  simp only [Nat.reduceAdd] at ha3
  refine Wk_regionD fun Z hZ => ?_
  simp only [go_sem, seval, hr1, hr2, ha3]
  repeat with_reducible refine and_bar (by kernel_rfl) ?_
  refine hZ _ (by kernel_rfl) (pp (Wk_seq ?_))
  obtain ⟨r3, hr4, h⟩ := Option.bind_eq_some_iff.1 h
  refine Wk_regionZ fun Z hZ => ?_
  simp only [go_sem, seval, hr4, len_slices_Sort_int N (r1 ++ r2) r3 hr4, List.all_append]
  refine hZ _ (pp (Wk_seq ?_))
  obtain ⟨r4, hr5, h⟩ := Option.bind_eq_some_iff.1 h
  refine Wk_regionZ fun Z hZ => ?_
  simp only [go_sem, seval, List.take_of_length_le (Nat.le_of_eq (len_app (len_slices_Sort_int N (r1 ++ r2) r3 hr4))), hr5]
  refine hZ _ (pp (Wk_seq ?_))
  obtain ⟨r5, hr6, h⟩ := Option.bind_eq_some_iff.1 h
  refine Wk_regionZ fun Z hZ => ?_
  simp only [go_sem, seval, hr6]
  refine hZ _ (pp (Wk_ret (pp ?_)))
  obtain rfl := Option.some.inj h
  simp only [go_sem, seval]
  exact ⟨_, rfl, RokI.h, PureI.h⟩
noncomputable def fs_overlay_Neighbours (N : Nat) : FnS := ⟨[], true, fn2 (decL 1 (dec1 (decI .i64))) (decI .i64) fun q0 q1 => (overlay_Neighbours N q0 q1).map fun r => .sl false none 1 none (r.map (rowI .i64)), false⟩
attribute [go_sem] fs_overlay_Neighbours
theorem fs_overlay_Neighbours_ok (N : Nat) : FSOk Try.prog 23 (fs_overlay_Neighbours N) := ok2 (fun q0 q1 r h => by
  obtain ⟨r', hr, rfl⟩ := Option.map_eq_some_iff.1 h
  exact (w_overlay_Neighbours N q0 q1 r' hr).res (by (try simp only [go_sem]); exact RokI.h)) (fun h => decL_le (decI1_le .i64) h) (decI_le)

noncomputable def fso_overlay_Neighbours (N : Nat) : FnS := ⟨[], true, fn2 (decL 1 (dec1 (decI .i64))) (decI .i64) fun q0 q1 => (overlay_Neighbours N q0 q1).map fun r => .sl true none 1 none (r.map (rowI .i64)), false⟩
attribute [go_sem] fso_overlay_Neighbours
theorem fso_overlay_Neighbours_ok (N : Nat) : FSOk Try.prog 23 (fso_overlay_Neighbours N) := ok2 (fun q0 q1 r h => by
  obtain ⟨r', hr, rfl⟩ := Option.map_eq_some_iff.1 h
  exact w_overlay_Neighbours N q0 q1 r' hr) (fun h => decL_le (decI1_le .i64) h) (decI_le)


theorem w_ref3_Insert (N : Nat) (a0 : (List Int)) (a1 : Int) (r : (List Int)) (h : ref3_Insert N a0 a1 = some r) : Con Try.prog 17 [] true [.sl false none 1 none (a0.map (rowI .i64)), .val (.int .i64 a1)] (.sl true none 1 none (r.map (rowI .i64))) := by
  refine fun_ok4 (G := (glist [])) Try.func17 rfl (by decide) (by kernel_rfl) gn [] mix (Nat.le_of_ble_eq_true rfl) ?_
  simp only [Try.f17]
  unfold ref3_Insert at h
  refine Wk_seq (Wk_regionZ fun Z hZ => ?_)
  simp only [go_sem, seval]
  refine hZ _ (pp (Wk_seq (Wk_regionZ fun Z hZ => ?_)))
  simp only [go_sem, seval]
  refine hZ _ (pp (Wk_seq (Wk_regionZ fun Z hZ => ?_)))
  simp only [go_sem, seval]
  refine hZ _ (pp (Wk_seq (Wk_seq (Wk_regionZ fun Z hZ => ?_))))
  simp only [go_sem, seval]
  refine hZ _ (pp (Wk_block (Wk_real fun hreal2 => ?_)))
  have hl1 := hreal2.lenT 0 (by decide) (by simp only [go_sem, seval]; rfl)
  first | rw [List.length_map] at hl1 | rw [← List.map_append, List.length_map] at hl1
  refine Wk_range (fun (v4 : Nat) (b : List Int × Bool) => ⟨tab 42 (updT (updT (updT (updT (updT deadT 0 (.sl false none 1 none (a0.map (rowI .i64)))) 1 (.val (.int .i64 a1))) 5 (.pal 34 [] 0 b.1.length none)) 6 (.val (.bool b.2))) 7 (.val (.int .i64 ((v4 : Nat) : Int)))), (upd RZ 34 (.sl true none 1 none (b.1.map (rowI .i64))))⟩) ([], false) h ?_ ?_
  · refine Weak.trans (weak_adopt 5 34 1 (by simp only [go_sem, seval]) (by simp only [go_sem, seval])) ?_
    refine weak_roots ?_ ?_ <;> repeat' first | exact xn | exact rn | refine xc ?_ ?_ | refine rc ?_ ?_ ?_ | rfl | simp only [go_sem, seval, Bool.or_self, List.length_set, Int.natCast_zero, Int.cast_ofNat_Int]
  rintro v4 ⟨l2, c3⟩ hi3 h -
  rcases (drop_cases a0 v4 hi3).symm with ⟨hi3', _, hd6⟩ | ⟨x7, hi3', hx4, hd6⟩
  · rw [hd6] at h
    simp only [ref3_Insert_L1] at h
    refine Wk_seq (Wk_seq (Wk_regionZ fun Z hZ => ?_))
    simp only [go_sem, seval, hi3']
    refine hZ _ (pp ?_)
    try simp only [Int.ofNat_lt, hi3', if_true, if_false] at h
    refine Wk_cond_f rfl (Wk_exit (pp ?_))
    unfold ref3_Insert_J3 at h
    refine Wk_seq (Wk_seq (Wk_regionZ fun Z hZ => ?_))
    simp only [go_sem, seval]
    refine hZ _ (pp (sw (Wk_cond_nbool rfl) (fun hc13 => ?_) (fun hc13 => ?_)))
    · rw [if_pos hc13] at h
      refine Wk_skip (pp (Wk_seq (Wk_regionZ fun Z hZ => ?_)))
      simp only [go_sem, seval, hc13]
      refine hZ _ (pp (Wk_ret (pp ?_)))
      cases h
      simp only [go_sem, seval]
      exact ⟨_, rfl, RokI.h, PureI.h⟩
    rw [if_neg (ne_true_of_eq_false hc13)] at h
    obtain ⟨ha14, h⟩ := apx_some h
    simp only [List.length_cons, List.length_nil, Nat.zero_add, Nat.reduceAdd] at ha14
    refine Wk_regionZ fun Z hZ => ?_
    simp only [go_sem, seval, hc13, ha14]
    refine hZ _ (pp (Wk_seq (Wk_regionZ fun Z hZ => ?_)))
    simp only [go_sem, seval]
    refine hZ _ (pp (Wk_ret (pp ?_)))
    cases h
    simp only [go_sem, seval]
    exact ⟨_, rfl, RokI.h, PureI.h⟩
  rw [hd6] at h
  simp only [ref3_Insert_L1] at h
  have hw5 := wrap_succ hi3' hl1
  refine Wk_seq (Wk_seq (Wk_regionZ fun Z hZ => ?_))
  simp only [go_sem, seval, hi3']
  refine hZ _ (pp ?_)
  try simp only [Int.ofNat_lt, hi3', if_true, if_false] at h
  refine Wk_cond_t rfl (Wk_skip (pp (Wk_seq (Wk_block ?_))))
  apply Wk_join2 (fun (l23 : List Int) (c24 : Bool) => ⟨tab 42 (updT (updT (updT (updT (updT deadT 0 (.sl false none 1 none (a0.map (rowI .i64)))) 1 (.val (.int .i64 a1))) 5 (.pal 27 [] 0 l23.length none)) 6 (.val (.bool c24))) 7 (.val (.int .i64 ((v4 : Nat) : Int)))), (upd RZ 27 (.sl true none 1 none (l23.map (rowI .i64))))⟩)
  · intro hJ7
    apply Wk_join2 (fun (c25 : Bool) (c26 : Bool) => ⟨tab 42 (updT (updT (updT (updT (updT (updT deadT 0 (.sl false none 1 none (a0.map (rowI .i64)))) 1 (.val (.int .i64 a1))) 5 (.pal 34 [] 0 l2.length none)) 6 (.val (.bool c25))) 7 (.val (.int .i64 ((v4 : Nat) : Int)))) 23 (.val (.bool c26))), (upd RZ 34 (.sl true none 1 none (l2.map (rowI .i64))))⟩)
    · intro hJ8
      refine Wk_regionZ fun Z hZ => ?_
      simp only [go_sem, seval]
      refine RX_guard_nbool rfl (fun hc9 => ?_) (fun hc9 => ?_)
      · rw [if_neg (ne_true_of_eq_false hc9)] at h
        try rw [gx_nat hx4] at h
        simp only [go_sem, seval, hx4, hi3', hc9]
        refine hZ _ (pp (hJ8 _ false (decide (a1 < x7)) ?_ h))
        refine weak_roots ?_ ?_ <;> repeat' first | exact xn | exact rn | refine xc ?_ ?_ | refine rc ?_ ?_ ?_ | rfl | simp only [go_sem, seval, Bool.or_self, List.length_set, Int.natCast_zero, Int.cast_ofNat_Int, hx4, hi3', hw5, hc9]
      rw [if_pos hc9] at h
      simp only [go_sem, seval, hc9]
      refine hZ _ (pp (hJ8 _ true false ?_ h))
      refine weak_roots ?_ ?_ <;> repeat' first | exact xn | exact rn | refine xc ?_ ?_ | refine rc ?_ ?_ ?_ | rfl | simp only [go_sem, seval, Bool.or_self, List.length_set, Int.natCast_zero, Int.cast_ofNat_Int, hx4, hi3', hw5, hc9]
    intro c25 c26 h
    unfold ref3_Insert_J1 at h
    refine Wk_cond_bool rfl (fun hc10 => ?_) (fun hc10 => ?_)
    · rw [if_pos hc10] at h
      refine Wk_seq ?_
      obtain ⟨ha11, h⟩ := apx_some h
      simp only [List.length_cons, List.length_nil, Nat.zero_add, Nat.reduceAdd] at ha11
      refine Wk_regionZ fun Z hZ => ?_
      simp only [go_sem, seval, hc10, ha11]
      refine hZ _ (pp (Wk_regionZ fun Z hZ => ?_))
      simp only [go_sem, seval]
      refine hZ _ (pp (hJ7 _ (l2 ++ [a1]) true ?_ h))
      refine weak_roots ?_ ?_ <;> repeat' first | exact xn | exact rn | refine xc ?_ ?_ | refine rc ?_ ?_ ?_ | rfl | simp only [go_sem, seval]
    rw [if_neg (ne_true_of_eq_false hc10)] at h
    refine Wk_skip (pp (hJ7 _ l2 c25 ?_ h))
    refine Weak.trans (weak_rename 5 34 27 (by decide) (by decide) (by simp only [go_sem, seval]) (by simp only [go_sem, seval]; rfl) (by simp only [go_sem, seval, hc10]; rfl) (by simp)) ?_
    refine weak_roots ?_ ?_ <;> repeat' first | exact xn | exact rn | refine xc ?_ ?_ | refine rc ?_ ?_ ?_ | rfl | simp only [go_sem, seval, Bool.or_self, List.length_set, Int.natCast_zero, Int.cast_ofNat_Int, hx4, hi3', hw5, hc10]
  intro l23 c24 h
  unfold ref3_Insert_J2 at h
  try rw [gx_nat hx4] at h
  obtain ⟨ha12, h⟩ := apx_some h
  simp only [List.length_cons, List.length_nil, Nat.zero_add, Nat.reduceAdd] at ha12
  refine Wk_regionZ fun Z hZ => ?_
  simp only [go_sem, seval, hx4, hi3', ha12]
  refine hZ _ (pp (Wk_regionZ fun Z hZ => ?_))
  simp only [go_sem, seval, hw5]
  refine hZ _ (pp ?_)
  first | refine ⟨((l23 ++ [x7]), c24), ?_, h⟩ | refine ⟨hi3', ((l23 ++ [x7]), c24), ?_, h⟩
  refine weak_roots ?_ ?_ <;> repeat' first | exact xn | exact rn | refine xc ?_ ?_ | refine rc ?_ ?_ ?_ | rfl | simp only [go_sem, seval]
def fs_ref3_Insert (N : Nat) : FnS := ⟨[], true, fn2 (decL 1 (dec1 (decI .i64))) (decI .i64) fun q0 q1 => (ref3_Insert N q0 q1).map fun r => .sl false none 1 none (r.map (rowI .i64)), false⟩
attribute [go_sem] fs_ref3_Insert
theorem fs_ref3_Insert_ok (N : Nat) : FSOk Try.prog 17 (fs_ref3_Insert N) := ok2 (fun q0 q1 r h => by
  obtain ⟨r', hr, rfl⟩ := Option.map_eq_some_iff.1 h
  exact (w_ref3_Insert N q0 q1 r' hr).res (by (try simp only [go_sem]); exact RokI.h)) (fun h => decL_le (decI1_le .i64) h) (decI_le)

def fso_ref3_Insert (N : Nat) : FnS := ⟨[], true, fn2 (decL 1 (dec1 (decI .i64))) (decI .i64) fun q0 q1 => (ref3_Insert N q0 q1).map fun r => .sl true none 1 none (r.map (rowI .i64)), false⟩
attribute [go_sem] fso_ref3_Insert
theorem fso_ref3_Insert_ok (N : Nat) : FSOk Try.prog 17 (fso_ref3_Insert N) := ok2 (fun q0 q1 r h => by
  obtain ⟨r', hr, rfl⟩ := Option.map_eq_some_iff.1 h
  exact w_ref3_Insert N q0 q1 r' hr) (fun h => decL_le (decI1_le .i64) h) (decI_le)


noncomputable def G_ref4_Neighbours (N d f : Nat) : Option FnS := glist [(11, 20, fs_ref4_Observers N), (15, 21, fs_ref4_Subjects N), (35, 40, fs_ref3_Contains N), (43, 17, fs_ref3_Insert N)] d f
attribute [go_sem] G_ref4_Neighbours
theorem w_ref4_Neighbours (N : Nat) (a0 : (List Int)) (a1 : Int) (r : (List Int)) (h : ref4_Neighbours N a0 a1 = some r) : Con Try.prog 24 [] false [.sl false none 1 none (a0.map (rowI .i64)), .val (.int .i64 a1)] (.sl false none 1 none (r.map (rowI .i64))) := by
  refine fun_ok4 (G := (G_ref4_Neighbours N)) Try.func24 rfl (by decide) (by kernel_rfl) (gc 11 (fs_ref4_Observers_ok N) (gc 15 (fs_ref4_Subjects_ok N) (gc 35 (fs_ref3_Contains_ok N) (gc 43 (fs_ref3_Insert_ok N) gn)))) [] mix (Nat.le_of_ble_eq_true rfl) ?_
  simp only [Try.f24]
  unfold ref4_Neighbours at h
  refine Wk_seq (Wk_regionZ fun Z hZ => ?_)
  simp (config := { maxSteps := 4000000 }) only [go_sem, seval]
  refine hZ _ (pp (Wk_seq ?_))
  obtain ⟨r1, hr1, h⟩ := Option.bind_eq_some_iff.1 h
  first | obtain ⟨ha2, h⟩ := apn_some h | (obtain ⟨ha2, h⟩ := apx_some h; rw [List.nil_append] at h)
  simp only [Nat.reduceAdd] at ha2
  obtain ⟨r2, hr3, h⟩ := Option.bind_eq_some_iff.1 h
  obtain ⟨ha4, h⟩ := apx_some h
  simp only [Nat.reduceAdd] at ha4
  refine Wk_regionZ fun Z hZ => ?_
  simp (config := { maxSteps := 4000000 }) only [go_sem, seval, hr1, ha2, hr3, ha4]
  refine hZ _ (pp (Wk_seq (Wk_regionZ fun Z hZ => ?_)))
  simp (config := { maxSteps := 4000000 }) only [go_sem, seval]
  refine hZ _ (pp (Wk_seq (Wk_seq (Wk_regionZ fun Z hZ => ?_))))
  simp (config := { maxSteps := 4000000 }) only [go_sem, seval]
  refine hZ _ (pp (Wk_block (Wk_real fun hreal6 => ?_)))
  have hl5 := hreal6.lenX 16 (by simp only [go_sem, seval]; rfl)
  first | rw [List.length_map] at hl5 | rw [← List.map_append, List.length_map] at hl5
  refine Wk_range (fun (v6 : Nat) (b : List Int) => ⟨tab 45 (updT (updT (updT (updT deadT 1 (.val (.int .i64 a1))) 5 (.pal 16 [] 0 ((r1 ++ r2).length) none)) 6 (.sl false none 1 none (b.map (rowI .i64)))) 7 (.val (.int .i64 ((v6 : Nat) : Int)))), (upd RZ 16 (.sl true none 1 none ((r1 ++ r2).map (rowI .i64))))⟩) [] h ?_ ?_
  · refine Weak.trans (weak_nilT 6 1 (by simp only [go_sem, seval])) ?_
    refine weak_roots ?_ ?_ <;> repeat' first | exact xn | exact rn | refine xc ?_ ?_ | refine rc ?_ ?_ ?_ | rfl | simp only [go_sem, seval]
  rintro v6 l5 hi7 h -
  rcases (drop_cases (r1 ++ r2) v6 hi7).symm with ⟨hi7', _, hd10⟩ | ⟨x9, hi7', hx8, hd10⟩
  · rw [hd10] at h
    simp only [ref4_Neighbours_L1] at h
    have hi7'' := hi7'; simp only [List.length_append] at hi7''
    refine Wk_seq (Wk_seq (Wk_regionZ fun Z hZ => ?_))
    simp (config := { maxSteps := 4000000 }) only [go_sem, seval, hi7'']
    refine hZ _ (pp ?_)
    try simp only [Int.ofNat_lt, hi7', if_true, if_false] at h
    refine Wk_cond_f rfl (Wk_exit (pp (Wk_seq (Wk_regionZ fun Z hZ => ?_))))
    simp (config := { maxSteps := 4000000 }) only [go_sem, seval]
    refine hZ _ (pp (Wk_ret (pp ?_)))
    cases h
    simp (config := { maxSteps := 4000000 }) only [go_sem, seval]
    exact ⟨_, rfl, (by repeat' (first | exact ROk.refl _ | exact ROk.nil _ | ((refine ROk.of _ ?_ ?_); (focus ((repeat' (first | exact Le.refl _ | exact LeL.nil | exact Le.nils | exact LeLL.refl _ | refine LeLL.mapAppend ?_ ?_ | refine LeLL.cons ?_ ?_ | refine Le.sl ?_ | refine Le.tup ?_ | refine Le.agg ?_ | refine LeL.cons ?_ ?_)); done)); (focus ((repeat' (first | exact NoOwn.val _ | exact NoOwn.sl _ _ _ _ | refine NoOwn.tup ?_ | refine NoOwn.agg ?_ | exact noOwn_nil | refine noOwn_cons ?_ ?_)); done))) | ((refine ROk.own ?_ ?_); (focus ((repeat' (first | exact Le.refl _ | exact LeL.nil | exact Le.nils | exact LeLL.refl _ | refine LeLL.mapAppend ?_ ?_ | refine LeLL.cons ?_ ?_ | refine Le.sl ?_ | refine Le.tup ?_ | refine Le.agg ?_ | refine LeL.cons ?_ ?_)); done)); (focus ((first | exact RowOk.noOwn (rowI_ok .i64) _); done))) | refine ROk.agg rfl ?_ | refine ROk.tup rfl ?_ | exact rok_nil | refine rok_cons ?_ ?_))⟩
  rw [hd10] at h
  simp only [ref4_Neighbours_L1] at h
  have hi7'' := hi7'; simp only [List.length_append] at hi7''
  have hw9 := wrap_succ hi7' hl5
  refine Wk_seq (Wk_seq (Wk_regionZ fun Z hZ => ?_))
  simp (config := { maxSteps := 4000000 }) only [go_sem, seval, hi7'']
  refine hZ _ (pp ?_)
  try simp only [Int.ofNat_lt, hi7', if_true, if_false] at h
  refine Wk_cond_t rfl (Wk_skip (pp (Wk_seq (Wk_block ?_))))
  apply Wk_join1 (fun (c4 : Bool) => ⟨tab 45 (updT (updT (updT (updT (updT deadT 1 (.val (.int .i64 a1))) 5 (.pal 16 [] 0 ((r1 ++ r2).length) none)) 6 (.sl false none 1 none (l5.map (rowI .i64)))) 7 (.val (.int .i64 ((v6 : Nat) : Int)))) 37 (.val (.bool c4))), (upd RZ 16 (.sl true none 1 none ((r1 ++ r2).map (rowI .i64))))⟩)
  · intro hJ11
    try rw [gx_nat hx8] at h
    refine Wk_regionZ fun Z hZ => ?_
    simp (config := { maxSteps := 4000000 }) only [go_sem, seval, app_get (row := (rowI .i64)) hx8, hi7'']
    refine RX_guard_ndec rfl (fun hc12 => ?_) (fun hc12 => ?_)
    · have hc12d := decide_eq_false hc12
      first | rw [if_neg hc12] at h | rw [if_neg (ne_true_of_eq_false hc12d)] at h | simp only [hc12d, Bool.not_true, Bool.not_false, Bool.false_eq_true, if_true, if_false] at h
      try rw [gx_nat hx8] at h
      obtain ⟨r5, hr13, h⟩ := Option.bind_eq_some_iff.1 h
      simp (config := { maxSteps := 4000000 }) only [go_sem, seval, app_get (row := (rowI .i64)) hx8, hi7'', hc12d, hr13]
      refine hZ _ (pp (hJ11 _ (!r5) ?_ h))
      refine weak_roots ?_ ?_ <;> repeat' first | exact xn | exact rn | refine xc ?_ ?_ | refine rc ?_ ?_ ?_ | rfl | simp only [go_sem, seval]
    have hc12d := decide_eq_true hc12
    first | rw [if_pos hc12] at h | rw [if_pos hc12d] at h | simp only [hc12d, Bool.not_true, Bool.not_false, Bool.false_eq_true, if_true, if_false] at h
    simp (config := { maxSteps := 4000000 }) only [go_sem, seval, hc12d]
    refine hZ _ (pp (hJ11 _ false ?_ h))
    refine weak_roots ?_ ?_ <;> repeat' first | exact xn | exact rn | refine xc ?_ ?_ | refine rc ?_ ?_ ?_ | rfl | simp only [go_sem, seval]
  intro c4 h
  unfold ref4_Neighbours_J1 at h
  refine sw (Wk_cond_bool rfl) (fun hc14 => ?_) (fun hc14 => ?_)
  · first | rw [if_neg (ne_true_of_eq_false hc14)] at h | simp only [hc14, Bool.or_false, Bool.or_true, Bool.false_or, Bool.true_or, Bool.and_true, Bool.true_and, Bool.and_false, Bool.false_and, Bool.not_true, Bool.not_false, Bool.false_eq_true, if_true, if_false] at h
    refine Wk_skip (pp (Wk_regionZ fun Z hZ => ?_))
    simp (config := { maxSteps := 4000000 }) only [go_sem, seval, hw9, hc14]
    refine hZ _ (pp ?_)
    first | refine ⟨l5, ?_, h⟩ | refine ⟨hi7', l5, ?_, h⟩
    refine weak_roots ?_ ?_ <;> repeat' first | exact xn | exact rn | refine xc ?_ ?_ | refine rc ?_ ?_ ?_ | rfl | simp only [go_sem, seval]
  first | rw [if_pos hc14] at h | simp only [hc14, Bool.or_false, Bool.or_true, Bool.false_or, Bool.true_or, Bool.and_true, Bool.true_and, Bool.and_false, Bool.false_and, Bool.not_true, Bool.not_false, Bool.false_eq_true, if_true, if_false] at h
  try rw [gx_nat hx8] at h
  obtain ⟨r6, hr15, h⟩ := Option.bind_eq_some_iff.1 h
  refine Wk_regionZ fun Z hZ => ?_
  simp (config := { maxSteps := 4000000 }) only [go_sem, seval, app_get (row := (rowI .i64)) hx8, hi7'', hc14, hr15]
  refine hZ _ (pp (Wk_regionZ fun Z hZ => ?_))
  simp (config := { maxSteps := 4000000 }) only [go_sem, seval, hw9]
  refine hZ _ (pp ?_)
  first | refine ⟨r6, ?_, h⟩ | refine ⟨hi7', r6, ?_, h⟩
  refine weak_roots ?_ ?_ <;> repeat' first | exact xn | exact rn | refine xc ?_ ?_ | refine rc ?_ ?_ ?_ | rfl | simp only [go_sem, seval]
def fs_ref4_Neighbours (N : Nat) : FnS := ⟨[], false, fn2 (decL 1 (dec1 (decI .i64))) (decI .i64) fun q0 q1 => (ref4_Neighbours N q0 q1).map fun r => .sl false none 1 none (r.map (rowI .i64)), false⟩
attribute [go_sem] fs_ref4_Neighbours
theorem fs_ref4_Neighbours_ok (N : Nat) : FSOk Try.prog 24 (fs_ref4_Neighbours N) := ok2 (fun q0 q1 r h => by
  obtain ⟨r', hr, rfl⟩ := Option.map_eq_some_iff.1 h
  exact w_ref4_Neighbours N q0 q1 r' hr) (fun h => decL_le (decI1_le .i64) h) (decI_le)


noncomputable def G_law4_OverlayTells (N d f : Nat) : Option FnS := glist [(9, 9, fs_law4_awake N), (16, 14, fs_overlay_Order N), (19, 19, fs_ref4_Order N), (20, 18, fs_law4_same N), (24, 13, fs_overlay_Observers N), (27, 20, fs_ref4_Observers N), (28, 18, fs_law4_same N), (33, 11, fs_overlay_Subjects N), (36, 21, fs_ref4_Subjects N), (37, 18, fs_law4_same N), (43, 15, fs_overlay_Shared N), (47, 22, fs_ref4_Shared N), (48, 18, fs_law4_same N), (53, 23, fs_overlay_Neighbours N), (56, 24, fs_ref4_Neighbours N), (57, 18, fs_law4_same N)] d f
attribute [go_sem] G_law4_OverlayTells
theorem w_law4_OverlayTells (N : Nat) (a0 : (List Int)) (a1 : Int) (a2 : Int) (a3 : Int) (r : Bool) (h : law4_OverlayTells N a0 a1 a2 a3 = some r) : Con Try.prog 7 [] true [.sl false none 1 none (a0.map (rowI .i64)), .val (.int .i64 a1), .val (.int .i64 a2), .val (.int .i64 a3)] (.val (.bool r)) := by
  refine fun_ok4 (G := (G_law4_OverlayTells N)) Try.func7 rfl (by decide) (by kernel_rfl) (gc 9 (fs_law4_awake_ok N) (gc 16 (fs_overlay_Order_ok N) (gc 19 (fs_ref4_Order_ok N) (gc 20 (fs_law4_same_ok N) (gc 24 (fs_overlay_Observers_ok N) (gc 27 (fs_ref4_Observers_ok N) (gc 28 (fs_law4_same_ok N) (gc 33 (fs_overlay_Subjects_ok N) (gc 36 (fs_ref4_Subjects_ok N) (gc 37 (fs_law4_same_ok N) (gc 43 (fs_overlay_Shared_ok N) (gc 47 (fs_ref4_Shared_ok N) (gc 48 (fs_law4_same_ok N) (gc 53 (fs_overlay_Neighbours_ok N) (gc 56 (fs_ref4_Neighbours_ok N) (gc 57 (fs_law4_same_ok N) gn)))))))))))))))) [] mix (Nat.le_of_ble_eq_true rfl) ?_
  simp only [Try.f7]
  unfold law4_OverlayTells at h
  refine Wk_seq (Wk_regionZ fun Z hZ => ?_)
  simp only [go_sem, seval]
  refine hZ _ (pp (Wk_seq (Wk_seq ?_)))
  obtain ⟨r1, hr1, h⟩ := Option.bind_eq_some_iff.1 h
  refine Wk_regionZ fun Z hZ => ?_
  simp only [go_sem, seval, hr1]
  refine hZ _ (pp (Wk_cond_nbool rfl (fun hc2 => ?_) (fun hc2 => ?_)))
  · rw [if_neg (ne_true_of_eq_false hc2)] at h
    refine Wk_seq (Wk_regionZ fun Z hZ => ?_)
    simp only [go_sem, seval, hc2]
    refine hZ _ (pp (Wk_ret (pp ?_)))
    cases h
    simp only [go_sem, seval]
    exact ⟨_, rfl, RokI.h, PureI.h⟩
  rw [if_pos hc2] at h
  refine Wk_skip (pp (Wk_seq (Wk_seq (Wk_regionZ fun Z hZ => ?_))))
  simp only [go_sem, seval, hc2]
  refine hZ _ (pp (Wk_cond_dec rfl (fun hc3 => ?_) (fun hc3 => ?_)))
  · have hc3d := decide_eq_true hc3
    rw [if_pos hc3] at h
    refine Wk_seq (Wk_regionZ fun Z hZ => ?_)
    simp only [go_sem, seval, hc3d]
    refine hZ _ (pp (Wk_ret (pp ?_)))
    cases h
    simp only [go_sem, seval]
    exact ⟨_, rfl, RokI.h, PureI.h⟩
  have hc3d := decide_eq_false hc3
  rw [if_neg hc3] at h
  refine Wk_skip (pp (Wk_seq ?_))
  obtain ⟨r2, hr4, h⟩ := Option.bind_eq_some_iff.1 h
  obtain ⟨r3, hr5, h⟩ := Option.bind_eq_some_iff.1 h
  obtain ⟨r4, hr6, h⟩ := Option.bind_eq_some_iff.1 h
  refine Wk_regionZ fun Z hZ => ?_
  simp only [go_sem, seval, hc3d, hr4, hr5, hr6]
  refine sw (RX_guard_bool rfl) (fun hc7 => ?_) (fun hc7 => ?_)
  · rw [if_neg (ne_true_of_eq_false hc7)] at h
    simp only [go_sem, seval, hc7]
    refine hZ _ (pp (Wk_ret (pp ?_)))
    cases h
    simp only [go_sem, seval]
    exact ⟨_, rfl, RokI.h, PureI.h⟩
  rw [if_pos hc7] at h
  obtain ⟨r5, hr8, h⟩ := Option.bind_eq_some_iff.1 h
  obtain ⟨r6, hr9, h⟩ := Option.bind_eq_some_iff.1 h
  obtain ⟨r7, hr10, h⟩ := Option.bind_eq_some_iff.1 h
  simp only [go_sem, seval, hc7, hr8, hr9, hr10]
  refine sw (RX_guard_bool rfl) (fun hc11 => ?_) (fun hc11 => ?_)
  · rw [if_neg (ne_true_of_eq_false hc11)] at h
    simp only [go_sem, seval, hc11]
    refine hZ _ (pp (Wk_ret (pp ?_)))
    cases h
    simp only [go_sem, seval]
    exact ⟨_, rfl, RokI.h, PureI.h⟩
  rw [if_pos hc11] at h
  obtain ⟨r8, hr12, h⟩ := Option.bind_eq_some_iff.1 h
  obtain ⟨r9, hr13, h⟩ := Option.bind_eq_some_iff.1 h
  obtain ⟨r10, hr14, h⟩ := Option.bind_eq_some_iff.1 h
  simp only [go_sem, seval, hc11, hr12, hr13, hr14]
  refine sw (RX_guard_bool rfl) (fun hc15 => ?_) (fun hc15 => ?_)
  · rw [if_neg (ne_true_of_eq_false hc15)] at h
    simp only [go_sem, seval, hc15]
    refine hZ _ (pp (Wk_ret (pp ?_)))
    cases h
    simp only [go_sem, seval]
    exact ⟨_, rfl, RokI.h, PureI.h⟩
  rw [if_pos hc15] at h
  obtain ⟨r11, hr16, h⟩ := Option.bind_eq_some_iff.1 h
  obtain ⟨r12, hr17, h⟩ := Option.bind_eq_some_iff.1 h
  obtain ⟨r13, hr18, h⟩ := Option.bind_eq_some_iff.1 h
  simp only [go_sem, seval, hc15, hr16, hr17, hr18]
  refine RX_guard_bool rfl (fun hc19 => ?_) (fun hc19 => ?_)
  · rw [if_pos hc19] at h
    obtain ⟨r14, hr20, h⟩ := Option.bind_eq_some_iff.1 h
    obtain ⟨r15, hr21, h⟩ := Option.bind_eq_some_iff.1 h
    obtain ⟨r16, hr22, h⟩ := Option.bind_eq_some_iff.1 h
    simp only [go_sem, seval, hc19, hr20, hr21, hr22]
    refine hZ _ (pp (Wk_ret (pp ?_)))
    cases h
    simp only [go_sem, seval]
    exact ⟨_, rfl, RokI.h, PureI.h⟩
  rw [if_neg (ne_true_of_eq_false hc19)] at h
  simp only [go_sem, seval, hc19]
  refine hZ _ (pp (Wk_ret (pp ?_)))
  cases h
  simp only [go_sem, seval]
  exact ⟨_, rfl, RokI.h, PureI.h⟩
noncomputable def fs_law4_OverlayTells (N : Nat) : FnS := ⟨[], true, fn4 (decL 1 (dec1 (decI .i64))) (decI .i64) (decI .i64) (decI .i64) fun q0 q1 q2 q3 => (law4_OverlayTells N q0 q1 q2 q3).map fun r => .val (.bool r), false⟩
attribute [go_sem] fs_law4_OverlayTells
theorem fs_law4_OverlayTells_ok (N : Nat) : FSOk Try.prog 7 (fs_law4_OverlayTells N) := ok4 (fun q0 q1 q2 q3 r h => by
  obtain ⟨r', hr, rfl⟩ := Option.map_eq_some_iff.1 h
  exact w_law4_OverlayTells N q0 q1 q2 q3 r' hr) (fun h => decL_le (decI1_le .i64) h) (decI_le) (decI_le) (decI_le)

end Go.Proofs.Ytjpeiibeemmdfaa
